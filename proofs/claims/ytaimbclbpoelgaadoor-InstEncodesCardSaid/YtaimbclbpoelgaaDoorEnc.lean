/- The contract of inst.Encode. -/
import Derived.Test.YtaimbclbpoelgaaDoorBits2
import Derived.Test.YtaimbclbpoelgaaDoorMine
import Derived.Deep.DeepCutAuto
import Derived.Deep.RegionHeld3
namespace Go.Proofs.YtaimbclbpoelgaaDoor
open Go.RowKit

theorem lowOf_le (f : Nat) : lowOf f ≤ 12 := by
  unfold lowOf
  split <;> omega
theorem parts_len (f : Nat) : (partsOf f).length ≤ 4 := by
  unfold partsOf
  split <;> simp
theorem below_drew (w : World) : Below w.heap.size w w.drew := below_draws w 1

/-- The word that an instruction's parts make, part by part. -/
def encA (k imm : Nat) : Nat := code k ||| (scatterN (imm / 2 ^ lowOf (formOf k)) (partsOf (formOf k))).1
def encB (k : Nat) (rd : Int) (imm : Nat) : Nat := if hasRd (formOf k) = true then setf (encA k imm) 7 5 (rd % 4294967296).toNat else encA k imm
def encC (k : Nat) (rd rs1 : Int) (imm : Nat) : Nat := if hasRs1 (formOf k) = true then setf (encB k rd imm) 15 5 (rs1 % 4294967296).toNat else encB k rd imm
theorem encW_parts (k : Nat) (rd rs1 rs2 : Int) (imm : Nat) : encW ⟨k, rd, rs1, rs2, imm⟩ = if hasRs2 (formOf k) = true then setf (encC k rd rs1 imm) 20 5 (rs2 % 4294967296).toNat else encC k rd rs1 imm := rfl
theorem encA_lt (k imm : Nat) (h : imm < 4294967296) : encA k imm < 4294967296 :=
  Nat.or_lt_two_pow (n := 32) (code_lt _) (scatter_lt _ _ (Nat.lt_of_le_of_lt (Nat.div_le_self _ _) h))
theorem encB_lt (k : Nat) (rd : Int) (imm : Nat) (h : imm < 4294967296) : encB k rd imm < 4294967296 := by
  unfold encB
  split
  · exact setf_lt _ _ _ _ (by omega) (encA_lt k imm h)
  · exact encA_lt k imm h
theorem encC_lt (k : Nat) (rd rs1 : Int) (imm : Nat) (h : imm < 4294967296) : encC k rd rs1 imm < 4294967296 := by
  unfold encC
  split
  · exact setf_lt _ _ _ _ (by omega) (encB_lt k rd imm h)
  · exact encB_lt k rd imm h
theorem reg_lt (r : Int) : (r % 4294967296).toNat < 4294967296 := by omega
theorem reg_cast (r : Int) : r % 4294967296 = ((r % 4294967296).toNat : Int) := by omega

set_option maxRecDepth 100000 in
set_option maxHeartbeats 8000000 in
theorem encode_some (k : Nat) (rd rs1 rs2 : Int) (imm : Nat) (w : World) (hC : Codes w) (h1 : 1 ≤ k) (h2 : k ≤ 48) (hi : imm < 4294967296) (r : SI) (hr : r = readN k (encW ⟨k, rd, rs1, rs2, imm⟩)) (X E : Nat)
    (hX : (r = ⟨k, rd, rs1, rs2, imm⟩ ∧ X = encW ⟨k, rd, rs1, rs2, imm⟩ ∧ E = 0) ∨ (r ≠ ⟨k, rd, rs1, rs2, imm⟩ ∧ X = 0 ∧ E = 1)) :
    Calls Tryd.prog 15 #[.agg #[.int .i64 k, .int .i64 rd, .int .i64 rs1, .int .i64 rs2, .int .u32 imm]] w fun e w' => e = .returned (.tuple #[.int .u32 X, .int .i64 E]) ∧ Below w.heap.size w w' := by
  have cform : ∀ w, Calls Tryd.prog 19 #[.int .i64 k] w fun e w' => e = .returned (.int .i64 (formOf k)) ∧ w = w' := fun w => form_any k w
  have hf1 := formOf_pos (k : Int) ⟨by omega, by omega⟩
  have hf2 := formOf_le (k : Int)
  have cread : ∀ w, Calls Tryd.prog 20 #[.int .i64 k, .int .u32 (encW ⟨k, rd, rs1, rs2, imm⟩)] w fun e w' => e = .returned (.agg #[.int .i64 r.op, .int .i64 r.rd, .int .i64 r.rs1, .int .i64 r.rs2, .int .u32 r.imm]) ∧ Below w.heap.size w w' := fun w => by
    have := read_any k (encW ⟨k, rd, rs1, rs2, imm⟩) w ⟨by omega, by omega⟩ (encW_lt _ hi)
    rw [← hr] at this
    exact this
  have hA : Hid (code k ||| (scatterN (imm / 2 ^ lowOf (formOf k)) (partsOf (formOf k))).1 = encA k imm) := (rfl : encA k imm = encA k imm)
  have lA := encA_lt k imm hi
  have lB := encB_lt k rd imm hi
  have lC := encC_lt k rd rs1 imm hi
  have lW : encW ⟨k, rd, rs1, rs2, imm⟩ < 4294967296 := encW_lt _ hi
  have HB : Hid (encB k rd imm = if hasRd (formOf k) = true then setf (encA k imm) 7 5 (rd % 4294967296).toNat else encA k imm) := (rfl : encB k rd imm = encB k rd imm)
  have HC' : Hid (encC k rd rs1 imm = if hasRs1 (formOf k) = true then setf (encB k rd imm) 15 5 (rs1 % 4294967296).toNat else encB k rd imm) := (rfl : encC k rd rs1 imm = encC k rd rs1 imm)
  have HW := Lib.hid (encW_parts k rd rs1 rs2 imm)
  have hlow := lowOf_le (formOf k)
  have hlen := parts_len (formOf k)
  have hshr : Hid ((imm : Int) / 2 ^ lowOf (formOf k) = ((imm / 2 ^ lowOf (formOf k) : Nat) : Int)) := by show _ = _; simp
  have hdl : imm / 2 ^ lowOf (formOf k) < 4294967296 := Nat.lt_of_le_of_lt (Nat.div_le_self _ _) hi
  have hsl : (scatterN (imm / 2 ^ lowOf (formOf k)) (partsOf (formOf k))).1 < 4294967296 := scatter_lt _ _ hdl
  have hor : Hid (bits .or .u32 (code k : Nat) ((scatterN (imm / 2 ^ lowOf (formOf k)) (partsOf (formOf k))).1 : Nat) = ((encA k imm : Nat) : Int)) := by
    show _ = _
    rw [u32_or_nat _ _ (code_lt _) hsl]
    rfl
  have cnum : ∀ w, Calls Tryd.prog 26 #[.int .i64 (formOf k)] w fun e w' => ∃ v, e = .returned (.tuple #[v, .int .i64 (lowOf (formOf k))]) ∧ Sl 0 61 2 w' v (partsOf (formOf k)).length ((partsOf (formOf k)).flatMap spanCells) ∧ Below w.heap.size w w' := fun w => number_any (formOf k) hf2 w
  have csc : ∀ (v : Value) (w : World), Sl 0 61 2 w v (partsOf (formOf k)).length ((partsOf (formOf k)).flatMap spanCells) → Calls Tryd.prog 27 #[.int .u32 (imm / 2 ^ lowOf (formOf k) : Nat), v] w fun e w' => e = .returned (.int .u32 (scatterN (imm / 2 ^ lowOf (formOf k)) (partsOf (formOf k))).1) ∧ Below w.heap.size w w' :=
    fun v w hv => scatter_any _ _ 0 _ v w hv rfl (partsOf_ok _) (by omega) hdl
  have chas : ∀ w, Calls Tryd.prog 25 #[.int .i64 (formOf k)] w fun e w' => e = .returned (.tuple #[.bool (hasRd (formOf k)), .bool (hasRs1 (formOf k)), .bool (hasRs2 (formOf k))]) ∧ w = w' := fun w => has_any _ hf2 w
  have hcode := code_lt k
  generalize (scatterN (imm / 2 ^ lowOf (formOf k)) (partsOf (formOf k))).1 = sc at *
  have hk0 : ((formOf (k : Int) : Int) == 0) = false := by simp; omega
  clear hr
  generalize encW ⟨k, rd, rs1, rs2, imm⟩ = W at *
  generalize encC k rd rs1 imm = C at *
  generalize encB k rd imm = B at *
  generalize encA k imm = A at *
  generalize (partsOf (formOf (k : Int))).length = n at *
  generalize hq : (partsOf (formOf (k : Int))).flatMap spanCells = ps at *
  clear hq
  generalize hasRd (formOf (k : Int)) = q1 at *
  generalize hasRs1 (formOf (k : Int)) = q2 at *
  generalize hasRs2 (formOf (k : Int)) = q3 at *
  generalize imm / 2 ^ lowOf (formOf (k : Int)) = V at *
  generalize lowOf (formOf (k : Int)) = low at *
  generalize formOf (k : Int) = f at *
  generalize hcd : code k = cd at *
  have HX := Lib.hid hX
  clear hX
  go_enter Tryd.func15, Tryd.ntmps15
  go_wp2_with fail
  refine (cform _).mono ?_; rintro e w1 ⟨rfl, rfl⟩
  go_wp2_with fail
  have M1 := Mine.new w #[.int .i64 k, .int .i64 rd, .int .i64 rs1, .int .i64 rs2, .int .u32 imm] 24
  have hb1 := below_all (w := w) (.cells #[.int .i64 k, .int .i64 rd, .int .i64 rs1, .int .i64 rs2, .int .u32 imm] 24)
  refine (cnum _).mono ?_; rintro e w2 ⟨v, rfl, hsv, B2⟩
  have M2 := M1.kept B2
  have hb2 := hb1.and B2
  clear M1 hb1 B2
  go_upto_region 5 with (fail)
  have c0 := M2.c 0 _ rfl
  have c1 := M2.c 1 _ rfl
  have c2 := M2.c 2 _ rfl
  have c3 := M2.c 3 _ rfl
  have c4 := M2.c 4 _ rfl
  have cc := (hC.kept hb2) k (by omega)
  rw [hcd] at cc
  have hsd := hsv.drew
  have hk0' : (0 : Int) ≤ k := by omega
  have hk49 : (k : Int) < 49 := by omega
  go_region_held3 (fun w' => w'.cell? ⟨w.heap.size, 0, none⟩ = some (.int .i64 k) ∧ w'.cell? ⟨w.heap.size, 4, none⟩ = some (.int .u32 imm) ∧ w'.cell? ⟨0, k, none⟩ = some (.int .u32 cd)) (go_keep)
    (first | (go_at_call 27; rw [hshr.out]; refine (csc v _ hsd).mono ?_; rintro e w4 ⟨rfl, B4⟩; have e0 := (M2.drew.kept B4).c 0 _ rfl; have e4 := (M2.drew.kept B4).c 4 _ rfl; have ec := (B4.cell (p := ⟨0, k, none⟩) (lt_of_cell cc)).trans cc))
  rw [hor.out]
  have M4 := M2.drew.kept B4
  have hb4 := (hb2.and (below_drew w2)).and B4
  clear M2 hb2 B4 c0 c1 c2 c3 c4 cc e0 e4 ec hsv hsd
  have c0 := M4.c 0 _ rfl
  have c1 := M4.c 1 _ rfl
  have c2 := M4.c 2 _ rfl
  have c3 := M4.c 3 _ rfl
  have c4 := M4.c 4 _ rfl
  go_wp2_with fail
  refine (chas _).mono ?_; rintro e w5 ⟨rfl, rfl⟩
  go_upto_if 38 with (fail)
  go_cut [7] (fun v wx => v = .int .u32 B ∧ w4 = wx)
  case first =>
    cases q1 with
    | false =>
      have he : Hid (B = A) := HB.out
      go_wp2_with fail
      go_meet
      case rel => exact ⟨by rw [he.out], rfl⟩
    | true =>
      have he : Hid (B = setf A 7 5 (rd % 4294967296).toNat) := HB.out
      have hq := Lib.hid (reg_cast rd)
      go_wp2_with (go_at_call 28; rw [hq.out]; refine (set_q A 7 5 (rd % 4294967296).toNat _ (by decide) (by decide) lA (reg_lt _)).mono ?_; rw [← he.out]; rintro e w' ⟨rfl, rfl⟩)
      go_meet
      case rel => exact ⟨rfl, rfl⟩
  case rest =>
  obtain ⟨rfl, rfl⟩ := hcut

  go_upto_if 44 with (fail)
  go_cut [7] (fun v wx => v = .int .u32 C ∧ w4 = wx)
  case first =>
    cases q2 with
    | false =>
      have he : Hid (C = B) := HC'.out
      go_wp2_with fail
      go_meet
      case rel => exact ⟨by rw [he.out], rfl⟩
    | true =>
      have he : Hid (C = setf B 15 5 (rs1 % 4294967296).toNat) := HC'.out
      have hq := Lib.hid (reg_cast rs1)
      go_wp2_with (go_at_call 28; rw [hq.out]; refine (set_q B 15 5 (rs1 % 4294967296).toNat _ (by decide) (by decide) lB (reg_lt _)).mono ?_; rw [← he.out]; rintro e w' ⟨rfl, rfl⟩)
      go_meet
      case rel => exact ⟨rfl, rfl⟩
  case rest =>
  obtain ⟨rfl, rfl⟩ := hcut

  go_upto_if 50 with (fail)
  go_cut [7] (fun v wx => v = .int .u32 W ∧ w4 = wx)
  case first =>
    cases q3 with
    | false =>
      have he : Hid (W = C) := HW.out
      go_wp2_with fail
      go_meet
      case rel => exact ⟨by rw [he.out], rfl⟩
    | true =>
      have he : Hid (W = setf C 20 5 (rs2 % 4294967296).toNat) := HW.out
      have hq := Lib.hid (reg_cast rs2)
      go_wp2_with (go_at_call 28; rw [hq.out]; refine (set_q C 20 5 (rs2 % 4294967296).toNat _ (by decide) (by decide) lC (reg_lt _)).mono ?_; rw [← he.out]; rintro e w' ⟨rfl, rfl⟩)
      go_meet
      case rel => exact ⟨rfl, rfl⟩
  case rest =>
  obtain ⟨rfl, rfl⟩ := hcut
  go_upto_region 13 with (fail)
  clear cform cnum csc chas hor hshr HB HC' HW
  rcases HX.out with ⟨rfl, rfl, rfl⟩ | ⟨hne, rfl, rfl⟩
  · go_region_held3 (fun w' => w'.cell? ⟨w.heap.size, 0, none⟩ = some (.int .i64 k) ∧ w'.cell? ⟨w.heap.size, 1, none⟩ = some (.int .i64 rd) ∧ w'.cell? ⟨w.heap.size, 2, none⟩ = some (.int .i64 rs1) ∧ w'.cell? ⟨w.heap.size, 3, none⟩ = some (.int .i64 rs2) ∧ w'.cell? ⟨w.heap.size, 4, none⟩ = some (.int .u32 imm)) (go_keep)
      (first | (go_at_call 20; refine (cread _).mono ?_; rintro e w6 ⟨rfl, B6⟩; have e0 := (M4.drew.kept B6).c 0 _ rfl; have e1 := (M4.drew.kept B6).c 1 _ rfl; have e2 := (M4.drew.kept B6).c 2 _ rfl; have e3 := (M4.drew.kept B6).c 3 _ rfl; have e4 := (M4.drew.kept B6).c 4 _ rfl))
    have hb6 := (hb4.and (below_drew w4)).and B6
    clear B6 M4 hb4 e0 e1 e2 e3 e4 c0 c1 c2 c3 c4
    go_wp2_with fail
    go_ret2
    exact ⟨rfl, hb6⟩
  · obtain ⟨o, p, q, s, t⟩ := r
    have hw : ((o == (k : Int)) = false) ∨ (o = k ∧ (p == rd) = false) ∨ (o = k ∧ rd = p ∧ (q == rs1) = false) ∨ (o = k ∧ rd = p ∧ rs1 = q ∧ (s == rs2) = false) ∨ (o = k ∧ rd = p ∧ rs1 = q ∧ rs2 = s ∧ ((t : Int) == (imm : Int)) = false) := by
      by_cases a1 : o = k
      · by_cases a2 : p = rd
        · by_cases a3 : q = rs1
          · by_cases a4 : s = rs2
            · refine .inr (.inr (.inr (.inr ⟨a1, a2.symm, a3.symm, a4.symm, ?_⟩)))
              have : t ≠ imm := fun a5 => hne (by rw [a1, a2, a3, a4, a5])
              simp
              omega
            · exact .inr (.inr (.inr (.inl ⟨a1, a2.symm, a3.symm, by simpa using a4⟩)))
          · exact .inr (.inr (.inl ⟨a1, a2.symm, by simpa using a3⟩))
        · exact .inr (.inl ⟨a1, by simpa using a2⟩)
      · exact .inl (by simpa using a1)
    clear hne HX
    rcases hw with h | ⟨rfl, h⟩ | ⟨rfl, rfl, h⟩ | ⟨rfl, rfl, rfl, h⟩ | ⟨rfl, rfl, rfl, rfl, h⟩
    all_goals
      go_region_held3 (fun w' => w'.cell? ⟨w.heap.size, 0, none⟩ = some (.int .i64 k) ∧ w'.cell? ⟨w.heap.size, 1, none⟩ = some (.int .i64 rd) ∧ w'.cell? ⟨w.heap.size, 2, none⟩ = some (.int .i64 rs1) ∧ w'.cell? ⟨w.heap.size, 3, none⟩ = some (.int .i64 rs2) ∧ w'.cell? ⟨w.heap.size, 4, none⟩ = some (.int .u32 imm)) (go_keep)
        (first | (go_at_call 20; refine (cread _).mono ?_; rintro e w6 ⟨rfl, B6⟩; have e0 := (M4.drew.kept B6).c 0 _ rfl; have e1 := (M4.drew.kept B6).c 1 _ rfl; have e2 := (M4.drew.kept B6).c 2 _ rfl; have e3 := (M4.drew.kept B6).c 3 _ rfl; have e4 := (M4.drew.kept B6).c 4 _ rfl))
      have hb6 := (hb4.and (below_drew w4)).and B6
      clear B6 M4 hb4 e0 e1 e2 e3 e4 c0 c1 c2 c3 c4
      go_wp2_with fail
      go_ret2
      exact ⟨rfl, hb6⟩

def okE (i : SI) : Prop := 1 ≤ i.op ∧ i.op ≤ 48 ∧ readN i.op (encW i) = i
theorem decN_imm (x : Nat) : (decN x).imm < 4294967296 := by
  unfold decN
  split
  · show 0 < 4294967296
    omega
  · exact immOf_lt' _ _ (formOf_le _)
theorem okE_dec (x : Nat) (hk : opOf x ≠ 0) (hx : x < 4294967296) : okE ⟨(decN x).op, (decN x).rd, (decN x).rs1, (decN x).rs2, (decN x).imm⟩ := by
  obtain ⟨h1, h2, -⟩ := opOf_mtch x hk
  have hd : decN x = readN (opOf x) x := by unfold decN; rw [if_neg hk]
  show okE (decN x)
  have ho : (decN x).op = opOf x := by rw [hd]; rfl
  refine ⟨by rw [ho]; omega, by rw [ho]; omega, ?_⟩
  rw [enc_dec x hk hx, ho, ← hd]
theorem okE_enc (i : SI) (hi : i.imm < 4294967296) (h : okE i) : opOf (encW i) ≠ 0 ∧ decN (encW i) = i := by
  obtain ⟨op, rd, rs1, rs2, imm⟩ := i
  obtain ⟨h1, h2, h3⟩ := h
  dsimp only at h1 h2 h3 hi
  obtain ⟨k, rfl⟩ : ∃ k : Nat, op = k := ⟨op.toNat, by omega⟩
  obtain ⟨a, b⟩ := dec_enc k rd rs1 rs2 imm ⟨by omega, by omega⟩ hi
  exact ⟨by rw [a]; omega, b.trans h3⟩
theorem formOf_out (op : Int) (h : ¬ (1 ≤ op ∧ op ≤ 48)) : formOf op = 0 := by
  unfold formOf
  rw [if_pos (by omega)]
theorem encode_ok (op rd rs1 rs2 : Int) (imm : Nat) (w : World) (hC : Codes w) (hi : imm < 4294967296) (h : okE ⟨op, rd, rs1, rs2, imm⟩) :
    Calls Tryd.prog 15 #[.agg #[.int .i64 op, .int .i64 rd, .int .i64 rs1, .int .i64 rs2, .int .u32 imm]] w fun e w' => e = .returned (.tuple #[.int .u32 (encW ⟨op, rd, rs1, rs2, imm⟩), .int .i64 0]) ∧ Below w.heap.size w w' := by
  obtain ⟨h1, h2, h3⟩ := h
  dsimp only at h1 h2 h3
  obtain ⟨k, rfl⟩ : ∃ k : Nat, op = k := ⟨op.toNat, by omega⟩
  exact encode_some k rd rs1 rs2 imm w hC (by omega) (by omega) hi _ rfl _ 0 (.inl ⟨h3, rfl, rfl⟩)
theorem encode_no (op rd rs1 rs2 : Int) (imm : Nat) (w : World) (hC : Codes w) (hi : imm < 4294967296) (h : ¬ okE ⟨op, rd, rs1, rs2, imm⟩) :
    Calls Tryd.prog 15 #[.agg #[.int .i64 op, .int .i64 rd, .int .i64 rs1, .int .i64 rs2, .int .u32 imm]] w fun e w' => e = .returned (.tuple #[.int .u32 (0 : Nat), .int .i64 1]) ∧ Below w.heap.size w w' := by
  by_cases hop : 1 ≤ op ∧ op ≤ 48
  · obtain ⟨k, rfl⟩ : ∃ k : Nat, op = k := ⟨op.toNat, by omega⟩
    exact encode_some k rd rs1 rs2 imm w hC (by omega) (by omega) hi _ rfl 0 1 (.inr ⟨fun h3 => h ⟨hop.1, hop.2, h3⟩, rfl, rfl⟩)
  · have cform : ∀ w, Calls Tryd.prog 19 #[.int .i64 op] w fun e w' => e = .returned (.int .i64 0) ∧ w = w' := fun w => by
      have := form_any op w
      rw [formOf_out op hop] at this
      exact this
    clear h hop
    go_enter Tryd.func15, Tryd.ntmps15
    go_wp2_with fail
    refine (cform _).mono ?_; rintro e w1 ⟨rfl, rfl⟩
    go_wp2_with fail
    go_ret2
    exact ⟨rfl, below_all _⟩
end Go.Proofs.YtaimbclbpoelgaaDoor
