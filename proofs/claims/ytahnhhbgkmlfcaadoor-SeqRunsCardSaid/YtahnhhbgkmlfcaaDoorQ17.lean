/- The iterator of package seq: so many steps, each with the run behind it. -/
import Derived.Test.YtahnhhbgkmlfcaaDoorQ11
import Derived.Test.YtahnhhbgkmlfcaaDoorQ16
import Derived.Test.YtahnhhbgkmlfcaaDoorQ9
namespace Go.Proofs.YtahnhhbgkmlfcaaDoor
open Go.RowKit

def unV : AV → Value
  | .v x => x
  | _ => undef
def stV (s : St) : Value := .agg ((stL s.pc s.r s.mem s.halt).map unV).toArray
def spV (x : Sp) : Value := .agg ((spL x).map unV).toArray
theorem stV_eq (s : St) : valF (stA s) = some (stV s) := rfl
theorem spV_eq (x : Sp) : valF (spA x) = some (spV x) := rfl
def encsX (x : St × Sp) : Array Value := #[stV x.1, spV x.2]
/-- At most so many steps. -/
def stepsL (prog : List Nat) : Nat → St → List (St × Sp)
  | 0, _ => []
  | n + 1, s => if s.halt = 0 then stepP prog s :: stepsL prog n (stepP prog s).1 else []
theorem stepsL_more {prog : List Nat} {n : Nat} {s : St} (h : s.halt = 0) : stepsL prog (n + 1) s = stepP prog s :: stepsL prog n (stepP prog s).1 := by
  show (if s.halt = 0 then _ else _) = _
  rw [if_pos h]
theorem stepsL_done {prog : List Nat} {n : Nat} {s : St} (h : n = 0 ∨ s.halt ≠ 0) : stepsL prog n s = [] := by
  cases n with
  | zero => rfl
  | succ n =>
    show (if s.halt = 0 then _ else _) = _
    rw [if_neg (h.resolve_left (by omega))]
theorem setR_ok {r : Nat → Nat} (h : ∀ k, r k ≤ 4294967295) {v : Nat} (hv : v ≤ 4294967295) (n : Nat) : ∀ k, setR r n v k ≤ 4294967295 := by
  intro k; unfold setR; split
  · exact hv
  · exact h k
theorem writeP_size {m : ByteArray} {addr : Nat} {b : ByteArray} (h : addr + b.size ≤ m.size) : (writeP m addr b).size = m.size := by
  show (writeP m addr b).data.size = m.data.size
  have h' : addr + b.data.size ≤ m.data.size := h
  simp only [writeP, List.size_toArray, List.length_append, List.length_take, List.length_drop, Array.length_toList]
  show min addr m.data.size + b.data.size + (m.data.size - (addr + b.data.size)) = m.data.size
  omega
theorem loadP_le (op : Int) (s : ByteArray) : loadP op s ≤ 4294967295 := by
  unfold loadP
  split
  · rename_i h
    have h4 : s.size ≤ 4 := by have := size_le4 op; omega
    have := joinTo_32 s h4
    split
    · exact Nat.le_of_lt_succ (sext_lt _ _ (by omega))
    · split
      · exact Nat.le_of_lt_succ (sext_lt _ _ (by omega))
      · omega
  · exact Nat.zero_le _
theorem haltP_ok {s : St} (h : s.ok) (why : Int) (addr : Nat) : (haltP s why addr).1.ok := ⟨h.pc, h.r, h.mem⟩
theorem finP_ok {s : St} (h : s.ok) {i : SI} {a b nx : Nat} {tk : Int} (hi : i.imm ≤ 4294967295) (ha : a ≤ 4294967295) (hb : b ≤ 4294967295) (hn : nx ≤ 4294967295) : (finP s i a b nx tk).1.ok := by
  unfold finP
  split
  · exact ⟨hn, h.r, h.mem⟩
  · exact ⟨hn, setR_ok h.r (Nat.le_of_lt_succ (valP_lt i.op i.imm s.pc a b (Nat.lt_succ_of_le hi) (Nat.lt_succ_of_le ha) (Nat.lt_succ_of_le hb))) _, h.mem⟩
theorem stepP_ok {prog : List Nat} {s : St} (h : s.ok) : (stepP prog s).1.ok := by
  unfold stepP
  split
  · split
    · split
      · exact haltP_ok h _ _
      · have hd := decN_rd (fetchW prog s.pc)
        have hi : (insOf prog s).imm ≤ 4294967295 := Nat.le_of_lt_succ hd.2.2.2.2.2.2
        unfold doI
        split
        · exact haltP_ok h _ _
        · split
          · exact haltP_ok h _ _
          · split
            · unfold accessP
              split
              · rename_i hr
                have hq := right_le hr
                split
                · exact ⟨up4_le _, h.r, by rw [writeP_size (by rw [bytesP_size]; exact hq.1)]; exact h.mem⟩
                · split
                  · exact ⟨up4_le _, h.r, h.mem⟩
                  · exact ⟨up4_le _, setR_ok h.r (loadP_le _ _) _, h.mem⟩
              · exact haltP_ok h _ _
            · unfold reckonP
              split
              · split
                · exact finP_ok h hi (h.r _) (h.r _) (Nat.le_of_lt_succ (nextP_lt _ _ _ _ _))
                · exact haltP_ok h _ _
              · exact finP_ok h hi (h.r _) (h.r _) (up4_le _)
    · exact haltP_ok h _ _
  · exact h

def kp4 : Nat → Bool := fun i => Nat.blt i 4
def kp5 : Nat → Bool := fun i => match Nat.blt i 4 with | true => true | false => Nat.beq i 5


section
variable {prog : List Nat} {s0 : St} {nI : Int} {clip : Bool} {R : Nat → Prop} {w W : World} {p1 p2 p3 : Value} {l : Nat} {J : (Nat → Prop) → List (St × Sp) → World → Prop}
/-- What holds at the loop's head. -/
structure HdI (prog : List Nat) (s0 : St) (nI : Int) (R : Nat → Prop) (w W : World) (p1 p2 p3 : Value) (l : Nat) (J : (Nat → Prop) → List (St × Sp) → World → Prop) (a : Act) (A : World) (k : Nat) (sk : St) (pre : List (St × Sp)) (C : Nat → Prop) (lo : Loc) : Prop where
  df : a.defers = []
  sz : a.tmps.size = 32
  t0 : a.tmps.getD 0 undef = .func (.yield l) #[] #[]
  t1 : a.tmps.getD 1 undef = p1
  t2 : a.tmps.getD 2 undef = p2
  t3 : a.tmps.getD 3 undef = p3
  t5 : a.tmps.getD 5 undef = ptrV lo
  t6 : a.tmps.getD 6 undef = .int .i64 (k : Int)
  rs : Same R w A
  wsz : W.heap.size ≤ A.heap.size
  ob : ∃ (cs : Array Value) (e : TypeId) (fr : Nat × Nat), A.heap[lo.blk]? = some (.cells cs e fr) ∧ (∀ o, o < cs.size → (decide (fr.1 ≤ o) && decide (o < fr.2)) = false) ∧ InBlk (fun _ => False) A noB lo cs (.box (stL sk.pc sk.r sk.mem sk.halt))
  lo1 : W.heap.size ≤ lo.blk
  nC : ¬ C lo.blk
  cR : ∀ b, R b → ¬ C b
  j : J C pre A
  kn : (k : Int) ≤ 1000000
  ok : sk.ok
  xs : pre ++ stepsL prog (nI.toNat - k) sk = stepsL prog nI.toNat s0
def muI (nI : Int) (a : Act) : Nat := nI.toNat - (match a.tmps.getD 6 undef with | .int _ x => x.toNat | _ => 0)


set_option maxRecDepth 100000 in
set_option maxHeartbeats 16000000 in
theorem iter_steps (hp : ∀ x ∈ prog, x ≤ 4294967295) (hl : prog.length ≤ 1000000) (hs0 : s0.ok) (hn : nI ≤ 1000000) (hRlt : ∀ b, R b → b < w.heap.size) (hG : GOk C0 R w)
    (r1 : Rep R w noB (.dp 35 0 (stL s0.pc s0.r s0.mem s0.halt)) p1) (r2 : Rep R w noB (.dp 1 0 [.v (.int .i64 nI)]) p2) (r3 : Rep R w noB (.dp 1 0 [.sl 1 (prog.map rowU) clip]) p3) :
    IterC C0.P 34 #[p1, p2, p3] encsX (stepsL prog nI.toNat s0) R w := by
  intro l J C0' W hRW hdis hJ hJlt hY h0
  refine calls_of_wp Tryd.func34 rfl ?_
  simp only [Tryd.ntmps34, List.size_toArray, List.length_cons, List.length_nil, Nat.reduceAdd, Nat.reduceSub, Array.replicate_succ, Array.replicate_zero, List.push_toArray, List.append_toArray, List.nil_append, List.cons_append]
  refine (wpIn_wide (n := 2)).1 ?_
  have base : ∀ {A : World} {S' : Nat → Prop} {β' : Bt} {x : AV} {p : Value}, Rep R w noB x p → Same R w A → (∀ b, R b → S' b) → Rep S' A β' x p := fun hr hs hS =>
    (rep_transport (fun b hb => hs.block b (hRlt b hb) hb) hr (fun _ _ h => by cases h)).mono hS (Evo.refl _ _) (fun _ _ h => by cases h)
  have baseG : ∀ {A : World} {S' : Nat → Prop}, Same R w A → (∀ b, R b → S' b) → GOk C0 S' A := fun hs hS g cells hg => base (hG g cells hg) hs hS
  have hRlW : ∀ b, R b → b < W.heap.size := fun b hb => Nat.lt_of_lt_of_le (hRlt b hb) hRW.size
  -- the beginning
  have X0 := simx_mk (C := C0) (N := 32) (kp := kp4) (S := (· < W.heap.size)) (β := noB) (n := 0) (w := W) (L := [(0, .v (.func (.yield l) #[] #[])), (1, .dp 35 0 ((stL s0.pc s0.r s0.mem s0.halt))), (2, .dp 1 0 ([.v (.int .i64 nI)])), (3, .dp 1 0 ([.sl 1 (prog.map rowU) clip]))]) (hp := [])
    (a := { tmps := #[.func (.yield l) #[] #[], p1, p2, p3, undef, undef, undef, undef, undef, undef, undef, undef, undef, undef, undef, undef, undef, undef, undef, undef, undef, undef, undef, undef, undef, undef, undef, undef, undef, undef, undef, undef], defers := [] })
    (by
      intro p hp
      simp only [List.mem_cons, List.not_mem_nil, or_false] at hp
      rcases hp with rfl | rfl | rfl | rfl
      · exact .v _
      · exact base r1 hRW hRlW
      · exact base r2 hRW hRlW
      · exact base r3 hRW hRlW)
    ⟨fun s blk h => (by cases h), fun s s' l l' h => absurd rfl h, fun b h => h, Nat.zero_le _⟩ (fun x l h => by cases h) rfl (by simp) (baseG hRW hRlW)
  refine wpIn_seq (seg (st := ⟨slotsF [(0, .v (.func (.yield l) #[] #[])), (1, .dp 35 0 ((stL s0.pc s0.r s0.mem s0.halt))), (2, .dp 1 0 ([vI nI])), (3, .dp 1 0 ([.sl 1 (prog.map rowU) clip]))], heapF [], 0⟩) (st' := ⟨slotsF [(0, .v (.func (.yield l) #[] #[])), (1, .dp 35 0 ((stL s0.pc s0.r s0.mem s0.halt))), (2, .dp 1 0 ([vI nI])), (3, .dp 1 0 ([.sl 1 (prog.map rowU) clip])), (5, .ptr 1 0)], heapF [(1, .box (stL s0.pc s0.r s0.mem s0.halt))], 3⟩) (fok_wide _) c0Ok (by kernel_rfl) X0 ?_ fun a1 A1 S1 β1 X1 => ?_)
  · skip
    refine cR ?_
    refine rO 9 (.agg (stL s0.pc s0.r s0.mem s0.halt)) ?_
    refine rFx (d := 5) (x := .ptr 1 0) (h' := upd _ 1 (some (.box (stL 0 (fun _ => 0) (⟨#[]⟩) 0)))) rfl rfl (rfl) (trivial) ?_
    refine rFx0 (h' := upd _ 1 (some (.box (stL s0.pc s0.r s0.mem s0.halt)))) rfl rfl (rfl) (trivial) ?_
    refine rE 3 ?_
    exact ⟨rfl, Weak.of_lists (fun s => s) ⟨⟨rfl, rfl⟩, ⟨rfl, rfl⟩, ⟨rfl, rfl⟩, ⟨rfl, rfl⟩, ⟨rfl, rfl⟩, trivial⟩ ⟨⟨rfl, rfl, rfl⟩, trivial⟩ rfl⟩
  refine wpIn_seq (seg (st := ⟨slotsF [(0, .v (.func (.yield l) #[] #[])), (1, .dp 35 0 ((stL s0.pc s0.r s0.mem s0.halt))), (2, .dp 1 0 ([vI nI])), (3, .dp 1 0 ([.sl 1 (prog.map rowU) clip])), (5, .ptr 1 0)], heapF [(1, .box (stL s0.pc s0.r s0.mem s0.halt))], 3⟩) (st' := ⟨slotsF [(0, .v (.func (.yield l) #[] #[])), (1, .dp 35 0 ((stL s0.pc s0.r s0.mem s0.halt))), (2, .dp 1 0 ([vI nI])), (3, .dp 1 0 ([.sl 1 (prog.map rowU) clip])), (5, .ptr 1 0), (6, vN 0)], heapF [(1, .box (stL s0.pc s0.r s0.mem s0.halt))], 4⟩) (fok_wide _) c0Ok (by kernel_rfl) X1 ?_ fun a2 A2 S2 β2 X2 => ?_)
  · skip
    refine cR ?_
    refine rO 6 (vI 0) ?_
    refine rE 4 ?_
    exact ⟨rfl, Weak.of_lists (fun s => s) ⟨⟨rfl, rfl⟩, ⟨rfl, rfl⟩, ⟨rfl, rfl⟩, ⟨rfl, rfl⟩, ⟨rfl, rfl⟩, ⟨rfl, rfl⟩, trivial⟩ ⟨⟨rfl, rfl, rfl⟩, trivial⟩ rfl⟩
  have hSame2 : Same (· < W.heap.size) W A2 := X2.same rfl rfl rfl
  have H0 : ∃ k sk pre C lo, HdI prog s0 nI R w W p1 p2 p3 l J a2 A2 k sk pre C lo := by
    obtain ⟨lo, cs, e, fr, k1, k2, k3, k4, k5⟩ := X2.boxed (i := 5) (s := 1) (cells := stL s0.pc s0.r s0.mem s0.halt) rfl rfl
    refine ⟨0, s0, [], C0', lo, ⟨X2.M.df, X2.M.sz, X2.tm 0 rfl, X2.tm 1 rfl, X2.tm 2 rfl, X2.tm 3 rfl, k1, rep_v (X2.M.T 6), hRW.trans (hSame2.mono fun x _ hx => hRlW x hx), X2.sz, ⟨cs, e, fr, k2, k3, inblk_flat k4 rfl⟩, ?_, ?_, hdis, ?_, by omega, hs0, rfl⟩⟩
    · exact Nat.le_of_not_lt fun h => k5 (X2.hS _ h)
    · exact fun h => k5 (X2.hS _ (hJlt C0' [] W h0 _ h))
    · exact hJ C0' [] W A2 h0 (hSame2.mono fun x _ hx => hx.elim id (hJlt C0' [] W h0 x))
  clear X1 X2 hSame2 X0
  refine wpIn_block (wpIn_loop (fun a A => ∃ k sk pre C lo, HdI prog s0 nI R w W p1 p2 p3 l J a A k sk pre C lo) (fun a _ => muI nI a) H0 ?_)
  clear H0
  rintro a A ⟨k, sk, pre, C, lo, H⟩
  have hlt := hJlt C pre A H.j
  have X := simx_mk (C := C0) (N := 32) (kp := kp5) (S := fun b => b < A.heap.size ∧ b ≠ lo.blk) (β := oneB 1 lo) (n := 3) (w := A) (L := [(0, .v (.func (.yield l) #[] #[])), (1, .dp 35 0 ((stL s0.pc s0.r s0.mem s0.halt))), (2, .dp 1 0 ([.v (.int .i64 nI)])), (3, .dp 1 0 ([.sl 1 (prog.map rowU) clip])), (5, .ptr 1 0), (6, .v (.int .i64 ((k : Nat) : Int)))]) (hp := [(1, .box (stL sk.pc sk.r sk.mem sk.halt))]) (a := a)
    (by
      have hRS : ∀ b, R b → b < A.heap.size ∧ b ≠ lo.blk := fun b hb => ⟨Nat.lt_of_lt_of_le (hRlW b hb) H.wsz, fun e => by have := hRlW b hb; have := H.lo1; omega⟩
      intro p hp
      simp only [List.mem_cons, List.not_mem_nil, or_false] at hp
      rcases hp with rfl | rfl | rfl | rfl | rfl | rfl
      · show Rep _ _ _ _ (a.tmps.getD 0 undef); rw [H.t0]; exact .v _
      · show Rep _ _ _ _ (a.tmps.getD 1 undef); rw [H.t1]; exact base r1 H.rs hRS
      · show Rep _ _ _ _ (a.tmps.getD 2 undef); rw [H.t2]; exact base r2 H.rs hRS
      · show Rep _ _ _ _ (a.tmps.getD 3 undef); rw [H.t3]; exact base r3 H.rs hRS
      · show Rep _ _ _ _ (a.tmps.getD 5 undef); rw [H.t5]; exact .ptr 1 0 lo (by simp [oneB])
      · show Rep _ _ _ _ (a.tmps.getD 6 undef); rw [H.t6]; exact .v _)
    (by
      obtain ⟨cs, e, fr, k2, k3, k4⟩ := H.ob
      exact simH_one k2 k3 (fun h => h.2 rfl) (fun b h => h.1) (inblk_flat k4 rfl))
    (fun x l h => by (unfold oneB at h; split at h); (omega); (cases h)) H.df H.sz (baseG H.rs fun b hb => ⟨Nat.lt_of_lt_of_le (hRlW b hb) H.wsz, fun e => by have := hRlW b hb; have := H.lo1; omega⟩)
  -- what a piece of the walk keeps
  have kept : ∀ {D : Nat → Prop} {t : Nat → AV} {h : AH} {a' : Act} {A' : World} {S' : Nat → Prop} {β' : Bt} {kp : Nat → Bool} {a00 : Act}, SimX C0 { A with heap := #[] } (fun _ => False) 32 D (fun b => b < A.heap.size ∧ b ≠ lo.blk) A kp a00 t h a' A' S' β' → Same (fun b => b < W.heap.size ∨ C b) A A' := fun X' =>
    (X'.same rfl rfl rfl).mono fun x hx hx' => ⟨hx, fun e => hx'.elim (fun h => by have := H.lo1; omega) fun h => H.nC (e ▸ h)⟩
  refine wpIn_seq (wpIn_seq (seg (st := ⟨slotsF [(0, .v (.func (.yield l) #[] #[])), (1, .dp 35 0 ((stL s0.pc s0.r s0.mem s0.halt))), (2, .dp 1 0 ([vI nI])), (3, .dp 1 0 ([.sl 1 (prog.map rowU) clip])), (5, .ptr 1 0), (6, vN k)], heapF [(1, .box (stL sk.pc sk.r sk.mem sk.halt))], 3⟩) (st' := ⟨slotsF [(0, .v (.func (.yield l) #[] #[])), (1, .dp 35 0 ((stL s0.pc s0.r s0.mem s0.halt))), (2, .dp 1 0 ([vI nI])), (3, .dp 1 0 ([.sl 1 (prog.map rowU) clip])), (5, .ptr 1 0), (6, vN k), (17, .v (.bool (cond2 (decide ((k : Int) < nI)) (sk.halt == 0) false)))], heapF [(1, .box (stL sk.pc sk.r sk.mem sk.halt))], 11⟩) (fok_wide _) c0Ok (by kernel_rfl) X ?_ fun a2 A2 S2 β2 X2 => ?_))
  · skip
    refine cR ?_
    refine rO 10 (vN k) ?_
    refine rO 11 (vI nI) ?_
    refine rO 12 (.v (.bool (decide (((k : Nat) : Int) < nI)))) ?_
    refine rO 13 (.v (.bool (decide (((k : Nat) : Int) < nI)))) ?_
    refine gOk (d := 14) (x := .ptr 1 34) (g := decide (((k : Nat) : Int) < nI)) rfl rfl rfl rfl rfl rfl ?_
    refine gOkS (d := 15) (x := vI sk.halt) (g := decide (((k : Nat) : Int) < nI)) rfl rfl rfl rfl (fun h => h) rfl rfl ?_
    refine gOkS (d := 16) (x := .v (.bool (sk.halt == 0))) (g := decide (((k : Nat) : Int) < nI)) rfl rfl rfl rfl (fun h => h) rfl rfl ?_
    refine rNeed (d := 17) (x := .v (.bool (cond2 (decide (((k : Nat) : Int) < nI)) (sk.halt == 0) false))) rfl rfl rfl (fun h => h) ?_
    refine rE 11 ?_
    exact ⟨rfl, Weak.of_lists (fun s => s) ⟨⟨rfl, rfl⟩, ⟨rfl, rfl⟩, ⟨rfl, rfl⟩, ⟨rfl, rfl⟩, ⟨rfl, rfl⟩, ⟨rfl, rfl⟩, ⟨rfl, rfl⟩, trivial⟩ ⟨⟨rfl, rfl, rfl⟩, trivial⟩ rfl⟩
  refine wpIn_cond_split (t := cond2 (decide ((k : Int) < nI)) (sk.halt == 0) false) (rep_v (X2.M.T 17)) (fun ht => wpIn_skip ?_) (fun hf => wpIn_exit ?_)
  rotate_left
  · -- the end
    have e : stepsL prog (nI.toNat - k) sk = [] := stepsL_done (by
      by_cases h1 : (k : Int) < nI
      · right
        intro h2
        simp [cond2, h1, h2] at hf
      · left; omega)
    have hx := H.xs
    rw [e, List.append_nil] at hx
    show a2.defers = [] ∧ ∃ v, (results Tryd.f34 a2.tmps).run C0.P A2 = .ok v A2 ∧ _
    exact ⟨X2.M.df, _, run_results [] [] rfl _ rfl, ⟨_, rfl⟩, C, by rw [← hx]; exact hJ C pre A A2 H.j (kept X2)⟩
  have hk : (k : Int) < nI := by
    by_cases h1 : (k : Int) < nI
    · exact h1
    · simp [cond2, h1] at ht
  have hh : sk.halt = 0 := by
    by_cases h1 : sk.halt = 0
    · exact h1
    · simp [cond2, hk, h1] at ht
  have hxs : pre ++ [stepP prog sk] ++ stepsL prog (nI.toNat - (k + 1)) (stepP prog sk).1 = stepsL prog nI.toNat s0 := by
    rw [← H.xs, show nI.toNat - k = (nI.toNat - (k + 1)) + 1 by omega, stepsL_more hh]
    simp
  replace X2 := X2.weak (st := ⟨slotsF [(0, .v (.func (.yield l) #[] #[])), (1, .dp 35 0 ((stL s0.pc s0.r s0.mem s0.halt))), (2, .dp 1 0 ([.v (.int .i64 nI)])), (3, .dp 1 0 ([.sl 1 (prog.map rowU) clip])), (5, .ptr 1 0), (6, .v (.int .i64 ((k : Nat) : Int))), (17, .v (.bool (cond2 (decide ((k : Int) < nI)) (sk.halt == 0) false)))], heapF [(1, .box (stL sk.pc sk.r sk.mem sk.halt))], 11⟩) (st' := ⟨slotsF [(0, .v (.func (.yield l) #[] #[])), (1, .dp 35 0 ((stL s0.pc s0.r s0.mem s0.halt))), (2, .dp 1 0 ([.v (.int .i64 nI)])), (3, .dp 1 0 ([.sl 1 (prog.map rowU) clip])), (5, .ptr 1 0), (6, .v (.int .i64 ((k : Nat) : Int)))], heapF [(1, .box (stL sk.pc sk.r sk.mem sk.halt))], 11⟩) (Weak.of_lists (fun s => s) ⟨⟨rfl, rfl⟩, ⟨rfl, rfl⟩, ⟨rfl, rfl⟩, ⟨rfl, rfl⟩, ⟨rfl, rfl⟩, ⟨rfl, rfl⟩, trivial⟩ ⟨⟨rfl, rfl, rfl⟩, trivial⟩ rfl)
  refine wpIn_seq (wpIn_block (wpIn_seq (seg (st := ⟨slotsF [(0, .v (.func (.yield l) #[] #[])), (1, .dp 35 0 ((stL s0.pc s0.r s0.mem s0.halt))), (2, .dp 1 0 ([vI nI])), (3, .dp 1 0 ([.sl 1 (prog.map rowU) clip])), (5, .ptr 1 0), (6, vN k)], heapF [(1, .box (stL sk.pc sk.r sk.mem sk.halt))], 11⟩) (st' := ⟨slotsF [(0, .v (.func (.yield l) #[] #[])), (1, .dp 35 0 ((stL s0.pc s0.r s0.mem s0.halt))), (2, .dp 1 0 ([vI nI])), (3, .dp 1 0 ([.sl 1 (prog.map rowU) clip])), (5, .ptr 1 0), (6, vN k), (7, .ptr 17 0), (8, .ptr 18 0)], heapF [(1, .box (stL sk.pc sk.r sk.mem sk.halt)), (17, .box (stL (((stepP prog sk).1).pc) (((stepP prog sk).1).r) (((stepP prog sk).1).mem) (((stepP prog sk).1).halt))), (18, .box [vU (((stepP prog sk).2).pc), vU (((stepP prog sk).2).next), vI (((stepP prog sk).2).rd), vU (((stepP prog sk).2).value), vU (((stepP prog sk).2).addr), vI (((stepP prog sk).2).size), .v (.bool (((stepP prog sk).2).store)), vI (((stepP prog sk).2).halt), vI (((stepP prog sk).2).took)])], 21⟩) (fok_wide _) c0Ok (by kernel_rfl) X2 ?_ fun a3 A3 S3 β3 X3 => ?_)))
  · skip
    refine cR ?_
    refine rO 21 (.sl 1 (prog.map rowU) clip) ?_
    refine rO 22 (.agg (stL sk.pc sk.r sk.mem sk.halt)) ?_
    refine rCall (args := [.sl 1 (prog.map rowU) clip, .agg (stL sk.pc sk.r sk.mem sk.halt)]) (d := 23) (x := .tup [.agg (stL ((stepP prog sk).1).pc ((stepP prog sk).1).r ((stepP prog sk).1).mem ((stepP prog sk).1).halt), .agg (spL ((stepP prog sk).2))]) rfl rfl rfl rfl (.inl rfl) rfl (dStep prog sk clip hp hl H.ok) ?_
    refine rO 20 (.tup [.agg (stL ((stepP prog sk).1).pc ((stepP prog sk).1).r ((stepP prog sk).1).mem ((stepP prog sk).1).halt), .agg (spL ((stepP prog sk).2))]) ?_
    refine rO 24 (.agg (stL ((stepP prog sk).1).pc ((stepP prog sk).1).r ((stepP prog sk).1).mem ((stepP prog sk).1).halt)) ?_
    refine rO 25 (.agg (spL ((stepP prog sk).2))) ?_
    refine rFx (d := 7) (x := .ptr 17 0) (h' := upd _ 17 (some (.box (stL 0 (fun _ => 0) (⟨#[]⟩) 0)))) rfl rfl (rfl) (trivial) ?_
    refine rFx (d := 8) (x := .ptr 18 0) (h' := upd _ 18 (some (.box [.v (.int .u32 0), .v (.int .u32 0), vI 0, .v (.int .u32 0), .v (.int .u32 0), vI 0, .v (.bool false), vI 0, vI 0]))) rfl rfl (rfl) (trivial) ?_
    refine rFx0 (h' := upd _ 17 (some (.box (stL (((stepP prog sk).1).pc) (((stepP prog sk).1).r) (((stepP prog sk).1).mem) (((stepP prog sk).1).halt))))) rfl rfl (rfl) (trivial) ?_
    refine rFx0 (h' := upd _ 18 (some (.box [vU (((stepP prog sk).2).pc), vU (((stepP prog sk).2).next), vI (((stepP prog sk).2).rd), vU (((stepP prog sk).2).value), vU (((stepP prog sk).2).addr), vI (((stepP prog sk).2).size), .v (.bool (((stepP prog sk).2).store)), vI (((stepP prog sk).2).halt), vI (((stepP prog sk).2).took)]))) rfl rfl (rfl) (trivial) ?_
    refine rE 21 ?_
    exact ⟨rfl, Weak.of_lists (fun s => s) ⟨⟨rfl, rfl⟩, ⟨rfl, rfl⟩, ⟨rfl, rfl⟩, ⟨rfl, rfl⟩, ⟨rfl, rfl⟩, ⟨rfl, rfl⟩, ⟨rfl, rfl⟩, ⟨rfl, rfl⟩, trivial⟩ ⟨⟨rfl, rfl, rfl⟩, ⟨rfl, rfl, rfl⟩, ⟨rfl, rfl, rfl⟩, trivial⟩ rfl⟩
  refine wpIn_seq (seg (st := ⟨slotsF [(0, .v (.func (.yield l) #[] #[])), (1, .dp 35 0 ((stL s0.pc s0.r s0.mem s0.halt))), (2, .dp 1 0 ([vI nI])), (3, .dp 1 0 ([.sl 1 (prog.map rowU) clip])), (5, .ptr 1 0), (6, vN k), (7, .ptr 17 0), (8, .ptr 18 0)], heapF [(1, .box (stL sk.pc sk.r sk.mem sk.halt)), (17, .box (stL (((stepP prog sk).1).pc) (((stepP prog sk).1).r) (((stepP prog sk).1).mem) (((stepP prog sk).1).halt))), (18, .box [vU (((stepP prog sk).2).pc), vU (((stepP prog sk).2).next), vI (((stepP prog sk).2).rd), vU (((stepP prog sk).2).value), vU (((stepP prog sk).2).addr), vI (((stepP prog sk).2).size), .v (.bool (((stepP prog sk).2).store)), vI (((stepP prog sk).2).halt), vI (((stepP prog sk).2).took)])], 21⟩) (st' := ⟨slotsF [(0, .v (.func (.yield l) #[] #[])), (1, .dp 35 0 ((stL s0.pc s0.r s0.mem s0.halt))), (2, .dp 1 0 ([vI nI])), (3, .dp 1 0 ([.sl 1 (prog.map rowU) clip])), (5, .ptr 1 0), (6, vN k), (8, .ptr 18 0)], heapF [(1, .box (stL (((stepP prog sk).1).pc) (((stepP prog sk).1).r) (((stepP prog sk).1).mem) (((stepP prog sk).1).halt))), (18, .box [vU (((stepP prog sk).2).pc), vU (((stepP prog sk).2).next), vI (((stepP prog sk).2).rd), vU (((stepP prog sk).2).value), vU (((stepP prog sk).2).addr), vI (((stepP prog sk).2).size), .v (.bool (((stepP prog sk).2).store)), vI (((stepP prog sk).2).halt), vI (((stepP prog sk).2).took)])], 23⟩) (fok_wide _) c0Ok (by kernel_rfl) X3 ?_ fun a4 A4 S4 β4 X4 => ?_)
  · skip
    refine cR ?_
    refine rO 26 (.agg (stL (((stepP prog sk).1).pc) (((stepP prog sk).1).r) (((stepP prog sk).1).mem) (((stepP prog sk).1).halt))) ?_
    refine rFx0 (h' := upd _ 1 (some (.box (stL (((stepP prog sk).1).pc) (((stepP prog sk).1).r) (((stepP prog sk).1).mem) (((stepP prog sk).1).halt))))) rfl rfl (rfl) (trivial) ?_
    refine rE 23 ?_
    exact ⟨rfl, Weak.of_lists (fun s => s) ⟨⟨rfl, rfl⟩, ⟨rfl, rfl⟩, ⟨rfl, rfl⟩, ⟨rfl, rfl⟩, ⟨rfl, rfl⟩, ⟨rfl, rfl⟩, ⟨rfl, rfl⟩, trivial⟩ ⟨⟨rfl, rfl, rfl⟩, ⟨rfl, rfl, rfl⟩, trivial⟩ rfl⟩
  refine wpIn_seq (wpIn_region (part_soundIn (m := 2) (t := (⟨slotsF [(0, .v (.func (.yield l) #[] #[])), (1, .dp 35 0 ((stL s0.pc s0.r s0.mem s0.halt))), (2, .dp 1 0 ([vI nI])), (3, .dp 1 0 ([.sl 1 (prog.map rowU) clip])), (5, .ptr 1 0), (6, vN k), (8, .ptr 18 0)], heapF [(1, .box (stL (((stepP prog sk).1).pc) (((stepP prog sk).1).r) (((stepP prog sk).1).mem) (((stepP prog sk).1).halt))), (18, .box [vU (((stepP prog sk).2).pc), vU (((stepP prog sk).2).next), vI (((stepP prog sk).2).rd), vU (((stepP prog sk).2).value), vU (((stepP prog sk).2).addr), vI (((stepP prog sk).2).size), .v (.bool (((stepP prog sk).2).store)), vI (((stepP prog sk).2).halt), vI (((stepP prog sk).2).took)])], 23⟩ : ASt).t) (h := (⟨slotsF [(0, .v (.func (.yield l) #[] #[])), (1, .dp 35 0 ((stL s0.pc s0.r s0.mem s0.halt))), (2, .dp 1 0 ([vI nI])), (3, .dp 1 0 ([.sl 1 (prog.map rowU) clip])), (5, .ptr 1 0), (6, vN k), (8, .ptr 18 0)], heapF [(1, .box (stL (((stepP prog sk).1).pc) (((stepP prog sk).1).r) (((stepP prog sk).1).mem) (((stepP prog sk).1).halt))), (18, .box [vU (((stepP prog sk).2).pc), vU (((stepP prog sk).2).next), vI (((stepP prog sk).2).rd), vU (((stepP prog sk).2).value), vU (((stepP prog sk).2).addr), vI (((stepP prog sk).2).size), .v (.bool (((stepP prog sk).2).store)), vI (((stepP prog sk).2).halt), vI (((stepP prog sk).2).took)])], 23⟩ : ASt).h) (n := 23) (fok_wide _) c0Ok rfl (by kernel_rfl) (by kernel_rfl) _ (List.take 3 _) 0 a4 A4 S4 _ (by rw [List.take_append_drop]) (K := fun st => Weak st ⟨slotsF [(0, .v (.func (.yield l) #[] #[])), (1, .dp 35 0 ((stL s0.pc s0.r s0.mem s0.halt))), (2, .dp 1 0 ([vI nI])), (3, .dp 1 0 ([.sl 1 (prog.map rowU) clip])), (5, .ptr 1 0), (6, vN k), (8, .ptr 18 0), (27, .v (.func (.yield l) #[] #[])), (28, .agg (stL (((stepP prog sk).1).pc) (((stepP prog sk).1).r) (((stepP prog sk).1).mem) (((stepP prog sk).1).halt))), (29, .agg [vU (((stepP prog sk).2).pc), vU (((stepP prog sk).2).next), vI (((stepP prog sk).2).rd), vU (((stepP prog sk).2).value), vU (((stepP prog sk).2).addr), vI (((stepP prog sk).2).size), .v (.bool (((stepP prog sk).2).store)), vI (((stepP prog sk).2).halt), vI (((stepP prog sk).2).took)])], heapF [(1, .box (stL (((stepP prog sk).1).pc) (((stepP prog sk).1).r) (((stepP prog sk).1).mem) (((stepP prog sk).1).halt))), (18, .box [vU (((stepP prog sk).2).pc), vU (((stepP prog sk).2).next), vI (((stepP prog sk).2).rd), vU (((stepP prog sk).2).value), vU (((stepP prog sk).2).addr), vI (((stepP prog sk).2).size), .v (.bool (((stepP prog sk).2).store)), vI (((stepP prog sk).2).halt), vI (((stepP prog sk).2).took)])], 26⟩ (fun s => s)) ?_ X4 fun st5 a5 A5 S5 β5 hW5 X5 => ?_))
  · skip
    refine rO 27 (.v (.func (.yield l) #[] #[])) ?_
    refine rO 28 (.agg (stL (((stepP prog sk).1).pc) (((stepP prog sk).1).r) (((stepP prog sk).1).mem) (((stepP prog sk).1).halt))) ?_
    refine rO 29 (.agg [vU (((stepP prog sk).2).pc), vU (((stepP prog sk).2).next), vI (((stepP prog sk).2).rd), vU (((stepP prog sk).2).value), vU (((stepP prog sk).2).addr), vI (((stepP prog sk).2).size), .v (.bool (((stepP prog sk).2).store)), vI (((stepP prog sk).2).halt), vI (((stepP prog sk).2).took)]) ?_
    refine rE 26 ?_
    exact Weak.of_lists (fun s => s) ⟨⟨rfl, rfl⟩, ⟨rfl, rfl⟩, ⟨rfl, rfl⟩, ⟨rfl, rfl⟩, ⟨rfl, rfl⟩, ⟨rfl, rfl⟩, ⟨rfl, rfl⟩, ⟨rfl, rfl⟩, ⟨rfl, rfl⟩, ⟨rfl, rfl⟩, trivial⟩ ⟨⟨rfl, rfl, rfl⟩, ⟨rfl, rfl, rfl⟩, trivial⟩ rfl
  -- the round
  have X6 := X5.weak hW5
  have hS6 := kept X6
  have hJ6 : J C pre A5 := hJ C pre A A5 H.j hS6
  have hy := hY C pre (stepP prog sk) A5 hJ6 ⟨_, hxs⟩
  obtain ⟨cs5, e5, fr5, g1, g2, g3, g4⟩ := X6.box (i := 5) (s := 1) (lo := lo) (cells := stL (stepP prog sk).1.pc (stepP prog sk).1.r (stepP prog sk).1.mem (stepP prog sk).1.halt) rfl ((X6.tm 5 rfl).trans H.t5) rfl
  have hlo5 : lo.blk < A5.heap.size := (Array.getElem?_eq_some_iff.1 g1).1
  show wpOpsIn _ _ _ _ _ [3, 4] _ _
  refine wpOpsIn_cons rfl rfl (wpIn_yield (m := 1) (f := .tmp 27) (fok_wide _) rfl (rep_v (X6.M.T 27)) ?_ hy ?_)
  · have e1 : a5.eval (.tmp 28) = stV (stepP prog sk).1 := valF_eq (stV_eq (stepP prog sk).1) (X6.M.T 28)
    have e2 : a5.eval (.tmp 29) = spV (stepP prog sk).2 := valF_eq (spV_eq (stepP prog sk).2) (X6.M.T 29)
    show Array.map a5.eval #[.tmp 28, .tmp 29] = #[stV (stepP prog sk).1, spV (stepP prog sk).2]
    rw [List.map_toArray]
    simp only [List.map_cons, List.map_nil, e1, e2]
  rintro B ⟨C', hJB, hsB, hgB⟩
  have hloC : ¬ C' lo.blk := fun h => (hgB _ h).elim H.nC (fun h => by omega)
  have hRB : Same R w B := (H.rs.trans (hS6.mono fun x _ hr => .inl (hRlW x hr))).trans (hsB.mono fun x _ hr => H.cR x hr)
  have hWB : W.heap.size ≤ B.heap.size := Nat.le_trans H.wsz (Nat.le_trans hS6.size hsB.size)
  have hput : ∀ i, i ≠ 30 → (a5.put (some 30) (.bool true)).tmps.getD i undef = a5.tmps.getD i undef := fun i hi =>
    put_keep (kp := fun i => !Nat.beq i 30) a5 (some 30) _ (fun k hk => by injection hk with hk; subst hk; rfl) i (by
      cases hb : Nat.beq i 30 with
      | true => exact absurd (Nat.eq_of_beq_eq_true hb) hi
      | false => rfl)
  have hput30 : (a5.put (some 30) (.bool true)).tmps.getD 30 undef = .bool true := by
    have := X6.M.sz
    simp [Act.put, Array.getD_eq_getD_getElem?, this]
  have hRS : ∀ b, R b → b < B.heap.size ∧ b ≠ lo.blk := fun b hb => ⟨Nat.lt_of_lt_of_le (hRlW b hb) hWB, fun e => by have := hRlW b hb; have := H.lo1; omega⟩
  have X7 := simx_mk (C := C0) (N := 32) (kp := kp5) (S := fun b => b < B.heap.size ∧ b ≠ lo.blk) (β := oneB 1 lo) (n := 7) (w := B) (L := [(0, .v (.func (.yield l) #[] #[])), (1, .dp 35 0 ((stL s0.pc s0.r s0.mem s0.halt))), (2, .dp 1 0 ([.v (.int .i64 nI)])), (3, .dp 1 0 ([.sl 1 (prog.map rowU) clip])), (5, .ptr 1 0), (6, .v (.int .i64 ((k : Nat) : Int))), (30, .v (.bool true))]) (hp := [(1, .box (stL (((stepP prog sk).1).pc) (((stepP prog sk).1).r) (((stepP prog sk).1).mem) (((stepP prog sk).1).halt)))]) (a := a5.put (some 30) (.bool true))
    (by
      intro p hp
      simp only [List.mem_cons, List.not_mem_nil, or_false] at hp
      rcases hp with rfl | rfl | rfl | rfl | rfl | rfl | rfl
      · show Rep _ _ _ _ ((a5.put (some 30) (.bool true)).tmps.getD 0 undef); rw [hput 0 (by decide), X6.tm 0 rfl, H.t0]; exact .v _
      · show Rep _ _ _ _ ((a5.put (some 30) (.bool true)).tmps.getD 1 undef); rw [hput 1 (by decide), X6.tm 1 rfl, H.t1]; exact base r1 hRB hRS
      · show Rep _ _ _ _ ((a5.put (some 30) (.bool true)).tmps.getD 2 undef); rw [hput 2 (by decide), X6.tm 2 rfl, H.t2]; exact base r2 hRB hRS
      · show Rep _ _ _ _ ((a5.put (some 30) (.bool true)).tmps.getD 3 undef); rw [hput 3 (by decide), X6.tm 3 rfl, H.t3]; exact base r3 hRB hRS
      · show Rep _ _ _ _ ((a5.put (some 30) (.bool true)).tmps.getD 5 undef); rw [hput 5 (by decide), X6.tm 5 rfl, H.t5]; exact .ptr 1 0 lo (by simp [oneB])
      · show Rep _ _ _ _ ((a5.put (some 30) (.bool true)).tmps.getD 6 undef); rw [hput 6 (by decide), rep_v (X6.M.T 6)]; exact .v _
      · show Rep _ _ _ _ ((a5.put (some 30) (.bool true)).tmps.getD 30 undef); rw [hput30]; exact .v _)
    (simH_one ((hsB.block _ hlo5 H.nC).trans g1) g2 (fun h => h.2 rfl) (fun b h => h.1) (inblk_flat g3 rfl))
    (fun x l h => by (unfold oneB at h; split at h); (omega); (cases h)) X6.M.df (by simp only [Act.put, Array.size_setIfInBounds]; exact X6.M.sz) (baseG hRB hRS)
  refine part_soundIn (m := 2) (t := (⟨slotsF [(0, .v (.func (.yield l) #[] #[])), (1, .dp 35 0 ((stL s0.pc s0.r s0.mem s0.halt))), (2, .dp 1 0 ([vI nI])), (3, .dp 1 0 ([.sl 1 (prog.map rowU) clip])), (5, .ptr 1 0), (6, vN k), (30, .v (.bool true))], heapF [(1, .box (stL (((stepP prog sk).1).pc) (((stepP prog sk).1).r) (((stepP prog sk).1).mem) (((stepP prog sk).1).halt)))], 3⟩ : ASt).t) (h := (⟨slotsF [(0, .v (.func (.yield l) #[] #[])), (1, .dp 35 0 ((stL s0.pc s0.r s0.mem s0.halt))), (2, .dp 1 0 ([vI nI])), (3, .dp 1 0 ([.sl 1 (prog.map rowU) clip])), (5, .ptr 1 0), (6, vN k), (30, .v (.bool true))], heapF [(1, .box (stL (((stepP prog sk).1).pc) (((stepP prog sk).1).r) (((stepP prog sk).1).mem) (((stepP prog sk).1).halt)))], 3⟩ : ASt).h) (n := 3) (fok_wide _) c0Ok rfl (by kernel_rfl) (by kernel_rfl) [] (List.drop 4 _) 4 (a5.put (some 30) (.bool true)) B _ _ (by rw [List.append_nil]) (K := fun st => Weak st ⟨slotsF [(0, .v (.func (.yield l) #[] #[])), (1, .dp 35 0 ((stL s0.pc s0.r s0.mem s0.halt))), (2, .dp 1 0 ([vI nI])), (3, .dp 1 0 ([.sl 1 (prog.map rowU) clip])), (5, .ptr 1 0), (6, vN k), (31, .v (.bool (!true)))], heapF [(1, .box (stL (((stepP prog sk).1).pc) (((stepP prog sk).1).r) (((stepP prog sk).1).mem) (((stepP prog sk).1).halt)))], 8⟩ (fun s => s)) ?_ X7 fun st8 a8 A8 S8 β8 hW8 X8 => ?_
  · skip
    refine rO 31 (.v (.bool (!true))) ?_
    refine rE 8 ?_
    exact Weak.of_lists (fun s => s) ⟨⟨rfl, rfl⟩, ⟨rfl, rfl⟩, ⟨rfl, rfl⟩, ⟨rfl, rfl⟩, ⟨rfl, rfl⟩, ⟨rfl, rfl⟩, ⟨rfl, rfl⟩, trivial⟩ ⟨⟨rfl, rfl, rfl⟩, trivial⟩ rfl
  replace X8 := X8.weak hW8
  refine wpIn_cond_split (t := !true) (rep_v (X8.M.T 31)) (fun h => by cases h) (fun _ => wpIn_skip ?_)
  replace X8 := X8.weak (st := ⟨slotsF [(0, .v (.func (.yield l) #[] #[])), (1, .dp 35 0 ((stL s0.pc s0.r s0.mem s0.halt))), (2, .dp 1 0 ([.v (.int .i64 nI)])), (3, .dp 1 0 ([.sl 1 (prog.map rowU) clip])), (5, .ptr 1 0), (6, .v (.int .i64 ((k : Nat) : Int))), (31, .v (.bool (!true)))], heapF [(1, .box (stL (((stepP prog sk).1).pc) (((stepP prog sk).1).r) (((stepP prog sk).1).mem) (((stepP prog sk).1).halt)))], 8⟩) (st' := ⟨slotsF [(0, .v (.func (.yield l) #[] #[])), (1, .dp 35 0 ((stL s0.pc s0.r s0.mem s0.halt))), (2, .dp 1 0 ([.v (.int .i64 nI)])), (3, .dp 1 0 ([.sl 1 (prog.map rowU) clip])), (5, .ptr 1 0), (6, .v (.int .i64 ((k : Nat) : Int)))], heapF [(1, .box (stL (((stepP prog sk).1).pc) (((stepP prog sk).1).r) (((stepP prog sk).1).mem) (((stepP prog sk).1).halt)))], 8⟩) (Weak.of_lists (fun s => s) ⟨⟨rfl, rfl⟩, ⟨rfl, rfl⟩, ⟨rfl, rfl⟩, ⟨rfl, rfl⟩, ⟨rfl, rfl⟩, ⟨rfl, rfl⟩, trivial⟩ ⟨⟨rfl, rfl, rfl⟩, trivial⟩ rfl)
  refine (seg (st := ⟨slotsF [(0, .v (.func (.yield l) #[] #[])), (1, .dp 35 0 ((stL s0.pc s0.r s0.mem s0.halt))), (2, .dp 1 0 ([vI nI])), (3, .dp 1 0 ([.sl 1 (prog.map rowU) clip])), (5, .ptr 1 0), (6, vN k)], heapF [(1, .box (stL (((stepP prog sk).1).pc) (((stepP prog sk).1).r) (((stepP prog sk).1).mem) (((stepP prog sk).1).halt)))], 8⟩) (st' := ⟨slotsF [(0, .v (.func (.yield l) #[] #[])), (1, .dp 35 0 ((stL s0.pc s0.r s0.mem s0.halt))), (2, .dp 1 0 ([vI nI])), (3, .dp 1 0 ([.sl 1 (prog.map rowU) clip])), (5, .ptr 1 0), (6, vN (k + 1))], heapF [(1, .box (stL (((stepP prog sk).1).pc) (((stepP prog sk).1).r) (((stepP prog sk).1).mem) (((stepP prog sk).1).halt)))], 11⟩) (fok_wide _) c0Ok (by kernel_rfl) X8 ?_ fun a9 A9 S9 β9 X9 => ?_ : Code.wpIn _ _ _ _ _ _ _)
  · skip
    refine cR ?_
    refine rO 18 (vN k) ?_
    refine rO 19 (vI (IntKind.wrap .i64 (((k : Nat) : Int) + 1))) ?_
    refine rO 6 (vI (IntKind.wrap .i64 (((k : Nat) : Int) + 1))) ?_
    refine rE 11 ?_
    exact ⟨rfl, Weak.of_lists (fun s => s) ⟨⟨rfl, rfl⟩, ⟨rfl, rfl⟩, ⟨rfl, rfl⟩, ⟨rfl, rfl⟩, ⟨rfl, rfl⟩, ⟨slot_inc k (by have := H.kn; omega), rfl⟩, trivial⟩ ⟨⟨rfl, rfl, rfl⟩, trivial⟩ rfl⟩
  have hS9 : Same (fun b => b < W.heap.size ∨ C' b) B A9 := (X9.same rfl rfl rfl).mono fun x hx hx' => ⟨hx, fun e => hx'.elim (fun h => by have := H.lo1; omega) fun h => hloC (e ▸ h)⟩
  obtain ⟨cs9, e9, fr9, q1, q2, q3, q4⟩ := X9.box (i := 5) (s := 1) (lo := lo) (cells := stL (stepP prog sk).1.pc (stepP prog sk).1.r (stepP prog sk).1.mem (stepP prog sk).1.halt) rfl ((X9.tm 5 rfl).trans ((hput 5 (by decide)).trans ((X6.tm 5 rfl).trans H.t5))) rfl
  refine ⟨⟨k + 1, (stepP prog sk).1, pre ++ [stepP prog sk], C', lo, ⟨X9.M.df, X9.M.sz, (X9.tm 0 rfl).trans ((hput 0 (by decide)).trans ((X6.tm 0 rfl).trans H.t0)), (X9.tm 1 rfl).trans ((hput 1 (by decide)).trans ((X6.tm 1 rfl).trans H.t1)), (X9.tm 2 rfl).trans ((hput 2 (by decide)).trans ((X6.tm 2 rfl).trans H.t2)), (X9.tm 3 rfl).trans ((hput 3 (by decide)).trans ((X6.tm 3 rfl).trans H.t3)),
    (X9.tm 5 rfl).trans ((hput 5 (by decide)).trans ((X6.tm 5 rfl).trans H.t5)), rep_v (X9.M.T 6), hRB.trans (hS9.mono fun x _ hr => .inl (hRlW x hr)), Nat.le_trans hWB hS9.size, ⟨cs9, e9, fr9, q1, q2, inblk_flat q3 rfl⟩, H.lo1, hloC, fun b hb h => (hgB b h).elim (H.cR b hb) (fun h => by have := hRlW b hb; have := H.wsz; have := hS6.size; omega), hJ C' _ B A9 hJB hS9, by omega, stepP_ok H.ok, hxs⟩⟩, ?_⟩
  have e6 : a9.tmps.getD 6 undef = .int .i64 ((k + 1 : Nat) : Int) := rep_v (X9.M.T 6)
  have m1 : muI nI a9 = nI.toNat - (k + 1) := by unfold muI; rw [e6]; rfl
  have m2 : muI nI a = nI.toNat - k := by unfold muI; rw [H.t6]; rfl
  show muI nI a9 < muI nI a
  rw [m1, m2]
  omega

end
end Go.Proofs.YtahnhhbgkmlfcaaDoor

namespace Go.Proofs.YtahnhhbgkmlfcaaDoor
open Go.RowKit

/-- What a function comes to that returns a value and a slice of new memory. -/
def OCall (C : Ctx) (f : FuncId) (args : List AV) (c : AV) (rs : Nat) (rows : List (List AV)) : Prop :=
  (∃ fn, C.P.funcs[f]? = some fn ∧ fn.body.isSome = true ∧ (fn.name == "runtime.NumGoroutine") = false) ∧
  ∀ (S : Nat → Prop) (w : World) (vs : List Value), (∀ b, S b → b < w.heap.size) → GOk C S w → RepL S w noB args vs →
    Calls C.P f vs.toArray w fun e w' => ∃ v1 v2 S' l, e = .returned (.tuple #[v1, v2]) ∧ Below w.heap.size w w' ∧ Rep S' w' noB c v1 ∧ Rep S' w' (fun _ => some l) (.osl 0 0 rows.length false) v2 ∧
      SimH w.heap.size S' w' (fun _ => some l) (upd (fun _ => none) 0 (some (.arr rows rs))) ∧ (∀ b, S b → S' b) ∧ (∀ b, S' b → S b ∨ w.heap.size ≤ b)

/-- The memory of the call's own is given up: one slice of it stays, as known data. -/
inductive Frz (st : ASt) (K : ASt → Prop) : Prop
  | mk (i : Nat) (x : AV) (hx : datA st.h (st.t i) = x) (hl : lenOkA st.h (st.t i)) (k : K ⟨upd st.t i x, fun _ => none, st.n⟩)

/-- A call that gives new memory. -/
inductive OwnK (C : Ctx) (all : List Oper) (k : Nat) (K : ASt → Prop) (st : ASt) : Prop
  | mk (o : Oper) (d : Nat) (f : FuncId) (args : List AV) (c : AV) (rs : Nat) (rows : List (List AV)) (ho : all[k]? = some o) (hg : o.guard = none) (hd : o.dst = some d) (hop : opA C (evA C st.t) st.h st.n o.op = .call f args) (hcl : closedL args = true) (hno : noOwnL args = true)
      (hc : OCall C f args c rs rows)
      (hk : regA C (DCall C) all (all.drop (k + 1)) 0 ⟨upd st.t d (.tup [c, .osl st.n 0 rows.length false]), upd st.h st.n (some (.arr rows rs)), st.n + 1⟩ K)
def regN (C : Ctx) (all : List Oper) (k : Nat) (st : ASt) (K : ASt → Prop) : Prop := regA C (DCall C) all (all.take k) 0 st (OwnK C all k K)

inductive StepN (C : Ctx) (a : Code) (st : ASt) (Q : AEx → ASt → Prop) : Prop
  | plain (h : codeA C (DCall C) a st Q)
  | frz (h : codeA C (DCall C) a st (fun e st' => match e with | .normal => Frz st' (Q .normal) | e => Q e st'))
  | own (id : Nat) (ops : Array Oper) (k : Nat) (ha : a = .region id ops false) (hk : k < ops.size) (h : regN C ops.toList k st (Q .normal))
  | late (id : Nat) (ops : Array Oper) (ha : a = .region id ops true) (h : regA C (DCall C) ops.toList ops.toList 0 st (fun st' => drawOk2 ops.toList st'.t = true ∧ Q .normal st'))
def codeN (C : Ctx) : Nat → Code → ASt → (AEx → ASt → Prop) → Prop
  | 0, c, st, Q => codeA C (DCall C) c st Q
  | k + 1, .seq a b, st, Q => StepN C a st (fun e st' => match e with | .normal => codeN C k b st' Q | e => Q e st')
  | _ + 1, _, _, _ => False

section
variable {C : Ctx} {N : Nat} {w0 : World} {S0 : Nat → Prop}

end
end Go.Proofs.YtahnhhbgkmlfcaaDoor
