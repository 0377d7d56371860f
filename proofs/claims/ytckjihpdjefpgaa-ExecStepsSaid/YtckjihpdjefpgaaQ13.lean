/- ExecSteps, plainly: an entry that is gone on with tells the step. -/
import Derived.Test.YtckjihpdjefpgaaQ12
namespace Go.Proofs.Ytckjihpdjefpgaa
open Go.RowKit

def adS (w : Nat) (r : Nat → Nat) : Nat := (r (decN w).rs1.toNat + (decN w).imm) % 4294967296
def spI (x : Sp) : ToI := ⟨x.pc, x.next, x.rd, x.value, x.addr, x.size, x.store, x.halt, x.took⟩

theorem goN_keep : ∀ (k : Nat) (e : En), (goN k e).pc = e.pc ∧ (goN k e).imm = e.imm
  | 0, _ => ⟨rfl, rfl⟩
  | k + 1, e => by
    obtain ⟨_, _, _, h1, _, _, _, _, h2, _⟩ := go_stays e
    have := goN_keep k (goP e)
    exact ⟨this.1.trans h1, this.2.trans h2⟩
theorem store_keep (e : En) (v : Nat) : (storeP e v).pc = e.pc ∧ (storeP e v).imm = e.imm := by
  obtain ⟨_, _, _, h1, _, _, _, _, h2, _⟩ := store_stays e v
  exact ⟨h1, h2⟩
theorem take_keep (e : En) (v : Nat) : (takeP e v).pc = e.pc ∧ (takeP e v).imm = e.imm ∧ (takeP e v).op = e.op := by
  obtain ⟨_, _, _, h1, h3, _, _, _, h2, _⟩ := take_stays e v
  exact ⟨h1, h2, h3⟩
theorem en1_keep (w A : Nat) (r : Nat → Nat) (m : ByteArray) : (en1 w A r m).pc = 4 * A ∧ (en1 w A r m).imm = (decN w).imm ∧ (en1 w A r m).op = (decN w).op := by
  unfold en1
  obtain ⟨_, _, _, a1, a3, _, _, _, a2, _⟩ := addr_stays (startP (en0 w A) (r (decN w).rs1.toNat) (r (decN w).rs2.toNat)) (m.size : Nat) (r (decN w).rs1.toNat)
  obtain ⟨_, _, _, b1, b3, _, _, _, b2, _⟩ := start_stays (en0 w A) (r (decN w).rs1.toNat) (r (decN w).rs2.toNat)
  exact ⟨a1.trans b1, a2.trans b2, a3.trans b3⟩
theorem keepZ (k A : Nat) (w : Nat) (r : Nat → Nat) (m : ByteArray) (v : Nat) (hA : A ≤ 20) (hi : (decN w).imm ≤ 4294967295) : (goN k (storeP (en1 w A r m) v)).pc ≤ 4294967295 ∧ (goN k (storeP (en1 w A r m) v)).imm ≤ 4294967295 := by
  obtain ⟨a1, a2⟩ := goN_keep k (storeP (en1 w A r m) v)
  obtain ⟨b1, b2⟩ := store_keep (en1 w A r m) v
  obtain ⟨c1, c2, _⟩ := en1_keep w A r m
  rw [a1, a2, b1, b2, c1, c2]
  exact ⟨by omega, hi⟩
theorem keepZ2 (k A : Nat) (w : Nat) (r : Nat → Nat) (m : ByteArray) (u v : Nat) (hA : A ≤ 20) (hi : (decN w).imm ≤ 4294967295) : (goN k (storeP (takeP (en1 w A r m) u) v)).pc ≤ 4294967295 ∧ (goN k (storeP (takeP (en1 w A r m) u) v)).imm ≤ 4294967295 := by
  obtain ⟨a1, a2⟩ := goN_keep k (storeP (takeP (en1 w A r m) u) v)
  obtain ⟨b1, b2⟩ := store_keep (takeP (en1 w A r m) u) v
  obtain ⟨d1, d2, _⟩ := take_keep (en1 w A r m) u
  obtain ⟨c1, c2, _⟩ := en1_keep w A r m
  rw [a1, a2, b1, b2, d1, d2, c1, c2]
  exact ⟨by omega, hi⟩
theorem known_of {a : Bool} {n : Nat} (h : cond2 a (n == 3) false = true) : a = true ∧ n = 3 := by cases a <;> simp [cond2] at h ⊢; exact h
theorem known_not {a : Bool} {n : Nat} (h : cond2 a (n == 3) false = false) : ¬ (n = 3 ∧ a = true) := by rintro ⟨h1, h2⟩; subst h1; subst h2; cases h
theorem dec_of {w n : Nat} (h : cond2 (decE w != 0) true (n == 6) = false) : opOf w ≠ 0 ∧ n ≠ 6 := by
  have hd : decE w = 0 := by
    by_cases hq : decE w = 0
    · exact hq
    · rw [show (decE w != 0) = true by simpa using hq] at h; cases h
  rw [hd] at h
  refine ⟨fun e => ?_, fun e => by subst e; cases h⟩
  unfold decE at hd
  rw [if_pos e] at hd
  cases hd
theorem fin_ok {z : En} {sp : Sp} (h1 : z.is = 3) (h2 : toI z = spI sp) : cond2 (cond2 true (z.is == 3) false) (((toI z).pc == ((sp.pc : Nat) : Int)) && (((toI z).next == ((sp.next : Nat) : Int)) && (((toI z).rd == sp.rd) && (((toI z).value == ((sp.value : Nat) : Int)) && (((toI z).addr == ((sp.addr : Nat) : Int)) && (((toI z).size == sp.size) && (((toI z).store == sp.store) && (((toI z).halt == sp.halt) && (((toI z).took == sp.took) && true))))))))) false = true := by
  rw [h2, h1]; simp [cond2, spI]
theorem readP_lt2 (m : ByteArray) (a n : Nat) (hm : m.size ≤ 256) : (readP m a n).size < 9223372036854775808 := by
  unfold readP
  rw [ByteArray.size_extract]
  omega
theorem goN_still {e : En} (h : e.is ≠ 1) : ∀ k, goN k e = e
  | 0 => rfl
  | k + 1 => by show goN k (goP e) = e; rw [show goP e = e from by unfold goP; rw [if_pos h]]; exact goN_still h k
theorem goN_aged (x : En) (L : Nat) (hx : x.is = 1) (hL : L ≤ 50) : ∀ k, k ≤ L → goN k (agedP x L 0) = agedP x L k
  | 0, _ => rfl
  | k + 1, h => by rw [goN_succ, goN_aged x L hx hL k (by omega), go_aged x L k hx (by omega) hL]
theorem goN_add : ∀ (j k : Nat) (e : En), goN (j + k) e = goN k (goN j e)
  | 0, k, e => by rw [Nat.zero_add]; rfl
  | j + 1, k, e => by rw [show j + 1 + k = (j + k) + 1 by omega]; exact goN_add j k (goP e)
theorem goN_done (x : En) (L : Nat) (hx : x.is = 1) (hl : x.left = (L : Int)) (h1 : 1 ≤ L) (h2 : L ≤ 40) : goN 40 x = { x with left := 0, is := 3, known := if kindOf x.op = 5 ∧ x.halt = 0 then true else x.known } := by
  have h0 : agedP x L 0 = x := by
    unfold agedP
    rw [if_pos (by omega)]
    obtain ⟨no, pc, op, rd, rs1, rs2, imm, guess, is, left, value, next, addr, halt, took, known, filled⟩ := x
    simp only at hl ⊢
    congr 1
    omega
  have h3 := goN_aged x L hx (by omega) L (Nat.le_refl _)
  rw [h0] at h3
  have h4 : agedP x L L = { x with left := 0, is := 3, known := if kindOf x.op = 5 ∧ x.halt = 0 then true else x.known } := by unfold agedP; rw [if_neg (by omega)]
  rw [show (40 : Nat) = L + (40 - L) by omega, goN_add, h3, h4]
  exact goN_still (by show (3 : Int) ≠ 1; decide) _

section
variable {w A : Nat} {r : Nat → Nat} {m : ByteArray}
theorem en1_known (hk : kindOf (decN w).op = 3) (hkn : (en1 w A r m).known = true) : (en1 w A r m).addr = ((adS w r : Nat) : Int) ∧ adS w r + sizeOf' (decN w).op ≤ m.size := by
  have hs : startP (en0 w A) (r (decN w).rs1.toNat) (r (decN w).rs2.toNat) = en0 w A := by unfold startP; rw [if_pos (.inr (.inl hk))]
  unfold en1 at hkn ⊢
  rw [hs] at hkn ⊢
  unfold addrP at hkn ⊢
  have hc : ¬ ((kindOf (en0 w A).op ≠ 3 ∧ kindOf (en0 w A).op ≠ 4) ∨ (en0 w A).is ≠ 0 ∨ (en0 w A).known = true) := by
    show ¬ ((kindOf (decN w).op ≠ 3 ∧ kindOf (decN w).op ≠ 4) ∨ (0 : Int) ≠ 0 ∨ false = true)
    simp [hk]
  rw [if_neg hc] at hkn ⊢
  by_cases hr : rightP (m.size : Nat) ((r (decN w).rs1.toNat + (en0 w A).imm) % 4294967296) (sizeOf' (en0 w A).op) = true
  · rw [if_pos hr]
    refine ⟨rfl, ?_⟩
    have hr' : rightP (m.size : Nat) (adS w r) (sizeOf' (decN w).op) = true := hr
    unfold rightP at hr'
    simp only [Bool.and_eq_true, decide_eq_true_eq] at hr'
    omega
  · rw [if_neg hr] at hkn
    cases hkn

theorem step_is (hw : opOf w ≠ 0) (h6 : kindOf (decN w).op ≠ 6) : stepP (prS w A) (stS w A r m) = if kindOf (decN w).op = 3 ∨ kindOf (decN w).op = 4 then accessP (stS w A r m) (decN w) (r (decN w).rs1.toNat) (r (decN w).rs2.toNat) else reckonP (stS w A r m) (decN w) (r (decN w).rs1.toNat) (r (decN w).rs2.toNat) := by
  have hf : fetchP (prS w A) (4 * A) = some w := by
    unfold fetchP
    rw [if_pos (by omega), show 4 * A / 4 = A by omega]
    unfold prS
    rw [List.getElem?_append_right (by simp)]
    simp
  have hW : fetchW (prS w A) (4 * A) = w := by unfold fetchW; rw [hf]; rfl
  unfold stepP
  rw [if_pos (show (stS w A r m).halt = 0 from rfl), if_pos (show (fetchP (prS w A) (stS w A r m).pc).isSome = true from by show (fetchP (prS w A) (4 * A)).isSome = true; rw [hf]; rfl)]
  rw [show fetchW (prS w A) (stS w A r m).pc = w from hW, if_neg hw]
  have hi : insOf (prS w A) (stS w A r m) = decN w := by unfold insOf; exact congrArg decN hW
  rw [hi]
  unfold doI
  rw [if_neg (fun e => h6 (by rw [e]; decide)), if_neg (fun e => h6 (by rw [e]; decide))]
  rfl

theorem kind_cases (op : Int) (h6 : kindOf op ≠ 6) : kindOf op = 0 ∨ kindOf op = 1 ∨ (kindOf op = 2 ∧ 42 ≤ op ∧ op ≤ 45) ∨ kindOf op = 3 ∨ kindOf op = 4 ∨ kindOf op = 5 := by
  unfold kindOf at h6 ⊢
  repeat' split
  all_goals first | (simp; done) | (simp; omega) | omega | simp_all

/-- The entry at the law's end: of a load that may be, and of any other. -/
def enZ (w A : Nat) (r : Nat → Nat) (m : ByteArray) (e : En) : En := goN 40 (storeP e (lowP (r (decN w).rs2.toNat) (sizeOf' (decN w).op)))
theorem steps_law (hw : opOf w ≠ 0) (h6 : kindOf (decN w).op ≠ 6) (hA : A ≤ 20) (hr : ∀ k, r k ≤ 4294967295) :
    ((kindOf (decN w).op = 3 ∧ (en1 w A r m).known = true) → (enZ w A r m (takeP (en1 w A r m) (loadP (decN w).op (readP m (adS w r) (sizeOf' (decN w).op))))).is = 3 ∧ toI (enZ w A r m (takeP (en1 w A r m) (loadP (decN w).op (readP m (adS w r) (sizeOf' (decN w).op))))) = spI (stepP (prS w A) (stS w A r m)).2) ∧
    (¬ (kindOf (decN w).op = 3 ∧ (en1 w A r m).known = true) → (enZ w A r m (en1 w A r m)).is = 3 ∧ toI (enZ w A r m (en1 w A r m)) = spI (stepP (prS w A) (stS w A r m)).2) := by
  rw [step_is hw h6]
  have hup : up4 (4 * A) = (4 * A + 4) % 4294967296 := rfl
  have hwr : wrP (decN w).op (decN w).rd = wr (decN w) := rfl
  rcases kind_cases (decN w).op h6 with hk | hk | ⟨hk, hd1, hd2⟩ | hk | hk | hk
  -- what goes to memory
  case inr.inr.inr.inl =>
    rw [if_pos (.inl hk)]
    have hs : startP (en0 w A) (r (decN w).rs1.toNat) (r (decN w).rs2.toNat) = en0 w A := by unfold startP; rw [if_pos (.inr (.inl hk))]
    have hc : ¬ ((kindOf (en0 w A).op ≠ 3 ∧ kindOf (en0 w A).op ≠ 4) ∨ (en0 w A).is ≠ 0 ∨ (en0 w A).known = true) := by
      show ¬ ((kindOf (decN w).op ≠ 3 ∧ kindOf (decN w).op ≠ 4) ∨ (0 : Int) ≠ 0 ∨ false = true)
      simp [hk]
    by_cases hrt : rightP (m.size : Nat) (adS w r) (sizeOf' (decN w).op) = true
    · have he : en1 w A r m = { en0 w A with addr := ((adS w r : Nat) : Int), known := true } := by unfold en1; rw [hs]; unfold addrP; rw [if_neg hc, if_pos (show rightP (m.size : Nat) ((r (decN w).rs1.toNat + (en0 w A).imm) % 4294967296) (sizeOf' (en0 w A).op) = true from hrt)]; rfl
      refine ⟨fun _ => ?_, fun h => absurd ⟨hk, by rw [he]⟩ h⟩
      rw [he]
      generalize hv : loadP (decN w).op (readP m (adS w r) (sizeOf' (decN w).op)) = v
      have ht : takeP { en0 w A with addr := ((adS w r : Nat) : Int), known := true } v = { en0 w A with addr := ((adS w r : Nat) : Int), known := true, is := 1, left := 1, value := if wr (decN w) = 0 then 0 else (v : Int) } := by
        unfold takeP
        rw [if_neg (by show ¬ (kindOf (decN w).op ≠ 3 ∨ true = false ∨ ((0 : Int) ≠ 0 ∧ (0 : Int) ≠ 2)); simp [hk])]
        rfl
      rw [ht]
      unfold enZ
      have hst : ∀ v', storeP { en0 w A with addr := ((adS w r : Nat) : Int), known := true, is := 1, left := 1, value := if wr (decN w) = 0 then 0 else (v : Int) } v' = { en0 w A with addr := ((adS w r : Nat) : Int), known := true, is := 1, left := 1, value := if wr (decN w) = 0 then 0 else (v : Int) } := fun v' => by
        unfold storeP
        rw [if_pos (.inl (by show kindOf (decN w).op ≠ 4; omega))]
      rw [hst, goN_done _ 1 rfl rfl (by omega) (by omega)]
      refine ⟨rfl, ?_⟩
      unfold accessP
      rw [if_pos (show rightP ((stS w A r m).mem.size : Int) (addrOf (decN w) (r (decN w).rs1.toNat)) (sizeOf' (decN w).op : Nat) = true from hrt), if_neg (show ¬ kindOf (decN w).op = 4 by omega)]
      have hrd : readP (stS w A r m).mem (addrOf (decN w) (r (decN w).rs1.toNat)) (sizeOf' (decN w).op) = readP m (adS w r) (sizeOf' (decN w).op) := rfl
      unfold toI
      simp only [en0, hk]
      by_cases hz : wr (decN w) = 0
      · rw [if_pos hz]
        simp [spI, hwr, hz, stS, addrOf, adS]
      · rw [if_neg hz, hrd, hv]
        simp [spI, hwr, hz, stS, addrOf, adS]
    · have he : en1 w A r m = { en0 w A with addr := ((adS w r : Nat) : Int), halt := 4, is := 3 } := by unfold en1; rw [hs]; unfold addrP; rw [if_neg hc, if_neg (show ¬ rightP (m.size : Nat) ((r (decN w).rs1.toNat + (en0 w A).imm) % 4294967296) (sizeOf' (en0 w A).op) = true from hrt)]; simp only [en0, hk]; rfl
      refine ⟨fun h => absurd h.2 (by rw [he]; simp [en0]), fun _ => ?_⟩
      rw [he]
      unfold enZ
      have hst : ∀ v', storeP { en0 w A with addr := ((adS w r : Nat) : Int), halt := 4, is := 3 } v' = { en0 w A with addr := ((adS w r : Nat) : Int), halt := 4, is := 3 } := fun v' => by
        unfold storeP
        rw [if_pos (.inl (by show kindOf (decN w).op ≠ 4; omega))]
      rw [hst, goN_still (by show (3 : Int) ≠ 1; decide)]
      refine ⟨rfl, ?_⟩
      unfold accessP
      rw [if_neg (show ¬ rightP ((stS w A r m).mem.size : Int) (addrOf (decN w) (r (decN w).rs1.toNat)) (sizeOf' (decN w).op : Nat) = true from hrt), if_neg (show ¬ kindOf (decN w).op = 4 by omega)]
      simp [toI, en0, haltP, spI, stS, addrOf, adS]
  case inr.inr.inr.inr.inl =>
    rw [if_pos (.inr hk)]
    have hs : startP (en0 w A) (r (decN w).rs1.toNat) (r (decN w).rs2.toNat) = en0 w A := by unfold startP; rw [if_pos (.inr (.inr hk))]
    have hc : ¬ ((kindOf (en0 w A).op ≠ 3 ∧ kindOf (en0 w A).op ≠ 4) ∨ (en0 w A).is ≠ 0 ∨ (en0 w A).known = true) := by
      show ¬ ((kindOf (decN w).op ≠ 3 ∧ kindOf (decN w).op ≠ 4) ∨ (0 : Int) ≠ 0 ∨ false = true)
      simp [hk]
    refine ⟨fun h => absurd h.1 (by omega), fun _ => ?_⟩
    by_cases hrt : rightP (m.size : Nat) (adS w r) (sizeOf' (decN w).op) = true
    · have he : en1 w A r m = { en0 w A with addr := ((adS w r : Nat) : Int), known := true } := by unfold en1; rw [hs]; unfold addrP; rw [if_neg hc, if_pos (show rightP (m.size : Nat) ((r (decN w).rs1.toNat + (en0 w A).imm) % 4294967296) (sizeOf' (en0 w A).op) = true from hrt)]; rfl
      rw [he]
      unfold enZ
      have hst : ∀ v' : Nat, storeP { en0 w A with addr := ((adS w r : Nat) : Int), known := true } v' = { en0 w A with addr := ((adS w r : Nat) : Int), known := true, is := 3, value := (v' : Int) } := fun v' => by
        unfold storeP
        rw [if_neg (by show ¬ (kindOf (decN w).op ≠ 4 ∨ true = false ∨ (0 : Int) ≠ 0); simp [hk])]
      rw [hst, goN_still (by show (3 : Int) ≠ 1; decide)]
      refine ⟨rfl, ?_⟩
      unfold accessP
      rw [if_pos (show rightP ((stS w A r m).mem.size : Int) (addrOf (decN w) (r (decN w).rs1.toNat)) (sizeOf' (decN w).op : Nat) = true from hrt), if_pos hk]
      have hlv : lowP (r (decN w).rs2.toNat) (sizeOf' (decN w).op) = valB (r (decN w).rs2.toNat) (sizeOf' (decN w).op) := rfl
      simp [toI, en0, hk, spI, stS, addrOf, adS, hwr, hlv]
    · have he : en1 w A r m = { en0 w A with addr := ((adS w r : Nat) : Int), halt := 5, is := 3 } := by unfold en1; rw [hs]; unfold addrP; rw [if_neg hc, if_neg (show ¬ rightP (m.size : Nat) ((r (decN w).rs1.toNat + (en0 w A).imm) % 4294967296) (sizeOf' (en0 w A).op) = true from hrt)]; simp only [en0, hk]; rfl
      rw [he]
      unfold enZ
      have hst : ∀ v', storeP { en0 w A with addr := ((adS w r : Nat) : Int), halt := 5, is := 3 } v' = { en0 w A with addr := ((adS w r : Nat) : Int), halt := 5, is := 3 } := fun v' => by
        unfold storeP
        rw [if_pos (.inr (.inl rfl))]
      rw [hst, goN_still (by show (3 : Int) ≠ 1; decide)]
      refine ⟨rfl, ?_⟩
      unfold accessP
      rw [if_neg (show ¬ rightP ((stS w A r m).mem.size : Int) (addrOf (decN w) (r (decN w).rs1.toNat)) (sizeOf' (decN w).op : Nat) = true from hrt), if_pos hk]
      simp [toI, en0, haltP, spI, stS, addrOf, adS]
  -- what reckons
  all_goals
    rw [if_neg (show ¬ (kindOf (decN w).op = 3 ∨ kindOf (decN w).op = 4) by omega)]
    refine ⟨fun h => absurd h.1 (by omega), fun _ => ?_⟩
    have hs : startP (en0 w A) (r (decN w).rs1.toNat) (r (decN w).rs2.toNat) = startK (en0 w A) (r (decN w).rs1.toNat) (r (decN w).rs2.toNat) := by unfold startP; rw [if_neg (by show ¬ ((0 : Int) ≠ 0 ∨ kindOf (decN w).op = 3 ∨ kindOf (decN w).op = 4); omega)]
    have hop : (startK (en0 w A) (r (decN w).rs1.toNat) (r (decN w).rs2.toNat)).op = (decN w).op := by unfold startK startB; (repeat' split) <;> rfl
    have he : en1 w A r m = startK (en0 w A) (r (decN w).rs1.toNat) (r (decN w).rs2.toNat) := by unfold en1; rw [hs]; unfold addrP; rw [if_pos (.inl (by rw [hop]; omega))]
    have hst : ∀ v', storeP (startK (en0 w A) (r (decN w).rs1.toNat) (r (decN w).rs2.toNat)) v' = startK (en0 w A) (r (decN w).rs1.toNat) (r (decN w).rs2.toNat) := fun v' => by unfold storeP; rw [if_pos (.inl (by rw [hop]; omega))]
    unfold enZ
    rw [he, hst]
    unfold reckonP
  · have hx : startK (en0 w A) (r (decN w).rs1.toNat) (r (decN w).rs2.toNat) = startB (en0 w A) (r (decN w).rs1.toNat) (r (decN w).rs2.toNat) := by
      unfold startK
      rw [if_neg (by show ¬ kindOf (decN w).op = 1; omega), if_neg (by show ¬ kindOf (decN w).op = 2; omega), if_neg (by show ¬ kindOf (decN w).op = 5; omega)]
    rw [hx, goN_done _ 1 rfl rfl (by omega) (by omega), if_neg (show ¬ kindOf (decN w).op = 5 by omega), if_neg (show ¬ kindOf (decN w).op = 2 by omega)]
    refine ⟨rfl, ?_⟩
    unfold finP
    by_cases hz : wr (decN w) = 0
    · rw [if_pos hz]; simp [toI, startB, en0, hk, spI, stS, hwr, hz, hup]
    · rw [if_neg hz]; simp [toI, startB, en0, hk, spI, stS, hwr, hz, hup]
  · have hx : startK (en0 w A) (r (decN w).rs1.toNat) (r (decN w).rs2.toNat) = { startB (en0 w A) (r (decN w).rs1.toNat) (r (decN w).rs2.toNat) with left := 3 } := by
      unfold startK
      rw [if_pos (show kindOf (en0 w A).op = 1 from hk)]
    rw [hx, goN_done _ 3 rfl rfl (by omega) (by omega), if_neg (show ¬ kindOf (decN w).op = 5 by omega), if_neg (show ¬ kindOf (decN w).op = 2 by omega)]
    refine ⟨rfl, ?_⟩
    unfold finP
    by_cases hz : wr (decN w) = 0
    · rw [if_pos hz]; simp [toI, startB, en0, hk, spI, stS, hwr, hz, hup]
    · rw [if_neg hz]; simp [toI, startB, en0, hk, spI, stS, hwr, hz, hup]
  · have hx : startK (en0 w A) (r (decN w).rs1.toNat) (r (decN w).rs2.toNat) = { startB (en0 w A) (r (decN w).rs1.toNat) (r (decN w).rs2.toNat) with took := (tookP (decN w).op (r (decN w).rs1.toNat) (r (decN w).rs2.toNat) : Nat), left := (tookP (decN w).op (r (decN w).rs1.toNat) (r (decN w).rs2.toNat) : Nat) } := by
      unfold startK
      rw [if_neg (by show ¬ kindOf (decN w).op = 1; omega), if_pos (show kindOf (en0 w A).op = 2 from hk)]
      rfl
    have hb := tookP_bounds (decN w).op (r (decN w).rs1.toNat) (r (decN w).rs2.toNat) (by have := hr (decN w).rs1.toNat; omega) (by have := hr (decN w).rs2.toNat; omega) hd1 hd2
    rw [hx, goN_done _ (tookP (decN w).op (r (decN w).rs1.toNat) (r (decN w).rs2.toNat)) rfl rfl (by omega) (by omega), if_neg (show ¬ kindOf (decN w).op = 5 by omega), if_pos hk]
    refine ⟨rfl, ?_⟩
    unfold finP
    by_cases hz : wr (decN w) = 0
    · rw [if_pos hz]; simp [toI, startB, en0, hk, spI, stS, hwr, hz, hup]
    · rw [if_neg hz]; simp [toI, startB, en0, hk, spI, stS, hwr, hz, hup]
  · rw [if_pos hk]
    by_cases hn : nextP (decN w).op (decN w).imm (4 * A) (r (decN w).rs1.toNat) (r (decN w).rs2.toNat) % 4 = 0
    · have hx : startK (en0 w A) (r (decN w).rs1.toNat) (r (decN w).rs2.toNat) = { startB (en0 w A) (r (decN w).rs1.toNat) (r (decN w).rs2.toNat) with next := (nextP (decN w).op (decN w).imm (4 * A) (r (decN w).rs1.toNat) (r (decN w).rs2.toNat) : Nat) } := by
        unfold startK
        rw [if_neg (by show ¬ kindOf (decN w).op = 1; omega), if_neg (by show ¬ kindOf (decN w).op = 2; omega), if_pos (show kindOf (en0 w A).op = 5 from hk), if_pos (show nextP (en0 w A).op (en0 w A).imm (en0 w A).pc (r (decN w).rs1.toNat) (r (decN w).rs2.toNat) % 4 = 0 from hn)]
        rfl
      rw [hx, goN_done _ 1 rfl rfl (by omega) (by omega), if_pos (show nextP (decN w).op (decN w).imm (stS w A r m).pc (r (decN w).rs1.toNat) (r (decN w).rs2.toNat) % 4 = 0 from hn)]
      refine ⟨rfl, ?_⟩
      unfold finP
      by_cases hz : wr (decN w) = 0
      · rw [if_pos hz]; simp [toI, startB, en0, hk, spI, stS, hwr, hz, hup]
      · rw [if_neg hz]; simp [toI, startB, en0, hk, spI, stS, hwr, hz, hup]
    · have hx : startK (en0 w A) (r (decN w).rs1.toNat) (r (decN w).rs2.toNat) = { startB (en0 w A) (r (decN w).rs1.toNat) (r (decN w).rs2.toNat) with halt := 3, value := 0 } := by
        unfold startK
        rw [if_neg (by show ¬ kindOf (decN w).op = 1; omega), if_neg (by show ¬ kindOf (decN w).op = 2; omega), if_pos (show kindOf (en0 w A).op = 5 from hk), if_neg (show ¬ nextP (en0 w A).op (en0 w A).imm (en0 w A).pc (r (decN w).rs1.toNat) (r (decN w).rs2.toNat) % 4 = 0 from hn)]
      rw [hx, goN_done _ 1 rfl rfl (by omega) (by omega), if_neg (show ¬ nextP (decN w).op (decN w).imm (stS w A r m).pc (r (decN w).rs1.toNat) (r (decN w).rs2.toNat) % 4 = 0 from hn)]
      refine ⟨rfl, ?_⟩
      simp [toI, startB, en0, haltP, spI, stS]
end
end Go.Proofs.Ytckjihpdjefpgaa

namespace Go.Proofs.Ytckjihpdjefpgaa
open Go.RowKit

theorem prS_rows (w A : Nat) : List.take (A + 1) (List.drop 0 ((List.replicate (A + 1) [AV.v (.int .u32 0)]).set (0 + A) (rowU w))) = (prS w A).map rowU := by
  rw [Nat.zero_add, mk_prog, List.drop_zero]
  exact List.take_of_length_le (by simp)

set_option maxRecDepth 100000 in
set_option maxHeartbeats 16000000 in
theorem dStepsLaw (w : Nat) (at_ : Int) (r : Nat → Nat) (m : ByteArray) (hw : w < 4294967296) (hr : ∀ k, r k ≤ 4294967295) : DCall C0 5 [.v (.int .u32 ((w : Nat) : Int)), .v (.int .i64 at_), .agg (regL r), .v (.string m)] (.v (.bool true)) := by
  have hwB : w ≤ 4294967295 := by omega
  refine DCall.intro c0Ok Try.func5 rfl rfl (by kernel_rfl) rfl ?_
  have him : (decN w).imm ≤ 4294967295 := by have := (decN_rd w).2.2.2.2.2.2; omega
  obtain ⟨_, _, hs1, hs1b, hs2, hs2b, _⟩ := decN_rd w
  obtain ⟨A, hAe, hA⟩ : ∃ A : Nat, capK at_ 20 = (A : Int) ∧ A ≤ 20 := ⟨(capK at_ 20).toNat, by have := capK_le at_ 20 (by decide); omega, by have := capK_le at_ 20 (by decide); omega⟩
  have hM : (cleanP (m.extract 0 (min m.size 300))).size ≤ 256 := by rw [cleanP_size]; exact upS_le _
  have hq : ∀ k, (setR r 0 0) k ≤ 4294967295 := fun k => by unfold setR; split; omega; exact hr k
  have hsz := size_le4 (decN w).op
  have hpr : ∀ x ∈ prS w A, x ≤ 4294967295 := fun x hx => by rcases List.mem_append.1 hx with h | h; have := List.eq_of_mem_replicate h; omega; simp at h; omega
  have hprl : (prS w A).length ≤ 1000000 := by unfold prS; simp; omega
  have hsok : (stS w A (setR r 0 0) (cleanP (m.extract 0 (min m.size 300)))).ok := ⟨by show 4 * A ≤ 4294967295; omega, hq, hM⟩
  refine cSeq ?_
  refine cR ?_
  refine rFx (d := 6) (x := .ptr 0 0) (h' := upd _ 0 (some (.box (regL r)))) rfl rfl (rfl) (trivial) ?_
  refine rO 8 (.v (.bool false)) ?_
  refine rE 2 ?_
  refine cSeq ?_
  refine cR ?_
  refine rO 19 (vU w) ?_
  refine rCall (args := [vU w]) (d := 20) (x := .tup [.agg [vI ((decN w).op), vI ((decN w).rd), vI ((decN w).rs1), vI ((decN w).rs2), vU ((decN w).imm)], vN (decE w)]) rfl rfl rfl rfl (.inl rfl) rfl (rDec w hw) ?_
  refine rO 18 (.tup [.agg [vI ((decN w).op), vI ((decN w).rd), vI ((decN w).rs1), vI ((decN w).rs2), vU ((decN w).imm)], vN (decE w)]) ?_
  refine rO 21 (.agg [vI ((decN w).op), vI ((decN w).rd), vI ((decN w).rs1), vI ((decN w).rs2), vU ((decN w).imm)]) ?_
  refine rO 22 (vN (decE w)) ?_
  refine rFx (d := 9) (x := .ptr 7 0) (h' := upd _ 7 (some (.box [vI 0, vI 0, vI 0, vI 0, .v (.int .u32 0)]))) rfl rfl (rfl) (trivial) ?_
  refine rFx0 (h' := upd _ 7 (some (.box [vI ((decN w).op), vI ((decN w).rd), vI ((decN w).rs1), vI ((decN w).rs2), vU ((decN w).imm)]))) rfl rfl (rfl) (trivial) ?_
  refine rO 10 (vN (decE w)) ?_
  refine rE 10 ?_
  refine cSeq ?_
  refine cSeq ?_
  refine cR ?_
  refine rO 23 (vN (decE w)) ?_
  refine rOk (d := 24) (x := .v (.bool ((decE w) != 0))) rfl rfl (okB (neN _ _)) ?_
  refine rO 25 (.v (.bool ((decE w) != 0))) ?_
  refine gOk (d := 26) (x := .ptr 7 0) (g := !((decE w) != 0)) rfl rfl rfl rfl rfl rfl ?_
  refine gOkS (d := 27) (x := vI ((decN w).op)) (g := !((decE w) != 0)) rfl rfl rfl rfl (fun h => h) rfl rfl ?_
  refine gCallS (args := [vI ((decN w).op)]) (d := 28) (x := vN (kindOf (decN w).op)) (g := !((decE w) != 0)) rfl rfl rfl rfl (fun h => h) rfl rfl rfl (.inl rfl) rfl (fun hg => rKind (decN w).op) ?_
  refine gOkS (d := 29) (x := .v (.bool ((kindOf (decN w).op) == 6))) (g := !((decE w) != 0)) rfl rfl rfl rfl (fun h => h) rfl (okB (eqN _ _)) ?_
  refine rNeed (d := 30) (x := .v (.bool (cond2 ((decE w) != 0) true ((kindOf (decN w).op) == 6)))) rfl rfl rfl (by simp) ?_
  refine rE 18 ?_
  refine cCond (v := cond2 ((decE w) != 0) true ((kindOf (decN w).op) == 6)) rfl (fun h1 => ?_) (fun h1 => ?_)
  · skip
    refine cSeq ?_
    refine cR ?_
    refine rCall (args := []) (d := 31) (x := .v (.bool true)) rfl rfl rfl rfl (.inl rfl) rfl (dAlive) ?_
    refine rO 8 (.v (.bool true)) ?_
    refine rE 20 ?_
    refine cRet ?_
    exact finTA rfl trivial rfl rfl
  · skip
    refine cSkip ?_
    refine cSeq ?_
    refine cR ?_
    refine rO 32 (vI at_) ?_
    refine rO 33 (vI (if 0 > at_ then 0 else at_)) ?_
    refine rOk (d := 34) (x := vN A) rfl rfl (congrArg (fun z : Int => Res.ok (vI z)) hAe) ?_
    refine rO 1 (vN A) ?_
    refine rE 22 ?_
    refine cSeq ?_
    refine cR ?_
    refine rO 35 (.v (.string m)) ?_
    refine rO 36 (.v (.string m)) ?_
    refine rO 37 (vI (m.size : Int)) ?_
    refine rOk (d := 38) (x := .v (.int .i64 ((min m.size 300 : Nat) : Int))) rfl rfl (by show Res.ok (.v (.int .i64 (if (300 : Int) < (m.size : Int) then 300 else (m.size : Int)))) = _; congr 3; split <;> omega) ?_
    refine rNeed (d := 39) (x := .v (.string (m.extract 0 (min m.size 300)))) rfl rfl rfl (⟨Int.le_refl _, Int.natCast_nonneg _, by show ((min m.size 300 : Nat) : Int) ≤ ((m.size : Nat) : Int); omega⟩) ?_
    refine rCall (args := [.v (.string (m.extract 0 (min m.size 300)))]) (d := 40) (x := .v (.string (cleanP (m.extract 0 (min m.size 300))))) rfl rfl rfl rfl (.inl rfl) rfl (rClean (m.extract 0 (min m.size 300))) ?_
    refine rO 3 (.v (.string (cleanP (m.extract 0 (min m.size 300))))) ?_
    refine rE 29 ?_
    refine cSeq ?_
    refine cR ?_
    refine rO 41 (vN A) ?_
    have b1 : A + 1 ≤ 21 := Nat.add_le_add hA (Nat.le_refl 1)
    refine rOk (d := 42) (x := vN (A + 1)) rfl rfl (okI (wrapI64 b1 rfl)) ?_
    refine rFx (d := 43) (x := .osl 31 0 (A + 1) false) (h' := upd _ 31 (some (.arr (List.replicate (A + 1) [AV.v (.int .u32 0)]) 1))) rfl rfl (rfl) (⟨Int.natCast_nonneg _, Int.le_refl _, by show ((A + 1 : Nat) : Int) ≤ 1000000; omega⟩) ?_
    refine rO 11 (.osl 31 0 (A + 1) false) ?_
    refine rE 33 ?_
    refine cSeq ?_
    refine cR ?_
    refine rO 44 (.osl 31 0 (A + 1) false) ?_
    refine rO 45 (vN A) ?_
    refine rO 46 (vU w) ?_
    refine rNeed (d := 47) (x := .ptr2 31 (0 + A) 0) rfl rfl rfl (⟨Int.natCast_nonneg _, by show ((A : Nat) : Int) < ((A + 1 : Nat) : Int); omega⟩) ?_
    refine rIdxFx ([.v (.int .u32 0)]) (h' := upd _ 31 (some (.arr ((List.replicate (A + 1) [AV.v (.int .u32 0)]).set (0 + A) (rowU w)) 1))) rfl rfl rfl (⟨Int.natCast_nonneg _, by show (List.replicate (A + 1) [AV.v (.int .u32 0)])[0 + A]? = _; rw [Nat.zero_add, List.getElem?_replicate, if_pos (by omega)]⟩) rfl ?_
    refine rE 38 ?_
    refine cSeq ?_
    refine cR ?_
    refine rO 48 (vN A) ?_
    have b2 : 4 * A ≤ 80 := Nat.mul_le_mul (Nat.le_refl 4) hA
    refine rOk (d := 49) (x := vN (4 * A)) rfl rfl (okI (wrapI64 b2 rfl)) ?_
    refine rOk (d := 50) (x := vU (4 * A)) rfl rfl (okI (modI b2 rfl)) ?_
    refine rO 12 (vU (4 * A)) ?_
    refine rE 42 ?_
    refine cSeq ?_
    refine cR ?_
    refine rNeed (d := 51) (x := .ptr 0 0) rfl rfl rfl (⟨by decide, by decide⟩) ?_
    refine rFx0 (h' := upd _ 0 (some (.box (regL (setR r 0 0))))) rfl rfl (rfl) (trivial) ?_
    refine rE 44 ?_
    refine cSeq ?_
    refine cR ?_
    refine rO 53 (.osl 31 0 (A + 1) false) ?_
    refine rO 54 (vU (4 * A)) ?_
    refine rO 55 (.agg (regL (setR r 0 0))) ?_
    refine rO 56 (.v (.string (cleanP (m.extract 0 (min m.size 300))))) ?_
    refine rO 57 (.agg (stL (4 * A) (setR r 0 0) (cleanP (m.extract 0 (min m.size 300))) 0)) ?_
    refine rCall (args := [.osl 31 0 (A + 1) false, .agg (stL (4 * A) (setR r 0 0) (cleanP (m.extract 0 (min m.size 300))) 0)]) (d := 58) (x := .tup [.agg (stL (((stepP (prS w A) (stS w A (setR r 0 0) (cleanP (m.extract 0 (min m.size 300))))).1).pc) (((stepP (prS w A) (stS w A (setR r 0 0) (cleanP (m.extract 0 (min m.size 300))))).1).r) (((stepP (prS w A) (stS w A (setR r 0 0) (cleanP (m.extract 0 (min m.size 300))))).1).mem) (((stepP (prS w A) (stS w A (setR r 0 0) (cleanP (m.extract 0 (min m.size 300))))).1).halt)), .agg [.v (.int .u32 ((((stepP (prS w A) (stS w A (setR r 0 0) (cleanP (m.extract 0 (min m.size 300))))).2).pc : Nat) : Int)), .v (.int .u32 ((((stepP (prS w A) (stS w A (setR r 0 0) (cleanP (m.extract 0 (min m.size 300))))).2).next : Nat) : Int)), .v (.int .i64 (((stepP (prS w A) (stS w A (setR r 0 0) (cleanP (m.extract 0 (min m.size 300))))).2).rd)), .v (.int .u32 ((((stepP (prS w A) (stS w A (setR r 0 0) (cleanP (m.extract 0 (min m.size 300))))).2).value : Nat) : Int)), .v (.int .u32 ((((stepP (prS w A) (stS w A (setR r 0 0) (cleanP (m.extract 0 (min m.size 300))))).2).addr : Nat) : Int)), .v (.int .i64 (((stepP (prS w A) (stS w A (setR r 0 0) (cleanP (m.extract 0 (min m.size 300))))).2).size)), .v (.bool (((stepP (prS w A) (stS w A (setR r 0 0) (cleanP (m.extract 0 (min m.size 300))))).2).store)), .v (.int .i64 (((stepP (prS w A) (stS w A (setR r 0 0) (cleanP (m.extract 0 (min m.size 300))))).2).halt)), .v (.int .i64 (((stepP (prS w A) (stS w A (setR r 0 0) (cleanP (m.extract 0 (min m.size 300))))).2).took))]]) rfl rfl rfl rfl (.inr ⟨rfl, by show 0 + (A + 1) ≤ ((List.replicate (A + 1) [AV.v (.int .u32 0)]).set (0 + A) (rowU w)).length; simp, by repeat' constructor⟩) rfl (by show DCall C0 _ [.sl 1 (List.take (A + 1) (List.drop 0 ((List.replicate (A + 1) [AV.v (.int .u32 0)]).set (0 + A) (rowU w)))) false, _] _; rw [prS_rows]; exact rStep (prS w A) (stS w A (setR r 0 0) (cleanP (m.extract 0 (min m.size 300)))) false hpr hprl hsok) ?_
    refine rO 52 (.tup [.agg (stL (((stepP (prS w A) (stS w A (setR r 0 0) (cleanP (m.extract 0 (min m.size 300))))).1).pc) (((stepP (prS w A) (stS w A (setR r 0 0) (cleanP (m.extract 0 (min m.size 300))))).1).r) (((stepP (prS w A) (stS w A (setR r 0 0) (cleanP (m.extract 0 (min m.size 300))))).1).mem) (((stepP (prS w A) (stS w A (setR r 0 0) (cleanP (m.extract 0 (min m.size 300))))).1).halt)), .agg [vU (((stepP (prS w A) (stS w A (setR r 0 0) (cleanP (m.extract 0 (min m.size 300))))).2).pc), vU (((stepP (prS w A) (stS w A (setR r 0 0) (cleanP (m.extract 0 (min m.size 300))))).2).next), vI (((stepP (prS w A) (stS w A (setR r 0 0) (cleanP (m.extract 0 (min m.size 300))))).2).rd), vU (((stepP (prS w A) (stS w A (setR r 0 0) (cleanP (m.extract 0 (min m.size 300))))).2).value), vU (((stepP (prS w A) (stS w A (setR r 0 0) (cleanP (m.extract 0 (min m.size 300))))).2).addr), vI (((stepP (prS w A) (stS w A (setR r 0 0) (cleanP (m.extract 0 (min m.size 300))))).2).size), .v (.bool (((stepP (prS w A) (stS w A (setR r 0 0) (cleanP (m.extract 0 (min m.size 300))))).2).store)), vI (((stepP (prS w A) (stS w A (setR r 0 0) (cleanP (m.extract 0 (min m.size 300))))).2).halt), vI (((stepP (prS w A) (stS w A (setR r 0 0) (cleanP (m.extract 0 (min m.size 300))))).2).took)]]) ?_
    refine rO 59 (.agg (stL (((stepP (prS w A) (stS w A (setR r 0 0) (cleanP (m.extract 0 (min m.size 300))))).1).pc) (((stepP (prS w A) (stS w A (setR r 0 0) (cleanP (m.extract 0 (min m.size 300))))).1).r) (((stepP (prS w A) (stS w A (setR r 0 0) (cleanP (m.extract 0 (min m.size 300))))).1).mem) (((stepP (prS w A) (stS w A (setR r 0 0) (cleanP (m.extract 0 (min m.size 300))))).1).halt))) ?_
    refine rO 60 (.agg [vU (((stepP (prS w A) (stS w A (setR r 0 0) (cleanP (m.extract 0 (min m.size 300))))).2).pc), vU (((stepP (prS w A) (stS w A (setR r 0 0) (cleanP (m.extract 0 (min m.size 300))))).2).next), vI (((stepP (prS w A) (stS w A (setR r 0 0) (cleanP (m.extract 0 (min m.size 300))))).2).rd), vU (((stepP (prS w A) (stS w A (setR r 0 0) (cleanP (m.extract 0 (min m.size 300))))).2).value), vU (((stepP (prS w A) (stS w A (setR r 0 0) (cleanP (m.extract 0 (min m.size 300))))).2).addr), vI (((stepP (prS w A) (stS w A (setR r 0 0) (cleanP (m.extract 0 (min m.size 300))))).2).size), .v (.bool (((stepP (prS w A) (stS w A (setR r 0 0) (cleanP (m.extract 0 (min m.size 300))))).2).store)), vI (((stepP (prS w A) (stS w A (setR r 0 0) (cleanP (m.extract 0 (min m.size 300))))).2).halt), vI (((stepP (prS w A) (stS w A (setR r 0 0) (cleanP (m.extract 0 (min m.size 300))))).2).took)]) ?_
    refine rFx (d := 13) (x := .ptr 53 0) (h' := upd _ 53 (some (.box (stL 0 (fun _ => 0) (⟨#[]⟩) 0)))) rfl rfl (rfl) (trivial) ?_
    refine rFx (d := 14) (x := .ptr 54 0) (h' := upd _ 54 (some (.box [.v (.int .u32 0), .v (.int .u32 0), vI 0, .v (.int .u32 0), .v (.int .u32 0), vI 0, .v (.bool false), vI 0, vI 0]))) rfl rfl (rfl) (trivial) ?_
    refine rFx0 (h' := upd _ 53 (some (.box (stL (((stepP (prS w A) (stS w A (setR r 0 0) (cleanP (m.extract 0 (min m.size 300))))).1).pc) (((stepP (prS w A) (stS w A (setR r 0 0) (cleanP (m.extract 0 (min m.size 300))))).1).r) (((stepP (prS w A) (stS w A (setR r 0 0) (cleanP (m.extract 0 (min m.size 300))))).1).mem) (((stepP (prS w A) (stS w A (setR r 0 0) (cleanP (m.extract 0 (min m.size 300))))).1).halt))))) rfl rfl (rfl) (trivial) ?_
    refine rFx0 (h' := upd _ 54 (some (.box [vU (((stepP (prS w A) (stS w A (setR r 0 0) (cleanP (m.extract 0 (min m.size 300))))).2).pc), vU (((stepP (prS w A) (stS w A (setR r 0 0) (cleanP (m.extract 0 (min m.size 300))))).2).next), vI (((stepP (prS w A) (stS w A (setR r 0 0) (cleanP (m.extract 0 (min m.size 300))))).2).rd), vU (((stepP (prS w A) (stS w A (setR r 0 0) (cleanP (m.extract 0 (min m.size 300))))).2).value), vU (((stepP (prS w A) (stS w A (setR r 0 0) (cleanP (m.extract 0 (min m.size 300))))).2).addr), vI (((stepP (prS w A) (stS w A (setR r 0 0) (cleanP (m.extract 0 (min m.size 300))))).2).size), .v (.bool (((stepP (prS w A) (stS w A (setR r 0 0) (cleanP (m.extract 0 (min m.size 300))))).2).store)), vI (((stepP (prS w A) (stS w A (setR r 0 0) (cleanP (m.extract 0 (min m.size 300))))).2).halt), vI (((stepP (prS w A) (stS w A (setR r 0 0) (cleanP (m.extract 0 (min m.size 300))))).2).took)]))) rfl rfl (rfl) (trivial) ?_
    refine rE 57 ?_
    refine cSeq ?_
    refine cR ?_
    refine rO 61 (.ptr 7 2) ?_
    refine rO 62 (vI ((decN w).rs1)) ?_
    refine rNeed (d := 63) (x := .ptr 0 (0 + ((decN w).rs1).toNat * 1)) rfl rfl rfl (⟨by omega, by omega⟩) ?_
    refine rOk (d := 64) (x := vU ((setR r 0 0) ((decN w).rs1).toNat)) rfl rfl (ldL (setR r 0 0) ((decN w).rs1).toNat (by omega)) ?_
    refine rO 65 (.ptr 7 3) ?_
    refine rO 66 (vI ((decN w).rs2)) ?_
    refine rNeed (d := 67) (x := .ptr 0 (0 + ((decN w).rs2).toNat * 1)) rfl rfl rfl (⟨by omega, by omega⟩) ?_
    refine rOk (d := 68) (x := vU ((setR r 0 0) ((decN w).rs2).toNat)) rfl rfl (ldL (setR r 0 0) ((decN w).rs2).toNat (by omega)) ?_
    refine rO 15 (vU ((setR r 0 0) ((decN w).rs1).toNat)) ?_
    refine rO 16 (vU ((setR r 0 0) ((decN w).rs2).toNat)) ?_
    refine rE 67 ?_
    refine cSeq ?_
    refine cR ?_
    refine rO 69 (vU (4 * A)) ?_
    refine rO 70 (.agg [vI ((decN w).op), vI ((decN w).rd), vI ((decN w).rs1), vI ((decN w).rs2), vU ((decN w).imm)]) ?_
    refine rO 71 (.agg [vI 0, vU (4 * A), vI ((decN w).op), vI ((decN w).rd), vI ((decN w).rs1), vI ((decN w).rs2), vU ((decN w).imm), .v (.int .u32 0), vI 0, vI 0, .v (.int .u32 0), .v (.int .u32 0), .v (.int .u32 0), vI 0, vI 0, .v (.bool false), .v (.bool false)]) ?_
    refine rO 72 (vU ((setR r 0 0) ((decN w).rs1).toNat)) ?_
    refine rO 73 (vU ((setR r 0 0) ((decN w).rs2).toNat)) ?_
    refine rCall (args := [.agg [.v (.int .i64 0), .v (.int .u32 ((4 * A : Nat) : Int)), .v (.int .i64 ((decN w).op)), .v (.int .i64 ((decN w).rd)), .v (.int .i64 ((decN w).rs1)), .v (.int .i64 ((decN w).rs2)), .v (.int .u32 (((decN w).imm : Nat) : Int)), .v (.int .u32 0), .v (.int .i64 0), .v (.int .i64 0), .v (.int .u32 0), .v (.int .u32 0), .v (.int .u32 0), .v (.int .i64 0), .v (.int .i64 0), .v (.bool false), .v (.bool false)], .v (.int .u32 (((setR r 0 0) ((decN w).rs1).toNat : Nat) : Int)), .v (.int .u32 (((setR r 0 0) ((decN w).rs2).toNat : Nat) : Int))]) (d := 74) (x := .agg (encE (startP (en0 w A) ((setR r 0 0) (decN w).rs1.toNat) ((setR r 0 0) (decN w).rs2.toNat)))) rfl rfl rfl rfl (.inl rfl) rfl (dStart (en0 w A) ((setR r 0 0) (decN w).rs1.toNat) ((setR r 0 0) (decN w).rs2.toNat) (by show (decN w).imm < _; omega) (by show 4 * A < _; omega) (by have := hq (decN w).rs1.toNat; omega) (by have := hq (decN w).rs2.toNat; omega)) ?_
    refine rO 75 (.v (.string (cleanP (m.extract 0 (min m.size 300))))) ?_
    refine rO 76 (vN ((cleanP (m.extract 0 (min m.size 300))).size)) ?_
    refine rO 77 (vU ((setR r 0 0) ((decN w).rs1).toNat)) ?_
    refine rCall (args := [.agg (encE (startP (en0 w A) ((setR r 0 0) (decN w).rs1.toNat) ((setR r 0 0) (decN w).rs2.toNat))), vN ((cleanP (m.extract 0 (min m.size 300))).size), vU ((setR r 0 0) ((decN w).rs1).toNat)]) (d := 78) (x := .agg (encE (en1 w A (setR r 0 0) (cleanP (m.extract 0 (min m.size 300)))))) rfl rfl rfl rfl (.inl rfl) rfl (dAddr (startP (en0 w A) ((setR r 0 0) (decN w).rs1.toNat) ((setR r 0 0) (decN w).rs2.toNat)) ((cleanP (m.extract 0 (min m.size 300))).size : Nat) ((setR r 0 0) (decN w).rs1.toNat) (by omega)) ?_
    refine rFx (d := 17) (x := .ptr 77 0) (h' := upd _ 77 (some (.box [vI 0, .v (.int .u32 0), vI 0, vI 0, vI 0, vI 0, .v (.int .u32 0), .v (.int .u32 0), vI 0, vI 0, .v (.int .u32 0), .v (.int .u32 0), .v (.int .u32 0), vI 0, vI 0, .v (.bool false), .v (.bool false)]))) rfl rfl (rfl) (trivial) ?_
    refine rFx0 (h' := upd _ 77 (some (.box (encE (en1 w A (setR r 0 0) (cleanP (m.extract 0 (min m.size 300)))))))) rfl rfl (rfl) (trivial) ?_
    refine rE 79 ?_
    refine cSeq ?_
    refine cSeq ?_
    refine cR ?_
    refine rO 79 (.ptr 77 15) ?_
    refine rO 80 (.v (.bool ((en1 w A (setR r 0 0) (cleanP (m.extract 0 (min m.size 300)))).known))) ?_
    refine rO 81 (.v (.bool ((en1 w A (setR r 0 0) (cleanP (m.extract 0 (min m.size 300)))).known))) ?_
    refine gOk (d := 82) (x := .ptr 7 0) (g := (en1 w A (setR r 0 0) (cleanP (m.extract 0 (min m.size 300)))).known) rfl rfl rfl rfl rfl rfl ?_
    refine gOkS (d := 83) (x := vI ((decN w).op)) (g := (en1 w A (setR r 0 0) (cleanP (m.extract 0 (min m.size 300)))).known) rfl rfl rfl rfl (fun h => h) rfl rfl ?_
    refine gCallS (args := [vI ((decN w).op)]) (d := 84) (x := vN (kindOf (decN w).op)) (g := (en1 w A (setR r 0 0) (cleanP (m.extract 0 (min m.size 300)))).known) rfl rfl rfl rfl (fun h => h) rfl rfl rfl (.inl rfl) rfl (fun hg => rKind (decN w).op) ?_
    refine gOkS (d := 85) (x := .v (.bool ((kindOf (decN w).op) == 3))) (g := (en1 w A (setR r 0 0) (cleanP (m.extract 0 (min m.size 300)))).known) rfl rfl rfl rfl (fun h => h) rfl (okB (eqN _ _)) ?_
    refine rNeed (d := 86) (x := .v (.bool (cond2 ((en1 w A (setR r 0 0) (cleanP (m.extract 0 (min m.size 300)))).known) ((kindOf (decN w).op) == 3) false))) rfl rfl rfl (fun h => h) ?_
    refine rE 87 ?_
    refine cCond (v := cond2 ((en1 w A (setR r 0 0) (cleanP (m.extract 0 (min m.size 300)))).known) ((kindOf (decN w).op) == 3) false) rfl (fun h2 => ?_) (fun h2 => ?_)
    · skip
      refine cSeq ?_
      refine cSeq ?_
      refine cR ?_
      refine rO 87 (.ptr 77 12) ?_
      have hkk := known_of h2
      have hae := en1_known (w := w) (A := A) (r := (setR r 0 0)) (m := (cleanP (m.extract 0 (min m.size 300)))) hkk.2 hkk.1
      refine rOk (d := 88) (x := vU (adS w (setR r 0 0))) rfl rfl (congrArg (fun z : Int => Res.ok (.v (.int .u32 z))) hae.1) ?_
      refine rOk (d := 89) (x := vN (adS w (setR r 0 0))) rfl rfl (okI (wrapI64 (Nat.le_of_lt_succ (Nat.mod_lt _ (by decide))) rfl)) ?_
      refine rO 90 (.ptr 7 0) ?_
      refine rO 91 (vI ((decN w).op)) ?_
      refine rCall (args := [vI ((decN w).op)]) (d := 92) (x := vN (sizeOf' (decN w).op)) rfl rfl rfl rfl (.inl rfl) rfl (rSize (decN w).op) ?_
      have b3 : (adS w (setR r 0 0)) + (sizeOf' (decN w).op) ≤ 4294967299 := Nat.add_le_add (Nat.le_of_lt_succ (Nat.mod_lt _ (by decide))) hsz
      refine rOk (d := 93) (x := vN ((adS w (setR r 0 0)) + (sizeOf' (decN w).op))) rfl rfl (okI (wrapI64 b3 rfl)) ?_
      refine rO 94 (.v (.string (cleanP (m.extract 0 (min m.size 300))))) ?_
      refine rO 95 (vN ((cleanP (m.extract 0 (min m.size 300))).size)) ?_
      refine rOk (d := 96) (x := .v (.bool (decide ((adS w (setR r 0 0) + sizeOf' (decN w).op : Nat) > (cleanP (m.extract 0 (min m.size 300))).size)))) rfl rfl (okB (gtN _ _)) ?_
      refine rE 97 ?_
      refine cCond (v := decide ((adS w (setR r 0 0) + sizeOf' (decN w).op : Nat) > (cleanP (m.extract 0 (min m.size 300))).size)) rfl (fun h3 => ?_) (fun h3 => ?_)
      · skip
        refine cSeq ?_
        refine cR ?_
        refine rO 8 (.v (.bool false)) ?_
        refine rE 98 ?_
        refine cRet ?_
        exact absurd (of_decide_eq_true h3) (by have := hae.2; omega)
      · skip
        refine cSkip ?_
        refine cR ?_
        refine rO 97 (.agg (encE (en1 w A (setR r 0 0) (cleanP (m.extract 0 (min m.size 300)))))) ?_
        refine rO 98 (.v (.string (cleanP (m.extract 0 (min m.size 300))))) ?_
        refine rO 99 (.ptr 77 12) ?_
        refine rOk (d := 100) (x := vU (adS w (setR r 0 0))) rfl rfl (congrArg (fun z : Int => Res.ok (.v (.int .u32 z))) hae.1) ?_
        refine rO 101 (.ptr 7 0) ?_
        refine rO 102 (vI ((decN w).op)) ?_
        refine rCall (args := [vI ((decN w).op)]) (d := 103) (x := vN (sizeOf' (decN w).op)) rfl rfl rfl rfl (.inl rfl) rfl (rSize (decN w).op) ?_
        refine rCall (args := [.v (.string (cleanP (m.extract 0 (min m.size 300)))), vU (adS w (setR r 0 0)), vN (sizeOf' (decN w).op)]) (d := 104) (x := .v (.string (readP (cleanP (m.extract 0 (min m.size 300))) (adS w (setR r 0 0)) (sizeOf' (decN w).op)))) rfl rfl rfl rfl (.inl rfl) rfl (rRead (cleanP (m.extract 0 (min m.size 300))) (adS w (setR r 0 0)) (sizeOf' (decN w).op) (by have := hae.2; omega) (Nat.le_of_lt_succ (Nat.mod_lt _ (by decide))) (by omega)) ?_
        refine rCall (args := [.agg (encE (en1 w A (setR r 0 0) (cleanP (m.extract 0 (min m.size 300))))), .v (.string (readP (cleanP (m.extract 0 (min m.size 300))) (adS w (setR r 0 0)) (sizeOf' (decN w).op)))]) (d := 105) (x := .agg (encE (takeP (en1 w A (setR r 0 0) (cleanP (m.extract 0 (min m.size 300)))) (loadP (decN w).op (readP (cleanP (m.extract 0 (min m.size 300))) (adS w (setR r 0 0)) (sizeOf' (decN w).op)))))) rfl rfl rfl rfl (.inl rfl) rfl ((en1_keep w A (setR r 0 0) (cleanP (m.extract 0 (min m.size 300)))).2.2 ▸ dTake (en1 w A (setR r 0 0) (cleanP (m.extract 0 (min m.size 300)))) (readP (cleanP (m.extract 0 (min m.size 300))) (adS w (setR r 0 0)) (sizeOf' (decN w).op)) (readP_lt2 _ _ _ hM)) ?_
        refine rFx0 (h' := upd _ 77 (some (.box (encE (takeP (en1 w A (setR r 0 0) (cleanP (m.extract 0 (min m.size 300)))) (loadP (decN w).op (readP (cleanP (m.extract 0 (min m.size 300))) (adS w (setR r 0 0)) (sizeOf' (decN w).op)))))))) rfl rfl (rfl) (trivial) ?_
        refine rE 107 ?_
        refine cSeq ?_
        refine cR ?_
        refine rO 106 (.agg (encE (takeP (en1 w A (setR r 0 0) (cleanP (m.extract 0 (min m.size 300)))) (loadP (decN w).op (readP (cleanP (m.extract 0 (min m.size 300))) (adS w (setR r 0 0)) (sizeOf' (decN w).op)))))) ?_
        refine rO 107 (vU ((setR r 0 0) ((decN w).rs2).toNat)) ?_
        refine rCall (args := [.agg (encE (takeP (en1 w A (setR r 0 0) (cleanP (m.extract 0 (min m.size 300)))) (loadP (decN w).op (readP (cleanP (m.extract 0 (min m.size 300))) (adS w (setR r 0 0)) (sizeOf' (decN w).op))))), vU ((setR r 0 0) ((decN w).rs2).toNat)]) (d := 108) (x := .agg (encE (storeP (takeP (en1 w A (setR r 0 0) (cleanP (m.extract 0 (min m.size 300)))) (loadP (decN w).op (readP (cleanP (m.extract 0 (min m.size 300))) (adS w (setR r 0 0)) (sizeOf' (decN w).op)))) (lowP ((setR r 0 0) (decN w).rs2.toNat) (sizeOf' (decN w).op))))) rfl rfl rfl rfl (.inl rfl) rfl (by have := dStore (takeP (en1 w A (setR r 0 0) (cleanP (m.extract 0 (min m.size 300)))) (loadP (decN w).op (readP (cleanP (m.extract 0 (min m.size 300))) (adS w (setR r 0 0)) (sizeOf' (decN w).op)))) ((setR r 0 0) (decN w).rs2.toNat) (by have := hq (decN w).rs2.toNat; omega); rw [(take_keep _ _).2.2, (en1_keep w A (setR r 0 0) (cleanP (m.extract 0 (min m.size 300)))).2.2] at this; exact this) ?_
        refine rFx0 (h' := upd _ 77 (some (.box (encE (storeP (takeP (en1 w A (setR r 0 0) (cleanP (m.extract 0 (min m.size 300)))) (loadP (decN w).op (readP (cleanP (m.extract 0 (min m.size 300))) (adS w (setR r 0 0)) (sizeOf' (decN w).op)))) (lowP ((setR r 0 0) (decN w).rs2.toNat) (sizeOf' (decN w).op))))))) rfl rfl (rfl) (trivial) ?_
        refine rE 111 ?_
        refine cSeq ?_
        refine cSeq ?_
        refine cR ?_
        refine rO 109 (vI 0) ?_
        refine rE 112 ?_
        refine cBlock ?_
        refine cLoop (κ := Nat) (fun k => ⟨slotsF [(14, .ptr 54 0), (17, .ptr 77 0), (109, vN k)], heapF [(77, .box (encE (goN k (storeP (takeP (en1 w A (setR r 0 0) (cleanP (m.extract 0 (min m.size 300)))) (loadP (decN w).op (readP (cleanP (m.extract 0 (min m.size 300))) (adS w (setR r 0 0)) (sizeOf' (decN w).op)))) (lowP ((setR r 0 0) (decN w).rs2.toNat) (sizeOf' (decN w).op)))))), (54, .box [vU (((stepP (prS w A) (stS w A (setR r 0 0) (cleanP (m.extract 0 (min m.size 300))))).2).pc), vU (((stepP (prS w A) (stS w A (setR r 0 0) (cleanP (m.extract 0 (min m.size 300))))).2).next), vI (((stepP (prS w A) (stS w A (setR r 0 0) (cleanP (m.extract 0 (min m.size 300))))).2).rd), vU (((stepP (prS w A) (stS w A (setR r 0 0) (cleanP (m.extract 0 (min m.size 300))))).2).value), vU (((stepP (prS w A) (stS w A (setR r 0 0) (cleanP (m.extract 0 (min m.size 300))))).2).addr), vI (((stepP (prS w A) (stS w A (setR r 0 0) (cleanP (m.extract 0 (min m.size 300))))).2).size), .v (.bool (((stepP (prS w A) (stS w A (setR r 0 0) (cleanP (m.extract 0 (min m.size 300))))).2).store)), vI (((stepP (prS w A) (stS w A (setR r 0 0) (cleanP (m.extract 0 (min m.size 300))))).2).halt), vI (((stepP (prS w A) (stS w A (setR r 0 0) (cleanP (m.extract 0 (min m.size 300))))).2).took)])], 112⟩) (fun k => k ≤ 40) (fun k => 40 - k) 0 (fun s => s) (Weak.of_lists (fun s => s) ⟨⟨rfl, rfl⟩, ⟨rfl, rfl⟩, ⟨rfl, rfl⟩, trivial⟩ ⟨⟨rfl, rfl, rfl⟩, ⟨rfl, rfl, rfl⟩, trivial⟩ rfl) (by decide) ?_
        intro k hk
        have hkB : k ≤ 1000000 := by omega
        refine cSeq ?_
        refine cR ?_
        refine rOk (d := 110) (x := .v (.bool (decide (k < 40)))) rfl rfl (okB (ltN _ _)) ?_
        refine rE 113 ?_
        refine cSeq ?_
        refine cCond (v := decide (k < 40)) rfl (fun h4 => ?_) (fun h4 => ?_)
        · skip
          refine cSkip ?_
          refine cSeq ?_
          refine cBlock ?_
          refine cR ?_
          refine rO 111 (.agg (encE (goN k (storeP (takeP (en1 w A (setR r 0 0) (cleanP (m.extract 0 (min m.size 300)))) (loadP (decN w).op (readP (cleanP (m.extract 0 (min m.size 300))) (adS w (setR r 0 0)) (sizeOf' (decN w).op)))) (lowP ((setR r 0 0) (decN w).rs2.toNat) (sizeOf' (decN w).op)))))) ?_
          refine rCall (args := [.agg (encE (goN k (storeP (takeP (en1 w A (setR r 0 0) (cleanP (m.extract 0 (min m.size 300)))) (loadP (decN w).op (readP (cleanP (m.extract 0 (min m.size 300))) (adS w (setR r 0 0)) (sizeOf' (decN w).op)))) (lowP ((setR r 0 0) (decN w).rs2.toNat) (sizeOf' (decN w).op)))))]) (d := 112) (x := .agg (encE (goP (goN k (storeP (takeP (en1 w A (setR r 0 0) (cleanP (m.extract 0 (min m.size 300)))) (loadP (decN w).op (readP (cleanP (m.extract 0 (min m.size 300))) (adS w (setR r 0 0)) (sizeOf' (decN w).op)))) (lowP ((setR r 0 0) (decN w).rs2.toNat) (sizeOf' (decN w).op))))))) rfl rfl rfl rfl (.inl rfl) rfl (dGo (goN k (storeP (takeP (en1 w A (setR r 0 0) (cleanP (m.extract 0 (min m.size 300)))) (loadP (decN w).op (readP (cleanP (m.extract 0 (min m.size 300))) (adS w (setR r 0 0)) (sizeOf' (decN w).op)))) (lowP ((setR r 0 0) (decN w).rs2.toNat) (sizeOf' (decN w).op))))) ?_
          refine rFx0 (h' := upd _ 77 (some (.box (encE (goP (goN k (storeP (takeP (en1 w A (setR r 0 0) (cleanP (m.extract 0 (min m.size 300)))) (loadP (decN w).op (readP (cleanP (m.extract 0 (min m.size 300))) (adS w (setR r 0 0)) (sizeOf' (decN w).op)))) (lowP ((setR r 0 0) (decN w).rs2.toNat) (sizeOf' (decN w).op))))))))) rfl rfl (rfl) (trivial) ?_
          refine rE 116 ?_
          refine cR ?_
          have b4 : k + 1 ≤ 1000001 := Nat.add_le_add hkB (Nat.le_refl 1)
          refine rOk (d := 113) (x := vN (k + 1)) rfl rfl (okI (wrapI64 b4 rfl)) ?_
          refine rO 109 (vN (k + 1)) ?_
          refine rE 118 ?_
          refine ⟨k + 1, fun s => s, Weak.of_lists (fun s => s) ⟨⟨rfl, rfl⟩, ⟨rfl, rfl⟩, ⟨rfl, rfl⟩, trivial⟩ ⟨⟨rfl, (congrArg (fun z => some (Blk.box (encE z))) (goN_succ k ((storeP (takeP (en1 w A (setR r 0 0) (cleanP (m.extract 0 (min m.size 300)))) (loadP (decN w).op (readP (cleanP (m.extract 0 (min m.size 300))) (adS w (setR r 0 0)) (sizeOf' (decN w).op)))) (lowP ((setR r 0 0) (decN w).rs2.toNat) (sizeOf' (decN w).op))))).symm), rfl⟩, ⟨rfl, rfl, rfl⟩, trivial⟩ rfl, by have := of_decide_eq_true h4; omega, by have := of_decide_eq_true h4; show 40 - (k + 1) < 40 - k; omega⟩
        · skip
          refine cExit ?_
          refine cSeq ?_
          refine cR ?_
          refine rCall (args := []) (d := 114) (x := .v (.bool true)) rfl rfl rfl rfl (.inl rfl) rfl (dAlive) ?_
          refine rO 115 (.v (.bool true)) ?_
          refine gOk (d := 116) (x := .ptr 77 8) (g := true) rfl rfl rfl rfl rfl rfl ?_
          refine gOkS (d := 117) (x := vI ((goN k (storeP (takeP (en1 w A (setR r 0 0) (cleanP (m.extract 0 (min m.size 300)))) (loadP (decN w).op (readP (cleanP (m.extract 0 (min m.size 300))) (adS w (setR r 0 0)) (sizeOf' (decN w).op)))) (lowP ((setR r 0 0) (decN w).rs2.toNat) (sizeOf' (decN w).op)))).is)) (g := true) rfl rfl rfl rfl (fun h => h) rfl rfl ?_
          refine gOkS (d := 118) (x := .v (.bool (((goN k (storeP (takeP (en1 w A (setR r 0 0) (cleanP (m.extract 0 (min m.size 300)))) (loadP (decN w).op (readP (cleanP (m.extract 0 (min m.size 300))) (adS w (setR r 0 0)) (sizeOf' (decN w).op)))) (lowP ((setR r 0 0) (decN w).rs2.toNat) (sizeOf' (decN w).op)))).is) == 3))) (g := true) rfl rfl rfl rfl (fun h => h) rfl rfl ?_
          refine rNeed (d := 119) (x := .v (.bool (cond2 true (((goN k (storeP (takeP (en1 w A (setR r 0 0) (cleanP (m.extract 0 (min m.size 300)))) (loadP (decN w).op (readP (cleanP (m.extract 0 (min m.size 300))) (adS w (setR r 0 0)) (sizeOf' (decN w).op)))) (lowP ((setR r 0 0) (decN w).rs2.toNat) (sizeOf' (decN w).op)))).is) == 3) false))) rfl rfl rfl (fun h => h) ?_
          refine rO 120 (.v (.bool (cond2 true (((goN k (storeP (takeP (en1 w A (setR r 0 0) (cleanP (m.extract 0 (min m.size 300)))) (loadP (decN w).op (readP (cleanP (m.extract 0 (min m.size 300))) (adS w (setR r 0 0)) (sizeOf' (decN w).op)))) (lowP ((setR r 0 0) (decN w).rs2.toNat) (sizeOf' (decN w).op)))).is) == 3) false))) ?_
          refine gOk (d := 121) (x := .agg (encE (goN k (storeP (takeP (en1 w A (setR r 0 0) (cleanP (m.extract 0 (min m.size 300)))) (loadP (decN w).op (readP (cleanP (m.extract 0 (min m.size 300))) (adS w (setR r 0 0)) (sizeOf' (decN w).op)))) (lowP ((setR r 0 0) (decN w).rs2.toNat) (sizeOf' (decN w).op)))))) (g := cond2 true (((goN k (storeP (takeP (en1 w A (setR r 0 0) (cleanP (m.extract 0 (min m.size 300)))) (loadP (decN w).op (readP (cleanP (m.extract 0 (min m.size 300))) (adS w (setR r 0 0)) (sizeOf' (decN w).op)))) (lowP ((setR r 0 0) (decN w).rs2.toNat) (sizeOf' (decN w).op)))).is) == 3) false) rfl rfl rfl rfl rfl rfl ?_
          refine gCallS (args := [.agg (encE (goN k (storeP (takeP (en1 w A (setR r 0 0) (cleanP (m.extract 0 (min m.size 300)))) (loadP (decN w).op (readP (cleanP (m.extract 0 (min m.size 300))) (adS w (setR r 0 0)) (sizeOf' (decN w).op)))) (lowP ((setR r 0 0) (decN w).rs2.toNat) (sizeOf' (decN w).op)))))]) (d := 122) (x := .agg [.v (.int .u32 ((toI (goN k (storeP (takeP (en1 w A (setR r 0 0) (cleanP (m.extract 0 (min m.size 300)))) (loadP (decN w).op (readP (cleanP (m.extract 0 (min m.size 300))) (adS w (setR r 0 0)) (sizeOf' (decN w).op)))) (lowP ((setR r 0 0) (decN w).rs2.toNat) (sizeOf' (decN w).op))))).pc)), .v (.int .u32 ((toI (goN k (storeP (takeP (en1 w A (setR r 0 0) (cleanP (m.extract 0 (min m.size 300)))) (loadP (decN w).op (readP (cleanP (m.extract 0 (min m.size 300))) (adS w (setR r 0 0)) (sizeOf' (decN w).op)))) (lowP ((setR r 0 0) (decN w).rs2.toNat) (sizeOf' (decN w).op))))).next)), vI ((toI (goN k (storeP (takeP (en1 w A (setR r 0 0) (cleanP (m.extract 0 (min m.size 300)))) (loadP (decN w).op (readP (cleanP (m.extract 0 (min m.size 300))) (adS w (setR r 0 0)) (sizeOf' (decN w).op)))) (lowP ((setR r 0 0) (decN w).rs2.toNat) (sizeOf' (decN w).op))))).rd), .v (.int .u32 ((toI (goN k (storeP (takeP (en1 w A (setR r 0 0) (cleanP (m.extract 0 (min m.size 300)))) (loadP (decN w).op (readP (cleanP (m.extract 0 (min m.size 300))) (adS w (setR r 0 0)) (sizeOf' (decN w).op)))) (lowP ((setR r 0 0) (decN w).rs2.toNat) (sizeOf' (decN w).op))))).value)), .v (.int .u32 ((toI (goN k (storeP (takeP (en1 w A (setR r 0 0) (cleanP (m.extract 0 (min m.size 300)))) (loadP (decN w).op (readP (cleanP (m.extract 0 (min m.size 300))) (adS w (setR r 0 0)) (sizeOf' (decN w).op)))) (lowP ((setR r 0 0) (decN w).rs2.toNat) (sizeOf' (decN w).op))))).addr)), vI ((toI (goN k (storeP (takeP (en1 w A (setR r 0 0) (cleanP (m.extract 0 (min m.size 300)))) (loadP (decN w).op (readP (cleanP (m.extract 0 (min m.size 300))) (adS w (setR r 0 0)) (sizeOf' (decN w).op)))) (lowP ((setR r 0 0) (decN w).rs2.toNat) (sizeOf' (decN w).op))))).size), .v (.bool ((toI (goN k (storeP (takeP (en1 w A (setR r 0 0) (cleanP (m.extract 0 (min m.size 300)))) (loadP (decN w).op (readP (cleanP (m.extract 0 (min m.size 300))) (adS w (setR r 0 0)) (sizeOf' (decN w).op)))) (lowP ((setR r 0 0) (decN w).rs2.toNat) (sizeOf' (decN w).op))))).store)), vI ((toI (goN k (storeP (takeP (en1 w A (setR r 0 0) (cleanP (m.extract 0 (min m.size 300)))) (loadP (decN w).op (readP (cleanP (m.extract 0 (min m.size 300))) (adS w (setR r 0 0)) (sizeOf' (decN w).op)))) (lowP ((setR r 0 0) (decN w).rs2.toNat) (sizeOf' (decN w).op))))).halt), vI ((toI (goN k (storeP (takeP (en1 w A (setR r 0 0) (cleanP (m.extract 0 (min m.size 300)))) (loadP (decN w).op (readP (cleanP (m.extract 0 (min m.size 300))) (adS w (setR r 0 0)) (sizeOf' (decN w).op)))) (lowP ((setR r 0 0) (decN w).rs2.toNat) (sizeOf' (decN w).op))))).took)]) (g := cond2 true (((goN k (storeP (takeP (en1 w A (setR r 0 0) (cleanP (m.extract 0 (min m.size 300)))) (loadP (decN w).op (readP (cleanP (m.extract 0 (min m.size 300))) (adS w (setR r 0 0)) (sizeOf' (decN w).op)))) (lowP ((setR r 0 0) (decN w).rs2.toNat) (sizeOf' (decN w).op)))).is) == 3) false) rfl rfl rfl rfl (fun h => h) rfl rfl rfl (.inl rfl) rfl (fun hg => dTold (goN k (storeP (takeP (en1 w A (setR r 0 0) (cleanP (m.extract 0 (min m.size 300)))) (loadP (decN w).op (readP (cleanP (m.extract 0 (min m.size 300))) (adS w (setR r 0 0)) (sizeOf' (decN w).op)))) (lowP ((setR r 0 0) (decN w).rs2.toNat) (sizeOf' (decN w).op)))) (keepZ2 k A w (setR r 0 0) (cleanP (m.extract 0 (min m.size 300))) _ _ hA him).1 (keepZ2 k A w (setR r 0 0) (cleanP (m.extract 0 (min m.size 300))) _ _ hA him).2) ?_
          refine gOk (d := 123) (x := .agg [vU (((stepP (prS w A) (stS w A (setR r 0 0) (cleanP (m.extract 0 (min m.size 300))))).2).pc), vU (((stepP (prS w A) (stS w A (setR r 0 0) (cleanP (m.extract 0 (min m.size 300))))).2).next), vI (((stepP (prS w A) (stS w A (setR r 0 0) (cleanP (m.extract 0 (min m.size 300))))).2).rd), vU (((stepP (prS w A) (stS w A (setR r 0 0) (cleanP (m.extract 0 (min m.size 300))))).2).value), vU (((stepP (prS w A) (stS w A (setR r 0 0) (cleanP (m.extract 0 (min m.size 300))))).2).addr), vI (((stepP (prS w A) (stS w A (setR r 0 0) (cleanP (m.extract 0 (min m.size 300))))).2).size), .v (.bool (((stepP (prS w A) (stS w A (setR r 0 0) (cleanP (m.extract 0 (min m.size 300))))).2).store)), vI (((stepP (prS w A) (stS w A (setR r 0 0) (cleanP (m.extract 0 (min m.size 300))))).2).halt), vI (((stepP (prS w A) (stS w A (setR r 0 0) (cleanP (m.extract 0 (min m.size 300))))).2).took)]) (g := cond2 true (((goN k (storeP (takeP (en1 w A (setR r 0 0) (cleanP (m.extract 0 (min m.size 300)))) (loadP (decN w).op (readP (cleanP (m.extract 0 (min m.size 300))) (adS w (setR r 0 0)) (sizeOf' (decN w).op)))) (lowP ((setR r 0 0) (decN w).rs2.toNat) (sizeOf' (decN w).op)))).is) == 3) false) rfl rfl rfl rfl rfl rfl ?_
          refine gOkS (d := 124) (x := .v (.bool ((((toI (goN k (storeP (takeP (en1 w A (setR r 0 0) (cleanP (m.extract 0 (min m.size 300)))) (loadP (decN w).op (readP (cleanP (m.extract 0 (min m.size 300))) (adS w (setR r 0 0)) (sizeOf' (decN w).op)))) (lowP ((setR r 0 0) (decN w).rs2.toNat) (sizeOf' (decN w).op))))).pc) == ((((stepP (prS w A) (stS w A (setR r 0 0) (cleanP (m.extract 0 (min m.size 300))))).2).pc : Nat) : Int)) && ((((toI (goN k (storeP (takeP (en1 w A (setR r 0 0) (cleanP (m.extract 0 (min m.size 300)))) (loadP (decN w).op (readP (cleanP (m.extract 0 (min m.size 300))) (adS w (setR r 0 0)) (sizeOf' (decN w).op)))) (lowP ((setR r 0 0) (decN w).rs2.toNat) (sizeOf' (decN w).op))))).next) == ((((stepP (prS w A) (stS w A (setR r 0 0) (cleanP (m.extract 0 (min m.size 300))))).2).next : Nat) : Int)) && ((((toI (goN k (storeP (takeP (en1 w A (setR r 0 0) (cleanP (m.extract 0 (min m.size 300)))) (loadP (decN w).op (readP (cleanP (m.extract 0 (min m.size 300))) (adS w (setR r 0 0)) (sizeOf' (decN w).op)))) (lowP ((setR r 0 0) (decN w).rs2.toNat) (sizeOf' (decN w).op))))).rd) == (((stepP (prS w A) (stS w A (setR r 0 0) (cleanP (m.extract 0 (min m.size 300))))).2).rd)) && ((((toI (goN k (storeP (takeP (en1 w A (setR r 0 0) (cleanP (m.extract 0 (min m.size 300)))) (loadP (decN w).op (readP (cleanP (m.extract 0 (min m.size 300))) (adS w (setR r 0 0)) (sizeOf' (decN w).op)))) (lowP ((setR r 0 0) (decN w).rs2.toNat) (sizeOf' (decN w).op))))).value) == ((((stepP (prS w A) (stS w A (setR r 0 0) (cleanP (m.extract 0 (min m.size 300))))).2).value : Nat) : Int)) && ((((toI (goN k (storeP (takeP (en1 w A (setR r 0 0) (cleanP (m.extract 0 (min m.size 300)))) (loadP (decN w).op (readP (cleanP (m.extract 0 (min m.size 300))) (adS w (setR r 0 0)) (sizeOf' (decN w).op)))) (lowP ((setR r 0 0) (decN w).rs2.toNat) (sizeOf' (decN w).op))))).addr) == ((((stepP (prS w A) (stS w A (setR r 0 0) (cleanP (m.extract 0 (min m.size 300))))).2).addr : Nat) : Int)) && ((((toI (goN k (storeP (takeP (en1 w A (setR r 0 0) (cleanP (m.extract 0 (min m.size 300)))) (loadP (decN w).op (readP (cleanP (m.extract 0 (min m.size 300))) (adS w (setR r 0 0)) (sizeOf' (decN w).op)))) (lowP ((setR r 0 0) (decN w).rs2.toNat) (sizeOf' (decN w).op))))).size) == (((stepP (prS w A) (stS w A (setR r 0 0) (cleanP (m.extract 0 (min m.size 300))))).2).size)) && ((((toI (goN k (storeP (takeP (en1 w A (setR r 0 0) (cleanP (m.extract 0 (min m.size 300)))) (loadP (decN w).op (readP (cleanP (m.extract 0 (min m.size 300))) (adS w (setR r 0 0)) (sizeOf' (decN w).op)))) (lowP ((setR r 0 0) (decN w).rs2.toNat) (sizeOf' (decN w).op))))).store) == (((stepP (prS w A) (stS w A (setR r 0 0) (cleanP (m.extract 0 (min m.size 300))))).2).store)) && ((((toI (goN k (storeP (takeP (en1 w A (setR r 0 0) (cleanP (m.extract 0 (min m.size 300)))) (loadP (decN w).op (readP (cleanP (m.extract 0 (min m.size 300))) (adS w (setR r 0 0)) (sizeOf' (decN w).op)))) (lowP ((setR r 0 0) (decN w).rs2.toNat) (sizeOf' (decN w).op))))).halt) == (((stepP (prS w A) (stS w A (setR r 0 0) (cleanP (m.extract 0 (min m.size 300))))).2).halt)) && ((((toI (goN k (storeP (takeP (en1 w A (setR r 0 0) (cleanP (m.extract 0 (min m.size 300)))) (loadP (decN w).op (readP (cleanP (m.extract 0 (min m.size 300))) (adS w (setR r 0 0)) (sizeOf' (decN w).op)))) (lowP ((setR r 0 0) (decN w).rs2.toNat) (sizeOf' (decN w).op))))).took) == (((stepP (prS w A) (stS w A (setR r 0 0) (cleanP (m.extract 0 (min m.size 300))))).2).took)) && true))))))))))) (g := cond2 true (((goN k (storeP (takeP (en1 w A (setR r 0 0) (cleanP (m.extract 0 (min m.size 300)))) (loadP (decN w).op (readP (cleanP (m.extract 0 (min m.size 300))) (adS w (setR r 0 0)) (sizeOf' (decN w).op)))) (lowP ((setR r 0 0) (decN w).rs2.toNat) (sizeOf' (decN w).op)))).is) == 3) false) rfl rfl rfl rfl (fun h => by simp_all) rfl rfl ?_
          refine rNeed (d := 125) (x := .v (.bool (cond2 (cond2 true (((goN k (storeP (takeP (en1 w A (setR r 0 0) (cleanP (m.extract 0 (min m.size 300)))) (loadP (decN w).op (readP (cleanP (m.extract 0 (min m.size 300))) (adS w (setR r 0 0)) (sizeOf' (decN w).op)))) (lowP ((setR r 0 0) (decN w).rs2.toNat) (sizeOf' (decN w).op)))).is) == 3) false) ((((toI (goN k (storeP (takeP (en1 w A (setR r 0 0) (cleanP (m.extract 0 (min m.size 300)))) (loadP (decN w).op (readP (cleanP (m.extract 0 (min m.size 300))) (adS w (setR r 0 0)) (sizeOf' (decN w).op)))) (lowP ((setR r 0 0) (decN w).rs2.toNat) (sizeOf' (decN w).op))))).pc) == ((((stepP (prS w A) (stS w A (setR r 0 0) (cleanP (m.extract 0 (min m.size 300))))).2).pc : Nat) : Int)) && ((((toI (goN k (storeP (takeP (en1 w A (setR r 0 0) (cleanP (m.extract 0 (min m.size 300)))) (loadP (decN w).op (readP (cleanP (m.extract 0 (min m.size 300))) (adS w (setR r 0 0)) (sizeOf' (decN w).op)))) (lowP ((setR r 0 0) (decN w).rs2.toNat) (sizeOf' (decN w).op))))).next) == ((((stepP (prS w A) (stS w A (setR r 0 0) (cleanP (m.extract 0 (min m.size 300))))).2).next : Nat) : Int)) && ((((toI (goN k (storeP (takeP (en1 w A (setR r 0 0) (cleanP (m.extract 0 (min m.size 300)))) (loadP (decN w).op (readP (cleanP (m.extract 0 (min m.size 300))) (adS w (setR r 0 0)) (sizeOf' (decN w).op)))) (lowP ((setR r 0 0) (decN w).rs2.toNat) (sizeOf' (decN w).op))))).rd) == (((stepP (prS w A) (stS w A (setR r 0 0) (cleanP (m.extract 0 (min m.size 300))))).2).rd)) && ((((toI (goN k (storeP (takeP (en1 w A (setR r 0 0) (cleanP (m.extract 0 (min m.size 300)))) (loadP (decN w).op (readP (cleanP (m.extract 0 (min m.size 300))) (adS w (setR r 0 0)) (sizeOf' (decN w).op)))) (lowP ((setR r 0 0) (decN w).rs2.toNat) (sizeOf' (decN w).op))))).value) == ((((stepP (prS w A) (stS w A (setR r 0 0) (cleanP (m.extract 0 (min m.size 300))))).2).value : Nat) : Int)) && ((((toI (goN k (storeP (takeP (en1 w A (setR r 0 0) (cleanP (m.extract 0 (min m.size 300)))) (loadP (decN w).op (readP (cleanP (m.extract 0 (min m.size 300))) (adS w (setR r 0 0)) (sizeOf' (decN w).op)))) (lowP ((setR r 0 0) (decN w).rs2.toNat) (sizeOf' (decN w).op))))).addr) == ((((stepP (prS w A) (stS w A (setR r 0 0) (cleanP (m.extract 0 (min m.size 300))))).2).addr : Nat) : Int)) && ((((toI (goN k (storeP (takeP (en1 w A (setR r 0 0) (cleanP (m.extract 0 (min m.size 300)))) (loadP (decN w).op (readP (cleanP (m.extract 0 (min m.size 300))) (adS w (setR r 0 0)) (sizeOf' (decN w).op)))) (lowP ((setR r 0 0) (decN w).rs2.toNat) (sizeOf' (decN w).op))))).size) == (((stepP (prS w A) (stS w A (setR r 0 0) (cleanP (m.extract 0 (min m.size 300))))).2).size)) && ((((toI (goN k (storeP (takeP (en1 w A (setR r 0 0) (cleanP (m.extract 0 (min m.size 300)))) (loadP (decN w).op (readP (cleanP (m.extract 0 (min m.size 300))) (adS w (setR r 0 0)) (sizeOf' (decN w).op)))) (lowP ((setR r 0 0) (decN w).rs2.toNat) (sizeOf' (decN w).op))))).store) == (((stepP (prS w A) (stS w A (setR r 0 0) (cleanP (m.extract 0 (min m.size 300))))).2).store)) && ((((toI (goN k (storeP (takeP (en1 w A (setR r 0 0) (cleanP (m.extract 0 (min m.size 300)))) (loadP (decN w).op (readP (cleanP (m.extract 0 (min m.size 300))) (adS w (setR r 0 0)) (sizeOf' (decN w).op)))) (lowP ((setR r 0 0) (decN w).rs2.toNat) (sizeOf' (decN w).op))))).halt) == (((stepP (prS w A) (stS w A (setR r 0 0) (cleanP (m.extract 0 (min m.size 300))))).2).halt)) && ((((toI (goN k (storeP (takeP (en1 w A (setR r 0 0) (cleanP (m.extract 0 (min m.size 300)))) (loadP (decN w).op (readP (cleanP (m.extract 0 (min m.size 300))) (adS w (setR r 0 0)) (sizeOf' (decN w).op)))) (lowP ((setR r 0 0) (decN w).rs2.toNat) (sizeOf' (decN w).op))))).took) == (((stepP (prS w A) (stS w A (setR r 0 0) (cleanP (m.extract 0 (min m.size 300))))).2).took)) && true))))))))) false))) rfl rfl rfl (fun h => h) ?_
          refine rO 8 (.v (.bool (cond2 (cond2 true (((goN k (storeP (takeP (en1 w A (setR r 0 0) (cleanP (m.extract 0 (min m.size 300)))) (loadP (decN w).op (readP (cleanP (m.extract 0 (min m.size 300))) (adS w (setR r 0 0)) (sizeOf' (decN w).op)))) (lowP ((setR r 0 0) (decN w).rs2.toNat) (sizeOf' (decN w).op)))).is) == 3) false) ((((toI (goN k (storeP (takeP (en1 w A (setR r 0 0) (cleanP (m.extract 0 (min m.size 300)))) (loadP (decN w).op (readP (cleanP (m.extract 0 (min m.size 300))) (adS w (setR r 0 0)) (sizeOf' (decN w).op)))) (lowP ((setR r 0 0) (decN w).rs2.toNat) (sizeOf' (decN w).op))))).pc) == ((((stepP (prS w A) (stS w A (setR r 0 0) (cleanP (m.extract 0 (min m.size 300))))).2).pc : Nat) : Int)) && ((((toI (goN k (storeP (takeP (en1 w A (setR r 0 0) (cleanP (m.extract 0 (min m.size 300)))) (loadP (decN w).op (readP (cleanP (m.extract 0 (min m.size 300))) (adS w (setR r 0 0)) (sizeOf' (decN w).op)))) (lowP ((setR r 0 0) (decN w).rs2.toNat) (sizeOf' (decN w).op))))).next) == ((((stepP (prS w A) (stS w A (setR r 0 0) (cleanP (m.extract 0 (min m.size 300))))).2).next : Nat) : Int)) && ((((toI (goN k (storeP (takeP (en1 w A (setR r 0 0) (cleanP (m.extract 0 (min m.size 300)))) (loadP (decN w).op (readP (cleanP (m.extract 0 (min m.size 300))) (adS w (setR r 0 0)) (sizeOf' (decN w).op)))) (lowP ((setR r 0 0) (decN w).rs2.toNat) (sizeOf' (decN w).op))))).rd) == (((stepP (prS w A) (stS w A (setR r 0 0) (cleanP (m.extract 0 (min m.size 300))))).2).rd)) && ((((toI (goN k (storeP (takeP (en1 w A (setR r 0 0) (cleanP (m.extract 0 (min m.size 300)))) (loadP (decN w).op (readP (cleanP (m.extract 0 (min m.size 300))) (adS w (setR r 0 0)) (sizeOf' (decN w).op)))) (lowP ((setR r 0 0) (decN w).rs2.toNat) (sizeOf' (decN w).op))))).value) == ((((stepP (prS w A) (stS w A (setR r 0 0) (cleanP (m.extract 0 (min m.size 300))))).2).value : Nat) : Int)) && ((((toI (goN k (storeP (takeP (en1 w A (setR r 0 0) (cleanP (m.extract 0 (min m.size 300)))) (loadP (decN w).op (readP (cleanP (m.extract 0 (min m.size 300))) (adS w (setR r 0 0)) (sizeOf' (decN w).op)))) (lowP ((setR r 0 0) (decN w).rs2.toNat) (sizeOf' (decN w).op))))).addr) == ((((stepP (prS w A) (stS w A (setR r 0 0) (cleanP (m.extract 0 (min m.size 300))))).2).addr : Nat) : Int)) && ((((toI (goN k (storeP (takeP (en1 w A (setR r 0 0) (cleanP (m.extract 0 (min m.size 300)))) (loadP (decN w).op (readP (cleanP (m.extract 0 (min m.size 300))) (adS w (setR r 0 0)) (sizeOf' (decN w).op)))) (lowP ((setR r 0 0) (decN w).rs2.toNat) (sizeOf' (decN w).op))))).size) == (((stepP (prS w A) (stS w A (setR r 0 0) (cleanP (m.extract 0 (min m.size 300))))).2).size)) && ((((toI (goN k (storeP (takeP (en1 w A (setR r 0 0) (cleanP (m.extract 0 (min m.size 300)))) (loadP (decN w).op (readP (cleanP (m.extract 0 (min m.size 300))) (adS w (setR r 0 0)) (sizeOf' (decN w).op)))) (lowP ((setR r 0 0) (decN w).rs2.toNat) (sizeOf' (decN w).op))))).store) == (((stepP (prS w A) (stS w A (setR r 0 0) (cleanP (m.extract 0 (min m.size 300))))).2).store)) && ((((toI (goN k (storeP (takeP (en1 w A (setR r 0 0) (cleanP (m.extract 0 (min m.size 300)))) (loadP (decN w).op (readP (cleanP (m.extract 0 (min m.size 300))) (adS w (setR r 0 0)) (sizeOf' (decN w).op)))) (lowP ((setR r 0 0) (decN w).rs2.toNat) (sizeOf' (decN w).op))))).halt) == (((stepP (prS w A) (stS w A (setR r 0 0) (cleanP (m.extract 0 (min m.size 300))))).2).halt)) && ((((toI (goN k (storeP (takeP (en1 w A (setR r 0 0) (cleanP (m.extract 0 (min m.size 300)))) (loadP (decN w).op (readP (cleanP (m.extract 0 (min m.size 300))) (adS w (setR r 0 0)) (sizeOf' (decN w).op)))) (lowP ((setR r 0 0) (decN w).rs2.toNat) (sizeOf' (decN w).op))))).took) == (((stepP (prS w A) (stS w A (setR r 0 0) (cleanP (m.extract 0 (min m.size 300))))).2).took)) && true))))))))) false))) ?_
          refine rE 126 ?_
          refine cRet ?_
          obtain rfl : k = 40 := by have := of_decide_eq_false h4; omega
          exact finTA rfl trivial rfl (congrArg (fun b : Bool => AV.v (.bool b)) (fin_ok ((steps_law (w := w) (A := A) (r := (setR r 0 0)) (m := (cleanP (m.extract 0 (min m.size 300)))) (dec_of h1).1 (dec_of h1).2 hA hq).1 ⟨hkk.2, hkk.1⟩).1 ((steps_law (w := w) (A := A) (r := (setR r 0 0)) (m := (cleanP (m.extract 0 (min m.size 300)))) (dec_of h1).1 (dec_of h1).2 hA hq).1 ⟨hkk.2, hkk.1⟩).2))
    · skip
      refine cSkip ?_
      refine cSeq ?_
      refine cR ?_
      refine rO 106 (.agg (encE (en1 w A (setR r 0 0) (cleanP (m.extract 0 (min m.size 300)))))) ?_
      refine rO 107 (vU ((setR r 0 0) ((decN w).rs2).toNat)) ?_
      refine rCall (args := [.agg (encE (en1 w A (setR r 0 0) (cleanP (m.extract 0 (min m.size 300))))), vU ((setR r 0 0) ((decN w).rs2).toNat)]) (d := 108) (x := .agg (encE (storeP (en1 w A (setR r 0 0) (cleanP (m.extract 0 (min m.size 300)))) (lowP ((setR r 0 0) (decN w).rs2.toNat) (sizeOf' (decN w).op))))) rfl rfl rfl rfl (.inl rfl) rfl (by have := dStore (en1 w A (setR r 0 0) (cleanP (m.extract 0 (min m.size 300)))) ((setR r 0 0) (decN w).rs2.toNat) (by have := hq (decN w).rs2.toNat; omega); rw [(en1_keep w A (setR r 0 0) (cleanP (m.extract 0 (min m.size 300)))).2.2] at this; exact this) ?_
      refine rFx0 (h' := upd _ 77 (some (.box (encE (storeP (en1 w A (setR r 0 0) (cleanP (m.extract 0 (min m.size 300)))) (lowP ((setR r 0 0) (decN w).rs2.toNat) (sizeOf' (decN w).op))))))) rfl rfl (rfl) (trivial) ?_
      refine rE 91 ?_
      refine cSeq ?_
      refine cSeq ?_
      refine cR ?_
      refine rO 109 (vI 0) ?_
      refine rE 92 ?_
      refine cBlock ?_
      refine cLoop (κ := Nat) (fun k => ⟨slotsF [(14, .ptr 54 0), (17, .ptr 77 0), (109, vN k)], heapF [(77, .box (encE (goN k (storeP (en1 w A (setR r 0 0) (cleanP (m.extract 0 (min m.size 300)))) (lowP ((setR r 0 0) (decN w).rs2.toNat) (sizeOf' (decN w).op)))))), (54, .box [vU (((stepP (prS w A) (stS w A (setR r 0 0) (cleanP (m.extract 0 (min m.size 300))))).2).pc), vU (((stepP (prS w A) (stS w A (setR r 0 0) (cleanP (m.extract 0 (min m.size 300))))).2).next), vI (((stepP (prS w A) (stS w A (setR r 0 0) (cleanP (m.extract 0 (min m.size 300))))).2).rd), vU (((stepP (prS w A) (stS w A (setR r 0 0) (cleanP (m.extract 0 (min m.size 300))))).2).value), vU (((stepP (prS w A) (stS w A (setR r 0 0) (cleanP (m.extract 0 (min m.size 300))))).2).addr), vI (((stepP (prS w A) (stS w A (setR r 0 0) (cleanP (m.extract 0 (min m.size 300))))).2).size), .v (.bool (((stepP (prS w A) (stS w A (setR r 0 0) (cleanP (m.extract 0 (min m.size 300))))).2).store)), vI (((stepP (prS w A) (stS w A (setR r 0 0) (cleanP (m.extract 0 (min m.size 300))))).2).halt), vI (((stepP (prS w A) (stS w A (setR r 0 0) (cleanP (m.extract 0 (min m.size 300))))).2).took)])], 92⟩) (fun k => k ≤ 40) (fun k => 40 - k) 0 (fun s => s) (Weak.of_lists (fun s => s) ⟨⟨rfl, rfl⟩, ⟨rfl, rfl⟩, ⟨rfl, rfl⟩, trivial⟩ ⟨⟨rfl, rfl, rfl⟩, ⟨rfl, rfl, rfl⟩, trivial⟩ rfl) (by decide) ?_
      intro k hk
      have hkB : k ≤ 1000000 := by omega
      refine cSeq ?_
      refine cR ?_
      refine rOk (d := 110) (x := .v (.bool (decide (k < 40)))) rfl rfl (okB (ltN _ _)) ?_
      refine rE 93 ?_
      refine cSeq ?_
      refine cCond (v := decide (k < 40)) rfl (fun h5 => ?_) (fun h5 => ?_)
      · skip
        refine cSkip ?_
        refine cSeq ?_
        refine cBlock ?_
        refine cR ?_
        refine rO 111 (.agg (encE (goN k (storeP (en1 w A (setR r 0 0) (cleanP (m.extract 0 (min m.size 300)))) (lowP ((setR r 0 0) (decN w).rs2.toNat) (sizeOf' (decN w).op)))))) ?_
        refine rCall (args := [.agg (encE (goN k (storeP (en1 w A (setR r 0 0) (cleanP (m.extract 0 (min m.size 300)))) (lowP ((setR r 0 0) (decN w).rs2.toNat) (sizeOf' (decN w).op)))))]) (d := 112) (x := .agg (encE (goP (goN k (storeP (en1 w A (setR r 0 0) (cleanP (m.extract 0 (min m.size 300)))) (lowP ((setR r 0 0) (decN w).rs2.toNat) (sizeOf' (decN w).op))))))) rfl rfl rfl rfl (.inl rfl) rfl (dGo (goN k (storeP (en1 w A (setR r 0 0) (cleanP (m.extract 0 (min m.size 300)))) (lowP ((setR r 0 0) (decN w).rs2.toNat) (sizeOf' (decN w).op))))) ?_
        refine rFx0 (h' := upd _ 77 (some (.box (encE (goP (goN k (storeP (en1 w A (setR r 0 0) (cleanP (m.extract 0 (min m.size 300)))) (lowP ((setR r 0 0) (decN w).rs2.toNat) (sizeOf' (decN w).op))))))))) rfl rfl (rfl) (trivial) ?_
        refine rE 96 ?_
        refine cR ?_
        have b5 : k + 1 ≤ 1000001 := Nat.add_le_add hkB (Nat.le_refl 1)
        refine rOk (d := 113) (x := vN (k + 1)) rfl rfl (okI (wrapI64 b5 rfl)) ?_
        refine rO 109 (vN (k + 1)) ?_
        refine rE 98 ?_
        refine ⟨k + 1, fun s => s, Weak.of_lists (fun s => s) ⟨⟨rfl, rfl⟩, ⟨rfl, rfl⟩, ⟨rfl, rfl⟩, trivial⟩ ⟨⟨rfl, (congrArg (fun z => some (Blk.box (encE z))) (goN_succ k ((storeP (en1 w A (setR r 0 0) (cleanP (m.extract 0 (min m.size 300)))) (lowP ((setR r 0 0) (decN w).rs2.toNat) (sizeOf' (decN w).op))))).symm), rfl⟩, ⟨rfl, rfl, rfl⟩, trivial⟩ rfl, by have := of_decide_eq_true h5; omega, by have := of_decide_eq_true h5; show 40 - (k + 1) < 40 - k; omega⟩
      · skip
        refine cExit ?_
        refine cSeq ?_
        refine cR ?_
        refine rCall (args := []) (d := 114) (x := .v (.bool true)) rfl rfl rfl rfl (.inl rfl) rfl (dAlive) ?_
        refine rO 115 (.v (.bool true)) ?_
        refine gOk (d := 116) (x := .ptr 77 8) (g := true) rfl rfl rfl rfl rfl rfl ?_
        refine gOkS (d := 117) (x := vI ((goN k (storeP (en1 w A (setR r 0 0) (cleanP (m.extract 0 (min m.size 300)))) (lowP ((setR r 0 0) (decN w).rs2.toNat) (sizeOf' (decN w).op)))).is)) (g := true) rfl rfl rfl rfl (fun h => h) rfl rfl ?_
        refine gOkS (d := 118) (x := .v (.bool (((goN k (storeP (en1 w A (setR r 0 0) (cleanP (m.extract 0 (min m.size 300)))) (lowP ((setR r 0 0) (decN w).rs2.toNat) (sizeOf' (decN w).op)))).is) == 3))) (g := true) rfl rfl rfl rfl (fun h => h) rfl rfl ?_
        refine rNeed (d := 119) (x := .v (.bool (cond2 true (((goN k (storeP (en1 w A (setR r 0 0) (cleanP (m.extract 0 (min m.size 300)))) (lowP ((setR r 0 0) (decN w).rs2.toNat) (sizeOf' (decN w).op)))).is) == 3) false))) rfl rfl rfl (fun h => h) ?_
        refine rO 120 (.v (.bool (cond2 true (((goN k (storeP (en1 w A (setR r 0 0) (cleanP (m.extract 0 (min m.size 300)))) (lowP ((setR r 0 0) (decN w).rs2.toNat) (sizeOf' (decN w).op)))).is) == 3) false))) ?_
        refine gOk (d := 121) (x := .agg (encE (goN k (storeP (en1 w A (setR r 0 0) (cleanP (m.extract 0 (min m.size 300)))) (lowP ((setR r 0 0) (decN w).rs2.toNat) (sizeOf' (decN w).op)))))) (g := cond2 true (((goN k (storeP (en1 w A (setR r 0 0) (cleanP (m.extract 0 (min m.size 300)))) (lowP ((setR r 0 0) (decN w).rs2.toNat) (sizeOf' (decN w).op)))).is) == 3) false) rfl rfl rfl rfl rfl rfl ?_
        refine gCallS (args := [.agg (encE (goN k (storeP (en1 w A (setR r 0 0) (cleanP (m.extract 0 (min m.size 300)))) (lowP ((setR r 0 0) (decN w).rs2.toNat) (sizeOf' (decN w).op)))))]) (d := 122) (x := .agg [.v (.int .u32 ((toI (goN k (storeP (en1 w A (setR r 0 0) (cleanP (m.extract 0 (min m.size 300)))) (lowP ((setR r 0 0) (decN w).rs2.toNat) (sizeOf' (decN w).op))))).pc)), .v (.int .u32 ((toI (goN k (storeP (en1 w A (setR r 0 0) (cleanP (m.extract 0 (min m.size 300)))) (lowP ((setR r 0 0) (decN w).rs2.toNat) (sizeOf' (decN w).op))))).next)), vI ((toI (goN k (storeP (en1 w A (setR r 0 0) (cleanP (m.extract 0 (min m.size 300)))) (lowP ((setR r 0 0) (decN w).rs2.toNat) (sizeOf' (decN w).op))))).rd), .v (.int .u32 ((toI (goN k (storeP (en1 w A (setR r 0 0) (cleanP (m.extract 0 (min m.size 300)))) (lowP ((setR r 0 0) (decN w).rs2.toNat) (sizeOf' (decN w).op))))).value)), .v (.int .u32 ((toI (goN k (storeP (en1 w A (setR r 0 0) (cleanP (m.extract 0 (min m.size 300)))) (lowP ((setR r 0 0) (decN w).rs2.toNat) (sizeOf' (decN w).op))))).addr)), vI ((toI (goN k (storeP (en1 w A (setR r 0 0) (cleanP (m.extract 0 (min m.size 300)))) (lowP ((setR r 0 0) (decN w).rs2.toNat) (sizeOf' (decN w).op))))).size), .v (.bool ((toI (goN k (storeP (en1 w A (setR r 0 0) (cleanP (m.extract 0 (min m.size 300)))) (lowP ((setR r 0 0) (decN w).rs2.toNat) (sizeOf' (decN w).op))))).store)), vI ((toI (goN k (storeP (en1 w A (setR r 0 0) (cleanP (m.extract 0 (min m.size 300)))) (lowP ((setR r 0 0) (decN w).rs2.toNat) (sizeOf' (decN w).op))))).halt), vI ((toI (goN k (storeP (en1 w A (setR r 0 0) (cleanP (m.extract 0 (min m.size 300)))) (lowP ((setR r 0 0) (decN w).rs2.toNat) (sizeOf' (decN w).op))))).took)]) (g := cond2 true (((goN k (storeP (en1 w A (setR r 0 0) (cleanP (m.extract 0 (min m.size 300)))) (lowP ((setR r 0 0) (decN w).rs2.toNat) (sizeOf' (decN w).op)))).is) == 3) false) rfl rfl rfl rfl (fun h => h) rfl rfl rfl (.inl rfl) rfl (fun hg => dTold (goN k (storeP (en1 w A (setR r 0 0) (cleanP (m.extract 0 (min m.size 300)))) (lowP ((setR r 0 0) (decN w).rs2.toNat) (sizeOf' (decN w).op)))) (keepZ k A w (setR r 0 0) (cleanP (m.extract 0 (min m.size 300))) _ hA him).1 (keepZ k A w (setR r 0 0) (cleanP (m.extract 0 (min m.size 300))) _ hA him).2) ?_
        refine gOk (d := 123) (x := .agg [vU (((stepP (prS w A) (stS w A (setR r 0 0) (cleanP (m.extract 0 (min m.size 300))))).2).pc), vU (((stepP (prS w A) (stS w A (setR r 0 0) (cleanP (m.extract 0 (min m.size 300))))).2).next), vI (((stepP (prS w A) (stS w A (setR r 0 0) (cleanP (m.extract 0 (min m.size 300))))).2).rd), vU (((stepP (prS w A) (stS w A (setR r 0 0) (cleanP (m.extract 0 (min m.size 300))))).2).value), vU (((stepP (prS w A) (stS w A (setR r 0 0) (cleanP (m.extract 0 (min m.size 300))))).2).addr), vI (((stepP (prS w A) (stS w A (setR r 0 0) (cleanP (m.extract 0 (min m.size 300))))).2).size), .v (.bool (((stepP (prS w A) (stS w A (setR r 0 0) (cleanP (m.extract 0 (min m.size 300))))).2).store)), vI (((stepP (prS w A) (stS w A (setR r 0 0) (cleanP (m.extract 0 (min m.size 300))))).2).halt), vI (((stepP (prS w A) (stS w A (setR r 0 0) (cleanP (m.extract 0 (min m.size 300))))).2).took)]) (g := cond2 true (((goN k (storeP (en1 w A (setR r 0 0) (cleanP (m.extract 0 (min m.size 300)))) (lowP ((setR r 0 0) (decN w).rs2.toNat) (sizeOf' (decN w).op)))).is) == 3) false) rfl rfl rfl rfl rfl rfl ?_
        refine gOkS (d := 124) (x := .v (.bool ((((toI (goN k (storeP (en1 w A (setR r 0 0) (cleanP (m.extract 0 (min m.size 300)))) (lowP ((setR r 0 0) (decN w).rs2.toNat) (sizeOf' (decN w).op))))).pc) == ((((stepP (prS w A) (stS w A (setR r 0 0) (cleanP (m.extract 0 (min m.size 300))))).2).pc : Nat) : Int)) && ((((toI (goN k (storeP (en1 w A (setR r 0 0) (cleanP (m.extract 0 (min m.size 300)))) (lowP ((setR r 0 0) (decN w).rs2.toNat) (sizeOf' (decN w).op))))).next) == ((((stepP (prS w A) (stS w A (setR r 0 0) (cleanP (m.extract 0 (min m.size 300))))).2).next : Nat) : Int)) && ((((toI (goN k (storeP (en1 w A (setR r 0 0) (cleanP (m.extract 0 (min m.size 300)))) (lowP ((setR r 0 0) (decN w).rs2.toNat) (sizeOf' (decN w).op))))).rd) == (((stepP (prS w A) (stS w A (setR r 0 0) (cleanP (m.extract 0 (min m.size 300))))).2).rd)) && ((((toI (goN k (storeP (en1 w A (setR r 0 0) (cleanP (m.extract 0 (min m.size 300)))) (lowP ((setR r 0 0) (decN w).rs2.toNat) (sizeOf' (decN w).op))))).value) == ((((stepP (prS w A) (stS w A (setR r 0 0) (cleanP (m.extract 0 (min m.size 300))))).2).value : Nat) : Int)) && ((((toI (goN k (storeP (en1 w A (setR r 0 0) (cleanP (m.extract 0 (min m.size 300)))) (lowP ((setR r 0 0) (decN w).rs2.toNat) (sizeOf' (decN w).op))))).addr) == ((((stepP (prS w A) (stS w A (setR r 0 0) (cleanP (m.extract 0 (min m.size 300))))).2).addr : Nat) : Int)) && ((((toI (goN k (storeP (en1 w A (setR r 0 0) (cleanP (m.extract 0 (min m.size 300)))) (lowP ((setR r 0 0) (decN w).rs2.toNat) (sizeOf' (decN w).op))))).size) == (((stepP (prS w A) (stS w A (setR r 0 0) (cleanP (m.extract 0 (min m.size 300))))).2).size)) && ((((toI (goN k (storeP (en1 w A (setR r 0 0) (cleanP (m.extract 0 (min m.size 300)))) (lowP ((setR r 0 0) (decN w).rs2.toNat) (sizeOf' (decN w).op))))).store) == (((stepP (prS w A) (stS w A (setR r 0 0) (cleanP (m.extract 0 (min m.size 300))))).2).store)) && ((((toI (goN k (storeP (en1 w A (setR r 0 0) (cleanP (m.extract 0 (min m.size 300)))) (lowP ((setR r 0 0) (decN w).rs2.toNat) (sizeOf' (decN w).op))))).halt) == (((stepP (prS w A) (stS w A (setR r 0 0) (cleanP (m.extract 0 (min m.size 300))))).2).halt)) && ((((toI (goN k (storeP (en1 w A (setR r 0 0) (cleanP (m.extract 0 (min m.size 300)))) (lowP ((setR r 0 0) (decN w).rs2.toNat) (sizeOf' (decN w).op))))).took) == (((stepP (prS w A) (stS w A (setR r 0 0) (cleanP (m.extract 0 (min m.size 300))))).2).took)) && true))))))))))) (g := cond2 true (((goN k (storeP (en1 w A (setR r 0 0) (cleanP (m.extract 0 (min m.size 300)))) (lowP ((setR r 0 0) (decN w).rs2.toNat) (sizeOf' (decN w).op)))).is) == 3) false) rfl rfl rfl rfl (fun h => by simp_all) rfl rfl ?_
        refine rNeed (d := 125) (x := .v (.bool (cond2 (cond2 true (((goN k (storeP (en1 w A (setR r 0 0) (cleanP (m.extract 0 (min m.size 300)))) (lowP ((setR r 0 0) (decN w).rs2.toNat) (sizeOf' (decN w).op)))).is) == 3) false) ((((toI (goN k (storeP (en1 w A (setR r 0 0) (cleanP (m.extract 0 (min m.size 300)))) (lowP ((setR r 0 0) (decN w).rs2.toNat) (sizeOf' (decN w).op))))).pc) == ((((stepP (prS w A) (stS w A (setR r 0 0) (cleanP (m.extract 0 (min m.size 300))))).2).pc : Nat) : Int)) && ((((toI (goN k (storeP (en1 w A (setR r 0 0) (cleanP (m.extract 0 (min m.size 300)))) (lowP ((setR r 0 0) (decN w).rs2.toNat) (sizeOf' (decN w).op))))).next) == ((((stepP (prS w A) (stS w A (setR r 0 0) (cleanP (m.extract 0 (min m.size 300))))).2).next : Nat) : Int)) && ((((toI (goN k (storeP (en1 w A (setR r 0 0) (cleanP (m.extract 0 (min m.size 300)))) (lowP ((setR r 0 0) (decN w).rs2.toNat) (sizeOf' (decN w).op))))).rd) == (((stepP (prS w A) (stS w A (setR r 0 0) (cleanP (m.extract 0 (min m.size 300))))).2).rd)) && ((((toI (goN k (storeP (en1 w A (setR r 0 0) (cleanP (m.extract 0 (min m.size 300)))) (lowP ((setR r 0 0) (decN w).rs2.toNat) (sizeOf' (decN w).op))))).value) == ((((stepP (prS w A) (stS w A (setR r 0 0) (cleanP (m.extract 0 (min m.size 300))))).2).value : Nat) : Int)) && ((((toI (goN k (storeP (en1 w A (setR r 0 0) (cleanP (m.extract 0 (min m.size 300)))) (lowP ((setR r 0 0) (decN w).rs2.toNat) (sizeOf' (decN w).op))))).addr) == ((((stepP (prS w A) (stS w A (setR r 0 0) (cleanP (m.extract 0 (min m.size 300))))).2).addr : Nat) : Int)) && ((((toI (goN k (storeP (en1 w A (setR r 0 0) (cleanP (m.extract 0 (min m.size 300)))) (lowP ((setR r 0 0) (decN w).rs2.toNat) (sizeOf' (decN w).op))))).size) == (((stepP (prS w A) (stS w A (setR r 0 0) (cleanP (m.extract 0 (min m.size 300))))).2).size)) && ((((toI (goN k (storeP (en1 w A (setR r 0 0) (cleanP (m.extract 0 (min m.size 300)))) (lowP ((setR r 0 0) (decN w).rs2.toNat) (sizeOf' (decN w).op))))).store) == (((stepP (prS w A) (stS w A (setR r 0 0) (cleanP (m.extract 0 (min m.size 300))))).2).store)) && ((((toI (goN k (storeP (en1 w A (setR r 0 0) (cleanP (m.extract 0 (min m.size 300)))) (lowP ((setR r 0 0) (decN w).rs2.toNat) (sizeOf' (decN w).op))))).halt) == (((stepP (prS w A) (stS w A (setR r 0 0) (cleanP (m.extract 0 (min m.size 300))))).2).halt)) && ((((toI (goN k (storeP (en1 w A (setR r 0 0) (cleanP (m.extract 0 (min m.size 300)))) (lowP ((setR r 0 0) (decN w).rs2.toNat) (sizeOf' (decN w).op))))).took) == (((stepP (prS w A) (stS w A (setR r 0 0) (cleanP (m.extract 0 (min m.size 300))))).2).took)) && true))))))))) false))) rfl rfl rfl (fun h => h) ?_
        refine rO 8 (.v (.bool (cond2 (cond2 true (((goN k (storeP (en1 w A (setR r 0 0) (cleanP (m.extract 0 (min m.size 300)))) (lowP ((setR r 0 0) (decN w).rs2.toNat) (sizeOf' (decN w).op)))).is) == 3) false) ((((toI (goN k (storeP (en1 w A (setR r 0 0) (cleanP (m.extract 0 (min m.size 300)))) (lowP ((setR r 0 0) (decN w).rs2.toNat) (sizeOf' (decN w).op))))).pc) == ((((stepP (prS w A) (stS w A (setR r 0 0) (cleanP (m.extract 0 (min m.size 300))))).2).pc : Nat) : Int)) && ((((toI (goN k (storeP (en1 w A (setR r 0 0) (cleanP (m.extract 0 (min m.size 300)))) (lowP ((setR r 0 0) (decN w).rs2.toNat) (sizeOf' (decN w).op))))).next) == ((((stepP (prS w A) (stS w A (setR r 0 0) (cleanP (m.extract 0 (min m.size 300))))).2).next : Nat) : Int)) && ((((toI (goN k (storeP (en1 w A (setR r 0 0) (cleanP (m.extract 0 (min m.size 300)))) (lowP ((setR r 0 0) (decN w).rs2.toNat) (sizeOf' (decN w).op))))).rd) == (((stepP (prS w A) (stS w A (setR r 0 0) (cleanP (m.extract 0 (min m.size 300))))).2).rd)) && ((((toI (goN k (storeP (en1 w A (setR r 0 0) (cleanP (m.extract 0 (min m.size 300)))) (lowP ((setR r 0 0) (decN w).rs2.toNat) (sizeOf' (decN w).op))))).value) == ((((stepP (prS w A) (stS w A (setR r 0 0) (cleanP (m.extract 0 (min m.size 300))))).2).value : Nat) : Int)) && ((((toI (goN k (storeP (en1 w A (setR r 0 0) (cleanP (m.extract 0 (min m.size 300)))) (lowP ((setR r 0 0) (decN w).rs2.toNat) (sizeOf' (decN w).op))))).addr) == ((((stepP (prS w A) (stS w A (setR r 0 0) (cleanP (m.extract 0 (min m.size 300))))).2).addr : Nat) : Int)) && ((((toI (goN k (storeP (en1 w A (setR r 0 0) (cleanP (m.extract 0 (min m.size 300)))) (lowP ((setR r 0 0) (decN w).rs2.toNat) (sizeOf' (decN w).op))))).size) == (((stepP (prS w A) (stS w A (setR r 0 0) (cleanP (m.extract 0 (min m.size 300))))).2).size)) && ((((toI (goN k (storeP (en1 w A (setR r 0 0) (cleanP (m.extract 0 (min m.size 300)))) (lowP ((setR r 0 0) (decN w).rs2.toNat) (sizeOf' (decN w).op))))).store) == (((stepP (prS w A) (stS w A (setR r 0 0) (cleanP (m.extract 0 (min m.size 300))))).2).store)) && ((((toI (goN k (storeP (en1 w A (setR r 0 0) (cleanP (m.extract 0 (min m.size 300)))) (lowP ((setR r 0 0) (decN w).rs2.toNat) (sizeOf' (decN w).op))))).halt) == (((stepP (prS w A) (stS w A (setR r 0 0) (cleanP (m.extract 0 (min m.size 300))))).2).halt)) && ((((toI (goN k (storeP (en1 w A (setR r 0 0) (cleanP (m.extract 0 (min m.size 300)))) (lowP ((setR r 0 0) (decN w).rs2.toNat) (sizeOf' (decN w).op))))).took) == (((stepP (prS w A) (stS w A (setR r 0 0) (cleanP (m.extract 0 (min m.size 300))))).2).took)) && true))))))))) false))) ?_
        refine rE 106 ?_
        refine cRet ?_
        obtain rfl : k = 40 := by have := of_decide_eq_false h5; omega
        exact finTA rfl trivial rfl (congrArg (fun b : Bool => AV.v (.bool b)) (fin_ok ((steps_law (w := w) (A := A) (r := (setR r 0 0)) (m := (cleanP (m.extract 0 (min m.size 300)))) (dec_of h1).1 (dec_of h1).2 hA hq).2 (known_not h2)).1 ((steps_law (w := w) (A := A) (r := (setR r 0 0)) (m := (cleanP (m.extract 0 (min m.size 300)))) (dec_of h1).1 (dec_of h1).2 hA hq).2 (known_not h2)).2))
end Go.Proofs.Ytckjihpdjefpgaa
