/- A run hangs on the bytes that it reads alone: plain. -/
import Derived.Test.YtahnhhbgkmlfcaaDoorTellsM
namespace Go.Proofs.YtahnhhbgkmlfcaaDoor
open Go.RowKit

/-- Two memories that differ at one place at most. -/
structure But (at' : Nat) (m m' : ByteArray) : Prop where
  size : m'.size = m.size
  eq : ∀ j, j ≠ at' → m'.data.toList[j]? = m.data.toList[j]?
theorem bytes_ext {a b : ByteArray} (h : a.data.toList = b.data.toList) : a = b := by
  obtain ⟨a⟩ := a; obtain ⟨b⟩ := b
  congr 1
  exact Array.toList_inj.1 h
theorem But.read {at' : Nat} {m m' : ByteArray} (h : But at' m m') {a n : Nat} (ho : ¬ (a ≤ at' ∧ at' < a + n)) : readP m' a n = readP m a n := by
  apply bytes_ext
  unfold readP
  rw [ByteArray.data_extract, ByteArray.data_extract, Array.toList_extract, Array.toList_extract]
  apply List.ext_getElem?
  intro i
  simp only [List.extract_eq_take_drop, List.getElem?_take, List.getElem?_drop]
  split
  · rename_i hi
    exact h.eq _ (fun e => ho (by omega))
  · rfl
theorem But.write {at' : Nat} {m m' : ByteArray} (h : But at' m m') {a : Nat} {b : ByteArray} (hr : a + b.size ≤ m.size) :
    (if a ≤ at' ∧ at' < a + b.size then writeP m' a b = writeP m a b else But at' (writeP m a b) (writeP m' a b)) := by
  have hs : ∀ x : ByteArray, x.data.toList.length = x.size := fun x => by simp
  have hg : ∀ (x : ByteArray), x.size = m.size → ∀ j, (writeP x a b).data.toList[j]? = if j < a then x.data.toList[j]? else if j < a + b.size then b.data.toList[j - a]? else x.data.toList[j]? := by
    intro x hx j
    have h1 : (writeP x a b).data.toList = x.data.toList.take a ++ b.data.toList ++ x.data.toList.drop (a + b.size) := by simp [writeP]
    have l1 : (x.data.toList.take a).length = a := by rw [List.length_take, hs]; omega
    have l2 : b.data.toList.length = b.size := hs b
    rw [h1, List.append_assoc]
    by_cases q1 : j < a
    · rw [if_pos q1, List.getElem?_append_left (by omega), List.getElem?_take, if_pos q1]
    · rw [if_neg q1, List.getElem?_append_right (by omega), l1]
      by_cases q2 : j < a + b.size
      · rw [if_pos q2, List.getElem?_append_left (by omega)]
      · rw [if_neg q2, List.getElem?_append_right (by omega), l2, List.getElem?_drop]
        congr 1
        omega
  split
  · rename_i hin
    apply bytes_ext
    apply List.ext_getElem?
    intro j
    rw [hg m' h.size j, hg m rfl j]
    by_cases q1 : j < a
    · rw [if_pos q1, if_pos q1]; exact h.eq j (by omega)
    · rw [if_neg q1, if_neg q1]
      by_cases q2 : j < a + b.size
      · rw [if_pos q2, if_pos q2]
      · rw [if_neg q2, if_neg q2]; exact h.eq j (by omega)
  · refine ⟨by rw [writeP_size (by rw [h.size]; exact hr), writeP_size hr, h.size], fun j hj => ?_⟩
    rw [hg m' h.size j, hg m rfl j, h.eq j hj]

/-- Does a step touch a place? -/
def touch (at' : Nat) (x : Sp) : Prop := 0 < x.size ∧ (x.addr : Int) ≤ at' ∧ (at' : Int) < x.addr + x.size
instance (at' : Nat) (x : Sp) : Decidable (touch at' x) := by unfold touch; infer_instance
/-- No step reads a place that none ahead of it stored. -/
def okR (at' : Nat) : Bool → List Sp → Prop
  | _, [] => True
  | st, x :: l => if touch at' x ∧ x.store = true then okR at' true l else (touch at' x → st = true) ∧ okR at' st l

theorem haltP_touch (at' : Nat) (s : St) (why : Int) (addr : Nat) : ¬ touch at' (haltP s why addr).2 := fun h => absurd h.1 (by show ¬ (0 : Int) < 0; decide)
theorem finP_touch (at' : Nat) (s : St) (i : SI) (a b nx : Nat) (tk : Int) : ¬ touch at' (finP s i a b nx tk).2 := by
  unfold finP
  split <;> exact fun h => absurd h.1 (by show ¬ (0 : Int) < 0; decide)
/-- A step on a memory that differs at one place that it does not read. -/
theorem stepP_but (prog : List Nat) (s : St) (m : ByteArray) {at' : Nat} (hb : But at' s.mem m) (hn : touch at' (stepP prog s).2 → (stepP prog s).2.store = true) :
    (stepP prog (s.with m)).2 = (stepP prog s).2 ∧ (if touch at' (stepP prog s).2 then (stepP prog (s.with m)).1 = (stepP prog s).1 else ∃ m', (stepP prog (s.with m)).1 = (stepP prog s).1.with m' ∧ But at' (stepP prog s).1.mem m') := by
  have e : stepP prog (s.with m) = (if s.halt = 0 then (if (fetchP prog s.pc).isSome = true then (if opOf (fetchW prog s.pc) = 0 then haltP (s.with m) 2 0 else doI (s.with m) (insOf prog s)) else haltP (s.with m) 1 0) else (s.with m, noSp)) := rfl
  have hal : ∀ why addr, (haltP (s.with m) why addr).2 = (haltP s why addr).2 ∧ (if touch at' (haltP s why addr).2 then (haltP (s.with m) why addr).1 = (haltP s why addr).1 else ∃ m', (haltP (s.with m) why addr).1 = (haltP s why addr).1.with m' ∧ But at' (haltP s why addr).1.mem m') := fun why addr => by
    rw [if_neg (haltP_touch at' s why addr)]
    exact ⟨rfl, m, rfl, hb⟩
  have fin : ∀ i a b nx tk, (finP (s.with m) i a b nx tk).2 = (finP s i a b nx tk).2 ∧ (if touch at' (finP s i a b nx tk).2 then (finP (s.with m) i a b nx tk).1 = (finP s i a b nx tk).1 else ∃ m', (finP (s.with m) i a b nx tk).1 = (finP s i a b nx tk).1.with m' ∧ But at' (finP s i a b nx tk).1.mem m') := fun i a b nx tk => by
    rw [if_neg (finP_touch at' s i a b nx tk), finP_with]
    refine ⟨rfl, m, rfl, ?_⟩
    have : (finP s i a b nx tk).1.mem = s.mem := by unfold finP; split <;> rfl
    rw [this]; exact hb
  rw [e]
  unfold stepP at hn ⊢
  by_cases h0 : s.halt = 0
  · rw [if_pos h0] at hn ⊢
    rw [if_pos h0]
    by_cases h1 : (fetchP prog s.pc).isSome = true
    · rw [if_pos h1] at hn ⊢
      rw [if_pos h1]
      by_cases h2 : opOf (fetchW prog s.pc) = 0
      · rw [if_pos h2, if_pos h2]; exact hal _ _
      · rw [if_neg h2] at hn ⊢
        rw [if_neg h2]
        unfold doI at hn ⊢
        by_cases h3 : (insOf prog s).op = 47
        · rw [if_pos h3, if_pos h3]; exact hal _ _
        · rw [if_neg h3] at hn ⊢
          rw [if_neg h3]
          by_cases h4 : (insOf prog s).op = 48
          · rw [if_pos h4, if_pos h4]; exact hal _ _
          · rw [if_neg h4] at hn ⊢
            rw [if_neg h4]
            by_cases h5 : kindOf (insOf prog s).op = 3 ∨ kindOf (insOf prog s).op = 4
            · rw [if_pos h5] at hn ⊢
              rw [if_pos h5]
              show (accessP (s.with m) (insOf prog s) (s.r (insOf prog s).rs1.toNat) (s.r (insOf prog s).rs2.toNat)).2 = _ ∧ (if _ then (accessP (s.with m) (insOf prog s) (s.r (insOf prog s).rs1.toNat) (s.r (insOf prog s).rs2.toNat)).1 = _ else ∃ m', (accessP (s.with m) (insOf prog s) (s.r (insOf prog s).rs1.toNat) (s.r (insOf prog s).rs2.toNat)).1 = _ ∧ _)
              generalize insOf prog s = i at hn ⊢
              generalize s.r i.rs1.toNat = a at hn ⊢
              generalize s.r i.rs2.toNat = b at hn ⊢
              have e2 : accessP (s.with m) i a b = (if rightP (m.size : Int) (addrOf i a) (sizeOf' i.op : Nat) = true then
                  if kindOf i.op = 4 then ({ s with pc := up4 s.pc, mem := writeP m (addrOf i a) (bytesP b (sizeOf' i.op)) }, ⟨s.pc, up4 s.pc, wr i, valB b (sizeOf' i.op), addrOf i a, (sizeOf' i.op : Nat), kindOf i.op == 4, 0, 0⟩)
                  else if wr i = 0 then ({ s with pc := up4 s.pc, mem := m }, ⟨s.pc, up4 s.pc, wr i, 0, addrOf i a, (sizeOf' i.op : Nat), kindOf i.op == 4, 0, 0⟩)
                  else ({ s with pc := up4 s.pc, r := setR s.r (wr i).toNat (loadP i.op (readP m (addrOf i a) (sizeOf' i.op))), mem := m }, ⟨s.pc, up4 s.pc, wr i, loadP i.op (readP m (addrOf i a) (sizeOf' i.op)), addrOf i a, (sizeOf' i.op : Nat), kindOf i.op == 4, 0, 0⟩)
                else haltP (s.with m) (if kindOf i.op = 4 then 5 else 4) (addrOf i a)) := rfl
              rw [e2, hb.size]
              unfold accessP at hn ⊢
              by_cases hr : rightP (s.mem.size : Int) (addrOf i a) (sizeOf' i.op : Nat) = true
              · rw [if_pos hr] at hn ⊢
                rw [if_pos hr]
                have hq := right_le hr
                by_cases h6 : kindOf i.op = 4
                · rw [if_pos h6, if_pos h6]
                  refine ⟨rfl, ?_⟩
                  have hw := hb.write (a := addrOf i a) (b := bytesP b (sizeOf' i.op)) (by rw [bytesP_size]; exact hq.1)
                  rw [bytesP_size] at hw
                  split
                  · rename_i ht
                    obtain ⟨-, t2, t3⟩ := ht
                    simp only at t2 t3
                    rw [if_pos (by omega)] at hw
                    rw [hw]
                  · rename_i ht
                    rw [if_neg (fun h => ht ⟨by show (0 : Int) < (sizeOf' i.op : Nat); omega, by show ((addrOf i a : Nat) : Int) ≤ at'; omega, by show (at' : Int) < (addrOf i a : Nat) + (sizeOf' i.op : Nat); omega⟩)] at hw
                    exact ⟨_, rfl, hw⟩
                · rw [if_neg h6] at hn ⊢
                  rw [if_neg h6]
                  have hk : (kindOf i.op == 4) = false := by simpa using h6
                  by_cases hw0 : wr i = 0
                  · rw [if_pos hw0] at hn ⊢
                    rw [if_pos hw0]
                    refine ⟨rfl, ?_⟩
                    rw [if_neg (fun h => by have := hn h; simp [hk] at this)]
                    exact ⟨m, rfl, hb⟩
                  · rw [if_neg hw0] at hn ⊢
                    rw [if_neg hw0]
                    have hnt : ¬ (addrOf i a ≤ at' ∧ at' < addrOf i a + sizeOf' i.op) := fun h => by
                      have := hn ⟨by show (0 : Int) < (sizeOf' i.op : Nat); omega, by show ((addrOf i a : Nat) : Int) ≤ at'; omega, by show (at' : Int) < (addrOf i a : Nat) + (sizeOf' i.op : Nat); omega⟩
                      simp [hk] at this
                    rw [hb.read hnt]
                    refine ⟨rfl, ?_⟩
                    rw [if_neg (fun h => by have := hn h; simp [hk] at this)]
                    exact ⟨m, rfl, hb⟩
              · rw [if_neg hr, if_neg hr]
                exact hal _ _
            · rw [if_neg h5, if_neg h5]
              unfold reckonP
              show (if kindOf (insOf prog s).op = 5 then _ else _ : St × Sp).2 = _ ∧ _
              by_cases h6 : kindOf (insOf prog s).op = 5
              · rw [if_pos h6, if_pos h6]
                by_cases h7 : nextP (insOf prog s).op (insOf prog s).imm s.pc (s.r (insOf prog s).rs1.toNat) (s.r (insOf prog s).rs2.toNat) % 4 = 0
                · rw [if_pos h7, if_pos h7]; exact fin _ _ _ _ _
                · rw [if_neg h7, if_neg h7]; exact hal _ _
              · rw [if_neg h6, if_neg h6]; exact fin _ _ _ _ _
    · rw [if_neg h1, if_neg h1]; exact hal _ _
  · rw [if_neg h0, if_neg h0]
    rw [if_neg (show ¬ touch at' noSp from fun h => absurd h.1 (by show ¬ (0 : Int) < 0; decide))]
    exact ⟨rfl, m, rfl, hb⟩
theorem reads_same {prog : List Nat} {at' : Nat} : ∀ (n : Nat) (s : St) (m : ByteArray), But at' s.mem m → okR at' false ((stepsL prog n s).map (·.2)) → (stepsL prog n (s.with m)).map (·.2) = (stepsL prog n s).map (·.2)
  | 0, _, _, _, _ => rfl
  | n + 1, s, m, hb, ho => by
    by_cases h0 : s.halt = 0
    · rw [stepsL_more h0] at ho ⊢
      rw [stepsL_more (s := s.with m) h0]
      simp only [List.map_cons] at ho ⊢
      unfold okR at ho
      have hn : touch at' (stepP prog s).2 → (stepP prog s).2.store = true := fun ht => by
        split at ho
        · rename_i hc; exact hc.2
        · exact absurd (ho.1 ht) (by decide)
      obtain ⟨e1, e2⟩ := stepP_but prog s m hb hn
      rw [e1]
      congr 1
      split at e2
      · rw [e2]
      · rename_i hnt
        obtain ⟨m', e3, e4⟩ := e2
        rw [e3]
        rw [if_neg (fun h => hnt h.1)] at ho
        exact reads_same n _ m' e4 ho.2
    · rw [stepsL_done (.inr h0), stepsL_done (s := s.with m) (.inr h0)]
end Go.Proofs.YtahnhhbgkmlfcaaDoor
