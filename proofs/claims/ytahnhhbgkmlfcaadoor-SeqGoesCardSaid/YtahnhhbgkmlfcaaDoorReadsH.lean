/- The law SeqReads: lemmas. -/
import Derived.Test.YtahnhhbgkmlfcaaDoorReadsM
namespace Go.Proofs.YtahnhhbgkmlfcaaDoor
open Go.RowKit

theorem stepP_bounds (prog : List Nat) (s : St) : (stepP prog s).2.addr ≤ 4294967295 ∧ 0 ≤ (stepP prog s).2.size ∧ (stepP prog s).2.size ≤ 4 := by
  have hal : ∀ (why : Int) (addr : Nat), addr ≤ 4294967295 → (haltP s why addr).2.addr ≤ 4294967295 ∧ 0 ≤ (haltP s why addr).2.size ∧ (haltP s why addr).2.size ≤ 4 := fun why addr h => ⟨h, Int.le_refl _, by show (0 : Int) ≤ 4; decide⟩
  have fin : ∀ i a b nx tk, (finP s i a b nx tk).2.addr ≤ 4294967295 ∧ 0 ≤ (finP s i a b nx tk).2.size ∧ (finP s i a b nx tk).2.size ≤ 4 := fun i a b nx tk => by
    unfold finP; split <;> exact ⟨Nat.zero_le _, Int.le_refl _, by show (0 : Int) ≤ 4; decide⟩
  unfold stepP
  split
  · split
    · split
      · exact hal _ _ (Nat.zero_le _)
      · unfold doI
        split
        · exact hal _ _ (Nat.zero_le _)
        · split
          · exact hal _ _ (Nat.zero_le _)
          · split
            · unfold accessP
              have h4 := size_le4 (insOf prog s).op
              split
              · split
                · exact ⟨addr_le _ _, Int.natCast_nonneg _, by show ((sizeOf' (insOf prog s).op : Nat) : Int) ≤ 4; omega⟩
                · split <;> exact ⟨addr_le _ _, Int.natCast_nonneg _, by show ((sizeOf' (insOf prog s).op : Nat) : Int) ≤ 4; omega⟩
              · exact hal _ _ (addr_le _ _)
            · unfold reckonP
              split
              · split
                · exact fin _ _ _ _ _
                · exact hal _ _ (Nat.zero_le _)
              · exact fin _ _ _ _ _
    · exact hal _ _ (Nat.zero_le _)
  · exact ⟨Nat.zero_le _, Int.le_refl _, by show (0 : Int) ≤ 4; decide⟩
theorem steps_bounds {prog : List Nat} : ∀ (n : Nat) (s : St) (x : Sp), x ∈ (stepsL prog n s).map (·.2) → x.addr ≤ 4294967295 ∧ 0 ≤ x.size ∧ x.size ≤ 4
  | 0, s, x, h => by simp [stepsL] at h
  | n + 1, s, x, h => by
    by_cases h0 : s.halt = 0
    · rw [stepsL_more h0, List.map_cons] at h
      rcases List.mem_cons.1 h with rfl | h
      · exact stepP_bounds prog s
      · exact steps_bounds n _ x h
    · rw [stepsL_done (.inr h0)] at h; simp at h
theorem stepP_msize {prog : List Nat} {s : St} : (stepP prog s).1.mem.size = s.mem.size := by
  unfold stepP
  split
  · split
    · split
      · rfl
      · unfold doI
        split
        · rfl
        · split
          · rfl
          · split
            · unfold accessP
              split
              · rename_i hr
                have hq := right_le hr
                split
                · exact writeP_size (by rw [bytesP_size]; exact hq.1)
                · split <;> rfl
              · rfl
            · unfold reckonP
              split
              · split
                · unfold finP; split <;> rfl
                · rfl
              · unfold finP; split <;> rfl
    · rfl
  · rfl
theorem last_msize {prog : List Nat} : ∀ (n : Nat) (s : St), (lastOf s (stepsL prog n s)).mem.size = s.mem.size
  | 0, s => rfl
  | n + 1, s => by
    by_cases h0 : s.halt = 0
    · rw [stepsL_more h0, lastOf_cons, last_msize n, stepP_msize]
    · rw [stepsL_done (.inr h0)]; rfl
theorem touch_eq (at' : Nat) (x : Sp) : cond2 (cond2 (decide (x.size > 0)) (decide ((x.addr : Int) ≤ ((at' : Nat) : Int))) false) (decide (((at' : Nat) : Int) < (x.addr : Int) + x.size)) false = decide (touch at' x) := by
  unfold touch
  by_cases h1 : x.size > 0 <;> by_cases h2 : (x.addr : Int) ≤ ((at' : Nat) : Int) <;> by_cases h3 : ((at' : Nat) : Int) < (x.addr : Int) + x.size <;> simp [cond2, h1, h2, h3] <;> omega
theorem upS_mem (n : Nat) : upS n = 16 ∨ upS n = 32 ∨ upS n = 64 ∨ upS n = 128 ∨ upS n = 256 := by unfold upS; (repeat' split) <;> omega
theorem upS_id {k : Nat} (h : k = 16 ∨ k = 32 ∨ k = 64 ∨ k = 128 ∨ k = 256) : upS k = k := by rcases h with rfl | rfl | rfl | rfl | rfl <;> rfl
theorem cleanP_id {x : ByteArray} (h : x.size = 16 ∨ x.size = 32 ∨ x.size = 64 ∨ x.size = 128 ∨ x.size = 256) : cleanP x = x := by
  have h1 : min x.size 256 = x.size := by omega
  apply bytes_ext
  unfold cleanP
  rw [h1, upS_id h, Nat.sub_self]
  have h2 : x.extract 0 x.size = x := by
    apply bytes_ext
    rw [ByteArray.data_extract, Array.toList_extract]
    simp [List.extract_eq_take_drop]
    exact List.take_of_length_le (by simp)
  rw [h2]
  simp
theorem newS_cases (m : ByteArray) : (newS m).mem.size = 16 ∨ (newS m).mem.size = 32 ∨ (newS m).mem.size = 64 ∨ (newS m).mem.size = 128 ∨ (newS m).mem.size = 256 := by
  have h : (newS m).mem.size = upS (min m.size 256) := cleanP_size m
  rw [h]; exact upS_mem _
theorem newS_with (m : ByteArray) (x : ByteArray) (h : x.size = (newS m).mem.size) : newS x = (newS m).with x := by
  have := newS_cases m
  show (⟨0, fun _ => 0, cleanP x, 0⟩ : St) = ⟨0, fun _ => 0, x, 0⟩
  rw [cleanP_id (x := x) (by rw [h]; exact this)]
theorem u8_nat {n : Int} (h : (Lit.int .u8 n).wf = true) : ∃ m : Nat, n = m ∧ m ≤ 255 := by
  simp only [Lit.wf, IntKind.min, IntKind.max, IntKind.signed, IntKind.bits, Bool.and_eq_true, decide_eq_true_eq] at h
  simp at h
  exact ⟨n.toNat, by omega, by omega⟩
theorem rows_at (x : ByteArray) (k : Nat) (h : k < x.size) : (rowsOfBytes x)[k]? = some [.v (.int .u8 ((x.data.toList.getD k 0).toNat : Int))] := by
  have h' : k < x.data.toList.length := by simpa using h
  unfold rowsOfBytes
  rw [List.getElem?_map, List.getD_eq_getElem?_getD, List.getElem?_eq_getElem h']
  rfl
theorem set_rows (x : ByteArray) (k wb : Nat) (hw : wb ≤ 255) : bytesOfRows (List.take x.size (List.drop 0 ((rowsOfBytes x).set (0 + k) [AV.v (.int .u8 ((wb : Nat) : Int))]))) = some (x.data.toList.set k (UInt8.ofNat wb)) := by
  rw [List.drop_zero, List.take_of_length_le (by rw [List.length_set, rows_len]; exact Nat.le_refl _), Nat.zero_add]
  have : (rowsOfBytes x).set k [AV.v (.int .u8 ((wb : Nat) : Int))] = (x.data.toList.set k (UInt8.ofNat wb)).map fun b => [.v (.int .u8 (b.toNat : Int))] := by
    unfold rowsOfBytes
    rw [List.map_set]
    congr 3
    have : (UInt8.ofNat wb).toNat = wb := by simp [UInt8.toNat_ofNat]; omega
    rw [this]
  rw [this]
  exact bytesOfRows_map _
theorem but_set (x : ByteArray) (k : Nat) (v : UInt8) : But k x ⟨(x.data.toList.set k v).toArray⟩ := by
  refine ⟨by show (x.data.toList.set k v).toArray.size = x.data.size; simp, fun j hj => ?_⟩
  show (x.data.toList.set k v).toArray.toList[j]? = _
  simp only [List.getElem?_set, if_neg (Ne.symm hj)]
theorem okR_step {at' : Nat} {st : Bool} {l : List Sp} {k : Nat} {x : Sp} (hx : l[k]? = some x) : l.drop k = x :: l.drop (k + 1) := by
  obtain ⟨h1, h2⟩ := List.getElem?_eq_some_iff.1 hx
  rw [List.drop_eq_getElem_cons h1, h2]
theorem atK {ix : Int} {K : Nat} (hK : 0 < K) : (-(K : Int) < Int.tmod ix (K : Int) ∧ Int.tmod ix (K : Int) < (K : Int)) ∧ ∃ a : Nat, Int.tmod (Int.tmod ix (K : Int) + (K : Int)) (K : Int) = (a : Int) ∧ a < K := by
  have h1 : -(K : Int) < Int.tmod ix (K : Int) ∧ Int.tmod ix (K : Int) < (K : Int) := by
    have hk : (0 : Int) < K := by omega
    rcases Int.le_total 0 ix with h | h
    · have := Int.tmod_nonneg (b := (K : Int)) h
      have := Int.tmod_lt_of_pos ix hk
      omega
    · have e : Int.tmod ix (K : Int) = -Int.tmod (-ix) (K : Int) := by rw [Int.neg_tmod]; omega
      have := Int.tmod_nonneg (a := -ix) (b := (K : Int)) (by omega)
      have := Int.tmod_lt_of_pos (-ix) hk
      omega
  refine ⟨h1, (Int.tmod (Int.tmod ix (K : Int) + (K : Int)) (K : Int)).toNat, ?_, ?_⟩
  · rw [Int.toNat_of_nonneg (Int.tmod_nonneg _ (by omega))]
  · have := Int.tmod_lt_of_pos (Int.tmod ix (K : Int) + (K : Int)) (b := (K : Int)) (by omega)
    have := Int.tmod_nonneg (a := Int.tmod ix (K : Int) + (K : Int)) (b := (K : Int)) (by omega)
    omega

end Go.Proofs.YtahnhhbgkmlfcaaDoor
