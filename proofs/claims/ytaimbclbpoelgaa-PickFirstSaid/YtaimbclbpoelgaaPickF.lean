/- PickFirst: plain facts on who is taken first. -/
import Derived.Test.YtaimbclbpoelgaaPickL
namespace Go.Proofs.Ytaimbclbpoelgaa
open Go.RowKit Go.Maps

theorem pick_prefix (width : Int) (busy : Bool) (kinds : List Int) (can : List Bool) (k : Nat) : ∀ j, ∃ r, (pickTo width busy kinds can (k + j)).out = (pickTo width busy kinds can k).out ++ r ∧ ∀ i ∈ r, k ≤ i
  | 0 => ⟨[], by simp, by simp⟩
  | j + 1 => by
    obtain ⟨r, h1, h2⟩ := pick_prefix width busy kinds can k j
    have hs : (pickTo width busy kinds can (k + j + 1)).out = (pickTo width busy kinds can (k + j)).out ∨ (pickTo width busy kinds can (k + j + 1)).out = (pickTo width busy kinds can (k + j)).out ++ [k + j] := by
      show (pstep _ _ _ _ _).out = _ ∨ (pstep _ _ _ _ _).out = _
      unfold pstep
      split
      · exact .inl rfl
      · split
        · exact .inl rfl
        · split
          · exact .inl rfl
          · exact .inr rfl
    rw [show k + (j + 1) = k + j + 1 by omega]
    rcases hs with hs | hs <;> rw [hs, h1]
    · exact ⟨r, rfl, h2⟩
    · refine ⟨r ++ [k + j], by simp, fun i hi => ?_⟩
      simp only [List.mem_append, List.mem_singleton] at hi
      rcases hi with hi | rfl
      · exact h2 i hi
      · omega

theorem pick_cut (width : Int) (busy : Bool) (kinds : List Int) (can : List Bool) (c : Nat) : ∀ k, k ≤ c → pickTo width busy kinds (can.take c) k = pickTo width busy kinds can k
  | 0, _ => rfl
  | k + 1, h => by
    show pstep _ _ _ _ _ = pstep _ _ _ _ _
    rw [pick_cut width busy kinds can c k (by omega)]
    congr 1
    simp only [List.getD]
    rw [List.getElem?_take_of_lt (by omega)]

/-- What the invariants of taking are. -/
structure PInv (width : Int) (busy : Bool) (kinds : List Int) (can : List Bool) (k : Nat) (s : PSt) : Prop where
  can' : ∀ i ∈ s.out, can[i]? = some true
  wid : s.out.length ≤ width.toNat
  rise : ∀ j i i', s.out[j]? = some i → s.out[j + 1]? = some i' → i < i'
  lt : ∀ i ∈ s.out, i < k
  one : (s.out.filter fun i => unitOf (kindAt kinds i) == 1).length ≤ (if s.t1 && !busy then 1 else 0)
  two : (s.out.filter fun i => unitOf (kindAt kinds i) == 2).length ≤ (if s.t2 then 1 else 0)
  bz : busy = true → s.t1 = true

theorem pick_inv (width : Int) (busy : Bool) (kinds : List Int) (can : List Bool) : ∀ k, PInv width busy kinds can k (pickTo width busy kinds can k)
  | 0 => ⟨by simp [pickTo], by simp [pickTo], by simp [pickTo], by simp [pickTo], by simp [pickTo], by simp [pickTo], by simp [pickTo]⟩
  | k + 1 => by
    have ih := pick_inv width busy kinds can k
    have up : PInv width busy kinds can (k + 1) (pickTo width busy kinds can k) := ⟨ih.can', ih.wid, ih.rise, fun i hi => by have := ih.lt i hi; omega, ih.one, ih.two, ih.bz⟩
    show PInv _ _ _ _ _ (pstep _ _ _ _ _)
    unfold pstep
    split
    · exact up
    · rename_i hw
      split
      · exact up
      · rename_i hr
        split
        · exact up
        · rename_i hb
          generalize pickTo width busy kinds can k = s at *
          obtain ⟨o, a, b⟩ := s
          have hck : can[k]? = some true := by
            simp only [List.getD] at hr
            cases h : can[k]? with
            | none => simp [h] at hr
            | some x => cases x <;> simp [h] at hr ⊢
          have hu : unitOf (kindAt kinds k) = 0 ∨ unitOf (kindAt kinds k) = 1 ∨ unitOf (kindAt kinds k) = 2 := by unfold unitOf; split <;> (try split) <;> simp
          refine ⟨fun i hi => ?_, ?_, fun j i i' h1 h2 => ?_, fun i hi => ?_, ?_, ?_, fun h => ?_⟩
          · simp only [List.mem_append, List.mem_singleton] at hi
            rcases hi with hi | rfl
            · exact ih.can' i hi
            · exact hck
          · simp only [List.length_append, List.length_singleton]
            dsimp only at hw
            omega
          · dsimp only at h1 h2
            rcases Nat.lt_trichotomy (j + 1) o.length with hj | hj | hj
            · rw [List.getElem?_append_left (by omega)] at h1 h2
              exact ih.rise j i i' h1 h2
            · rw [List.getElem?_append_left (by omega)] at h1
              rw [List.getElem?_append_right (by omega), ← hj] at h2
              simp at h2
              subst h2
              exact ih.lt i (List.mem_of_getElem? h1)
            · rw [List.getElem?_eq_none (by simp; omega)] at h2
              cases h2
          · simp only [List.mem_append, List.mem_singleton] at hi
            rcases hi with hi | rfl
            · have := ih.lt i hi; omega
            · omega
          · have h1 := ih.one
            have hbz := ih.bz
            dsimp only at h1 hbz
            simp only [barred] at hb
            simp only [List.filter_append, List.length_append, List.filter_cons, List.filter_nil]
            rcases hu with hu | hu | hu <;> cases a <;> cases busy <;> simp_all
          · have h1 := ih.two
            dsimp only at h1
            simp only [barred] at hb
            simp only [List.filter_append, List.length_append, List.filter_cons, List.filter_nil]
            rcases hu with hu | hu | hu <;> cases b <;> simp_all
          · have := ih.bz h
            dsimp only at this ⊢
            simp [this]

/-- Nobody is taken as long as nobody can. -/
theorem pick_none (width : Int) (busy : Bool) (kinds : List Int) (can : List Bool) : ∀ k, (∀ j, j < k → can[j]? ≠ some true) → pickTo width busy kinds can k = ⟨[], busy, false⟩
  | 0, _ => rfl
  | k + 1, h => by
    show pstep _ _ _ _ _ = _
    rw [pick_none width busy kinds can k (fun j hj => h j (by omega))]
    unfold pstep
    split
    · rfl
    · have : can.getD k false = false := by
        have := h k (by omega)
        simp only [List.getD]
        cases hc : can[k]? with
        | none => rfl
        | some x => cases x <;> simp [hc] at this ⊢
      rw [if_pos this]

theorem pick_first (width : Int) (busy : Bool) (kinds : List Int) (can : List Bool) (k : Nat) (h : ∀ j, j < k → can[j]? ≠ some true) (hk : can[k]? = some true) (hw : 1 ≤ width) (hb : ¬ (busy = true ∧ unitOf (kindAt kinds k) = 1)) :
    (pickOf width busy kinds can)[0]? = some k := by
  have hlt : k < can.length := by
    rcases Nat.lt_or_ge k can.length with h | h
    · exact h
    · rw [List.getElem?_eq_none h] at hk; cases hk
  have h1 : (pickTo width busy kinds can (k + 1)).out = [k] := by
    show (pstep _ _ _ _ _).out = _
    rw [pick_none width busy kinds can k h]
    have hbb : barred kinds ⟨[], busy, false⟩ k = false := by
      cases h1 : (unitOf (kindAt kinds k) == 1) <;> cases busy <;> simp [barred, h1]
      exact hb ⟨rfl, by simpa using h1⟩
    simp only [pstep, List.getD, hk, Option.getD_some, hbb]
    rw [if_neg (by simp; omega), if_neg (by simp), if_neg (by simp)]
    simp
  obtain ⟨r, hr, -⟩ := pick_prefix width busy kinds can (k + 1) (can.length - (k + 1))
  rw [show k + 1 + (can.length - (k + 1)) = can.length by omega, h1] at hr
  unfold pickOf
  rw [hr]
  rfl

theorem cut_in (x : Int) (n : Nat) : ∃ T : Int, ∃ c : Nat, x.tmod (n + 1) = T ∧ -(n : Int) ≤ T ∧ T ≤ n ∧ c ≤ n ∧ (T + n + 1).tmod (n + 1) = c ∧ (T + n + 1) % (n + 1) = c := by
  have h1 := Int.tmod_lt_of_pos x (show (0 : Int) < n + 1 by omega)
  have h2 : -(n : Int) ≤ x.tmod (n + 1) := by
    rcases Int.lt_or_le x 0 with hx | hx
    · have := Int.tmod_lt_of_pos (-x) (show (0 : Int) < n + 1 by omega)
      rw [Int.neg_tmod] at this
      omega
    · have := Int.tmod_nonneg (n + 1 : Int) hx
      omega
  have h3 : 0 ≤ (x.tmod (n + 1) + n + 1) % ((n : Int) + 1) := Int.emod_nonneg _ (by omega)
  have h4 : (x.tmod (n + 1) + n + 1) % ((n : Int) + 1) < n + 1 := Int.emod_lt_of_pos _ (by omega)
  refine ⟨x.tmod (n + 1), ((x.tmod (n + 1) + n + 1) % ((n : Int) + 1)).toNat, rfl, h2, by omega, by omega, ?_, by omega⟩
  rw [Int.tmod_eq_emod_of_nonneg (by omega)]
  omega
end Go.Proofs.Ytaimbclbpoelgaa
