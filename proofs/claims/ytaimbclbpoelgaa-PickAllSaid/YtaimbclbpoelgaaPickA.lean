/- PickAll: plain facts on who is taken, and the map of those that are. -/
import Derived.Test.YtaimbclbpoelgaaPickL
namespace Go.Proofs.Ytaimbclbpoelgaa
open Go.RowKit Go.Maps

theorem max_is (P : Program) (x : Int) (m : Nat) (hm : m = x.toNat) : ∀ (ts : Array TypeId) (t : TypeId) (w : World), (Builtin.max_ ts t #[.int .i64 x, .int .i64 0]).run P w = .ok (.int .i64 (m : Int)) w := by
  intro ts t w
  rw [run_max_int2]
  have : (if x < 0 then (0 : Int) else x) = (m : Int) := by
    subst hm
    split <;> omega
  rw [this]

/-- Not full: with room for all. -/
theorem pick_room (busy : Bool) (kinds : List Int) (can : List Bool) (k : Nat) (hk : k < can.length) : ¬ ((can.length : Int) ≤ (pickTo can.length busy kinds can k).out.length) := by
  have := pick_len_le (width := (can.length : Int)) (busy := busy) (kinds := kinds) (can := can) k
  omega

theorem pick_all_step (busy : Bool) (kinds : List Int) (can : List Bool) (k : Nat) (x : Bool) (hx : can[k]? = some x) :
    pickTo can.length busy kinds can (k + 1) = if x && !barred kinds (pickTo can.length busy kinds can k) k then
      ⟨(pickTo can.length busy kinds can k).out ++ [k], (pickTo can.length busy kinds can k).t1 || unitOf (kindAt kinds k) == 1, (pickTo can.length busy kinds can k).t2 || unitOf (kindAt kinds k) == 2⟩ else pickTo can.length busy kinds can k := by
  have hk : k < can.length := by
    rcases Nat.lt_or_ge k can.length with h | h
    · exact h
    · rw [List.getElem?_eq_none h] at hx; cases hx
  have hr := pick_room busy kinds can k hk
  show pstep _ _ _ _ _ = _
  simp only [pstep, List.getD, hx, Option.getD_some]
  rw [if_neg hr]
  cases x <;> cases hb : barred kinds (pickTo can.length busy kinds can k) k <;> simp

/-- The marks behind one more. -/
theorem pick_all_marks (busy : Bool) (kinds : List Int) (can : List Bool) (k : Nat) (x : Bool) (hx : can[k]? = some x) :
    (pickTo can.length busy kinds can (k + 1)).t1 = ((pickTo can.length busy kinds can k).t1 || (x && unitOf (kindAt kinds k) == 1)) ∧
    (pickTo can.length busy kinds can (k + 1)).t2 = ((pickTo can.length busy kinds can k).t2 || (x && unitOf (kindAt kinds k) == 2)) := by
  rw [pick_all_step busy kinds can k x hx]
  cases x
  · simp
  · simp only [barred, Bool.true_and]
    generalize pickTo can.length busy kinds can k = s
    obtain ⟨o, a, b⟩ := s
    have hu : unitOf (kindAt kinds k) = 0 ∨ unitOf (kindAt kinds k) = 1 ∨ unitOf (kindAt kinds k) = 2 := by unfold unitOf; split <;> (try split) <;> simp
    rcases hu with hu | hu | hu <;> cases a <;> cases b <;> simp [hu]

theorem pick_mem_mono (width : Int) (busy : Bool) (kinds : List Int) (can : List Bool) (k i : Nat) (h : i < k) : ∀ j, (i ∈ (pickTo width busy kinds can (k + j)).out ↔ i ∈ (pickTo width busy kinds can k).out)
  | 0 => Iff.rfl
  | j + 1 => by
    have ih := pick_mem_mono width busy kinds can k i h j
    have hs : (pickTo width busy kinds can (k + j + 1)).out = (pickTo width busy kinds can (k + j)).out ∨ (pickTo width busy kinds can (k + j + 1)).out = (pickTo width busy kinds can (k + j)).out ++ [k + j] := by
      show (pstep _ _ _ _ _).out = _ ∨ (pstep _ _ _ _ _).out = _
      unfold pstep
      split
      · exact .inl rfl
      · split
        · exact .inl rfl
        · split
          · exact .inl rfl
          · exact .inr rfl
    rw [show k + (j + 1) = k + j + 1 by omega]
    rcases hs with hs | hs <;> rw [hs]
    · exact ih
    · rw [List.mem_append, ih]
      simp
      omega

theorem pick_all_mem (busy : Bool) (kinds : List Int) (can : List Bool) (k : Nat) (x : Bool) (hx : can[k]? = some x) :
    (pickOf can.length busy kinds can).contains k = (x && !barred kinds (pickTo can.length busy kinds can k) k) := by
  have hk : k < can.length := by
    rcases Nat.lt_or_ge k can.length with h | h
    · exact h
    · rw [List.getElem?_eq_none h] at hx; cases hx
  have h1 := pick_mem_mono can.length busy kinds can (k + 1) k (by omega) (can.length - (k + 1))
  rw [show k + 1 + (can.length - (k + 1)) = can.length by omega] at h1
  have h2 := pick_lt can.length busy kinds can k
  rw [pick_all_step busy kinds can k x hx] at h1
  rw [Bool.eq_iff_iff, List.contains_iff_mem]
  show k ∈ (pickTo _ _ _ _ _).out ↔ _
  rw [h1]
  cases hb : (x && !barred kinds (pickTo can.length busy kinds can k) k)
  · simp only [Bool.false_eq_true, if_false, iff_false]
    intro h
    have := h2 k h
    omega
  · simp

theorem pick_take (width : Int) (busy : Bool) (kinds : List Int) (can : List Bool) : ∀ k, k ≤ can.length →
    ((pickTo can.length busy kinds can k).out.length < width.toNat → pickTo width busy kinds can k = pickTo can.length busy kinds can k) ∧
    (width.toNat ≤ (pickTo can.length busy kinds can k).out.length → (pickTo width busy kinds can k).out = (pickTo can.length busy kinds can k).out.take width.toNat)
  | 0, _ => by
    refine ⟨fun _ => rfl, fun h => ?_⟩
    simp [pickTo]
  | k + 1, hk => by
    obtain ⟨h1, h2⟩ := pick_take width busy kinds can k (by omega)
    obtain ⟨x, hx⟩ : ∃ x, can[k]? = some x := ⟨_, List.getElem?_eq_getElem (by omega)⟩
    have hall := pick_all_step busy kinds can k x hx
    by_cases hl : (pickTo can.length busy kinds can k).out.length < width.toNat
    · have he := h1 hl
      have hw : pickTo width busy kinds can (k + 1) = pickTo can.length busy kinds can (k + 1) := by
        rw [hall]
        show pstep _ _ _ _ _ = _
        rw [he]
        simp only [pstep, List.getD, hx, Option.getD_some]
        rw [if_neg (by omega)]
        cases x <;> cases hb : barred kinds (pickTo can.length busy kinds can k) k <;> simp
      refine ⟨fun _ => hw, fun h => ?_⟩
      rw [hw, List.take_of_length_le]
      rw [hall] at h ⊢
      split at h
      · rename_i hc
        rw [if_pos hc]
        simp at h ⊢
        omega
      · omega
    · have he := h2 (by omega)
      have hlen : (pickTo width busy kinds can k).out.length = width.toNat := by rw [he, List.length_take]; omega
      have hs : (pickTo width busy kinds can (k + 1)) = pickTo width busy kinds can k := by
        show pstep _ _ _ _ _ = _
        unfold pstep
        rw [if_pos (by omega)]
      refine ⟨fun h => ?_, fun _ => ?_⟩
      · exfalso
        rw [hall] at h
        split at h
        · simp at h; omega
        · omega
      · rw [hs, he, hall]
        split
        · rw [List.take_append_of_le_length (by omega)]
        · rfl

theorem pick_some (width : Int) (busy : Bool) (kinds : List Int) (can : List Bool) : pickOf width busy kinds can = (pickOf can.length busy kinds can).take (min width.toNat (pickOf can.length busy kinds can).length) := by
  obtain ⟨h1, h2⟩ := pick_take width busy kinds can can.length (Nat.le_refl _)
  unfold pickOf
  by_cases hl : (pickTo can.length busy kinds can can.length).out.length < width.toNat
  · rw [h1 hl, List.take_of_length_le (by omega)]
  · rw [h2 (by omega), Nat.min_eq_left (by omega)]

/-- The map of those that are taken: block b; it says true of just those of S. -/
def InMap (w : World) (b n : Nat) (S : List Nat) : Prop :=
  ∃ D : DataW Unit, w.ownsMap Try.prog 3 (plainElem Try.prog 4) b n D ∧ ∀ i : Nat, i ≤ 1000 → D.atKey (.int .i64 i) (.lit (.bool false)) = .lit (.bool (S.contains i))

theorem InMap.made (w : World) : InMap (w.alloc (.map #[] 0)) w.heap.size 0 [] := ⟨_, World.ownsMap_made _ _ _ _, fun i _ => by simp [DataW.atKey]⟩

theorem nat_wf (i : Nat) (h : i ≤ 1000) : (Lit.int .i64 (i : Int)).wf = true := by
  simp only [Lit.wf, IntKind.min, IntKind.max, IntKind.signed, IntKind.bits, Bool.and_eq_true, decide_eq_true_eq]
  simp
  omega

theorem InMap.put {w : World} {b n : Nat} {S : List Nat} (h : InMap w b n S) (hn : n ≤ 1000000) (i : Nat) (hi : i ≤ 1000) :
    ∃ w', (Instr.mapUpdate 42 (.map (some b)) (.int .i64 i) (.bool true)).run Try.prog w = .ok () w' ∧ InMap w' b (n + 1) (S ++ [i]) ∧ w.grownBy w' (some b) := by
  obtain ⟨D, hown, h1⟩ := h
  have hm : IsMap D := hown.isMap
  obtain ⟨w', hr, ho, hg⟩ := hown.update int_keyed' Try.underlying42 (by unfold maxLen; omega) (keyOf_int_mk Try.underlying3 (nat_wf i hi)) (plainElem_bool Try.underlying4 true)
  refine ⟨w', hr, ⟨_, ho, fun j hj => ?_⟩, hg⟩
  by_cases hij : j = i
  · subst hij
    rw [atKey_put_same hm (by simp [WideAt.IsKeyLit])]
    simp
  · rw [atKey_put_other (by simp; omega), h1 j hj]
    simp [hij]

theorem bool_zero (w : World) : (zeroValue 4).run Try.prog w = .ok (.bool false) w := by kernel_rfl

theorem InMap.look {w : World} {b n : Nat} {S : List Nat} (h : InMap w b n S) (i : Nat) (hi : i ≤ 1000) :
    (Instr.lookup 42 (.map (some b)) (.int .i64 i) false).run Try.prog w = .ok (.bool (S.contains i)) w := by
  obtain ⟨D, hown, h1⟩ := h
  obtain ⟨v, ps, hr, hv⟩ := hown.lookup int_keyed' Try.underlying42 (bool_zero w) (plainElem_bool Try.underlying4 false) (keyOf_int_mk Try.underlying3 (nat_wf i hi))
  rw [h1 i hi] at hv
  have hvb : v = .bool (S.contains i) := by
    simp only [plainElem, Try.underlying4] at hv
    cases v <;> simp at hv
    rw [hv.1]
    simp
  rw [hr, hvb]
end Go.Proofs.Ytaimbclbpoelgaa
