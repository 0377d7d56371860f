/- The walk of the reference's Pick: it takes the same ones. -/
import Derived.Test.YtaimbclbpoelgaaPickW
namespace Go.Proofs.Ytaimbclbpoelgaa
open Go.RowKit Go.Maps

set_option maxHeartbeats 1000000 in
theorem group_any (kinds : List Int) (i : Nat) (B0 nk : Nat) (vk : Value) (w : World) (hk : Sl B0 3 1 w vk nk (kinds.flatMap fun a => [.int .i64 a])) (hnk : nk = kinds.length) (hlk : nk ≤ 100000) (hi : i ≤ 100000) :
    Calls Try.prog 22 #[vk, .int .i64 i] w fun e w' => e = .returned (.int .i64 (unitOf (kindAt kinds i))) ∧ w = w' := by
  obtain ⟨Ak, ck, rfl, k1, k2, -, -⟩ := id hk
  by_cases hik : i < nk
  · obtain ⟨bk, ok, y, rfl, hy, hbk, qk⟩ := hk.one (Value.int .i64) (below_self w) hnk hik
    have hky : kindAt kinds i = y := by simp [kindAt, List.getD, hy]
    rw [hky]
    have h : y = 2 ∨ y = 3 ∨ y = 4 ∨ (¬ y = 2 ∧ ¬ y = 3 ∧ ¬ y = 4) := by omega
    clear hnk hy hky
    rcases h with rfl | rfl | rfl | ⟨h2, h3, h4⟩
    · go_enter Try.func22, Try.ntmps22
      go_wp2
      go_ret
      exact ⟨rfl, rfl⟩
    · go_enter Try.func22, Try.ntmps22
      go_wp2
      go_ret
      exact ⟨rfl, rfl⟩
    · go_enter Try.func22, Try.ntmps22
      go_wp2
      go_ret
      exact ⟨rfl, rfl⟩
    · have hv : Hid (unitOf y = 0) := by show _ = _; simp [unitOf, h2, h3, h4]
      have t2 : ((y : Int) == 2) = false := by simpa using h2
      have t3 : ((y : Int) == 3) = false := by simpa using h3
      have t4 : ((y : Int) == 4) = false := by simpa using h4
      go_enter Try.func22, Try.ntmps22
      go_wp2
      go_ret
      exact ⟨by rw [hv.out]; rfl, rfl⟩
  · have hv : Hid (unitOf (kindAt kinds i) = 0) := by
      show _ = _
      rw [show kindAt kinds i = 0 by simp [kindAt, List.getD, List.getElem?_eq_none (show kinds.length ≤ i by omega)]]
      rfl
    clear hnk
    go_enter Try.func22, Try.ntmps22
    go_wp2
    go_ret
    exact ⟨by rw [hv.out]; rfl, rfl⟩

/-- What the taken ones say of the two marks. -/
theorem pick_marks (width : Int) (busy : Bool) (kinds : List Int) (can : List Bool) : ∀ k,
    ((pickTo width busy kinds can k).t1 = (busy || (pickTo width busy kinds can k).out.any fun j => unitOf (kindAt kinds j) == 1)) ∧
    ((pickTo width busy kinds can k).t2 = (pickTo width busy kinds can k).out.any fun j => unitOf (kindAt kinds j) == 2)
  | 0 => by simp [pickTo]
  | k + 1 => by
    obtain ⟨h1, h2⟩ := pick_marks width busy kinds can k
    unfold pickTo pstep
    split
    · exact ⟨h1, h2⟩
    · split
      · exact ⟨h1, h2⟩
      · split
        · exact ⟨h1, h2⟩
        · simp only [h1, h2, List.any_append, List.any_cons, List.any_nil, Bool.or_false, Bool.or_assoc]
          exact ⟨trivial, trivial⟩

theorem pick_lt (width : Int) (busy : Bool) (kinds : List Int) (can : List Bool) : ∀ k, ∀ j ∈ (pickTo width busy kinds can k).out, j < k
  | 0 => by simp [pickTo]
  | k + 1 => by
    have ih := pick_lt width busy kinds can k
    intro j hj
    unfold pickTo pstep at hj
    split at hj
    · have := ih j hj; omega
    · split at hj
      · have := ih j hj; omega
      · split at hj
        · have := ih j hj; omega
        · simp only [List.mem_append, List.mem_singleton] at hj
          rcases hj with hj | hj
          · have := ih j hj; omega
          · omega

def fits (kinds : List Int) (busy : Bool) (out : List Nat) (u : Nat) : Bool := !(u == 1 && busy) && !(out.any fun j => decide (0 < u) && unitOf (kindAt kinds j) == u)

theorem fits_step (width : Int) (busy : Bool) (kinds : List Int) (can : List Bool) (k : Nat) (x : Bool) (hx : can[k]? = some x) :
    (pickTo width busy kinds can (k + 1)).out = if x && decide (((pickTo width busy kinds can k).out.length : Int) < width) && fits kinds busy (pickTo width busy kinds can k).out (unitOf (kindAt kinds k)) then (pickTo width busy kinds can k).out ++ [k] else (pickTo width busy kinds can k).out := by
  obtain ⟨h1, h2⟩ := pick_marks width busy kinds can k
  have hu : unitOf (kindAt kinds k) = 0 ∨ unitOf (kindAt kinds k) = 1 ∨ unitOf (kindAt kinds k) = 2 := by unfold unitOf; split <;> (try split) <;> simp
  have hb : fits kinds busy (pickTo width busy kinds can k).out (unitOf (kindAt kinds k)) = !barred kinds (pickTo width busy kinds can k) k := by
    unfold fits barred
    rw [h1, h2]
    rcases hu with hu | hu | hu <;> simp [hu]
  rw [hb]
  show (pstep _ _ _ _ _).out = _
  simp only [pstep, List.getD, hx, Option.getD_some]
  by_cases hw : width ≤ (pickTo width busy kinds can k).out.length
  · rw [if_pos hw, if_neg (by simp; omega)]
  · rw [if_neg hw]
    have hw' : decide (((pickTo width busy kinds can k).out.length : Int) < width) = true := by simp; omega
    rw [hw']
    cases x <;> cases hbb : barred kinds (pickTo width busy kinds can k) k <;> simp
end Go.Proofs.Ytaimbclbpoelgaa
