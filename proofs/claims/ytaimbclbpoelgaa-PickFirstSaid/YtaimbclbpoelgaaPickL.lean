/- What the laws of package pick call besides: rows held against each other, what is cut, what keeps them alive. -/
import Derived.Test.YtaimbclbpoelgaaPickR2
namespace Go.Proofs.Ytaimbclbpoelgaa
open Go.RowKit Go.Maps

theorem fm_int (l : List Nat) : (l.flatMap fun n : Nat => [Value.int .i64 n]) = l.map fun n : Nat => Value.int .i64 n := by
  induction l with
  | nil => rfl
  | cons a l ih => simp only [List.flatMap_cons, List.map_cons, ih]; rfl

set_option maxHeartbeats 1000000 in
theorem same14 (l : List Nat) (B0 B1 n : Nat) (va vb : Value) (w : World) (ha : Sl B0 3 1 w va n (l.flatMap fun n : Nat => [.int .i64 n])) (hb : Sl B1 3 1 w vb n (l.flatMap fun n : Nat => [.int .i64 n])) (hn : n = l.length) (hl : n ≤ 100000) :
    Calls Try.prog 16 #[va, vb] w fun e w' => e = .returned (.bool true) ∧ Below w.heap.size w w' := by
  obtain ⟨A, c, rfl, -, -, -, -⟩ := id ha
  obtain ⟨A', c', rfl, -, -, -, -⟩ := id hb
  have HN := Lib.hid hn
  clear hn
  go_enter Try.func16, Try.ntmps16
  go_wp2_with fail
  go_loopw [5, 13] (fun _ i wr => ∃ k : Nat, i = .int .i64 k ∧ k ≤ n ∧ Below w.heap.size w wr) (fun _ i _ => n - (intOf i).toNat)
  case atStart => exact ⟨0, rfl, Nat.zero_le _, below_self _⟩
  case round =>
    obtain ⟨k, rfl, hk, hbw⟩ := hrel
    by_cases hkn : k < n
    · obtain ⟨b1, o1, x, rfl, hx, hb1, q1⟩ := ha.one (fun n : Nat => Value.int .i64 n) hbw HN.out hkn
      obtain ⟨b2, o2, y, rfl, hy, hb2, q2⟩ := hb.one (fun n : Nat => Value.int .i64 n) hbw HN.out hkn
      obtain rfl : x = y := by rw [hx] at hy; simpa using hy
      clear hx hy
      go_wp2_with fail
      go_quiet (fail)
      go_wp2_with fail
      go_roundw
      case rel => exact ⟨k + 1, by go_num, by omega, below_drewN' hbw _⟩
      case measure => simp [intOf]; omega
    · go_wp2_with fail
      go_ret
      exact ⟨rfl, hbw⟩

set_option maxHeartbeats 1000000 in
theorem few17 (A A' : Option Addr) (n n' c c' m m' : Nat) (w : World) (hm : m = min n 40) (hm' : m' = min n' 40) (hc : n ≤ c) (hc' : n' ≤ c') (hcm : c ≤ maxLen) (hcm' : c' ≤ maxLen) :
    Calls Try.prog 14 #[.slice A n c, .slice A' n' c'] w fun e w' => e = .returned (.tuple #[.slice A m c, .slice A' m' c']) ∧ Below w.heap.size w w' := by
  have r1 := run_min_to Try.prog n 40 m 40 rfl hm
  have r2 := run_min_to Try.prog n' 40 m' 40 rfl hm'
  have l1 : m ≤ n := by omega
  have l2 : m' ≤ n' := by omega
  unfold maxLen at hcm hcm'
  clear hm hm'
  go_enter Try.func14, Try.ntmps14
  go_wp2_with fail
  go_quiet (fail)
  go_wp2_with fail
  go_ret2
  exact ⟨rfl, below_draws _ _⟩

set_option maxHeartbeats 1000000 in
theorem alive17 (w : World) : Calls Try.prog 15 #[] w fun e w' => e = .returned (.bool true) ∧ Below w.heap.size w w' := by
  go_enter Try.func15, Try.ntmps15
  go_wp2_with fail
  have hs : Sl 0 4 1 (w.alloc (.cells #[.bool true] 4)) (.slice (some ⟨w.heap.size, 0, none⟩) 1 1) 1 ([true].flatMap fun a => [.bool a]) :=
    Sl.of_own (World.ownsRow_lit w (base := w.heap.size) _ 1 (Nat.le_refl _) (by unfold maxLen; omega) rfl) (by omega)
  refine (pick_any 1 true [] [true] 0 0 1 _ _ _ (Sl.nil _ _ _ _) hs rfl rfl (by omega) (by omega)).mono ?_
  rintro e w2 ⟨v', rfl, hown, hb⟩
  have hp : pickOf 1 true [] [true] = [0] := by decide
  rw [hp] at hown
  obtain ⟨g, cap, rfl, hg, hlt⟩ := hown.form (by simp)
  have hb2 := (below_all (w := w) _).and hb
  clear hs hown hb hp
  go_wp2_with fail
  go_ret
  exact ⟨rfl, hb2⟩

theorem Sl.takeL {α : Type} {B0 : Nat} {e : TypeId} {w : World} {A : Option Addr} {c size n : Nat} (f : α → List Value) (hf : ∀ a, (f a).length = size) {l : List α} (h : Sl B0 e size w (.slice A n c) n (l.flatMap f)) (m : Nat) (hm : m ≤ n) :
    Sl B0 e size w (.slice A m c) m ((l.take m).flatMap f) := by
  obtain ⟨A', c', hv, h1, h2, h3, h4⟩ := h
  injection hv with hA hn hc
  subst hA hc
  have ht : ∀ (l : List α) (m : Nat), (l.flatMap f).take (m * size) = (l.take m).flatMap f := by
    intro l
    induction l with
    | nil => intro m; simp
    | cons a l ih =>
      intro m
      cases m with
      | zero => simp
      | succ m =>
        simp only [List.flatMap_cons, List.take_succ_cons]
        rw [List.take_append, hf, List.take_of_length_le (by rw [hf, Nat.add_mul]; omega)]
        rw [show (m + 1) * size - size = m * size by rw [Nat.add_mul]; omega, ih m]
  rw [← ht]
  refine ⟨A, c, rfl, by omega, h2, by rw [List.length_take, h3]; exact Nat.min_eq_left (Nat.mul_le_mul_right _ hm), fun hpos => ?_⟩
  obtain ⟨b, off, hA, hb, hcell⟩ := h4 (by omega)
  refine ⟨b, off, hA, hb, fun j u hu => hcell j u ?_⟩
  rw [List.getElem?_take] at hu
  split at hu
  · exact hu
  · cases hu

set_option maxHeartbeats 1000000 in
theorem law_PickTakes (B0 : Nat) (width : Int) (busy : Bool) (kinds : List Int) (can : List Bool) (nk nc : Nat) (vk vc : Value) (w : World) (hk : Sl B0 3 1 w vk nk (kinds.flatMap fun a => [.int .i64 a])) (hc : Sl B0 4 1 w vc nc (can.flatMap fun a => [.bool a]))
    (hnk : nk = kinds.length) (hnc : nc = can.length) :
    Calls Try.prog 5 #[.int .i64 width, .bool busy, vk, vc] w fun e w' => e = .returned (.bool true) ∧ Below w.heap.size w w' := by
  obtain ⟨Ak, ck, rfl, k1, k2, -, -⟩ := id hk
  obtain ⟨Ac, cc, rfl, c1, c2, -, -⟩ := id hc
  obtain ⟨mk, hmk⟩ : ∃ m, m = min nk 40 := ⟨_, rfl⟩
  obtain ⟨mc, hmc⟩ : ∃ m, m = min nc 40 := ⟨_, rfl⟩
  have sk := Lib.hid (hk.takeL (fun a : Int => [Value.int .i64 a]) (fun _ => rfl) mk (by omega))
  have sc := Lib.hid (hc.takeL (fun a : Bool => [Value.bool a]) (fun _ => rfl) mc (by omega))
  have lk : Hid (mk = (kinds.take mk).length) := by show _ = _; simp; omega
  have lc : Hid (mc = (can.take mc).length) := by show _ = _; simp; omega
  have HK := Lib.hid hmk
  have HC := Lib.hid hmc
  have m1 : mk ≤ 40 := by omega
  have m2 : mc ≤ 40 := by omega
  clear hmk hmc hk hc hnk hnc
  generalize kinds.take mk = ks at *
  generalize can.take mc = cs at *
  go_enter Try.func5, Try.ntmps5
  go_wp2_with fail
  refine (few17 Ak Ac nk nc ck cc mk mc w HK.out HC.out k1 c1 k2 c2).mono ?_
  rintro e w1 ⟨rfl, B1⟩
  go_wp2_with fail
  refine (alive17 w1).mono ?_
  rintro e w2 ⟨rfl, B2⟩
  have B2 := B1.and B2
  go_wp2_with fail
  refine (pick_any width busy ks cs B0 mk mc _ _ w2 (sk.out.below (by omega) B2) (sc.out.below (by omega) B2) lk.out lc.out (by omega) (by omega)).mono ?_
  rintro e w3 ⟨v3, rfl, own3, B3⟩
  have B23 := B2.and B3
  go_wp2_with fail
  refine (ref_pick_any width busy ks cs B0 mk mc _ _ w3 (sk.out.below (by omega) B23) (sc.out.below (by omega) B23) lk.out lc.out (by omega) (by omega)).mono ?_
  rintro e w4 ⟨v4, rfl, own4, B4⟩
  have B24 := B23.and B4
  have hle : (pickOf width busy ks cs).length ≤ 40 := by
    have := pick_len_le (width := width) (busy := busy) (kinds := ks) (can := cs) cs.length
    have := lc.out
    unfold pickOf
    omega
  go_wp2_with fail
  refine (same14 (pickOf width busy ks cs) 0 0 _ v3 v4 w4 ((Sl.of_own own3 (by omega)).below (by omega) B4) (Sl.of_own own4 (by omega)) rfl (by omega)).mono ?_
  rintro e w5 ⟨rfl, B5⟩
  have B25 := B24.and B5
  go_wp2_with fail
  go_ret
  exact ⟨rfl, B25⟩
end Go.Proofs.Ytaimbclbpoelgaa
