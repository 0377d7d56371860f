
/- The walk of the reference's tables: which instruction a word tells. -/
import Derived.Test.YtckjihpdjefpgaaRefW
namespace Go.Proofs.Ytckjihpdjefpgaa
open Go.RowKit

theorem pick_out {l : List Nat} {n : Nat} (h : l.length ≤ n) : pickN l n = 0 := by
  unfold pickN
  rw [List.getD_eq_getElem?_getD, List.getElem?_eq_none h]
  rfl
theorem rpick_any (l : List Nat) (n : Nat) (B0 m : Nat) (v : Value) (w : World) (hs : Sl B0 3 1 w v m (l.flatMap fun a : Nat => [.int .i64 a])) (hm : m = l.length) (hm2 : m ≤ 100) (hn : n < 4294967296) :
    Calls Try.prog 73 #[v, .int .u32 n] w fun e w' => e = .returned (.int .i64 (pickN l n : Nat)) ∧ w = w' := by
  obtain ⟨A, c, rfl, h1, h2, -, -⟩ := id hs
  by_cases h : n < m
  · obtain ⟨b, off, x, rfl, hx, hbl, hcell⟩ := hs.one (fun a : Nat => Value.int .i64 a) (below_self w) hm h
    have hv : Hid (pickN l n = x) := by
      show _ = _
      unfold pickN
      rw [List.getD_eq_getElem?_getD, hx]
      rfl
    clear hx hm
    go_enter Try.func73, Try.ntmps73
    go_wp2_with fail
    go_ret
    exact ⟨by rw [hv.out]; rfl, rfl⟩
  · have hv : Hid (pickN l n = 0) := pick_out (by omega)
    clear hm
    go_enter Try.func73, Try.ntmps73
    go_wp2_with fail
    go_ret
    exact ⟨by rw [hv.out]; rfl, rfl⟩

theorem rlit (w : World) (l : List Nat) (cs : Array Value) (h : cs.toList = l.flatMap fun a : Nat => [.int .i64 a]) (n : Nat) (hl : l.length = n) (hn : n ≤ 100) :
    Sl 0 3 1 (w.alloc (.cells cs 3)) (.slice (some ⟨w.heap.size, 0, none⟩) n n) n (l.flatMap fun a : Nat => [.int .i64 a]) := by
  have hsz : cs.size = n * 1 := by
    rw [← Array.length_toList, h, ← hl, Nat.mul_one]
    clear h hl
    induction l with
    | nil => rfl
    | cons a l ih => rw [List.flatMap_cons, List.length_append, ih, List.length_cons]; simp; omega
  rw [← h]
  exact Sl.of_own (World.ownsRow_lit w (base := w.heap.size) cs n (Nat.le_refl _) (by unfold maxLen; omega) hsz) (by omega)

theorem cast_ne {n : Nat} {k : Nat} (h : n ≠ k) : ((n : Int) == (k : Int)) = false := by simp; omega

set_option maxHeartbeats 2000000 in
theorem rimm_any (f3 f7 : Nat) (w : World) (h3 : f3 < 8) (h7 : f7 < 128) : Calls Try.prog 74 #[.int .u32 f3, .int .u32 f7] w fun e w' => e = .returned (.int .i64 (immR f3 f7 : Nat)) ∧ Below w.heap.size w w' := by
  by_cases e1 : f3 = 1
  · subst e1
    by_cases e2 : f7 = 0
    · subst e2
      go_enter Try.func74, Try.ntmps74
      go_wp2_with fail
      go_ret
      exact ⟨rfl, below_self _⟩
    · have b2 : ((f7 : Int) == 0) = false := cast_ne (k := 0) e2
      have hv : Hid (immR 1 f7 = 0) := by show _ = _; simp [immR, e2]
      clear e2
      go_enter Try.func74, Try.ntmps74
      go_wp2_with fail
      go_ret
      exact ⟨by rw [hv.out]; rfl, below_self _⟩
  · by_cases e5 : f3 = 5
    · subst e5
      clear e1
      by_cases e2 : f7 = 0
      · subst e2
        go_enter Try.func74, Try.ntmps74
        go_wp2_with fail
        go_ret
        exact ⟨rfl, below_self _⟩
      · by_cases e3 : f7 = 32
        · subst e3
          go_enter Try.func74, Try.ntmps74
          go_wp2_with fail
          go_ret
          exact ⟨rfl, below_self _⟩
        · have b2 : ((f7 : Int) == 0) = false := cast_ne (k := 0) e2
          have b3 : ((f7 : Int) == 32) = false := cast_ne (k := 32) e3
          have hv : Hid (immR 5 f7 = 0) := by show _ = _; simp [immR, e2, e3]
          clear e2 e3
          go_enter Try.func74, Try.ntmps74
          go_wp2_with fail
          go_ret
          exact ⟨by rw [hv.out]; rfl, below_self _⟩
    · have b1 : ((f3 : Int) == 1) = false := cast_ne (k := 1) e1
      have b5 : ((f3 : Int) == 5) = false := cast_ne (k := 5) e5
      have hv : Hid (immR f3 f7 = pickN [19, 0, 20, 21, 22, 0, 23, 24] f3) := by show _ = _; simp [immR, e1, e5]
      clear e1 e5
      go_enter Try.func74, Try.ntmps74
      go_wp2_with (go_at_call 73; refine (rpick_any [19, 0, 20, 21, 22, 0, 23, 24] f3 0 8 _ _ (rlit _ _ _ (by rfl) 8 (by rfl) (by decide)) (by rfl) (by decide) (by omega)).mono ?_; rw [← hv.out]; rintro e w' ⟨rfl, rfl⟩)
      go_ret
      exact ⟨rfl, below_all _⟩

set_option maxHeartbeats 2000000 in
theorem rreg_any (f3 f7 : Nat) (w : World) (h3 : f3 < 8) (h7 : f7 < 128) : Calls Try.prog 75 #[.int .u32 f3, .int .u32 f7] w fun e w' => e = .returned (.int .i64 (regR f3 f7 : Nat)) ∧ Below w.heap.size w w' := by
  by_cases e1 : f7 = 0
  · subst e1
    have hv : Hid (regR f3 0 = pickN [28, 30, 31, 32, 33, 34, 36, 37] f3) := by show _ = _; simp [regR]
    go_enter Try.func75, Try.ntmps75
    go_wp2_with (go_at_call 73; refine (rpick_any [28, 30, 31, 32, 33, 34, 36, 37] f3 0 8 _ _ (rlit _ _ _ (by rfl) 8 (by rfl) (by decide)) (by rfl) (by decide) (by omega)).mono ?_; rw [← hv.out]; rintro e w' ⟨rfl, rfl⟩)
    go_ret
    exact ⟨rfl, below_all _⟩
  by_cases e2 : f7 = 1
  · subst e2
    clear e1
    have hv : Hid (regR f3 1 = pickN [38, 39, 40, 41, 42, 43, 44, 45] f3) := by show _ = _; simp [regR]
    go_enter Try.func75, Try.ntmps75
    go_wp2_with (go_at_call 73; refine (rpick_any [38, 39, 40, 41, 42, 43, 44, 45] f3 0 8 _ _ (rlit _ _ _ (by rfl) 8 (by rfl) (by decide)) (by rfl) (by decide) (by omega)).mono ?_; rw [← hv.out]; rintro e w' ⟨rfl, rfl⟩)
    go_ret
    exact ⟨rfl, below_all _⟩
  have b0 : ((f7 : Int) == 0) = false := cast_ne (k := 0) e1
  have b1 : ((f7 : Int) == 1) = false := cast_ne (k := 1) e2
  by_cases e3 : f7 = 32
  · subst e3
    clear e1 e2 b0 b1
    by_cases e4 : f3 = 0
    · subst e4
      go_enter Try.func75, Try.ntmps75
      go_wp2_with fail
      go_ret
      exact ⟨rfl, below_self _⟩
    by_cases e5 : f3 = 5
    · subst e5
      go_enter Try.func75, Try.ntmps75
      go_wp2_with fail
      go_ret
      exact ⟨rfl, below_self _⟩
    have b2 : ((f3 : Int) == 0) = false := cast_ne (k := 0) e4
    have b3 : ((f3 : Int) == 5) = false := cast_ne (k := 5) e5
    have hv : Hid (regR f3 32 = 0) := by show _ = _; simp [regR, e4, e5]
    clear e4 e5
    go_enter Try.func75, Try.ntmps75
    go_wp2_with fail
    go_ret
    exact ⟨by rw [hv.out]; rfl, below_self _⟩
  · have b2 : ((f7 : Int) == 32) = false := cast_ne (k := 32) e3
    have hv : Hid (regR f3 f7 = 0) := by show _ = _; simp [regR, e1, e2, e3]
    clear e1 e2 e3
    go_enter Try.func75, Try.ntmps75
    go_wp2_with fail
    go_ret
    exact ⟨by rw [hv.out]; rfl, below_self _⟩

theorem tab_of {o f3 f7 k : Nat} {l : List Nat} (h : refTab o f3 f7 = pickN l f3) (hk : k = refTab o f3 f7) : Hid (k = pickN l f3) := hk.trans h

set_option maxHeartbeats 8000000 in
theorem rop_any (x : Nat) (w : World) (hx : x < 4294967296) : Calls Try.prog 37 #[.int .u32 x] w fun e w' => e = .returned (.int .i64 (refOp x : Nat)) ∧ Below w.heap.size w w' := by
  have c3 : ∀ w, Calls Try.prog 39 #[.int .u32 x, .int .i64 12, .int .i64 14] w fun e w' => e = .returned (.int .u32 (field x 12 3)) ∧ Below w.heap.size w w' := fun w => rF_any x 12 14 w (by decide) (by decide)
  have c7 : ∀ w, Calls Try.prog 39 #[.int .u32 x, .int .i64 25, .int .i64 31] w fun e w' => e = .returned (.int .u32 (field x 25 7)) ∧ Below w.heap.size w w' := fun w => rF_any x 25 31 w (by decide) (by decide)
  have c0 : ∀ w, Calls Try.prog 39 #[.int .u32 x, .int .i64 0, .int .i64 6] w fun e w' => e = .returned (.int .u32 (field x 0 7)) ∧ Below w.heap.size w w' := fun w => rF_any x 0 6 w (by decide) (by decide)
  obtain ⟨R, hR⟩ : ∃ R, R = refOp x := ⟨_, rfl⟩
  rw [← hR]
  have h3 : field x 12 3 < 8 := field_lt x 12 3
  have h7 : field x 25 7 < 128 := field_lt x 25 7
  have h0 : field x 0 7 < 128 := field_lt x 0 7
  unfold refOp at hR
  generalize field x 12 3 = f3 at *
  generalize field x 25 7 = f7 at *
  generalize field x 0 7 = o at *
  have HR := Lib.hid hR
  clear hR
  go_enter Try.func37, Try.ntmps37
  go_wp2_with fail
  refine (c3 _).mono ?_; rintro e w1 ⟨rfl, b1⟩
  go_wp2_with fail
  refine (c7 _).mono ?_; rintro e w2 ⟨rfl, b2⟩
  have hb := b1.and b2
  have hbs := hb.size
  clear b1 b2 c3 c7
  by_cases x1 : x = 15
  · have q1 : ((x : Int) == 15) = true := by simp; omega
    have hv : Hid (R = 46) := by show _ = _; rw [HR.out, if_pos x1]
    clear x1 HR
    go_wp2_with fail
    go_ret
    exact ⟨by rw [hv.out]; rfl, hb⟩
  have q1 : ((x : Int) == 15) = false := cast_ne (k := 15) x1
  by_cases x2 : x = 115
  · have q2 : ((x : Int) == 115) = true := by simp; omega
    have hv : Hid (R = 47) := by show _ = _; rw [HR.out, if_neg x1, if_pos x2]
    clear x1 x2 HR
    go_wp2_with fail
    go_ret
    exact ⟨by rw [hv.out]; rfl, hb⟩
  have q2 : ((x : Int) == 115) = false := cast_ne (k := 115) x2
  by_cases x3 : x = 1048691
  · have q3 : ((x : Int) == 1048691) = true := by simp; omega
    have hv : Hid (R = 48) := by show _ = _; rw [HR.out, if_neg x1, if_neg x2, if_pos x3]
    clear x1 x2 x3 HR
    go_wp2_with fail
    go_ret
    exact ⟨by rw [hv.out]; rfl, hb⟩
  have q3 : ((x : Int) == 1048691) = false := cast_ne (k := 1048691) x3
  have HT : Hid (R = refTab o f3 f7) := by show _ = _; rw [HR.out, if_neg x1, if_neg x2, if_neg x3]
  clear x1 x2 x3 HR
  go_wp2_with fail
  refine (c0 _).mono ?_; rintro e w3 ⟨rfl, b3⟩
  replace hb := hb.and b3
  clear b3 c0 q1 q2 q3
  have hc : o = 55 ∨ o = 23 ∨ o = 111 ∨ o = 103 ∨ o = 99 ∨ o = 3 ∨ o = 35 ∨ o = 19 ∨ o = 51 ∨ (o ≠ 55 ∧ o ≠ 23 ∧ o ≠ 111 ∧ o ≠ 103 ∧ o ≠ 99 ∧ o ≠ 3 ∧ o ≠ 35 ∧ o ≠ 19 ∧ o ≠ 51) := by omega
  rcases hc with rfl | rfl | rfl | rfl | rfl | rfl | rfl | rfl | rfl | ⟨n1, n2, n3, n4, n5, n6, n7, n8, n9⟩
  · have hv : Hid (R = 1) := HT.out
    go_wp2_with fail
    go_ret
    exact ⟨by rw [hv.out]; rfl, hb⟩
  · have hv : Hid (R = 2) := HT.out
    go_wp2_with fail
    go_ret
    exact ⟨by rw [hv.out]; rfl, hb⟩
  · have hv : Hid (R = 3) := HT.out
    go_wp2_with fail
    go_ret
    exact ⟨by rw [hv.out]; rfl, hb⟩
  · have hv : Hid (R = pickN [4] f3) := HT.out
    go_wp2_with (go_at_call 73; refine (rpick_any [4] f3 0 1 _ _ (rlit _ _ _ (by rfl) 1 (by rfl) (by decide)) (by rfl) (by decide) (by omega)).mono ?_; rw [← hv.out]; rintro e w' ⟨rfl, rfl⟩)
    go_ret
    exact ⟨rfl, hb.and (below_all _)⟩
  · have hv : Hid (R = pickN [5, 6, 0, 0, 7, 8, 9, 10] f3) := HT.out
    go_wp2_with (go_at_call 73; refine (rpick_any [5, 6, 0, 0, 7, 8, 9, 10] f3 0 8 _ _ (rlit _ _ _ (by rfl) 8 (by rfl) (by decide)) (by rfl) (by decide) (by omega)).mono ?_; rw [← hv.out]; rintro e w' ⟨rfl, rfl⟩)
    go_ret
    exact ⟨rfl, hb.and (below_all _)⟩
  · have hv : Hid (R = pickN [11, 12, 13, 0, 14, 15] f3) := HT.out
    go_wp2_with (go_at_call 73; refine (rpick_any [11, 12, 13, 0, 14, 15] f3 0 6 _ _ (rlit _ _ _ (by rfl) 6 (by rfl) (by decide)) (by rfl) (by decide) (by omega)).mono ?_; rw [← hv.out]; rintro e w' ⟨rfl, rfl⟩)
    go_ret
    exact ⟨rfl, hb.and (below_all _)⟩
  · have hv : Hid (R = pickN [16, 17, 18] f3) := HT.out
    go_wp2_with (go_at_call 73; refine (rpick_any [16, 17, 18] f3 0 3 _ _ (rlit _ _ _ (by rfl) 3 (by rfl) (by decide)) (by rfl) (by decide) (by omega)).mono ?_; rw [← hv.out]; rintro e w' ⟨rfl, rfl⟩)
    go_ret
    exact ⟨rfl, hb.and (below_all _)⟩
  · have hv : Hid (R = immR f3 f7) := HT.out
    go_wp2_with fail
    refine (rimm_any f3 f7 _ h3 h7).mono ?_; rw [← hv.out]; rintro e w4 ⟨rfl, b4⟩
    go_wp2_with fail
    go_ret
    exact ⟨rfl, hb.and b4⟩
  · have hv : Hid (R = regR f3 f7) := HT.out
    go_wp2_with fail
    refine (rreg_any f3 f7 _ h3 h7).mono ?_; rw [← hv.out]; rintro e w4 ⟨rfl, b4⟩
    go_wp2_with fail
    go_ret
    exact ⟨rfl, hb.and b4⟩
  · have hv : Hid (R = 0) := by show _ = _; rw [HT.out]; unfold refTab; rw [if_neg n1, if_neg n2, if_neg n3, if_neg n4, if_neg n5, if_neg n6, if_neg n7, if_neg n8, if_neg n9]
    have m1 : ((o : Int) == 55) = false := cast_ne (k := 55) n1
    have m2 : ((o : Int) == 23) = false := cast_ne (k := 23) n2
    have m3 : ((o : Int) == 111) = false := cast_ne (k := 111) n3
    have m4 : ((o : Int) == 103) = false := cast_ne (k := 103) n4
    have m5 : ((o : Int) == 99) = false := cast_ne (k := 99) n5
    have m6 : ((o : Int) == 3) = false := cast_ne (k := 3) n6
    have m7 : ((o : Int) == 35) = false := cast_ne (k := 35) n7
    have m8 : ((o : Int) == 19) = false := cast_ne (k := 19) n8
    have m9 : ((o : Int) == 51) = false := cast_ne (k := 51) n9
    clear n1 n2 n3 n4 n5 n6 n7 n8 n9
    go_wp2_with fail
    go_ret
    exact ⟨by rw [hv.out]; rfl, hb⟩
end Go.Proofs.Ytckjihpdjefpgaa
