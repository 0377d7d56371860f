/- The reference's rows held against each other, and what keeps the laws of package trace alive. -/
import Derived.Test.YtaimbclbpoelgaaTraceR
import Derived.Test.YtaimbclbpoelgaaTraceS
namespace Go.Proofs.Ytaimbclbpoelgaa
open Go.RowKit

theorem sameN_self : ∀ a : List Ev, sameN a a = a.length
  | [] => rfl
  | a :: l => by simp [sameN, sameN_self l]
theorem sameN_comm : ∀ a b : List Ev, sameN a b = sameN b a
  | [], b => by cases b <;> rfl
  | a :: l, [] => rfl
  | a :: l, b :: m => by
    unfold sameN
    by_cases h : a = b
    · simp [h, sameN_comm l m]
    · have h2 : ¬ b = a := fun h' => h h'.symm
      simp [h, h2]

theorem neq_ev (x y : Ev) (w : World) : (binOp .neq 31 (.agg #[.int .u32 x.pc, .int .u32 x.ad, .int .i64 x.sz, .int .i64 x.to, .int .u32 x.lo, .int .i64 x.ha]) (.agg #[.int .u32 y.pc, .int .u32 y.ad, .int .i64 y.sz, .int .i64 y.to, .int .u32 y.lo, .int .i64 y.ha])).run Try.prog w = .ok (.bool (!decide (x = y))) w := by
  obtain ⟨x1, x2, x3, x4, x5, x6⟩ := x
  obtain ⟨y1, y2, y3, y4, y5, y6⟩ := y
  rw [run_neq_struct]
  go_simp
  repeat (split <;> simp_all)

set_option maxHeartbeats 1000000 in
theorem ref_same_any (a b : List Ev) (B0 : Nat) (va vb : Value) (w : World) (hsa : Sl B0 31 6 w va a.length (a.flatMap Ev.cells)) (hsb : Sl B0 31 6 w vb b.length (b.flatMap Ev.cells)) (hla : a.length ≤ 100000) (hlb : b.length ≤ 100000) :
    Calls Try.prog 13 #[va, vb] w fun e w' => e = .returned (.int .i64 (sameN a b)) ∧ Below w.heap.size w w' := by
  obtain ⟨A, c, rfl, h1, h2, -, -⟩ := id hsa
  obtain ⟨A', c', rfl, h1', h2', -, -⟩ := id hsb
  have hle := sameN_le a b
  go_enter Try.func13, Try.ntmps13
  go_wp2_with fail
  go_loopw [5, 8] (fun _ i wr => ∃ k : Nat, i = .int .i64 k ∧ k ≤ sameN a b ∧ Below w.heap.size w wr) (fun _ i _ => a.length - (intOf i).toNat)
  case atStart => exact ⟨0, rfl, Nat.zero_le _, Below.refl _ _⟩
  case round =>
    obtain ⟨k, rfl, hk, hb⟩ := hrel
    by_cases hka : k < a.length
    · by_cases hlt : k < sameN a b
      · have hkb : k < b.length := by omega
        obtain ⟨bk, off, x, rfl, hxa, hbw, q0, q1, q2, q3, q4, q5⟩ := hsa.ev hb hka
        obtain ⟨bk', off', y, rfl, hxb, hbw', r0, r1, r2, r3, r4, r5⟩ := hsb.ev hb hkb
        have hxy : x = y := by
          have := sameN_get a b k hlt
          rw [hxa, hxb] at this
          simpa using this
        subst hxy
        have hE : ∀ w', _ := fun w' => neq_ev x x w'
        simp only [decide_true, Bool.not_true] at hE
        clear hxa hxb
        go_wp2_with fail
        go_quiet (fail)
        go_wp2_with fail
        go_roundw
        case rel => exact ⟨k + 1, by go_num, by omega, below_drewN' hb _⟩
        case measure => simp [intOf]; omega
      · have hkk : k = sameN a b := by omega
        by_cases hkb : k < b.length
        · have hne : a[k]? ≠ b[k]? := by subst hkk; exact sameN_stop a b hka hkb
          obtain ⟨bk, off, x, rfl, hxa, hbw, q0, q1, q2, q3, q4, q5⟩ := hsa.ev hb hka
          obtain ⟨bk', off', y, rfl, hxb, hbw', r0, r1, r2, r3, r4, r5⟩ := hsb.ev hb hkb
          have hE := fun w' => neq_ev x y w'
          have hxy : x ≠ y := by rw [hxa, hxb] at hne; simpa using hne
          simp only [hxy, decide_false, Bool.not_false] at hE
          have KEY := Lib.hid hkk
          clear hxa hxb hne hkk hlt hk
          go_wp2_with fail
          go_quiet (fail)
          go_wp2_with fail
          go_ret
          exact ⟨by rw [KEY.out]; rfl, below_drewN' hb _⟩
        · have hd : decide (b.length ≤ k) = true := by simp; omega
          have KEY := Lib.hid hkk
          clear hkk hlt hk hkb
          go_wp2_with fail
          go_quiet (fail)
          go_wp2_with fail
          go_ret
          exact ⟨by rw [KEY.out]; rfl, below_drewN' hb _⟩
    · have hkk : a.length = sameN a b := by omega
      have KEY := Lib.hid hkk
      clear hkk hk
      go_wp2_with fail
      go_ret
      exact ⟨by rw [← KEY.out]; rfl, hb⟩

set_option maxHeartbeats 1000000 in
theorem ref_like_self (a : List Ev) (B0 : Nat) (va vb : Value) (w : World) (hsa : Sl B0 31 6 w va a.length (a.flatMap Ev.cells)) (hsb : Sl B0 31 6 w vb a.length (a.flatMap Ev.cells)) (hla : a.length ≤ 100000) :
    Calls Try.prog 10 #[va, vb] w fun e w' => e = .returned (.bool true) ∧ Below w.heap.size w w' := by
  have hsa' := Lib.hid hsa
  have hsb' := Lib.hid hsb
  obtain ⟨A, c, rfl, h1, h2, -, -⟩ := hsa
  obtain ⟨A', c', rfl, h1', h2', -, -⟩ := hsb
  go_enter Try.func10, Try.ntmps10
  go_wp2_with (go_at_call 13; refine (ref_same_any a a B0 _ _ _ hsa'.out hsb'.out hla hla).mono ?_; rw [sameN_self]; rintro e w' ⟨rfl, hb⟩)
  go_ret
  exact ⟨rfl, hb⟩

set_option maxHeartbeats 1000000 in
theorem alive07 (w : World) : Calls Try.prog 9 #[] w fun e w' => e = .returned (.bool true) ∧ Below w.heap.size w w' := by
  go_enter Try.func9, Try.ntmps9
  go_wp2_with fail
  have hs : Sl 0 44 9 (w.alloc (.cells #[.int .u32 4, .int .u32 0, .int .i64 0, .int .u32 0, .int .u32 0, .int .i64 0, .bool false, .int .i64 0, .int .i64 0] 44)) (.slice (some ⟨w.heap.size, 0, none⟩) 1 1) [(⟨4, 0, 0, 0, 0, 0, false, 0, 0⟩ : Stp)].length ([(⟨4, 0, 0, 0, 0, 0, false, 0, 0⟩ : Stp)].flatMap Stp.cells) :=
    Sl.of_own (World.ownsRow_lit w (base := w.heap.size) _ 1 (Nat.le_refl _) (by unfold maxLen; omega) rfl) (by omega)
  refine (trace_of_any _ true 0 _ _ hs (by simp)).mono ?_
  rintro e w2 ⟨v', rfl, hown, hb⟩
  obtain ⟨g, cap, rfl, hg, hlt⟩ := hown.form (by simp)
  have h0 : w2.cell? ⟨g, 0, none⟩ = some (.int .u32 4) := hown.cells (g := g) rfl 0 _ rfl
  have hb2 := (below_all (w := w) _).trans (hb.mono (by simp))
  clear hs hown hb
  go_wp2_with fail
  go_ret
  exact ⟨rfl, hb2⟩
end Go.Proofs.Ytaimbclbpoelgaa
