/- How many events two rows have in common. -/
import Derived.Test.YtaimbclbpoelgaaTrace
namespace Go.Proofs.Ytaimbclbpoelgaa
open Go.RowKit

def sameN : List Ev → List Ev → Nat
  | a :: l, b :: m => if a = b then sameN l m + 1 else 0
  | _, _ => 0

theorem sameN_le : ∀ a b : List Ev, sameN a b ≤ a.length ∧ sameN a b ≤ b.length
  | [], b => by simp [sameN]
  | a :: l, [] => by simp [sameN]
  | a :: l, b :: m => by
    have := sameN_le l m
    unfold sameN
    split <;> simp <;> omega

theorem sameN_get : ∀ (a b : List Ev) (k : Nat), k < sameN a b → a[k]? = b[k]?
  | [], b, k, h => by simp [sameN] at h
  | a :: l, [], k, h => by simp [sameN] at h
  | a :: l, b :: m, 0, h => by
    unfold sameN at h
    split at h
    · simp [*]
    · omega
  | a :: l, b :: m, k + 1, h => by
    unfold sameN at h
    split at h
    · simpa using sameN_get l m k (by omega)
    · omega

theorem sameN_stop : ∀ (a b : List Ev), sameN a b < a.length → sameN a b < b.length → a[sameN a b]? ≠ b[sameN a b]?
  | [], b, h, _ => by simp at h
  | a :: l, [], _, h => by simp at h
  | a :: l, b :: m, h, h' => by
    unfold sameN at h h' ⊢
    split
    · rename_i he
      simp only [he, if_true, List.length_cons] at h h'
      simpa using sameN_stop l m (by omega) (by omega)
    · rename_i he
      simpa using he

theorem eql_ev (x y : Ev) (w : World) : (binOp .eql 31 (.agg #[.int .u32 x.pc, .int .u32 x.ad, .int .i64 x.sz, .int .i64 x.to, .int .u32 x.lo, .int .i64 x.ha]) (.agg #[.int .u32 y.pc, .int .u32 y.ad, .int .i64 y.sz, .int .i64 y.to, .int .u32 y.lo, .int .i64 y.ha])).run Try.prog w = .ok (.bool (decide (x = y))) w := by
  obtain ⟨x1, x2, x3, x4, x5, x6⟩ := x
  obtain ⟨y1, y2, y3, y4, y5, y6⟩ := y
  rw [run_eql_struct]
  go_simp
  repeat (split <;> simp_all)

set_option maxHeartbeats 1000000 in
theorem trace_same_any (a b : List Ev) (B0 : Nat) (va vb : Value) (w : World) (hsa : Sl B0 31 6 w va a.length (a.flatMap Ev.cells)) (hsb : Sl B0 31 6 w vb b.length (b.flatMap Ev.cells)) (hla : a.length ≤ 100000) (hlb : b.length ≤ 100000) :
    Calls Try.prog 12 #[va, vb] w fun e w' => e = .returned (.int .i64 (sameN a b)) ∧ Below w.heap.size w w' := by
  obtain ⟨A, c, rfl, h1, h2, -, -⟩ := id hsa
  obtain ⟨A', c', rfl, h1', h2', -, -⟩ := id hsb
  have hle := sameN_le a b
  go_enter Try.func12, Try.ntmps12
  go_wp2_with fail
  go_loopw [5] (fun i wr => ∃ k : Nat, i = .int .i64 k ∧ k ≤ sameN a b ∧ Below w.heap.size w wr) (fun i _ => a.length - (intOf i).toNat)
  case atStart => exact ⟨0, rfl, Nat.zero_le _, Below.refl _ _⟩
  case round =>
    obtain ⟨k, rfl, hk, hb⟩ := hrel
    by_cases hlt : k < sameN a b
    · have hka : k < a.length := by omega
      have hkb : k < b.length := by omega
      obtain ⟨bk, off, x, rfl, hxa, hbw, q0, q1, q2, q3, q4, q5⟩ := hsa.ev hb hka
      obtain ⟨bk', off', y, rfl, hxb, hbw', r0, r1, r2, r3, r4, r5⟩ := hsb.ev hb hkb
      have hxy : x = y := by
        have := sameN_get a b k hlt
        rw [hxa, hxb] at this
        simpa using this
      subst hxy
      have hE : ∀ w', _ := fun w' => eql_ev x x w'
      simp only [decide_true] at hE
      clear hxa hxb
      go_wp2_with fail
      go_quiet (fail)
      go_wp2_with fail
      go_roundw
      case rel => exact ⟨k + 1, by go_num, by omega, below_drewN' hb _⟩
      case measure => simp [intOf]; omega
    · have hkk : k = sameN a b := by omega
      have hd : (decide (k < a.length) = false) ∨ (decide (k < a.length) = true ∧ decide (k < b.length) = false) ∨ (k < a.length ∧ k < b.length ∧ a[k]? ≠ b[k]?) := by
        subst hkk
        by_cases ha : sameN a b < a.length
        · by_cases hb : sameN a b < b.length
          · exact .inr (.inr ⟨ha, hb, sameN_stop a b ha hb⟩)
          · exact .inr (.inl ⟨by simpa using ha, by simpa using hb⟩)
        · exact .inl (by simpa using ha)
      have KEY : Hid (k = sameN a b) := hkk
      clear hkk hlt hk
      rcases hd with hd | ⟨hd, hd'⟩ | ⟨hka, hkb, hne⟩
      · go_wp2_with fail
        go_quiet (fail)
        go_wp2_with fail
        go_ret
        exact ⟨by rw [KEY.out]; rfl, below_drewN' hb _⟩
      · have hka : k < a.length := by simpa using hd
        go_wp2_with fail
        go_quiet (fail)
        go_wp2_with fail
        go_ret
        exact ⟨by rw [KEY.out]; rfl, below_drewN' hb _⟩
      · obtain ⟨bk, off, x, rfl, hxa, hbw, q0, q1, q2, q3, q4, q5⟩ := hsa.ev hb hka
        obtain ⟨bk', off', y, rfl, hxb, hbw', r0, r1, r2, r3, r4, r5⟩ := hsb.ev hb hkb
        have hE := fun w' => eql_ev x y w'
        have hxy : x ≠ y := by rw [hxa, hxb] at hne; simpa using hne
        simp only [hxy, decide_false] at hE
        clear hxa hxb hne
        go_wp2_with fail
        go_quiet (fail)
        go_wp2_with fail
        go_ret
        exact ⟨by rw [KEY.out]; rfl, below_drewN' hb _⟩
end Go.Proofs.Ytaimbclbpoelgaa
