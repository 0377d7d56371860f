/- The law ExecTime: an addition is done behind one cycle, a product behind three, a division behind as many as it takes. -/
import Derived.Test.YtckjihpdjefpgaaExec
import Derived.Test.YtckjihpdjefpgaaRefK
namespace Go.Proofs.Ytckjihpdjefpgaa
open Go.RowKit

theorem Mine.setCells {w : World} {b : Nat} {vs : List Value} (h : Mine w b vs) (us : List Value) (hl : us.length = vs.length) : Mine (w.setCells b 0 us) b us := by
  have hr := World.rangeAt_setCells_same w b 0 us (En.there h hl)
  refine ⟨?_, fun j v hv => ?_, fun j => ?_⟩
  · have := (setCells_below (a := w) (B := 0) b us 0 w (Below.refl _ _) (Nat.zero_le _)).size
    exact Nat.lt_of_lt_of_le h.lt this
  · have := hr j v hv
    rw [Nat.zero_add] at this
    exact this
  · rw [World.frozen?_setCells]
    exact h.g j
theorem Mine.setCells_other {w : World} {b b' : Nat} {vs : List Value} (h : Mine w b vs) (us : List Value) (hb : b ≠ b') : Mine (w.setCells b' 0 us) b vs := by
  have hr : (w.setCells b' 0 us).rangeAt b 0 vs := World.rangeAt_setCells_apart (En.range h) b' 0 us (.inl hb)
  refine ⟨?_, fun j v hv => ?_, fun j => ?_⟩
  · have := (setCells_below (a := w) (B := 0) b' us 0 w (Below.refl _ _) (Nat.zero_le _)).size
    exact Nat.lt_of_lt_of_le h.lt this
  · have := hr j v hv
    rw [Nat.zero_add] at this
    exact this
  · rw [World.frozen?_setCells]
    exact h.g j

set_option maxRecDepth 100000 in
set_option maxHeartbeats 4000000 in
theorem alive18 (w : World) : Calls Try.prog 10 #[] w fun e w' => e = .returned (.bool true) ∧ Below w.heap.size w w' := by
  have c := fun w => start_any ⟨0, 0, 28, 0, 0, 0, 0, 0, 0, 0, 0, 0, 0, 0, 0, false, false⟩ 1 1 w (by decide) (by decide) (by decide) (by decide)
  have hi : (startP ⟨0, 0, 28, 0, 0, 0, 0, 0, 0, 0, 0, 0, 0, 0, 0, false, false⟩ 1 1).is = 1 := by
    have hk : kindOf 28 = 0 := by decide
    unfold startP
    dsimp only
    rw [hk, if_neg (by decide)]
    unfold startK
    dsimp only
    rw [hk, if_neg (by decide), if_neg (by decide), if_neg (by decide)]
    rfl
  generalize startP ⟨0, 0, 28, 0, 0, 0, 0, 0, 0, 0, 0, 0, 0, 0, 0, false, false⟩ 1 1 = x at *
  have hf : ∀ w, Sem.run Try.prog (Instr.field 26 (.agg #[.int .i64 x.no, .int .u32 x.pc, .int .i64 x.op, .int .i64 x.rd, .int .i64 x.rs1, .int .i64 x.rs2, .int .u32 x.imm, .int .u32 x.guess, .int .i64 1, .int .i64 x.left, .int .u32 x.value, .int .u32 x.next, .int .u32 x.addr, .int .i64 x.halt, .int .i64 x.took, .bool x.known, .bool x.filled]) 4) w = .ok (.int .i64 1) w := fun w => by kernel_rfl
  go_enter Try.func10, Try.ntmps10
  go_wp2_with fail
  refine (c _).mono ?_; rintro e w1 ⟨rfl, b1⟩
  go_wp2_with fail
  go_ret
  exact ⟨rfl, b1⟩

/-- How an entry that goes for L cycles is behind k of them. -/
def agedP (x : En) (L k : Nat) : En := if k < L then { x with left := (L : Int) - k } else { x with left := 0, is := 3, known := if kindOf x.op = 5 ∧ x.halt = 0 then true else x.known }
theorem wrap64_small (n : Int) (h1 : -9223372036854775808 ≤ n) (h2 : n < 9223372036854775808) : wrap64 n = n := by unfold wrap64; omega
theorem go_aged (x : En) (L k : Nat) (hx : x.is = 1) (hk : k < L) (hL : L ≤ 50) : goP (agedP x L k) = agedP x L (k + 1) := by
  have ha : agedP x L k = { x with left := (L : Int) - k } := by unfold agedP; rw [if_pos hk]
  rw [ha]
  unfold goP
  have hw : wrap64 ((L : Int) - k - 1) = (L : Int) - k - 1 := wrap64_small _ (by omega) (by omega)
  dsimp only
  rw [if_neg (by simp [hx]), hw]
  unfold agedP
  by_cases h : k + 1 < L
  · rw [if_neg (by omega), if_pos h]
    congr 1
    omega
  · rw [if_pos (by omega), if_neg h]

/-- What starting makes of an entry that waits and did not halt. -/
theorem start_what (e : En) (a b : Nat) (ha : a < 4294967296) (hb : b < 4294967296) (h0 : e.is = 0) (hh : e.halt = 0) :
    (startP e a b = e) ∨ ∃ L : Nat, 1 ≤ L ∧ L ≤ 34 ∧ (startP e a b).is = 1 ∧ (startP e a b).left = L ∧ (startP e a b).op = e.op ∧ ((startP e a b).halt = 0 ∨ (startP e a b).halt = 3) ∧
      (kindOf e.op = 1 → L = 3) ∧ (kindOf e.op = 2 → (startP e a b).took = L) ∧ (kindOf e.op ≠ 1 → kindOf e.op ≠ 2 → L = 1) := by
  unfold startP
  by_cases h : e.is ≠ 0 ∨ kindOf e.op = 3 ∨ kindOf e.op = 4
  · rw [if_pos h]; exact .inl rfl
  rw [if_neg h]
  refine .inr ?_
  unfold startK
  by_cases h1 : kindOf e.op = 1
  · rw [if_pos h1]
    exact ⟨3, by decide, by decide, rfl, rfl, rfl, .inl hh, fun _ => rfl, fun q => by omega, fun q => absurd h1 q⟩
  rw [if_neg h1]
  by_cases h2 : kindOf e.op = 2
  · rw [if_pos h2]
    have hop : 42 ≤ e.op ∧ e.op ≤ 45 := by
      unfold kindOf at h2
      revert h2
      repeat' (split <;> try omega)
    obtain ⟨t1, t2⟩ := tookP_bounds e.op a b ha hb hop.1 hop.2
    exact ⟨tookP e.op a b, by omega, by omega, rfl, rfl, rfl, .inl hh, fun q => by omega, fun _ => rfl, fun _ q => absurd h2 q⟩
  rw [if_neg h2]
  by_cases h5 : kindOf e.op = 5
  · rw [if_pos h5]
    split
    · exact ⟨1, by decide, by decide, rfl, rfl, rfl, .inl hh, fun q => by omega, fun q => by omega, fun _ _ => rfl⟩
    · exact ⟨1, by decide, by decide, rfl, rfl, rfl, .inr rfl, fun q => by omega, fun q => by omega, fun _ _ => rfl⟩
  · rw [if_neg h5]
    exact ⟨1, by decide, by decide, rfl, rfl, rfl, .inl hh, fun q => by omega, fun q => by omega, fun _ _ => rfl⟩
end Go.Proofs.Ytckjihpdjefpgaa
