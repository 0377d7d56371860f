/- Arguments that are numbers or strings: their bounds. -/
import Derived.Test.YtpefnjbmbfdmmaaDoorAbsC
import Derived.WideShapes
namespace Go.Proofs.YtpefnjbmbfdmmaaDoor
open Go.RowKit Go.ChangeShapes Go.WideShapes

theorem i64_lt {n : Int} (h : (Lit.int .i64 n).wf = true) : n < 9223372036854775808 := by
  simp only [Lit.wf, IntKind.min, IntKind.max, IntKind.signed, IntKind.bits, Bool.and_eq_true, decide_eq_true_eq] at h
  simp at h
  omega
theorem i64_ge {n : Int} (h : (Lit.int .i64 n).wf = true) : -9223372036854775808 ≤ n := by
  simp only [Lit.wf, IntKind.min, IntKind.max, IntKind.signed, IntKind.bits, Bool.and_eq_true, decide_eq_true_eq] at h
  simp at h
  omega
theorem open_str {P : Program} {w : World} {r : Reach} {base : Nat} {t : TypeId} {v : Value} (ht : P.underlying t = some .string) (h : Value.okWide P w r base t v) : ∃ s, v = .string s ∧ s.size < 9223372036854775808 := by
  obtain ⟨s, rfl⟩ := okWide_string ht h
  refine ⟨s, rfl, ?_⟩
  have h2 : IntKind.i64.max = 9223372036854775807 := rfl
  have h3 : (s.size : Int) ≤ IntKind.i64.max := by simpa [Value.okWide, Cell.okWide, Cell.ok, ht] using h
  omega
end Go.Proofs.YtpefnjbmbfdmmaaDoor
