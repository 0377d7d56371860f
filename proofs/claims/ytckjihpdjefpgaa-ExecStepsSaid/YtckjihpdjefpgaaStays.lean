
/- What is done with an entry keeps what it is (for ExecStays), in plain terms. -/
import Derived.Test.YtckjihpdjefpgaaExec2
namespace Go.Proofs.Ytckjihpdjefpgaa
open Go.RowKit

def Stays (e x : En) : Prop := (e.is = 3 → x = e) ∧ (e.known = true → x.known = true) ∧ x.no = e.no ∧ x.pc = e.pc ∧ x.op = e.op ∧ x.rd = e.rd ∧ x.rs1 = e.rs1 ∧ x.rs2 = e.rs2 ∧ x.imm = e.imm ∧ x.guess = e.guess ∧ x.filled = e.filled
theorem Stays.refl (e : En) : Stays e e := ⟨fun _ => rfl, id, rfl, rfl, rfl, rfl, rfl, rfl, rfl, rfl, rfl⟩
theorem start_stays (e : En) (a b : Nat) : Stays e (startP e a b) := by
  unfold startP
  by_cases h : e.is ≠ 0 ∨ kindOf e.op = 3 ∨ kindOf e.op = 4
  · rw [if_pos h]; exact Stays.refl e
  rw [if_neg h]
  have h0 : e.is = 0 := Classical.byContradiction fun q => h (.inl q)
  have h3 : e.is ≠ 3 := by omega
  unfold startK
  by_cases h1 : kindOf e.op = 1
  · rw [if_pos h1]; exact ⟨fun q => absurd q h3, id, rfl, rfl, rfl, rfl, rfl, rfl, rfl, rfl, rfl⟩
  rw [if_neg h1]
  by_cases h2 : kindOf e.op = 2
  · rw [if_pos h2]; exact ⟨fun q => absurd q h3, id, rfl, rfl, rfl, rfl, rfl, rfl, rfl, rfl, rfl⟩
  rw [if_neg h2]
  by_cases h5 : kindOf e.op = 5
  · rw [if_pos h5]
    split
    · exact ⟨fun q => absurd q h3, id, rfl, rfl, rfl, rfl, rfl, rfl, rfl, rfl, rfl⟩
    · exact ⟨fun q => absurd q h3, id, rfl, rfl, rfl, rfl, rfl, rfl, rfl, rfl, rfl⟩
  · rw [if_neg h5]; exact ⟨fun q => absurd q h3, id, rfl, rfl, rfl, rfl, rfl, rfl, rfl, rfl, rfl⟩
theorem addr_stays (e : En) (size : Int) (a : Nat) : Stays e (addrP e size a) := by
  unfold addrP
  by_cases h : (kindOf e.op ≠ 3 ∧ kindOf e.op ≠ 4) ∨ e.is ≠ 0 ∨ e.known = true
  · rw [if_pos h]; exact Stays.refl e
  rw [if_neg h]
  have h0 : e.is = 0 := Classical.byContradiction fun q => h (.inr (.inl q))
  have h3 : e.is ≠ 3 := by omega
  split
  · exact ⟨fun q => absurd q h3, fun _ => rfl, rfl, rfl, rfl, rfl, rfl, rfl, rfl, rfl, rfl⟩
  · exact ⟨fun q => absurd q h3, id, rfl, rfl, rfl, rfl, rfl, rfl, rfl, rfl, rfl⟩
theorem go_stays (e : En) : Stays e (goP e) := by
  unfold goP
  by_cases h : e.is ≠ 1
  · rw [if_pos h]; exact Stays.refl e
  rw [if_neg h]
  have h3 : e.is ≠ 3 := by omega
  split
  · refine ⟨fun q => absurd q h3, fun q => ?_, rfl, rfl, rfl, rfl, rfl, rfl, rfl, rfl, rfl⟩
    show (if kindOf e.op = 5 ∧ e.halt = 0 then true else e.known) = true
    split
    · rfl
    · exact q
  · exact ⟨fun q => absurd q h3, id, rfl, rfl, rfl, rfl, rfl, rfl, rfl, rfl, rfl⟩
theorem take_stays (e : En) (v : Nat) : Stays e (takeP e v) := by
  unfold takeP
  by_cases h : kindOf e.op ≠ 3 ∨ e.known = false ∨ (e.is ≠ 0 ∧ e.is ≠ 2)
  · rw [if_pos h]; exact Stays.refl e
  rw [if_neg h]
  have h3 : e.is ≠ 3 := fun q => h (.inr (.inr ⟨by omega, by omega⟩))
  exact ⟨fun q => absurd q h3, id, rfl, rfl, rfl, rfl, rfl, rfl, rfl, rfl, rfl⟩
theorem store_stays (e : En) (v : Nat) : Stays e (storeP e v) := by
  unfold storeP
  by_cases h : kindOf e.op ≠ 4 ∨ e.known = false ∨ e.is ≠ 0
  · rw [if_pos h]; exact Stays.refl e
  rw [if_neg h]
  have h3 : e.is ≠ 3 := fun q => h (.inr (.inr (by omega)))
  exact ⟨fun q => absurd q h3, id, rfl, rfl, rfl, rfl, rfl, rfl, rfl, rfl, rfl⟩
end Go.Proofs.Ytckjihpdjefpgaa
