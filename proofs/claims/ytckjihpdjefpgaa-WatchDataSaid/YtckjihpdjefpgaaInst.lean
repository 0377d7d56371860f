
/- The contracts of package inst: forms, fixed bits, registers and numbers of instructions. -/
import Derived.Test.YtckjihpdjefpgaaWord
namespace Go.Proofs.Ytckjihpdjefpgaa
open Go.RowKit

def formOf (op : Int) : Nat :=
  if op < 1 ∨ 48 < op then 0 else if op ≤ 2 then 6 else if op = 3 then 7 else if op = 4 then 2 else if op ≤ 10 then 5 else if op ≤ 15 then 2 else if op ≤ 18 then 4
  else if op ≤ 24 then 2 else if op ≤ 27 then 3 else if op ≤ 45 then 1 else 8
theorem formOf_le (op : Int) : formOf op ≤ 8 := by
  unfold formOf
  repeat' (split <;> try omega)
def fixedOf : Nat → Nat
  | 8 => 4294967295
  | 1 => 4261441663
  | 3 => 4261441663
  | 2 => 28799
  | 4 => 28799
  | 5 => 28799
  | 6 => 127
  | 7 => 127
  | _ => 0
def hasRd (f : Nat) : Bool := f == 1 || f == 2 || f == 3 || f == 6 || f == 7
def hasRs1 (f : Nat) : Bool := f == 1 || f == 2 || f == 3 || f == 4 || f == 5
def hasRs2 (f : Nat) : Bool := f == 1 || f == 4 || f == 5
def partsOf : Nat → List (Nat × Nat)
  | 2 => [(20, 12)]
  | 3 => [(20, 5)]
  | 4 => [(7, 5), (25, 7)]
  | 5 => [(8, 4), (25, 6), (7, 1), (31, 1)]
  | 6 => [(12, 20)]
  | 7 => [(21, 10), (20, 1), (12, 8), (31, 1)]
  | _ => []
def lowOf : Nat → Nat
  | 5 => 1
  | 6 => 12
  | 7 => 1
  | _ => 0

set_option maxHeartbeats 4000000 in
theorem form_any (op : Int) (w : World) : Calls Try.prog 62 #[.int .i64 op] w fun e w' => e = .returned (.int .i64 (formOf op)) ∧ w = w' := by
  obtain ⟨R, hR⟩ : ∃ R, R = formOf op := ⟨_, rfl⟩
  have HR := Lib.hid hR
  rw [← hR]
  clear hR
  have hc : (op < 1 ∧ R = 0) ∨ (1 ≤ op ∧ 48 < op ∧ R = 0) ∨ (1 ≤ op ∧ op ≤ 2 ∧ R = 6) ∨ (op = 3 ∧ R = 7) ∨ (op = 4 ∧ R = 2) ∨ (5 ≤ op ∧ op ≤ 10 ∧ R = 5) ∨ (11 ≤ op ∧ op ≤ 15 ∧ R = 2) ∨ (16 ≤ op ∧ op ≤ 18 ∧ R = 4) ∨ (19 ≤ op ∧ op ≤ 24 ∧ R = 2) ∨ (25 ≤ op ∧ op ≤ 27 ∧ R = 3) ∨
      (28 ≤ op ∧ op ≤ 45 ∧ R = 1) ∨ (46 ≤ op ∧ op ≤ 48 ∧ R = 8) := by
    rw [HR.out]
    unfold formOf
    repeat' (split <;> try omega)
  clear HR
  rcases hc with ⟨h1, rfl⟩ | ⟨h1, h2, rfl⟩ | ⟨h1, h2, rfl⟩ | ⟨rfl, rfl⟩ | ⟨rfl, rfl⟩ | ⟨h1, h2, rfl⟩ | ⟨h1, h2, rfl⟩ | ⟨h1, h2, rfl⟩ | ⟨h1, h2, rfl⟩ | ⟨h1, h2, rfl⟩ | ⟨h1, h2, rfl⟩ | ⟨h1, h2, rfl⟩
  all_goals
    go_enter Try.func62, Try.ntmps62
    go_wp2
    go_ret
    exact ⟨rfl, rfl⟩

set_option maxHeartbeats 4000000 in
theorem has_any (f : Nat) (hf : f ≤ 8) (w : World) : Calls Try.prog 61 #[.int .i64 f] w fun e w' => e = .returned (.tuple #[.bool (hasRd f), .bool (hasRs1 f), .bool (hasRs2 f)]) ∧ w = w' := by
  have hc : f = 0 ∨ f = 1 ∨ f = 2 ∨ f = 3 ∨ f = 4 ∨ f = 5 ∨ f = 6 ∨ f = 7 ∨ f = 8 := by omega
  rcases hc with rfl | rfl | rfl | rfl | rfl | rfl | rfl | rfl | rfl
  all_goals
    go_enter Try.func61, Try.ntmps61
    go_wp2
    go_ret3
    exact ⟨rfl, rfl⟩

def spanCells (p : Nat × Nat) : List Value := [.int .i64 p.1, .int .i64 p.2]

end Go.Proofs.Ytckjihpdjefpgaa
