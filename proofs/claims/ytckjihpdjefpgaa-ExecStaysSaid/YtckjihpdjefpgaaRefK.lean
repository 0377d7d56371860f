/- The reference's Form and Kind of whatever number of an instruction (printed by wip/bin/refkgen.py). -/
import Derived.Test.YtckjihpdjefpgaaKind
namespace Go.Proofs.Ytckjihpdjefpgaa
open Go.RowKit

def letterOf (op : Int) : Nat :=
  if op < 1 ∨ 48 < op then 0 else if op ≤ 2 then 85 else if op = 3 then 74 else if op = 4 then 73 else if op ≤ 10 then 66 else if op ≤ 15 then 73 else if op ≤ 18 then 83
  else if op ≤ 24 then 73 else if op ≤ 27 then 84 else if op ≤ 45 then 82 else 87

set_option maxHeartbeats 8000000 in
theorem rForm_any (op : Int) (w : World) : Calls Try.prog 32 #[.int .i64 op] w fun e w' => e = .returned (.int .u8 (letterOf op : Nat)) ∧ w = w' := by
  have hc : op = 1 ∨ op = 2 ∨ op = 3 ∨ op = 4 ∨ op = 5 ∨ op = 6 ∨ op = 7 ∨ op = 8 ∨ op = 9 ∨ op = 10 ∨ op = 11 ∨ op = 12 ∨ op = 13 ∨ op = 14 ∨ op = 15 ∨ op = 16 ∨ op = 17 ∨ op = 18 ∨ op = 19 ∨ op = 20 ∨ op = 21 ∨ op = 22 ∨ op = 23 ∨ op = 24 ∨ op = 25 ∨ op = 26 ∨ op = 27 ∨ op = 28 ∨ op = 29 ∨ op = 30 ∨ op = 31 ∨ op = 32 ∨ op = 33 ∨ op = 34 ∨ op = 35 ∨ op = 36 ∨ op = 37 ∨ op = 38 ∨ op = 39 ∨ op = 40 ∨ op = 41 ∨ op = 42 ∨ op = 43 ∨ op = 44 ∨ op = 45 ∨ op = 46 ∨ op = 47 ∨ op = 48 ∨ op < 1 ∨ 48 < op := by omega
  rcases hc with rfl | rfl | rfl | rfl | rfl | rfl | rfl | rfl | rfl | rfl | rfl | rfl | rfl | rfl | rfl | rfl | rfl | rfl | rfl | rfl | rfl | rfl | rfl | rfl | rfl | rfl | rfl | rfl | rfl | rfl | rfl | rfl | rfl | rfl | rfl | rfl | rfl | rfl | rfl | rfl | rfl | rfl | rfl | rfl | rfl | rfl | rfl | rfl | h | h
  · go_enter Try.func32, Try.ntmps32
    go_wp2
    go_ret
    exact ⟨rfl, rfl⟩
  · go_enter Try.func32, Try.ntmps32
    go_wp2
    go_ret
    exact ⟨rfl, rfl⟩
  · go_enter Try.func32, Try.ntmps32
    go_wp2
    go_ret
    exact ⟨rfl, rfl⟩
  · go_enter Try.func32, Try.ntmps32
    go_wp2
    go_ret
    exact ⟨rfl, rfl⟩
  · go_enter Try.func32, Try.ntmps32
    go_wp2
    go_ret
    exact ⟨rfl, rfl⟩
  · go_enter Try.func32, Try.ntmps32
    go_wp2
    go_ret
    exact ⟨rfl, rfl⟩
  · go_enter Try.func32, Try.ntmps32
    go_wp2
    go_ret
    exact ⟨rfl, rfl⟩
  · go_enter Try.func32, Try.ntmps32
    go_wp2
    go_ret
    exact ⟨rfl, rfl⟩
  · go_enter Try.func32, Try.ntmps32
    go_wp2
    go_ret
    exact ⟨rfl, rfl⟩
  · go_enter Try.func32, Try.ntmps32
    go_wp2
    go_ret
    exact ⟨rfl, rfl⟩
  · go_enter Try.func32, Try.ntmps32
    go_wp2
    go_ret
    exact ⟨rfl, rfl⟩
  · go_enter Try.func32, Try.ntmps32
    go_wp2
    go_ret
    exact ⟨rfl, rfl⟩
  · go_enter Try.func32, Try.ntmps32
    go_wp2
    go_ret
    exact ⟨rfl, rfl⟩
  · go_enter Try.func32, Try.ntmps32
    go_wp2
    go_ret
    exact ⟨rfl, rfl⟩
  · go_enter Try.func32, Try.ntmps32
    go_wp2
    go_ret
    exact ⟨rfl, rfl⟩
  · go_enter Try.func32, Try.ntmps32
    go_wp2
    go_ret
    exact ⟨rfl, rfl⟩
  · go_enter Try.func32, Try.ntmps32
    go_wp2
    go_ret
    exact ⟨rfl, rfl⟩
  · go_enter Try.func32, Try.ntmps32
    go_wp2
    go_ret
    exact ⟨rfl, rfl⟩
  · go_enter Try.func32, Try.ntmps32
    go_wp2
    go_ret
    exact ⟨rfl, rfl⟩
  · go_enter Try.func32, Try.ntmps32
    go_wp2
    go_ret
    exact ⟨rfl, rfl⟩
  · go_enter Try.func32, Try.ntmps32
    go_wp2
    go_ret
    exact ⟨rfl, rfl⟩
  · go_enter Try.func32, Try.ntmps32
    go_wp2
    go_ret
    exact ⟨rfl, rfl⟩
  · go_enter Try.func32, Try.ntmps32
    go_wp2
    go_ret
    exact ⟨rfl, rfl⟩
  · go_enter Try.func32, Try.ntmps32
    go_wp2
    go_ret
    exact ⟨rfl, rfl⟩
  · go_enter Try.func32, Try.ntmps32
    go_wp2
    go_ret
    exact ⟨rfl, rfl⟩
  · go_enter Try.func32, Try.ntmps32
    go_wp2
    go_ret
    exact ⟨rfl, rfl⟩
  · go_enter Try.func32, Try.ntmps32
    go_wp2
    go_ret
    exact ⟨rfl, rfl⟩
  · go_enter Try.func32, Try.ntmps32
    go_wp2
    go_ret
    exact ⟨rfl, rfl⟩
  · go_enter Try.func32, Try.ntmps32
    go_wp2
    go_ret
    exact ⟨rfl, rfl⟩
  · go_enter Try.func32, Try.ntmps32
    go_wp2
    go_ret
    exact ⟨rfl, rfl⟩
  · go_enter Try.func32, Try.ntmps32
    go_wp2
    go_ret
    exact ⟨rfl, rfl⟩
  · go_enter Try.func32, Try.ntmps32
    go_wp2
    go_ret
    exact ⟨rfl, rfl⟩
  · go_enter Try.func32, Try.ntmps32
    go_wp2
    go_ret
    exact ⟨rfl, rfl⟩
  · go_enter Try.func32, Try.ntmps32
    go_wp2
    go_ret
    exact ⟨rfl, rfl⟩
  · go_enter Try.func32, Try.ntmps32
    go_wp2
    go_ret
    exact ⟨rfl, rfl⟩
  · go_enter Try.func32, Try.ntmps32
    go_wp2
    go_ret
    exact ⟨rfl, rfl⟩
  · go_enter Try.func32, Try.ntmps32
    go_wp2
    go_ret
    exact ⟨rfl, rfl⟩
  · go_enter Try.func32, Try.ntmps32
    go_wp2
    go_ret
    exact ⟨rfl, rfl⟩
  · go_enter Try.func32, Try.ntmps32
    go_wp2
    go_ret
    exact ⟨rfl, rfl⟩
  · go_enter Try.func32, Try.ntmps32
    go_wp2
    go_ret
    exact ⟨rfl, rfl⟩
  · go_enter Try.func32, Try.ntmps32
    go_wp2
    go_ret
    exact ⟨rfl, rfl⟩
  · go_enter Try.func32, Try.ntmps32
    go_wp2
    go_ret
    exact ⟨rfl, rfl⟩
  · go_enter Try.func32, Try.ntmps32
    go_wp2
    go_ret
    exact ⟨rfl, rfl⟩
  · go_enter Try.func32, Try.ntmps32
    go_wp2
    go_ret
    exact ⟨rfl, rfl⟩
  · go_enter Try.func32, Try.ntmps32
    go_wp2
    go_ret
    exact ⟨rfl, rfl⟩
  · go_enter Try.func32, Try.ntmps32
    go_wp2
    go_ret
    exact ⟨rfl, rfl⟩
  · go_enter Try.func32, Try.ntmps32
    go_wp2
    go_ret
    exact ⟨rfl, rfl⟩
  · go_enter Try.func32, Try.ntmps32
    go_wp2
    go_ret
    exact ⟨rfl, rfl⟩
  · have hv : Hid (letterOf op = 0) := by show _ = _; unfold letterOf; rw [if_pos (by omega)]
    have e1 : (op == (1 : Int)) = false := by simp; omega
    have e2 : (op == (2 : Int)) = false := by simp; omega
    have e3 : (op == (3 : Int)) = false := by simp; omega
    have e5 : (op == (5 : Int)) = false := by simp; omega
    have e6 : (op == (6 : Int)) = false := by simp; omega
    have e7 : (op == (7 : Int)) = false := by simp; omega
    have e8 : (op == (8 : Int)) = false := by simp; omega
    have e9 : (op == (9 : Int)) = false := by simp; omega
    have e10 : (op == (10 : Int)) = false := by simp; omega
    have e16 : (op == (16 : Int)) = false := by simp; omega
    have e17 : (op == (17 : Int)) = false := by simp; omega
    have e18 : (op == (18 : Int)) = false := by simp; omega
    have e25 : (op == (25 : Int)) = false := by simp; omega
    have e26 : (op == (26 : Int)) = false := by simp; omega
    have e27 : (op == (27 : Int)) = false := by simp; omega
    have e46 : (op == (46 : Int)) = false := by simp; omega
    have e47 : (op == (47 : Int)) = false := by simp; omega
    have e48 : (op == (48 : Int)) = false := by simp; omega
    have e4 : (op == (4 : Int)) = false := by simp; omega
    have d11 : decide ((11 : Int) ≤ op) = false := by simp; omega
    have d19 : decide ((19 : Int) ≤ op) = false := by simp; omega
    have d28 : decide ((28 : Int) ≤ op) = false := by simp; omega
    clear h
    go_enter Try.func32, Try.ntmps32
    go_wp2
    go_ret
    exact ⟨by rw [hv.out]; rfl, rfl⟩
  · have hv : Hid (letterOf op = 0) := by show _ = _; unfold letterOf; rw [if_pos (by omega)]
    have e1 : (op == (1 : Int)) = false := by simp; omega
    have e2 : (op == (2 : Int)) = false := by simp; omega
    have e3 : (op == (3 : Int)) = false := by simp; omega
    have e5 : (op == (5 : Int)) = false := by simp; omega
    have e6 : (op == (6 : Int)) = false := by simp; omega
    have e7 : (op == (7 : Int)) = false := by simp; omega
    have e8 : (op == (8 : Int)) = false := by simp; omega
    have e9 : (op == (9 : Int)) = false := by simp; omega
    have e10 : (op == (10 : Int)) = false := by simp; omega
    have e16 : (op == (16 : Int)) = false := by simp; omega
    have e17 : (op == (17 : Int)) = false := by simp; omega
    have e18 : (op == (18 : Int)) = false := by simp; omega
    have e25 : (op == (25 : Int)) = false := by simp; omega
    have e26 : (op == (26 : Int)) = false := by simp; omega
    have e27 : (op == (27 : Int)) = false := by simp; omega
    have e46 : (op == (46 : Int)) = false := by simp; omega
    have e47 : (op == (47 : Int)) = false := by simp; omega
    have e48 : (op == (48 : Int)) = false := by simp; omega
    have e4 : (op == (4 : Int)) = false := by simp; omega
    have d11 : decide ((11 : Int) ≤ op) = true := by simp; omega
    have d19 : decide ((19 : Int) ≤ op) = true := by simp; omega
    have d28 : decide ((28 : Int) ≤ op) = true := by simp; omega
    have d15 : decide (op ≤ (15 : Int)) = false := by simp; omega
    have d24 : decide (op ≤ (24 : Int)) = false := by simp; omega
    have d45 : decide (op ≤ (45 : Int)) = false := by simp; omega
    clear h
    go_enter Try.func32, Try.ntmps32
    go_wp2
    go_ret
    exact ⟨by rw [hv.out]; rfl, rfl⟩

set_option maxHeartbeats 8000000 in
theorem rKind_any (op : Int) (w : World) : Calls Try.prog 12 #[.int .i64 op] w fun e w' => e = .returned (.int .i64 (kindOf op : Nat)) ∧ w = w' := by
  have cf := fun w => rForm_any op w
  have hc : op = 1 ∨ op = 2 ∨ op = 3 ∨ op = 4 ∨ op = 5 ∨ op = 6 ∨ op = 7 ∨ op = 8 ∨ op = 9 ∨ op = 10 ∨ op = 11 ∨ op = 12 ∨ op = 13 ∨ op = 14 ∨ op = 15 ∨ op = 16 ∨ op = 17 ∨ op = 18 ∨ op = 19 ∨ op = 20 ∨ op = 21 ∨ op = 22 ∨ op = 23 ∨ op = 24 ∨ op = 25 ∨ op = 26 ∨ op = 27 ∨ op = 28 ∨ op = 29 ∨ op = 30 ∨ op = 31 ∨ op = 32 ∨ op = 33 ∨ op = 34 ∨ op = 35 ∨ op = 36 ∨ op = 37 ∨ op = 38 ∨ op = 39 ∨ op = 40 ∨ op = 41 ∨ op = 42 ∨ op = 43 ∨ op = 44 ∨ op = 45 ∨ op = 46 ∨ op = 47 ∨ op = 48 ∨ op < 1 ∨ 48 < op := by omega
  rcases hc with rfl | rfl | rfl | rfl | rfl | rfl | rfl | rfl | rfl | rfl | rfl | rfl | rfl | rfl | rfl | rfl | rfl | rfl | rfl | rfl | rfl | rfl | rfl | rfl | rfl | rfl | rfl | rfl | rfl | rfl | rfl | rfl | rfl | rfl | rfl | rfl | rfl | rfl | rfl | rfl | rfl | rfl | rfl | rfl | rfl | rfl | rfl | rfl | h | h
  · go_enter Try.func12, Try.ntmps12
    go_wp2_with (go_at_call 32; refine (cf _).mono ?_; rintro e w' ⟨rfl, rfl⟩; rw [show letterOf 1 = 85 by decide])
    go_ret
    exact ⟨rfl, rfl⟩
  · go_enter Try.func12, Try.ntmps12
    go_wp2_with (go_at_call 32; refine (cf _).mono ?_; rintro e w' ⟨rfl, rfl⟩; rw [show letterOf 2 = 85 by decide])
    go_ret
    exact ⟨rfl, rfl⟩
  · go_enter Try.func12, Try.ntmps12
    go_wp2_with (go_at_call 32; refine (cf _).mono ?_; rintro e w' ⟨rfl, rfl⟩; rw [show letterOf 3 = 74 by decide])
    go_ret
    exact ⟨rfl, rfl⟩
  · go_enter Try.func12, Try.ntmps12
    go_wp2_with (go_at_call 32; refine (cf _).mono ?_; rintro e w' ⟨rfl, rfl⟩; rw [show letterOf 4 = 73 by decide])
    go_ret
    exact ⟨rfl, rfl⟩
  · go_enter Try.func12, Try.ntmps12
    go_wp2_with (go_at_call 32; refine (cf _).mono ?_; rintro e w' ⟨rfl, rfl⟩; rw [show letterOf 5 = 66 by decide])
    go_ret
    exact ⟨rfl, rfl⟩
  · go_enter Try.func12, Try.ntmps12
    go_wp2_with (go_at_call 32; refine (cf _).mono ?_; rintro e w' ⟨rfl, rfl⟩; rw [show letterOf 6 = 66 by decide])
    go_ret
    exact ⟨rfl, rfl⟩
  · go_enter Try.func12, Try.ntmps12
    go_wp2_with (go_at_call 32; refine (cf _).mono ?_; rintro e w' ⟨rfl, rfl⟩; rw [show letterOf 7 = 66 by decide])
    go_ret
    exact ⟨rfl, rfl⟩
  · go_enter Try.func12, Try.ntmps12
    go_wp2_with (go_at_call 32; refine (cf _).mono ?_; rintro e w' ⟨rfl, rfl⟩; rw [show letterOf 8 = 66 by decide])
    go_ret
    exact ⟨rfl, rfl⟩
  · go_enter Try.func12, Try.ntmps12
    go_wp2_with (go_at_call 32; refine (cf _).mono ?_; rintro e w' ⟨rfl, rfl⟩; rw [show letterOf 9 = 66 by decide])
    go_ret
    exact ⟨rfl, rfl⟩
  · go_enter Try.func12, Try.ntmps12
    go_wp2_with (go_at_call 32; refine (cf _).mono ?_; rintro e w' ⟨rfl, rfl⟩; rw [show letterOf 10 = 66 by decide])
    go_ret
    exact ⟨rfl, rfl⟩
  · go_enter Try.func12, Try.ntmps12
    go_wp2_with (go_at_call 32; refine (cf _).mono ?_; rintro e w' ⟨rfl, rfl⟩; rw [show letterOf 11 = 73 by decide])
    go_ret
    exact ⟨rfl, rfl⟩
  · go_enter Try.func12, Try.ntmps12
    go_wp2_with (go_at_call 32; refine (cf _).mono ?_; rintro e w' ⟨rfl, rfl⟩; rw [show letterOf 12 = 73 by decide])
    go_ret
    exact ⟨rfl, rfl⟩
  · go_enter Try.func12, Try.ntmps12
    go_wp2_with (go_at_call 32; refine (cf _).mono ?_; rintro e w' ⟨rfl, rfl⟩; rw [show letterOf 13 = 73 by decide])
    go_ret
    exact ⟨rfl, rfl⟩
  · go_enter Try.func12, Try.ntmps12
    go_wp2_with (go_at_call 32; refine (cf _).mono ?_; rintro e w' ⟨rfl, rfl⟩; rw [show letterOf 14 = 73 by decide])
    go_ret
    exact ⟨rfl, rfl⟩
  · go_enter Try.func12, Try.ntmps12
    go_wp2_with (go_at_call 32; refine (cf _).mono ?_; rintro e w' ⟨rfl, rfl⟩; rw [show letterOf 15 = 73 by decide])
    go_ret
    exact ⟨rfl, rfl⟩
  · go_enter Try.func12, Try.ntmps12
    go_wp2_with (go_at_call 32; refine (cf _).mono ?_; rintro e w' ⟨rfl, rfl⟩; rw [show letterOf 16 = 83 by decide])
    go_ret
    exact ⟨rfl, rfl⟩
  · go_enter Try.func12, Try.ntmps12
    go_wp2_with (go_at_call 32; refine (cf _).mono ?_; rintro e w' ⟨rfl, rfl⟩; rw [show letterOf 17 = 83 by decide])
    go_ret
    exact ⟨rfl, rfl⟩
  · go_enter Try.func12, Try.ntmps12
    go_wp2_with (go_at_call 32; refine (cf _).mono ?_; rintro e w' ⟨rfl, rfl⟩; rw [show letterOf 18 = 83 by decide])
    go_ret
    exact ⟨rfl, rfl⟩
  · go_enter Try.func12, Try.ntmps12
    go_wp2_with (go_at_call 32; refine (cf _).mono ?_; rintro e w' ⟨rfl, rfl⟩; rw [show letterOf 19 = 73 by decide])
    go_ret
    exact ⟨rfl, rfl⟩
  · go_enter Try.func12, Try.ntmps12
    go_wp2_with (go_at_call 32; refine (cf _).mono ?_; rintro e w' ⟨rfl, rfl⟩; rw [show letterOf 20 = 73 by decide])
    go_ret
    exact ⟨rfl, rfl⟩
  · go_enter Try.func12, Try.ntmps12
    go_wp2_with (go_at_call 32; refine (cf _).mono ?_; rintro e w' ⟨rfl, rfl⟩; rw [show letterOf 21 = 73 by decide])
    go_ret
    exact ⟨rfl, rfl⟩
  · go_enter Try.func12, Try.ntmps12
    go_wp2_with (go_at_call 32; refine (cf _).mono ?_; rintro e w' ⟨rfl, rfl⟩; rw [show letterOf 22 = 73 by decide])
    go_ret
    exact ⟨rfl, rfl⟩
  · go_enter Try.func12, Try.ntmps12
    go_wp2_with (go_at_call 32; refine (cf _).mono ?_; rintro e w' ⟨rfl, rfl⟩; rw [show letterOf 23 = 73 by decide])
    go_ret
    exact ⟨rfl, rfl⟩
  · go_enter Try.func12, Try.ntmps12
    go_wp2_with (go_at_call 32; refine (cf _).mono ?_; rintro e w' ⟨rfl, rfl⟩; rw [show letterOf 24 = 73 by decide])
    go_ret
    exact ⟨rfl, rfl⟩
  · go_enter Try.func12, Try.ntmps12
    go_wp2_with (go_at_call 32; refine (cf _).mono ?_; rintro e w' ⟨rfl, rfl⟩; rw [show letterOf 25 = 84 by decide])
    go_ret
    exact ⟨rfl, rfl⟩
  · go_enter Try.func12, Try.ntmps12
    go_wp2_with (go_at_call 32; refine (cf _).mono ?_; rintro e w' ⟨rfl, rfl⟩; rw [show letterOf 26 = 84 by decide])
    go_ret
    exact ⟨rfl, rfl⟩
  · go_enter Try.func12, Try.ntmps12
    go_wp2_with (go_at_call 32; refine (cf _).mono ?_; rintro e w' ⟨rfl, rfl⟩; rw [show letterOf 27 = 84 by decide])
    go_ret
    exact ⟨rfl, rfl⟩
  · go_enter Try.func12, Try.ntmps12
    go_wp2_with (go_at_call 32; refine (cf _).mono ?_; rintro e w' ⟨rfl, rfl⟩; rw [show letterOf 28 = 82 by decide])
    go_ret
    exact ⟨rfl, rfl⟩
  · go_enter Try.func12, Try.ntmps12
    go_wp2_with (go_at_call 32; refine (cf _).mono ?_; rintro e w' ⟨rfl, rfl⟩; rw [show letterOf 29 = 82 by decide])
    go_ret
    exact ⟨rfl, rfl⟩
  · go_enter Try.func12, Try.ntmps12
    go_wp2_with (go_at_call 32; refine (cf _).mono ?_; rintro e w' ⟨rfl, rfl⟩; rw [show letterOf 30 = 82 by decide])
    go_ret
    exact ⟨rfl, rfl⟩
  · go_enter Try.func12, Try.ntmps12
    go_wp2_with (go_at_call 32; refine (cf _).mono ?_; rintro e w' ⟨rfl, rfl⟩; rw [show letterOf 31 = 82 by decide])
    go_ret
    exact ⟨rfl, rfl⟩
  · go_enter Try.func12, Try.ntmps12
    go_wp2_with (go_at_call 32; refine (cf _).mono ?_; rintro e w' ⟨rfl, rfl⟩; rw [show letterOf 32 = 82 by decide])
    go_ret
    exact ⟨rfl, rfl⟩
  · go_enter Try.func12, Try.ntmps12
    go_wp2_with (go_at_call 32; refine (cf _).mono ?_; rintro e w' ⟨rfl, rfl⟩; rw [show letterOf 33 = 82 by decide])
    go_ret
    exact ⟨rfl, rfl⟩
  · go_enter Try.func12, Try.ntmps12
    go_wp2_with (go_at_call 32; refine (cf _).mono ?_; rintro e w' ⟨rfl, rfl⟩; rw [show letterOf 34 = 82 by decide])
    go_ret
    exact ⟨rfl, rfl⟩
  · go_enter Try.func12, Try.ntmps12
    go_wp2_with (go_at_call 32; refine (cf _).mono ?_; rintro e w' ⟨rfl, rfl⟩; rw [show letterOf 35 = 82 by decide])
    go_ret
    exact ⟨rfl, rfl⟩
  · go_enter Try.func12, Try.ntmps12
    go_wp2_with (go_at_call 32; refine (cf _).mono ?_; rintro e w' ⟨rfl, rfl⟩; rw [show letterOf 36 = 82 by decide])
    go_ret
    exact ⟨rfl, rfl⟩
  · go_enter Try.func12, Try.ntmps12
    go_wp2_with (go_at_call 32; refine (cf _).mono ?_; rintro e w' ⟨rfl, rfl⟩; rw [show letterOf 37 = 82 by decide])
    go_ret
    exact ⟨rfl, rfl⟩
  · go_enter Try.func12, Try.ntmps12
    go_wp2_with (go_at_call 32; refine (cf _).mono ?_; rintro e w' ⟨rfl, rfl⟩; rw [show letterOf 38 = 82 by decide])
    go_ret
    exact ⟨rfl, rfl⟩
  · go_enter Try.func12, Try.ntmps12
    go_wp2_with (go_at_call 32; refine (cf _).mono ?_; rintro e w' ⟨rfl, rfl⟩; rw [show letterOf 39 = 82 by decide])
    go_ret
    exact ⟨rfl, rfl⟩
  · go_enter Try.func12, Try.ntmps12
    go_wp2_with (go_at_call 32; refine (cf _).mono ?_; rintro e w' ⟨rfl, rfl⟩; rw [show letterOf 40 = 82 by decide])
    go_ret
    exact ⟨rfl, rfl⟩
  · go_enter Try.func12, Try.ntmps12
    go_wp2_with (go_at_call 32; refine (cf _).mono ?_; rintro e w' ⟨rfl, rfl⟩; rw [show letterOf 41 = 82 by decide])
    go_ret
    exact ⟨rfl, rfl⟩
  · go_enter Try.func12, Try.ntmps12
    go_wp2_with (go_at_call 32; refine (cf _).mono ?_; rintro e w' ⟨rfl, rfl⟩; rw [show letterOf 42 = 82 by decide])
    go_ret
    exact ⟨rfl, rfl⟩
  · go_enter Try.func12, Try.ntmps12
    go_wp2_with (go_at_call 32; refine (cf _).mono ?_; rintro e w' ⟨rfl, rfl⟩; rw [show letterOf 43 = 82 by decide])
    go_ret
    exact ⟨rfl, rfl⟩
  · go_enter Try.func12, Try.ntmps12
    go_wp2_with (go_at_call 32; refine (cf _).mono ?_; rintro e w' ⟨rfl, rfl⟩; rw [show letterOf 44 = 82 by decide])
    go_ret
    exact ⟨rfl, rfl⟩
  · go_enter Try.func12, Try.ntmps12
    go_wp2_with (go_at_call 32; refine (cf _).mono ?_; rintro e w' ⟨rfl, rfl⟩; rw [show letterOf 45 = 82 by decide])
    go_ret
    exact ⟨rfl, rfl⟩
  · go_enter Try.func12, Try.ntmps12
    go_wp2_with (go_at_call 32; refine (cf _).mono ?_; rintro e w' ⟨rfl, rfl⟩; rw [show letterOf 46 = 87 by decide])
    go_ret
    exact ⟨rfl, rfl⟩
  · go_enter Try.func12, Try.ntmps12
    go_wp2_with (go_at_call 32; refine (cf _).mono ?_; rintro e w' ⟨rfl, rfl⟩; rw [show letterOf 47 = 87 by decide])
    go_ret
    exact ⟨rfl, rfl⟩
  · go_enter Try.func12, Try.ntmps12
    go_wp2_with (go_at_call 32; refine (cf _).mono ?_; rintro e w' ⟨rfl, rfl⟩; rw [show letterOf 48 = 87 by decide])
    go_ret
    exact ⟨rfl, rfl⟩
  · have hv : Hid (kindOf op = 0) := by show _ = _; unfold kindOf; repeat' (split <;> try omega)
    have hl : letterOf op = 0 := by unfold letterOf; rw [if_pos (by omega)]
    rw [hl] at cf
    have e4 : (op == (4 : Int)) = false := by simp; omega
    have e47 : (op == (47 : Int)) = false := by simp; omega
    have e48 : (op == (48 : Int)) = false := by simp; omega
    have d11 : decide ((11 : Int) ≤ op) = false := by simp; omega
    have d38 : decide ((38 : Int) ≤ op) = false := by simp; omega
    have d42 : decide ((42 : Int) ≤ op) = false := by simp; omega
    clear h hl
    go_enter Try.func12, Try.ntmps12
    go_wp2_with (go_at_call 32; refine (cf _).mono ?_; rintro e w' ⟨rfl, rfl⟩)
    go_ret
    exact ⟨by rw [hv.out]; rfl, rfl⟩
  · have hv : Hid (kindOf op = 0) := by show _ = _; unfold kindOf; repeat' (split <;> try omega)
    have hl : letterOf op = 0 := by unfold letterOf; rw [if_pos (by omega)]
    rw [hl] at cf
    have e4 : (op == (4 : Int)) = false := by simp; omega
    have e47 : (op == (47 : Int)) = false := by simp; omega
    have e48 : (op == (48 : Int)) = false := by simp; omega
    have d11 : decide ((11 : Int) ≤ op) = true := by simp; omega
    have d38 : decide ((38 : Int) ≤ op) = true := by simp; omega
    have d42 : decide ((42 : Int) ≤ op) = true := by simp; omega
    have d15 : decide (op ≤ (15 : Int)) = false := by simp; omega
    have d41 : decide (op ≤ (41 : Int)) = false := by simp; omega
    have d45 : decide (op ≤ (45 : Int)) = false := by simp; omega
    clear h hl
    go_enter Try.func12, Try.ntmps12
    go_wp2_with (go_at_call 32; refine (cf _).mono ?_; rintro e w' ⟨rfl, rfl⟩)
    go_ret
    exact ⟨by rw [hv.out]; rfl, rfl⟩
end Go.Proofs.Ytckjihpdjefpgaa
