/- The law SeqAdds: plain. -/
import Derived.Test.YtahnhhbgkmlfcaaDoorReadsH
namespace Go.Proofs.YtahnhhbgkmlfcaaDoor
open Go.RowKit

/-- The instruction that adds a small number to register 1. -/
def addW (m : Nat) : Nat := ((m * 1048576 % 4294967296 ||| 32768) ||| 128) ||| 19
set_option maxRecDepth 100000 in
theorem addW_dec : ∀ m, m < 2048 → (opOf (addW m) = 19 ∧ (decN (addW m)).op = 19 ∧ (decN (addW m)).rd = 1 ∧ (decN (addW m)).rs1 = 1 ∧ (decN (addW m)).imm = m) ∧ addW m ≤ 4294967295 := by decide +kernel
def sumU : Nat → List Nat → Nat
  | a, [] => a
  | a, m :: ms => sumU ((a + m) % 4294967296) ms
theorem sumU_snoc : ∀ (ms : List Nat) (a m : Nat), sumU a (ms ++ [m]) = (sumU a ms + m) % 4294967296
  | [], _, _ => rfl
  | x :: ms, a, m => sumU_snoc ms ((a + x) % 4294967296) m
theorem sumU_lt : ∀ (ms : List Nat) (a : Nat), a ≤ 4294967295 → sumU a ms ≤ 4294967295
  | [], _, h => h
  | x :: ms, a, _ => sumU_lt ms _ (by omega)
theorem step_add {prog : List Nat} {s : St} {m : Nat} (h0 : s.halt = 0) (hm : m < 2048) (hf : fetchP prog s.pc = some (addW m)) : ∃ x, stepP prog s = ({ s with pc := up4 s.pc, r := setR s.r 1 ((s.r 1 + m) % 4294967296) }, x) := by
  obtain ⟨⟨d1, d2, d3, d4, d5⟩, -⟩ := addW_dec m hm
  have hw : fetchW prog s.pc = addW m := by unfold fetchW; rw [hf]; rfl
  unfold stepP
  rw [if_pos h0, hf, if_pos (show (some (addW m)).isSome = true from rfl), hw, d1, if_neg (by decide)]
  unfold insOf
  rw [hw]
  generalize decN (addW m) = i at d2 d3 d4 d5
  obtain ⟨op, rd, rs1, rs2, imm⟩ := i
  simp only at d2 d3 d4 d5
  subst d2; subst d3; subst d4; subst d5
  unfold doI
  rw [if_neg (show ¬ (19 : Int) = 47 by decide), if_neg (show ¬ (19 : Int) = 48 by decide), if_neg (show ¬ (kindOf 19 = 3 ∨ kindOf 19 = 4) by decide)]
  unfold reckonP
  rw [if_neg (show ¬ kindOf 19 = 5 by decide)]
  unfold finP
  rw [if_neg (show ¬ wr ⟨19, 1, 1, rs2, imm⟩ = 0 from show ¬ (if hasRd (formOf 19) then (1 : Int) else 0) = 0 by decide)]
  exact ⟨_, rfl⟩
theorem step_end {prog : List Nat} {s : St} (h0 : s.halt = 0) (hf : fetchP prog s.pc = none) : stepP prog s = haltP s 1 0 := by
  unfold stepP
  rw [if_pos h0, hf]
  rfl
theorem adds_run : ∀ (ms pre : List Nat) (k : Nat) (s : St), (∀ m ∈ ms, m < 2048) → s.pc = 4 * pre.length → s.halt = 0 → pre.length + ms.length ≤ 60 → ms.length < k →
    (stepsL ((pre ++ ms).map addW) k s).length = ms.length + 1 ∧ (lastOf s (stepsL ((pre ++ ms).map addW) k s)).pc = 4 * (pre.length + ms.length) ∧ (lastOf s (stepsL ((pre ++ ms).map addW) k s)).halt = 1 ∧ (lastOf s (stepsL ((pre ++ ms).map addW) k s)).r 1 = sumU (s.r 1) ms
  | ms, pre, 0, s, _, _, _, _, hk => absurd hk (Nat.not_lt_zero _)
  | [], pre, k + 1, s, hms, hpc, h0, hle, hk => by
    have hf : fetchP ((pre ++ []).map addW) s.pc = none := by
      unfold fetchP
      rw [hpc, if_pos (by omega), List.getElem?_eq_none (by simp)]
    rw [stepsL_more h0, step_end h0 hf]
    rw [stepsL_done (.inr (by show (1 : Int) ≠ 0; decide))]
    exact ⟨rfl, hpc, rfl, rfl⟩
  | m :: ms, pre, k + 1, s, hms, hpc, h0, hle, hk => by
    have hlen : (m :: ms).length = ms.length + 1 := rfl
    have hf : fetchP ((pre ++ m :: ms).map addW) s.pc = some (addW m) := by
      unfold fetchP
      rw [hpc, if_pos (by omega), show 4 * pre.length / 4 = pre.length by omega, List.getElem?_map, List.getElem?_append_right (Nat.le_refl _), Nat.sub_self]
      rfl
    obtain ⟨x, hx⟩ := step_add h0 (hms m (List.mem_cons_self ..)) hf
    rw [stepsL_more h0, hx]
    have ih := adds_run ms (pre ++ [m]) k { s with pc := up4 s.pc, r := setR s.r 1 ((s.r 1 + m) % 4294967296) } (fun y hy => hms y (List.mem_cons_of_mem _ hy)) (by show up4 s.pc = _; unfold up4; rw [hpc]; simp; omega) h0 (by simp; omega) (by omega)
    rw [show pre ++ [m] ++ ms = pre ++ m :: ms by simp] at ih
    rw [lastOf_cons]
    obtain ⟨i1, i2, i3, i4⟩ := ih
    refine ⟨by rw [List.length_cons, i1, hlen], by rw [i2]; simp; omega, i3, i4⟩
end Go.Proofs.YtahnhhbgkmlfcaaDoor
