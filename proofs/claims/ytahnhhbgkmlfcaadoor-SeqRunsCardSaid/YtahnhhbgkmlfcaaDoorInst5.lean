/- The contract of inst.Decode. -/
import Derived.Test.YtahnhhbgkmlfcaaDoorInst4
namespace Go.Proofs.YtahnhhbgkmlfcaaDoor
open Go.RowKit

theorem read_any (op : Int) (x : Nat) (w : World) (hop : 1 ≤ op ∧ op ≤ 48) (hx : x < 4294967296) : Calls Tryd.prog 52 #[.int .i64 op, .int .u32 x] w fun e w' => e = .returned (readN op x).val ∧ Below w.heap.size w w' := by
  have h1 := formOf_le op
  have h2 : formOf op ≠ 0 := by unfold formOf; repeat' (split <;> try omega)
  have hc : formOf op = 1 ∨ formOf op = 2 ∨ formOf op = 3 ∨ formOf op = 4 ∨ formOf op = 5 ∨ formOf op = 6 ∨ formOf op = 7 ∨ formOf op = 8 := by omega
  rcases hc with h | h | h | h | h | h | h | h
  · exact read_1 op x w h hx
  · exact read_2 op x w h hx
  · exact read_3 op x w h hx
  · exact read_4 op x w h hx
  · exact read_5 op x w h hx
  · exact read_6 op x w h hx
  · exact read_7 op x w h hx
  · exact read_8 op x w h hx

def codesL : List Nat := [0, 55, 23, 111, 103, 99, 4195, 16483, 20579, 24675, 28771, 3, 4099, 8195, 16387, 20483, 35, 4131, 8227, 19, 8211, 12307, 16403, 24595, 28691, 4115, 20499, 1073762323, 51, 1073741875, 4147, 8243, 12339, 16435, 20531, 1073762355, 24627, 28723, 33554483, 33558579, 33562675, 33566771, 33570867, 33574963, 33579059, 33583155, 15, 115, 1048691]
def code (k : Nat) : Nat := codesL.getD k 0
theorem code_lt (k : Nat) : code k < 4294967296 := by
  by_cases h : k < 49
  · have : ∀ k, k < 49 → code k < 4294967296 := by decide
    exact this k h
  · unfold code
    rw [List.getD_eq_getElem?_getD, List.getElem?_eq_none (by show 49 ≤ k; omega)]
    decide

/-- The table of the package, as a walk reads it. -/
def Codes (w : World) : Prop := ∀ k, k < 49 → w.cell? ⟨0, k, none⟩ = some (.int .u32 (code k))
theorem Codes.kept {w w' : World} (h : Codes w) (hb : Below w.heap.size w w') : Codes w' := fun k hk => (hb.cell (lt_of_cell (h k hk))).trans (h k hk)

def mtch (x k : Nat) : Bool := (x &&& fixedOf (formOf k)) == code k
def opFrom (x : Nat) : Nat → Nat → Nat
  | 0, _ => 0
  | n + 1, k => if mtch x k then k else opFrom x n (k + 1)
/-- The number of the instruction that a word tells; 0: none. -/
def opOf (x : Nat) : Nat := opFrom x 48 1
def noSI : SI := ⟨0, 0, 0, 0, 0⟩
def decN (x : Nat) : SI := if opOf x = 0 then noSI else readN (opOf x) x
def decE (x : Nat) : Nat := if opOf x = 0 then 20 else 0

theorem opFrom_le (x : Nat) : ∀ n k, opFrom x n k = 0 ∨ (k ≤ opFrom x n k ∧ opFrom x n k < k + n ∧ mtch x (opFrom x n k) = true ∧ ∀ j, k ≤ j → j < opFrom x n k → mtch x j = false)
  | 0, k => .inl rfl
  | n + 1, k => by
    unfold opFrom
    split
    · exact .inr ⟨by omega, by omega, by assumption, fun j h1 h2 => absurd h2 (by omega)⟩
    · rename_i hm
      rcases opFrom_le x n (k + 1) with h | ⟨h1, h2, h3, h4⟩
      · exact .inl h
      · refine .inr ⟨by omega, by omega, h3, fun j hj1 hj2 => ?_⟩
        by_cases e : j = k
        · subst e; simpa using hm
        · exact h4 j (by omega) hj2
theorem opFrom_zero (x : Nat) : ∀ n k, 1 ≤ k → opFrom x n k = 0 → ∀ j, k ≤ j → j < k + n → mtch x j = false
  | 0, k, _, _, j, h1, h2 => absurd h2 (by omega)
  | n + 1, k, hk, h, j, h1, h2 => by
    unfold opFrom at h
    split at h
    · omega
    · rename_i hm
      by_cases e : j = k
      · subst e; simpa using hm
      · exact opFrom_zero x n (k + 1) (by omega) h j (by omega) (by omega)
theorem opFrom_is (x : Nat) : ∀ n k j, k ≤ j → j < k + n → mtch x j = true → (∀ i, k ≤ i → i < j → mtch x i = false) → opFrom x n k = j
  | 0, k, j, h1, h2, _, _ => absurd h2 (by omega)
  | n + 1, k, j, h1, h2, hj, hn => by
    unfold opFrom
    by_cases e : j = k
    · subst e; rw [if_pos hj]
    · rw [if_neg (by rw [hn k (by omega) (by omega)]; simp)]
      exact opFrom_is x n (k + 1) j (by omega) (by omega) hj (fun i hi => hn i (by omega))
theorem opFrom_no (x : Nat) : ∀ n k, (∀ j, k ≤ j → j < k + n → mtch x j = false) → opFrom x n k = 0
  | 0, _, _ => rfl
  | n + 1, k, h => by
    unfold opFrom
    rw [if_neg (by rw [h k (by omega) (by omega)]; simp)]
    exact opFrom_no x n (k + 1) (fun j h1 h2 => h j (by omega) (by omega))
theorem opOf_le (x : Nat) : opOf x ≤ 48 := by
  rcases opFrom_le x 48 1 with h | h
  · unfold opOf; omega
  · unfold opOf; omega

theorem fixedOf_lt (f : Nat) : fixedOf f < 4294967296 := by
  unfold fixedOf
  split <;> omega

set_option maxRecDepth 100000 in
set_option maxHeartbeats 4000000 in
theorem decode_any (x : Nat) (w : World) (hC : Codes w) (hx : x < 4294967296) : Calls Tryd.prog 27 #[.int .u32 x] w fun e w' => e = .returned (.tuple #[(decN x).val, .int .i64 (decE x)]) ∧ Below w.heap.size w w' := by
  go_enter Tryd.func27, Tryd.ntmps27
  go_wp2_with fail
  go_loopw [4] (fun i wr => ∃ k : Nat, i = .int .i64 k ∧ 1 ≤ k ∧ k ≤ 49 ∧ (∀ j, 1 ≤ j → j < k → mtch x j = false) ∧ ∃ m, wr = (w.alloc (.cells #[.int .i64 0, .int .i64 0, .int .i64 0, .int .i64 0, .int .u32 0] 60)).drewN m) (fun i _ => 49 - (intOf i).toNat)
  case atStart => exact ⟨1, rfl, Nat.le_refl _, by omega, fun j h1 h2 => absurd h2 (by omega), 0, rfl⟩
  case round =>
    obtain ⟨k, rfl, hk, hk2, hno, m, hwr⟩ := hrel
    have HW := Lib.hid hwr
    have hbw : Below w.heap.size w wr := by rw [hwr]; exact below_drewN' (below_all _) _
    have hws : wr.heap.size = w.heap.size + 1 := by rw [hwr]; simp
    have o0 : ∀ j v, #[Value.int .i64 0, .int .i64 0, .int .i64 0, .int .i64 0, .int .u32 0][j]? = some v → wr.cell? ⟨w.heap.size, j, none⟩ = some v := fun j v h => by rw [hwr]; simpa [go_sem] using h
    have g0 : ∀ j, wr.frozen? ⟨w.heap.size, j, none⟩ = false := fun j => by rw [hwr]; simp [go_sem]
    clear hwr
    by_cases hkn : k ≤ 48
    · have hcell : wr.cell? ⟨0, k, none⟩ = some (.int .u32 (code k)) := hC.kept hbw k (by omega)
      have hfl := formOf_le (k : Int)
      have hbs : bits .and .u32 (x : Int) (fixedOf (formOf k) : Nat) = ((x &&& fixedOf (formOf k) : Nat) : Int) := u32_and_nat _ _ hx (fixedOf_lt _)
      have hk1 : (k : Int) ≤ 48 := by omega
      have hk3 : (k : Int) < 49 := by omega
      have hk0 : (0 : Int) ≤ k := by omega
      go_wp2_with fail
      go_quiet (first
        | (go_at_call 51; exact Calls.quiet_of_same ((form_any (k : Int) _).mono fun _ _ ⟨a, b⟩ => ⟨a, b.symm⟩))
        | (go_at_call 50; exact Calls.quiet_of_same ((fixed_any (formOf (k : Int)) hfl _).mono fun _ _ ⟨a, b⟩ => ⟨a, b.symm⟩)))
      have hmt : (((x &&& fixedOf (formOf k) : Nat) : Int) == (code k : Int)) = mtch x k := by
        unfold mtch
        by_cases e : (x &&& fixedOf (formOf k)) = code k
        · rw [e]; simp
        · have e' : ¬ ((x &&& fixedOf (formOf k) : Nat) : Int) = (code k : Int) := fun h => e (by exact_mod_cast h)
          rw [beq_eq_false_iff_ne.2 e', beq_eq_false_iff_ne.2 e]
      rw [hmt]
      clear hmt hbs
      cases hmk : mtch x k
      · go_wp2_with fail
        go_roundw
        case rel => exact ⟨k + 1, by go_num, by omega, by omega, fun j h1 h2 => by
            by_cases e : j = k
            · subst e; exact hmk
            · exact hno j h1 (by omega), m + nq, by rw [HW.out, World.drewN_drewN]⟩
        case measure => simp [intOf]; omega
      · have hop : opOf x = k := opFrom_is x 48 1 k hk (by omega) hmk hno
        have hR : decN x = readN k x := by unfold decN; rw [hop, if_neg (by omega)]
        have hE : decE x = 0 := by unfold decE; rw [hop, if_neg (by omega)]
        have HRR := Lib.hid hR
        have HEE := Lib.hid hE
        clear hR hE hop hmk hno
        have cread : ∀ w, Calls Tryd.prog 52 #[.int .i64 k, .int .u32 x] w fun e w' => e = .returned (.agg #[.int .i64 (readN k x).op, .int .i64 (readN k x).rd, .int .i64 (readN k x).rs1, .int .i64 (readN k x).rs2, .int .u32 (readN k x).imm]) ∧ Below w.heap.size w w' := fun w => read_any k x w ⟨by omega, by omega⟩ hx
        generalize readN k x = r at *
        go_wp2_with fail
        refine (cread _).mono ?_; rintro e w3 ⟨rfl, B3⟩
        have hbz := (below_drewN' hbw nq).trans (B3.mono (show w.heap.size ≤ wr.heap.size by omega))
        have d0 := (B3.cell (p := ⟨w.heap.size, 0, none⟩) (show w.heap.size < wr.heap.size by omega)).trans (o0 0 _ rfl)
        have d1 := (B3.cell (p := ⟨w.heap.size, 1, none⟩) (show w.heap.size < wr.heap.size by omega)).trans (o0 1 _ rfl)
        have d2 := (B3.cell (p := ⟨w.heap.size, 2, none⟩) (show w.heap.size < wr.heap.size by omega)).trans (o0 2 _ rfl)
        have d3 := (B3.cell (p := ⟨w.heap.size, 3, none⟩) (show w.heap.size < wr.heap.size by omega)).trans (o0 3 _ rfl)
        have d4 := (B3.cell (p := ⟨w.heap.size, 4, none⟩) (show w.heap.size < wr.heap.size by omega)).trans (o0 4 _ rfl)
        have f0 := (B3.frozen (p := ⟨w.heap.size, 0, none⟩) (show w.heap.size < wr.heap.size by omega)).trans (g0 0)
        have f1 := (B3.frozen (p := ⟨w.heap.size, 1, none⟩) (show w.heap.size < wr.heap.size by omega)).trans (g0 1)
        have f2 := (B3.frozen (p := ⟨w.heap.size, 2, none⟩) (show w.heap.size < wr.heap.size by omega)).trans (g0 2)
        have f3 := (B3.frozen (p := ⟨w.heap.size, 3, none⟩) (show w.heap.size < wr.heap.size by omega)).trans (g0 3)
        have f4 := (B3.frozen (p := ⟨w.heap.size, 4, none⟩) (show w.heap.size < wr.heap.size by omega)).trans (g0 4)
        clear o0 g0 B3
        go_wp2_with fail
        refine bodyPost_ret (v := .tuple #[.agg #[.int .i64 r.op, .int .i64 r.rd, .int .i64 r.rs1, .int .i64 r.rs2, .int .u32 r.imm], .int .i64 0]) (by simp [results, Tryd.results27, go_sem, cell_same', d0, d1, d2, d3, d4]; done) rfl ?_
        refine ⟨by rw [HRR.out, HEE.out]; rfl, ?_⟩
        repeat' (first | exact hbz | refine below_set ?_ (Nat.le_refl _))
    · have hk9 : k = 49 := by omega
      subst hk9
      have hop : opOf x = 0 := opFrom_no x 48 1 hno
      have hR : decN x = noSI := by unfold decN; rw [hop, if_pos rfl]
      have hE : decE x = 20 := by unfold decE; rw [hop, if_pos rfl]
      have HRR := Lib.hid hR
      have HEE := Lib.hid hE
      clear hR hE hop hno
      have d0 := o0 0 _ rfl
      have d1 := o0 1 _ rfl
      have d2 := o0 2 _ rfl
      have d3 := o0 3 _ rfl
      have d4 := o0 4 _ rfl
      have f0 := g0 0
      have f1 := g0 1
      have f2 := g0 2
      have f3 := g0 3
      have f4 := g0 4
      clear o0 g0
      go_wp2_with fail
      refine bodyPost_ret (v := .tuple #[.agg #[.int .i64 0, .int .i64 0, .int .i64 0, .int .i64 0, .int .u32 0], .int .i64 20]) (by simp [results, Tryd.results27, go_sem, cell_same', d0, d1, d2, d3, d4]; done) rfl ?_
      refine ⟨by rw [HRR.out, HEE.out]; rfl, ?_⟩
      repeat' (first | exact hbw | refine below_set ?_ (Nat.le_refl _))
end Go.Proofs.YtahnhhbgkmlfcaaDoor
