
/- The contract of word.Bytes. -/
import Derived.Test.YtckjihpdjefpgaaLoad
import Derived.Laws.BytesString
import Derived.Laws.Cells
namespace Go.Proofs.Ytckjihpdjefpgaa
open Go.RowKit

theorem u8_info : EInfo Try.prog 73 5 (.int .u8 0) 1 1 := ⟨Try.underlying73, by kernel_rfl, rfl, by omega, by omega⟩
theorem own_mine {w : World} {base g n c : Nat} {e : TypeId} {xs : List Value} (h : w.ownsRow base e 1 (.slice (some ⟨g, 0, none⟩) n c) n xs) : Mine w g xs := by
  obtain ⟨hl, ⟨h1, -⟩ | ⟨g', cap, cur, hv, hg, hh, hn, hm, hsz, hx⟩⟩ := h
  · cases h1
  · cases hv
    refine ⟨?_, fun j v hv => ?_, fun j => ?_⟩
    · rcases Nat.lt_or_ge g w.heap.size with hlt | hge
      · exact hlt
      · rw [Array.getElem?_eq_none hge] at hh; cases hh
    · subst hx
      rw [List.getElem?_take] at hv
      split at hv
      · simp only [World.cell?, hh]
        simpa using hv
      · cases hv
    · simp [World.frozen?, hh]

/-- The bytes of a word, of which k are laid. -/
def bytesAt (x n k : Nat) : List Value := (List.range n).map fun j => Value.int .u8 (if j < k then ((x / 256 ^ j % 256 : Nat) : Int) else 0)
theorem bytesAt_set (x n k : Nat) (hk : k < n) : (bytesAt x n k).set k (.int .u8 (x / 256 ^ k % 256 : Nat)) = bytesAt x n (k + 1) := by
  apply List.ext_getElem?
  intro j
  unfold bytesAt
  by_cases h : j = k
  · subst h
    rw [List.getElem?_set_self (by simpa using hk), List.getElem?_map, List.getElem?_range hk]
    simp
  · rw [List.getElem?_set_ne (by omega), List.getElem?_map, List.getElem?_map]
    by_cases hj : j < n
    · rw [List.getElem?_range hj]
      simp only [Option.map_some, Option.some.injEq, Value.int.injEq, true_and]
      by_cases h2 : j < k
      · rw [if_pos h2, if_pos (by omega)]
      · rw [if_neg h2, if_neg (by omega)]
    · rw [List.getElem?_eq_none (by simpa using hj)]
      rfl
theorem bytesAt_get (x n k j : Nat) (hj : j < n) : (bytesAt x n k)[j]? = some (.int .u8 (if j < k then ((x / 256 ^ j % 256 : Nat) : Int) else 0)) := by
  unfold bytesAt
  rw [List.getElem?_map, List.getElem?_range hj]
  rfl
theorem bytesAt_0 (x n : Nat) : bytesAt x n 0 = List.replicate n (.int .u8 0) := by
  apply List.ext_getElem?
  intro j
  by_cases hj : j < n
  · rw [bytesAt_get x n 0 j hj, List.getElem?_replicate]
    simp [hj]
  · unfold bytesAt
    rw [List.getElem?_eq_none (by simpa using hj), List.getElem?_eq_none (by simpa using hj)]

/-- A word's lowest bytes, so many. -/
def bytesP (x n : Nat) : ByteArray := ((List.range n).map fun j => ((x / 256 ^ j % 256 : Nat) : Int)).foldl (fun r m => r.push (UInt8.ofNat m.toNat)) ByteArray.empty
theorem conv_bytes (x n g : Nat) (w : World) (hM : Mine w g (bytesAt x n n)) : (convert 73 9 (.slice (some ⟨g, 0, none⟩) n n)).run Try.prog w = .ok (.string (bytesP x n)) w := by
  rw [run_convert_bytes_string w _ _ 5 _ _ _ Try.underlying73 Try.underlying5 Try.underlying9]
  refine run_bytesToString w _ n n _ ?_
  rw [run_loadCells w _ n (fun j => .int .u8 ((x / 256 ^ j % 256 : Nat) : Int)) (fun j hj => ?_)]
  · rw [List.map_map]
    rfl
  · have := hM.c j _ (bytesAt_get x n n j hj)
    rw [if_pos hj] at this
    have ha : (⟨g, 0, none⟩ : Addr).add j = ⟨g, j, none⟩ := by unfold Addr.add; split <;> simp_all
    rw [ha]
    exact this

set_option maxHeartbeats 4000000 in
theorem bytes_any (x n : Nat) (w : World) (hx : x < 4294967296) (hn : n ≤ 4) : Calls Try.prog 72 #[.int .u32 x, .int .i64 n] w fun e w' => e = .returned (.tuple #[.string (bytesP x n), .int .i64 0]) ∧ Below w.heap.size w w' := by
  have d4 : decide ((4 : Int) < n) = false := by simp; omega
  go_enter Try.func72, Try.ntmps72
  go_wp2_with (at_make; refine wpList_mkn u8_info rfl (.tmp 14) (.tmp 14) rfl n (by omega) .i64 .i64 n rfl rfl n rfl rfl ?_; intro w1 hown hb1)
  have M1 : Mine w1 w.heap.size (bytesAt x n 0) := by
    rw [bytesAt_0]
    have := own_mine hown
    have hm : (madeCells (Value.int .u8 0).cells (n * 1)).toList = List.replicate n (.int .u8 0) := by
      have hc : n = 0 ∨ n = 1 ∨ n = 2 ∨ n = 3 ∨ n = 4 := by omega
      rcases hc with rfl | rfl | rfl | rfl | rfl <;> first | kernel_rfl | simp [madeCells, Value.cells, List.replicate, List.range_succ, Nat.mod_one]
    rw [hm] at this
    exact this
  clear hown
  go_loopw [17] (fun i wr => ∃ k : Nat, i = .int .i64 k ∧ k ≤ n ∧ Mine wr w.heap.size (bytesAt x n k) ∧ Below w.heap.size w wr) (fun i _ => n - (intOf i).toNat)
  case atStart => exact ⟨0, rfl, Nat.zero_le _, M1, hb1⟩
  case round =>
    obtain ⟨k, rfl, hk, M, hb⟩ := hrel
    clear M1 hb1
    by_cases hlt : k < n
    · have ck := M.c k _ (bytesAt_get x n k k hlt)
      have gk := M.g k
      have hv : (x : Int) / 2 ^ (8 * k) % 256 = ((x / 256 ^ k % 256 : Nat) : Int) := by
        have : (x : Int) / 2 ^ (8 * k) = ((x / 256 ^ k : Nat) : Int) := by rw [show (256 : Nat) ^ k = 2 ^ (8 * k) from pow256 k]; simp
        rw [this]
        rfl
      have HV := Lib.hid hv
      clear hv
      go_wp2_with fail
      go_roundw
      case rel => exact ⟨k + 1, by go_num, by omega, by rw [HV.out, ← bytesAt_set x n k hlt]; exact M.set k _ (by simpa [bytesAt] using hlt), below_set hb (Nat.le_refl _)⟩
      case measure => simp [intOf]; omega
    · have hkk : k = n := by omega
      subst hkk
      have hcv := conv_bytes x k w.heap.size wr M
      go_wp2_with fail
      go_ret2
      exact ⟨rfl, hb⟩

theorem fold_size : ∀ (ns : List Int) (r : ByteArray), (ns.foldl (fun r m => r.push (UInt8.ofNat m.toNat)) r).size = r.size + ns.length
  | [], r => rfl
  | m :: ns, r => by
    rw [List.foldl_cons, fold_size ns, ByteArray.size_push, List.length_cons]
    omega
theorem bytesP_size (x n : Nat) : (bytesP x n).size = n := by
  unfold bytesP
  rw [fold_size]
  simp

end Go.Proofs.Ytckjihpdjefpgaa
