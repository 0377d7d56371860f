
/- The walk of the reference's words: bits, fields, signs. -/
import Derived.Test.YtckjihpdjefpgaaRefN
namespace Go.Proofs.Ytckjihpdjefpgaa
open Go.RowKit

theorem u32_info : EInfo Try.prog 42 22 (.int .u32 0) 1 4 := ⟨Try.underlying42, by kernel_rfl, rfl, by omega, by omega⟩

theorem Sl.one {α : Type} (f : α → Value) {B0 : Nat} {e : TypeId} {w wr : World} {A : Option Addr} {n c : Nat} {l : List α} (h : Sl B0 e 1 w (.slice A n c) n (l.flatMap fun a => [f a])) (hb : Below w.heap.size w wr) {k : Nat} (hn : n = l.length) (hk : k < n) :
    ∃ b off x, A = some ⟨b, off, none⟩ ∧ l[k]? = some x ∧ b < w.heap.size ∧ wr.cell? ⟨b, off + k, none⟩ = some (f x) := by
  obtain ⟨A', c', hv, h1, h2, h3, h4⟩ := h
  injection hv with hA hn' hc
  subst hA hc hn
  obtain ⟨b, off, rfl, -, hc⟩ := h4 (by omega)
  have hx : l[k]? = some l[k] := List.getElem?_eq_getElem hk
  have hf : (l.flatMap fun a => [f a])[k]? = some (f l[k]) := by
    have hfm : ∀ l : List α, (l.flatMap fun a => [f a]) = l.map f := by
      intro l
      induction l with
      | nil => rfl
      | cons a l ih => simp only [List.flatMap_cons, List.map_cons, ih]; rfl
    rw [hfm, List.getElem?_map, hx]
    rfl
  have := hc k _ hf
  exact ⟨b, off, _, rfl, hx, lt_of_cell this, (hb.cell (lt_of_cell this)).trans this⟩

theorem rbit_any (x i : Nat) (w : World) (hi : i < 32) : Calls Try.prog 99 #[.int .u32 x, .int .i64 i] w fun e w' => e = .returned (.int .u32 (x / 2 ^ i % 2 : Nat)) ∧ w = w' := by
  have e1 : Hid (((x : Int) / 2 ^ i).tmod 2 = ((x / 2 ^ i % 2 : Nat) : Int)) := by
    show _ = _
    have : ((x : Int) / 2 ^ i) = ((x / 2 ^ i : Nat) : Int) := by simp
    rw [this, Int.tmod_eq_emod_of_nonneg (Int.natCast_nonneg _)]
    rfl
  go_enter Try.func99, Try.ntmps99
  go_wp2
  go_ret
  exact ⟨by rw [← e1.out]; rfl, rfl⟩

theorem rfits_any (at' size : Nat) (w : World) (h1 : 1 ≤ size) (h2 : at' + size ≤ 32) : Calls Try.prog 101 #[.int .i64 at', .int .i64 size] w fun e w' => e = .returned (.bool true) ∧ w = w' := by
  have d1 : at' ≤ 31 := by omega
  have d2 : decide ((size : Int) ≤ 32 - at') = true := by simp; omega
  go_enter Try.func101, Try.ntmps101
  go_wp2
  go_ret
  exact ⟨rfl, rfl⟩

set_option maxHeartbeats 2000000 in
theorem rof_any (l : List Nat) (hl : ∀ b ∈ l, b < 2) (B0 n : Nat) (v : Value) (w : World) (hs : Sl B0 22 1 w v n (l.flatMap fun a : Nat => [.int .u32 a])) (hn : n = l.length) (hn2 : n ≤ 32) :
    Calls Try.prog 100 #[v] w fun e w' => e = .returned (.int .u32 (ofN l)) ∧ w = w' := by
  obtain ⟨A, c, rfl, h1, h2, -, -⟩ := id hs
  have HN := Lib.hid hn
  clear hn
  go_enter Try.func100, Try.ntmps100
  go_wp2_with fail
  go_loop [3, 4] (fun x i => ∃ k : Int, i = .int .i64 k ∧ -1 ≤ k ∧ k < n ∧ x = .int .u32 (ofN (l.drop (k + 1).toNat))) (fun _ i => (intOf i + 1).toNat)
  case atStart => exact ⟨(n : Int) - 1, rfl, by omega, by omega, by rw [show ((n : Int) - 1 + 1).toNat = n by omega, HN.out, List.drop_length]; rfl⟩
  case round =>
    obtain ⟨k, rfl, hk1, hk2, rfl⟩ := hrel
    by_cases hk : 0 ≤ k
    · obtain ⟨m, rfl⟩ : ∃ m : Nat, k = m := ⟨k.toNat, by omega⟩
      have hm : m < n := by omega
      obtain ⟨b, off, x, rfl, hx, hbl, hcell⟩ := hs.one (fun a : Nat => Value.int .u32 a) (below_self w) HN.out hm
      have hd : l.drop m = x :: l.drop (m + 1) := by
        have hm' : m < l.length := by rw [← HN.out]; exact hm
        rw [List.drop_eq_getElem_cons hm']
        rw [List.getElem?_eq_getElem hm'] at hx
        injection hx with hx
        rw [hx]
      have hx2 : x < 2 := hl x (List.mem_of_getElem? hx)
      have hdl : ∀ c ∈ l.drop (m + 1), c < 2 := fun c hc => hl c (List.mem_of_mem_drop hc)
      have hlt := ofN_lt _ hdl
      rw [List.length_drop, ← HN.out] at hlt
      have hpw : 2 ^ (n - (m + 1)) ≤ 2 ^ 31 := Nat.pow_le_pow_right (by omega) (by omega)
      have hv : ofN (l.drop m) = 2 * ofN (l.drop (m + 1)) + x := by rw [hd, ofN_cons]
      rw [show ((m : Int) + 1).toNat = m + 1 by omega]
      clear hd hx hdl
      generalize ofN (l.drop (m + 1)) = y at *
      have HV := Lib.hid hv
      have hy : y < 2147483648 := by omega
      clear hv hlt hpw
      go_wp2_with fail
      go_round
      case rel => exact ⟨(m : Int) - 1, rfl, by omega, by omega, by rw [show ((m : Int) - 1 + 1).toNat = m by omega, HV.out]; simp⟩
      case measure => simp [intOf]
    · have hkk : k = -1 := by omega
      subst hkk
      go_wp2_with fail
      go_ret
      exact ⟨rfl, rfl⟩

theorem u32_bit_lt (x i : Nat) : x / 2 ^ i % 2 < 4294967296 := by omega

set_option maxHeartbeats 2000000 in
theorem rfield_any (x at' size : Nat) (w : World) (h1 : 1 ≤ size) (h2 : at' + size ≤ 32) : Calls Try.prog 77 #[.int .u32 x, .int .i64 at', .int .i64 size] w fun e w' => e = .returned (.int .u32 (field x at' size)) ∧ Below w.heap.size w w' := by
  have hown0 : (w.alloc (.cells #[] 22)).ownsRow w.heap.size 22 1 (.slice (some ⟨w.heap.size, 0, none⟩) 0 0) 0 [] := World.ownsRow_made w #[] 0 (Nat.le_refl _) (Nat.zero_le _) rfl
  go_enter Try.func77, Try.ntmps77
  go_wp2_with (go_at_call 101; refine (rfits_any _ _ _ h1 h2).mono ?_; rintro e w' ⟨rfl, rfl⟩)
  go_loopw [7, 8] (fun o i wr => ∃ (k : Nat) (A : Option Addr) (c : Nat), i = .int .i64 k ∧ k ≤ size ∧ o = .slice A k c ∧
      wr.ownsRow w.heap.size 22 1 (.slice A k c) k ((bitsN x at' k).flatMap fun a : Nat => [.int .u32 a]) ∧ Below w.heap.size w wr) (fun _ i _ => size - (intOf i).toNat)
  case atStart => exact ⟨0, some ⟨w.heap.size, 0, none⟩, 0, rfl, Nat.zero_le _, rfl, hown0, below_all _⟩
  case round =>
    obtain ⟨k, A, c, rfl, hks, rfl, hown, hb⟩ := hrel
    have hws := hb.size
    by_cases hlt : k < size
    · have hadd : Hid ((at' : Int) + (k : Int) = ((at' + k : Nat) : Int)) := by show _ = _; omega
      have HB := Lib.hid (bitsN_succ x at' k)
      go_wp2_with (first
        | (go_at_call 99; rw [hadd.out]; refine (rbit_any x (at' + k) _ (by omega)).mono ?_; rintro e w' ⟨rfl, rfl⟩)
        | (at_builtin
           refine wpList_app1g u32_info rfl (.tmp 19) (.tmp 25) rfl w.heap.size (.slice A k c) k _ rfl hown (by omega) hws wr.heap.size rfl rfl rfl rfl ?_
           intro g' cap' w3 hown3 hb3 hg3))
      go_roundw
      case rel => exact ⟨k + 1, some ⟨g', 0, none⟩, cap', by go_num, by omega, by simp, by rw [HB.out]; simpa using hown3, (hb.alloc hws _).trans hb3⟩
      case measure => simp [intOf]; omega
    · have hkk : k = size := by omega
      subst hkk
      have hsl := Sl.of_own (B0 := 0) hown (by omega)
      go_wp2_with (go_at_call 100; refine (rof_any (bitsN x at' k) (bitsN_lt x at' k) 0 k _ _ hsl (bitsN_len x at' k).symm (by omega)).mono ?_; rw [of_bits]; rintro e w' ⟨rfl, rfl⟩)
      go_ret
      exact ⟨rfl, hb⟩

set_option maxHeartbeats 4000000 in
theorem rsext_any (x size : Nat) (w : World) (h1 : 1 ≤ size) (h2 : size ≤ 32) : Calls Try.prog 76 #[.int .u32 x, .int .i64 size] w fun e w' => e = .returned (.int .u32 (sext x size)) ∧ Below w.heap.size w w' := by
  have hown0 : (w.alloc (.cells #[] 22)).ownsRow w.heap.size 22 1 (.slice (some ⟨w.heap.size, 0, none⟩) 0 0) 0 [] := World.ownsRow_made w #[] 0 (Nat.le_refl _) (Nat.zero_le _) rfl
  have d1 : decide ((size : Int) < 1) = false := by simp; omega
  have d2 : decide ((32 : Int) < size) = false := by simp; omega
  go_enter Try.func76, Try.ntmps76
  go_wp2_with fail
  go_loopw [5, 6] (fun o i wr => ∃ (k : Nat) (A : Option Addr) (c : Nat), i = .int .i64 k ∧ k ≤ 32 ∧ o = .slice A k c ∧
      wr.ownsRow w.heap.size 22 1 (.slice A k c) k ((sextL x size k).flatMap fun a : Nat => [.int .u32 a]) ∧ Below w.heap.size w wr) (fun _ i _ => 32 - (intOf i).toNat)
  case atStart => exact ⟨0, some ⟨w.heap.size, 0, none⟩, 0, rfl, Nat.zero_le _, rfl, hown0, below_all _⟩
  case round =>
    obtain ⟨k, A, c, rfl, hks, rfl, hown, hb⟩ := hrel
    have hws := hb.size
    by_cases hlt : k < 32
    · have HB := Lib.hid (sextL_succ x size k)
      have hk32 : (k : Int) < 32 := by omega
      by_cases hls : k < size
      · have hv : Hid (sextB x size k = x / 2 ^ k % 2) := by show _ = _; unfold sextB; rw [if_pos hls]
        go_wp2_with (first
          | (go_at_call 99; refine (rbit_any x k _ (by omega)).mono ?_; rintro e w' ⟨rfl, rfl⟩)
          | (at_builtin
             refine wpList_app1g u32_info rfl (.tmp 22) (.tmp 26) rfl w.heap.size (.slice A k c) k _ rfl hown (by omega) hws wr.heap.size rfl rfl rfl rfl ?_
             intro g' cap' w3 hown3 hb3 hg3))
        go_roundw
        case rel => exact ⟨k + 1, some ⟨g', 0, none⟩, cap', by go_num, by omega, by simp, by rw [HB.out, hv.out]; simpa using hown3, (hb.alloc hws _).trans hb3⟩
        case measure => simp [intOf]; omega
      · have hv : Hid (sextB x size k = x / 2 ^ (size - 1) % 2) := by show _ = _; unfold sextB; rw [if_neg hls]
        have hsub : Hid ((size : Int) - 1 = ((size - 1 : Nat) : Int)) := by show _ = _; omega
        go_wp2_with (first
          | (go_at_call 99; rw [hsub.out]; refine (rbit_any x (size - 1) _ (by omega)).mono ?_; rintro e w' ⟨rfl, rfl⟩)
          | (at_builtin
             refine wpList_app1g u32_info rfl (.tmp 28) (.tmp 33) rfl w.heap.size (.slice A k c) k _ rfl hown (by omega) hws wr.heap.size rfl rfl rfl rfl ?_
             intro g' cap' w3 hown3 hb3 hg3))
        go_roundw
        case rel => exact ⟨k + 1, some ⟨g', 0, none⟩, cap', by go_num, by omega, by simp, by rw [HB.out, hv.out]; simpa using hown3, (hb.alloc hws _).trans hb3⟩
        case measure => simp [intOf]; omega
    · have hkk : k = 32 := by omega
      subst hkk
      have hsl := Sl.of_own (B0 := 0) hown (by omega)
      go_wp2_with (go_at_call 100; refine (rof_any (sextL x size 32) (sextL_lt x size 32) 0 32 _ _ hsl (sextL_len x size 32).symm (by omega)).mono ?_; rw [of_sext x size h1 h2]; rintro e w' ⟨rfl, rfl⟩)
      go_ret
      exact ⟨rfl, hb⟩

theorem rF_any (x at' up : Nat) (w : World) (h1 : at' ≤ up) (h2 : up < 32) : Calls Try.prog 39 #[.int .u32 x, .int .i64 at', .int .i64 up] w fun e w' => e = .returned (.int .u32 (field x at' (up - at' + 1))) ∧ Below w.heap.size w w' := by
  have hs : Hid ((up : Int) - at' + 1 = ((up - at' + 1 : Nat) : Int)) := by show _ = _; omega
  go_enter Try.func39, Try.ntmps39
  go_wp2_with (go_at_call 77; rw [hs.out]; refine (rfield_any x at' (up - at' + 1) _ (by omega) (by omega)).mono ?_; rintro e w' ⟨rfl, hb⟩)
  go_ret
  exact ⟨rfl, hb⟩
end Go.Proofs.Ytckjihpdjefpgaa
