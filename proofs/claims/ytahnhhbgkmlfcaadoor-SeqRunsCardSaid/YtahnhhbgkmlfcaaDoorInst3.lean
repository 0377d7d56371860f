/- The contract of gather. -/
import Derived.Test.YtahnhhbgkmlfcaaDoorInst2
namespace Go.Proofs.YtahnhhbgkmlfcaaDoor
open Go.RowKit

theorem take_sum (l : List Nat) (k : Nat) : (l.take k).sum ≤ l.sum := by
  have := congrArg List.sum (List.take_append_drop k l)
  rw [List.sum_append] at this
  omega

set_option maxHeartbeats 2000000 in
theorem gather_any (x : Nat) (parts : List (Nat × Nat)) (B0 n : Nat) (vp : Value) (w : World) (hp : Sl B0 119 2 w vp n (parts.flatMap spanCells)) (hn : n = parts.length) (hok : okParts parts) (hl : n ≤ 100) (hx : x < 4294967296) :
    Calls Tryd.prog 80 #[.int .u32 x, vp] w fun e w' => e = .returned (.tuple #[.int .u32 (gatherN x parts).1, .int .i64 (gatherN x parts).2]) ∧ Below w.heap.size w w' := by
  obtain ⟨A, c, rfl, h1, h2, -, -⟩ := id hp
  have HN := Lib.hid hn
  clear hn
  have hok2 := Lib.hid hok.2
  go_enter Tryd.func80, Tryd.ntmps80
  go_wp2_with fail
  go_loopw [6, 7, 9, 12] (fun o z _ i wr => ∃ k : Nat, i = .int .i64 k ∧ k ≤ n ∧ o = .int .u32 ((parts.take k).foldl (gstep x) (0, 0)).1 ∧ z = .int .i64 ((parts.take k).foldl (gstep x) (0, 0)).2 ∧ Below w.heap.size w wr) (fun _ _ _ i _ => n - (intOf i).toNat)
  case atStart => exact ⟨0, rfl, Nat.zero_le _, rfl, rfl, below_self _⟩
  case round =>
    obtain ⟨k, rfl, hk, rfl, rfl, hb⟩ := hrel
    by_cases hkn : k < n
    · obtain ⟨b, off, p, rfl, hxp, hbl, q1, q2⟩ := hp.span HN.out hb hkn
      obtain ⟨p1, p2⟩ := hok.1 p (List.mem_of_getElem? hxp)
      have hsz : sizes (parts.take (k + 1)) ≤ 32 := by
        refine Nat.le_trans ?_ hok2.out
        unfold sizes
        rw [List.map_take]
        exact take_sum _ _
      have hszk : sizes (parts.take (k + 1)) = sizes (parts.take k) + p.2 := by
        rw [List.take_add_one, hxp]
        simp [sizes]
      have hinv := gather_inv x (parts.take k) (0, 0) (by show 0 < 4294967296; omega) (fun p hp => hok.1 p (List.mem_of_mem_take hp)) (by omega)
      have hst := Lib.hid (take_fold (gstep x) (0, 0) parts k p hxp)
      clear hxp
      generalize (parts.take k).foldl (gstep x) (0, 0) = s at *
      obtain ⟨s1, s2⟩ := s
      obtain ⟨i1, i2⟩ := hinv
      dsimp only at i1 i2
      have i3 : s2 + p.2 ≤ 32 := by omega
      clear i2 hsz hszk
      have hws := hb.size
      have hbr : b < wr.heap.size := Nat.lt_of_lt_of_le hbl hws
      have hfl : field x p.1 p.2 < 4294967296 := Nat.lt_of_lt_of_le (field_lt _ _ _) (pow_le32 (by omega))
      have hsum : ((s2 : Int) + (p.2 : Int)) = ((s2 + p.2 : Nat) : Int) := by omega
      have HSM := Lib.hid hsum
      clear hsum
      go_wp2_with fail
      go_quiet (first
        | (go_at_call 103; exact Calls.quiet_of_same ((set_q s1 s2 p.2 (field x p.1 p.2) _ p1 i3 i1 hfl).mono fun _ _ ⟨a, b⟩ => ⟨a, b.symm⟩))
        | (go_at_call 78; exact Calls.quiet_of (field_q x p.1 p.2 _ p1 p2 hx)))
      go_wp2_with fail
      go_roundw
      case rel => exact ⟨k + 1, by go_num, by omega, by rw [hst.out]; rfl, by rw [hst.out]; simp only [gstep]; rw [← HSM.out], below_drewN' (hb.alloc hws _) _⟩
      case measure => simp [intOf]; omega
    · have hkk : k = n := by omega
      have hfin : Hid (parts.take k = parts) := by show _ = _; rw [hkk, HN.out, List.take_length]
      clear hkk
      go_wp2_with fail
      go_ret2
      exact ⟨by rw [hfin.out]; rfl, hb⟩
end Go.Proofs.YtahnhhbgkmlfcaaDoor
