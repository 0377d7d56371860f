/- The contracts of the reference of package trace. -/
import Derived.Test.YtaimbclbpoelgaaTrace
namespace Go.Proofs.Ytaimbclbpoelgaa
open Go.RowKit

theorem loads_cases (lo : Bool) (s : Stp) : (lo = false) ∨ (lo = true ∧ s.sz ≤ 0) ∨ (lo = true ∧ 0 < s.sz ∧ s.st = true) ∨ (lo = true ∧ 0 < s.sz ∧ s.st = false) := by
  cases lo <;> cases s.st <;> rcases Int.lt_or_le 0 s.sz with h'' | h'' <;> simp [h'']

set_option maxHeartbeats 1000000 in
theorem ref_event_any (s : Stp) (lo : Bool) (w : World) :
    Calls Try.prog 20 #[.agg #[.int .u32 s.pc, .int .u32 s.nx, .int .i64 s.rd, .int .u32 s.va, .int .u32 s.ad, .int .i64 s.sz, .bool s.st, .int .i64 s.ha, .int .i64 s.to], .bool lo] w fun e w' => e = .returned (.agg #[.int .u32 s.pc, .int .u32 s.ad, .int .i64 s.sz, .int .i64 s.to, .int .u32 (evOf lo s).lo, .int .i64 s.ha]) ∧ Below w.heap.size w w' := by
  have hcase : (lo = false) ∨ (lo = true ∧ s.st = true) ∨ (lo = true ∧ s.st = false ∧ s.sz ≤ 0) ∨ (lo = true ∧ s.st = false ∧ 0 < s.sz) := by
    cases lo <;> cases s.st <;> rcases Int.lt_or_le 0 s.sz with h'' | h'' <;> simp [h'']
  have hb2 : ∀ (o1 o2 : Obj) (v : Value), Below w.heap.size w (((w.alloc o1).alloc o2).setCell ⟨w.heap.size + 1, 0, none⟩ v) := fun o1 o2 v =>
    (((Below.refl _ _).alloc (Nat.le_refl _) _).alloc (by simp) _).setCell (by simp) _
  rcases hcase with hl | ⟨hl, hs⟩ | ⟨hl, hs, hz⟩ | ⟨hl, hs, hz⟩
  all_goals
    first | (have HV : Hid (loads lo s = false) := by (show _ = _); simp [loads, *]) | (have HV : Hid (loads lo s = true) := by (show _ = _); simp [loads, *])
    go_enter Try.func20, Try.ntmps20
    go_wp2_with fail
    refine bodyPost_ret (v := .agg (evOf lo s).cells.toArray) (by simp [results, Try.results20, go_sem, evOf, Ev.cells, HV.out]; done) rfl ?_
    refine ⟨rfl, ?_⟩
    repeat (first | exact Below.refl _ _ | refine Below.alloc ?_ (by simp) _)


set_option maxHeartbeats 1000000 in
theorem ref_of_any (st : List Stp) (lo : Bool) (B0 : Nat) (v : Value) (w : World) (hs : Sl B0 44 9 w v st.length (st.flatMap Stp.cells)) (hlen : st.length ≤ 20000) :
    Calls Try.prog 11 #[v, .bool lo] w fun e w' => ∃ v', e = .returned v' ∧ w'.ownsRow w.heap.size 31 6 v' st.length (st.flatMap fun s => (evOf lo s).cells) ∧ Below w.heap.size w w' := by
  obtain ⟨A, c, rfl, h1, h2, h3, h4⟩ := id hs
  clear h4
  go_enter Try.func11, Try.ntmps11
  go_wp2_with fail
  have hown1 : (w.alloc (.cells #[] 31)).ownsRow w.heap.size 31 6 (.slice (some ⟨w.heap.size, 0, none⟩) 0 0) 0 [] := World.ownsRow_made w #[] 0 (Nat.le_refl _) (Nat.zero_le _) rfl
  go_loopw [5, 6, 10] (fun v _ i wr => ∃ (k g cap : Nat), k ≤ st.length ∧ i = .int .i64 k ∧ v = .slice (some ⟨g, 0, none⟩) k cap ∧ wr.ownsRow w.heap.size 31 6 (.slice (some ⟨g, 0, none⟩) k cap) k ((st.take k).flatMap fun s => (evOf lo s).cells) ∧ Below w.heap.size w wr)
    (fun _ _ i _ => st.length - (intOf i).toNat)
  case atStart => exact ⟨0, w.heap.size, 0, Nat.zero_le _, rfl, rfl, by simpa using hown1, below_all _⟩
  case round =>
    obtain ⟨k, g, cap, hk, rfl, rfl, hown, hb⟩ := hrel
    by_cases hlt : k < st.length
    · obtain ⟨b, off, s, rfl, hsk, hbw, q0, q1, q2, q3, q4, q5, q6, q7, q8⟩ := hs.stp hb hlt
      have KEY : Hid (((st.take k).flatMap fun s => (evOf lo s).cells) ++ (evOf lo s).cells = (st.take (k + 1)).flatMap fun s => (evOf lo s).cells) := by
        show _ = _
        rw [List.take_add_one, hsk]
        simp
      clear hsk
      have hws := hb.size
      go_wp2_with (first
        | (go_at_call 20
           refine (ref_event_any s lo wr).mono ?_
           rintro e w2 ⟨rfl, hb2⟩
           have hown2 := hown.below' hb2
           have hb3 := hb.trans (hb2.mono hws)
           have hws2 := hb3.size
           clear hb2)
        | (at_builtin
           (refine wpList_app1 ev_info rfl (.tmp 13) (.tmp 20) rfl w.heap.size (.slice (some ⟨g, 0, none⟩) k cap) k _ rfl hown2 (by omega) hws2 w2.heap.size rfl rfl rfl rfl ?_)
           intro g' cap' w3 hown3 hb3'
           have hb4 : Below w.heap.size w w3 := (hb3.alloc hws2 _).trans hb3'
           clear hb3'))
      go_roundw
      case rel => exact ⟨k + 1, g', cap', by omega, by go_num, rfl, by rw [← KEY.out]; simpa [evOf, Ev.cells] using hown3, hb4⟩
      case measure => simp [intOf]; omega
    · go_wp2_with fail
      go_ret
      have : k = st.length := by omega
      subst this
      exact ⟨_, rfl, by simpa using hown, hb⟩
end Go.Proofs.Ytaimbclbpoelgaa
