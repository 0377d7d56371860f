/- The walks of the two laws of package trace: each returns true, and only new blocks come. -/
import Derived.Test.YtaimbclbpoelgaaTraceL
namespace Go.Proofs.Ytaimbclbpoelgaa
open Go.RowKit

theorem Sl.take {B0 : Nat} {e : TypeId} {w : World} {A : Option Addr} {c n size : Nat} {xs : List Value} (h : Sl B0 e size w (.slice A n c) n xs) (m : Nat) (hm : m ≤ n) : Sl B0 e size w (.slice A m c) m (xs.take (m * size)) := by
  obtain ⟨A', c', hv, h1, h2, h3, h4⟩ := h
  injection hv with hA hn hc
  subst hA hc
  refine ⟨A, c, rfl, by omega, h2, by rw [List.length_take, h3]; exact Nat.min_eq_left (Nat.mul_le_mul_right _ hm), fun hpos => ?_⟩
  obtain ⟨b, off, hA, hb, hcell⟩ := h4 (by omega)
  refine ⟨b, off, hA, hb, fun j u hu => hcell j u ?_⟩
  rw [List.getElem?_take] at hu
  split at hu
  · exact hu
  · cases hu

theorem flat_take {α : Type} (f : α → List Value) (size : Nat) (hf : ∀ a, (f a).length = size) : ∀ (l : List α) (m : Nat), (l.flatMap f).take (m * size) = (l.take m).flatMap f
  | [], m => by simp
  | a :: l, 0 => by simp
  | a :: l, m + 1 => by
    simp only [List.flatMap_cons, List.take_succ_cons]
    rw [List.take_append, hf, List.take_of_length_le (by rw [hf, Nat.add_mul]; omega)]
    rw [show (m + 1) * size - size = m * size by rw [Nat.add_mul]; omega, flat_take f size hf l m]

theorem Sl.cut {α : Type} {B0 : Nat} {e : TypeId} {w : World} {A : Option Addr} {c size : Nat} (f : α → List Value) (hf : ∀ a, (f a).length = size) {l : List α} (h : Sl B0 e size w (.slice A l.length c) l.length (l.flatMap f)) (m : Nat) (hm : m ≤ l.length) :
    Sl B0 e size w (.slice A m c) (l.take m).length ((l.take m).flatMap f) := by
  rw [← flat_take f size hf, List.length_take, Nat.min_eq_left hm]
  exact h.take m hm

theorem Sl.evn {B0 : Nat} {e : TypeId} {size n m : Nat} {w : World} {v : Value} {xs : List Value} (h : Sl B0 e size w v n xs) (hn : n = m) : Sl B0 e size w v m xs := by subst hn; exact h
theorem Sl.evs {B0 : Nat} {w w' : World} {v : Value} {lo : Bool} {x : List Stp} (h : w.ownsRow B0 31 6 v x.length (x.flatMap fun s => (evOf lo s).cells)) (hb : Below w.heap.size w w') :
    Sl 0 31 6 w' v (x.map (evOf lo)).length ((x.map (evOf lo)).flatMap Ev.cells) := by
  have h1 := (Sl.of_own (B0 := 0) h (by omega)).below (by omega) hb
  rw [List.length_map, List.flatMap_map]
  exact h1

set_option maxHeartbeats 1000000 in
theorem law_TraceOf (B0 : Nat) (a b : List Stp) (lo : Bool) (va vb : Value) (w : World) (hsa : Sl B0 44 9 w va a.length (a.flatMap Stp.cells)) (hsb : Sl B0 44 9 w vb b.length (b.flatMap Stp.cells)) :
    Calls Try.prog 3 #[va, vb, .bool lo] w fun e w' => e = .returned (.bool true) ∧ Below w.heap.size w w' := by
  obtain ⟨A, c, rfl, h1, h2, -, -⟩ := id hsa
  obtain ⟨A', c', rfl, h1', h2', -, -⟩ := id hsb
  obtain ⟨m, hm⟩ : ∃ m, m = min a.length 100 := ⟨_, rfl⟩
  obtain ⟨m', hm'⟩ : ∃ m, m = min b.length 100 := ⟨_, rfl⟩
  have sa := Lib.hid (hsa.cut Stp.cells (fun _ => rfl) m (by omega))
  have sb := Lib.hid (hsb.cut Stp.cells (fun _ => rfl) m' (by omega))
  have r1 := run_min_to Try.prog a.length 100 m 100 rfl hm
  have r2 := run_min_to Try.prog b.length 100 m' 100 rfl hm'
  have l1 : m ≤ a.length := by omega
  have l2 : m' ≤ b.length := by omega
  have l3 : m ≤ 100 := by omega
  have l4 : m' ≤ 100 := by omega
  have e1 : Hid ((a.take m).length = m) := by show _ = _; simp; omega
  have e2 : Hid ((b.take m').length = m') := by show _ = _; simp; omega
  clear hm hm' hsa hsb
  generalize a.take m = x at sa e1
  generalize b.take m' = y at sb e2
  obtain rfl := e1.out
  obtain rfl := e2.out
  clear e1 e2
  have hw : ∀ n, Below w.heap.size w (w.drewN n) := fun n => below_drewN' (Below.refl _ _) n
  go_enter Try.func3, Try.ntmps3
  go_wp2_with fail
  go_quiet (fail)
  go_wp2_with fail
  have H0 := hw nq
  generalize w.drewN nq = w0 at H0 ⊢
  have sa0 := sa.out.below (by omega) H0
  have sb0 := sb.out.below (by omega) H0
  refine (trace_of_any x lo B0 _ w0 sa0 (by omega)).mono ?_
  rintro e w1 ⟨v1, rfl, own1, B1⟩
  have B1 := H0.trans (B1.mono H0.size)
  go_wp2_with fail
  refine (trace_of_any y lo B0 _ w1 (sb.out.below (by omega) B1) (by omega)).mono ?_
  rintro e w2 ⟨v2, rfl, own2, B2⟩
  have B12 := B2
  have B2 := B1.trans (B2.mono B1.size)
  go_wp2_with fail
  refine (alive07 w2).mono ?_
  rintro e w3 ⟨rfl, B3⟩
  have B23 := B3
  have B3 := B2.trans (B3.mono B2.size)
  go_wp2_with fail
  refine (ref_of_any x lo B0 _ w3 (sa.out.below (by omega) B3) (by omega)).mono ?_
  rintro e w4 ⟨v4, rfl, own4, B4⟩
  have B34 := B4
  have B4 := B3.trans (B4.mono B3.size)
  go_wp2_with fail
  refine (ref_like_self (x.map (evOf lo)) 0 _ _ w4 (Sl.evs own1 (B12.trans ((B23.trans (B34.mono B23.size)).mono B12.size))) (Sl.evs own4 (Below.refl _ _)) (by simp; omega)).mono ?_
  rintro e w5 ⟨rfl, B5⟩
  have B45 := B5
  have B5 := B4.trans (B5.mono B4.size)
  go_wp2_with fail
  refine (ref_of_any y lo B0 _ w5 (sb.out.below (by omega) B5) (by omega)).mono ?_
  rintro e w6 ⟨v6, rfl, own6, B6⟩
  have B56 := B6
  have B6 := B5.trans (B6.mono B5.size)
  go_wp2_with fail
  have B26 : Below w2.heap.size w2 w6 := B23.trans ((B34.trans ((B45.trans (B56.mono B45.size)).mono B34.size)).mono B23.size)
  refine (ref_like_self (y.map (evOf lo)) 0 _ _ w6 (Sl.evs own2 B26) (Sl.evs own6 (Below.refl _ _)) (by simp; omega)).mono ?_
  rintro e w7 ⟨rfl, B7⟩
  have B67 := B7
  have B7 := B6.trans (B7.mono B6.size)
  go_wp2_with fail
  have B27 : Below w2.heap.size w2 w7 := B26.trans (B67.mono B26.size)
  have s1 : Sl 0 31 6 w7 v1 _ _ := Sl.evs own1 (B12.trans (B27.mono B12.size))
  have s2 : Sl 0 31 6 w7 v2 _ _ := Sl.evs own2 B27
  refine (trace_same_any _ _ 0 _ _ w7 s1 s2 (by simp; omega) (by simp; omega)).mono ?_
  rintro e w8 ⟨rfl, B8⟩
  have B78 := B8
  have B8 := B7.trans (B8.mono B7.size)
  have hk9 : (sameN (x.map (evOf lo)) (y.map (evOf lo)) : Int) = sameN (x.map (evOf lo)) (y.map (evOf lo)) := rfl
  generalize hk : sameN (x.map (evOf lo)) (y.map (evOf lo)) = k at hk9 ⊢
  have HK := Lib.hid hk
  clear hk hk9
  go_wp2_with fail
  refine (ref_same_any _ _ 0 _ _ w8 (s1.below (by omega) B78) (s2.below (by omega) B78) (by simp; omega) (by simp; omega)).mono ?_
  rw [HK.out]
  rintro e w9 ⟨rfl, B9⟩
  have B9 := B8.trans (B9.mono B8.size)
  go_wp2_with fail
  go_ret
  exact ⟨rfl, B9⟩

theorem trace_same_at (a b : List Ev) (n m : Nat) (B0 : Nat) (va vb : Value) (w : World) (hsa : Sl B0 31 6 w va n (a.flatMap Ev.cells)) (hsb : Sl B0 31 6 w vb m (b.flatMap Ev.cells)) (hn : n = a.length) (hm : m = b.length) (hla : n ≤ 100000) (hlb : m ≤ 100000) :
    Calls Try.prog 12 #[va, vb] w fun e w' => e = .returned (.int .i64 (sameN a b)) ∧ Below w.heap.size w w' := by
  subst hn hm
  exact trace_same_any a b B0 va vb w hsa hsb hla hlb

set_option maxHeartbeats 1000000 in
theorem law_TraceLess (B0 : Nat) (a b : List Stp) (va vb : Value) (w : World) (hsa : Sl B0 44 9 w va a.length (a.flatMap Stp.cells)) (hsb : Sl B0 44 9 w vb b.length (b.flatMap Stp.cells)) :
    Calls Try.prog 4 #[va, vb] w fun e w' => e = .returned (.bool true) ∧ Below w.heap.size w w' := by
  obtain ⟨A, c, rfl, h1, h2, -, -⟩ := id hsa
  obtain ⟨A', c', rfl, h1', h2', -, -⟩ := id hsb
  obtain ⟨m, hm⟩ : ∃ m, m = min a.length 100 := ⟨_, rfl⟩
  obtain ⟨m', hm'⟩ : ∃ m, m = min b.length 100 := ⟨_, rfl⟩
  have sa := Lib.hid (hsa.cut Stp.cells (fun _ => rfl) m (by omega))
  have sb := Lib.hid (hsb.cut Stp.cells (fun _ => rfl) m' (by omega))
  have r1 := run_min_to Try.prog a.length 100 m 100 rfl hm
  have r2 := run_min_to Try.prog b.length 100 m' 100 rfl hm'
  have l1 : m ≤ a.length := by omega
  have l2 : m' ≤ b.length := by omega
  have l3 : m ≤ 100 := by omega
  have l4 : m' ≤ 100 := by omega
  have e1 : Hid ((a.take m).length = m) := by show _ = _; simp; omega
  have e2 : Hid ((b.take m').length = m') := by show _ = _; simp; omega
  clear hm hm' hsa hsb
  generalize a.take m = x at sa e1
  generalize b.take m' = y at sb e2
  obtain rfl := e1.out
  obtain rfl := e2.out
  clear e1 e2
  go_enter Try.func4, Try.ntmps4
  go_wp2_with fail
  go_quiet (fail)
  go_wp2_with fail
  have H0 := below_draws w nq
  generalize w.drewN nq = w0 at H0 ⊢
  refine (trace_of_any x true B0 _ w0 (sa.out.below (by omega) H0) (by omega)).mono ?_
  rintro e w1 ⟨v1, rfl, own1, B1⟩
  go_wp2_with fail
  refine (trace_of_any x false B0 _ w1 (sa.out.below (by omega) (H0.and B1)) (by omega)).mono ?_
  rintro e w2 ⟨v2, rfl, own2, B2⟩
  have s1 := Sl.evs own1 B2
  have s2 := Sl.evs own2 (below_self _)
  have B3 := (H0.and B1).and B2
  clear own1 own2 H0 B1 B2
  obtain ⟨C1, c1, rfl, k1, k1', -, -⟩ := id s1
  obtain ⟨C2, c2, rfl, k2, k2', -, -⟩ := id s2
  have S1 := Lib.hid s1
  have S2 := Lib.hid s2
  clear s1 s2
  simp only [List.length_map] at k1 k2 ⊢
  go_wp2_with fail
  go_loopw [7, 8, 39] (fun _ _ i wr => ∃ k : Nat, i = .int .i64 k ∧ k ≤ x.length ∧ Below w2.heap.size w2 wr) (fun _ _ i _ => x.length - (intOf i).toNat)
  case atStart => exact ⟨0, rfl, Nat.zero_le _, below_self _⟩
  case round =>
    obtain ⟨k, rfl, hk, hb⟩ := hrel
    by_cases hkx : k < x.length
    · obtain ⟨b1, off1, x1, rfl, hx1, hbw1, q0, q1, q2, q3, q4, q5⟩ := S1.out.ev hb (k := k) (by simpa using hkx)
      obtain ⟨b2, off2, x2, rfl, hx2, hbw2, p0, p1, p2, p3, p4, p5⟩ := S2.out.ev hb (k := k) (by simpa using hkx)
      have hx : x[k]? = some x[k] := List.getElem?_eq_getElem hkx
      rw [List.getElem?_map, hx] at hx1 hx2
      simp only [Option.map_some, Option.some.injEq] at hx1 hx2
      have hxx : (⟨x1.pc, x1.ad, x1.sz, x1.to, 0, x1.ha⟩ : Ev) = x2 := by rw [← hx1, ← hx2]; simp [evOf, loads]
      have hE := fun w' => neq_ev ⟨x1.pc, x1.ad, x1.sz, x1.to, 0, x1.ha⟩ x2 w'
      simp only [hxx, decide_true, Bool.not_true] at hE
      clear hx hx1 hx2 hxx
      have hbr1 : b1 < wr.heap.size := Nat.lt_of_lt_of_le hbw1 hb.size
      have hbr2 : b2 < wr.heap.size := Nat.lt_of_lt_of_le hbw2 hb.size
      have hws := hb.size
      go_wp2_with fail
      go_quiet (fail)
      go_wp2_with fail
      go_roundw
      case rel => exact ⟨k + 1, by go_num, by omega, below_drewN' (hb.alloc hws _) _⟩
      case measure => simp [intOf]; omega
    · have hB := B3.and hb
      have sy := sb.out.below (by omega) hB
      go_wp2_with fail
      refine (trace_of_any y true B0 _ wr sy (by omega)).mono ?_
      rintro e w4 ⟨v4, rfl, own4, B4⟩
      have s1 := S1.out.below (by omega) (hb.and B4)
      have s4 := Sl.evs own4 (below_self _)
      have B5 := hB.and B4
      clear own4 B4 hB sy
      obtain ⟨C4, c4, rfl, k4, k4', -, -⟩ := id s4
      have S4 := Lib.hid (s4.evn (List.length_map _))
      have S1 := Lib.hid (s1.evn (List.length_map _))
      clear s1 s4
      simp only [List.length_map] at k4 S1 S4 ⊢
      have hle := sameN_le (x.map (evOf true)) (y.map (evOf true))
      have hcm := Lib.hid (sameN_comm (x.map (evOf true)) (y.map (evOf true)))
      have hsf := Lib.hid (sameN_self (x.map (evOf true)))
      simp only [List.length_map] at hle
      obtain ⟨q, hq⟩ : ∃ q, q = sameN (x.map (evOf true)) (y.map (evOf true)) := ⟨_, rfl⟩
      rw [← hq] at hle
      have HQ := Lib.hid hq
      clear hq
      obtain ⟨p, hp⟩ : ∃ p, p = min x.length y.length := ⟨_, rfl⟩
      have r3 := run_min_to Try.prog x.length y.length p _ rfl hp
      have hqp : q ≤ p := by omega
      clear hp
      go_wp2_with fail
      refine (trace_same_at _ _ _ _ 0 _ _ w4 S1.out S4.out (by simp) (by simp) (by omega) (by omega)).mono ?_
      rw [← HQ.out]
      rintro e w5 ⟨rfl, B6⟩
      go_wp2_with fail
      refine (alive07 w5).mono ?_
      rintro e w6 ⟨rfl, B7⟩
      have B67 := B6.and B7
      go_wp2_with fail
      refine (trace_same_at _ _ _ _ 0 _ _ w6 (S4.out.below (by omega) B67) (S1.out.below (by omega) B67) (by simp) (by simp) (by omega) (by omega)).mono ?_
      rw [← hcm.out, ← HQ.out]
      rintro e w7 ⟨rfl, B8⟩
      have B68 := B67.and B8
      go_wp2_with fail
      refine (trace_same_at _ _ _ _ 0 _ _ w7 (S1.out.below (by omega) B68) (S1.out.below (by omega) B68) (by simp) (by simp) (by omega) (by omega)).mono ?_
      rw [hsf.out, List.length_map]
      rintro e w8 ⟨rfl, B9⟩
      have B10 := (B5.and B68).and B9
      go_wp2_with fail
      go_ret
      exact ⟨rfl, B10⟩
end Go.Proofs.Ytaimbclbpoelgaa
