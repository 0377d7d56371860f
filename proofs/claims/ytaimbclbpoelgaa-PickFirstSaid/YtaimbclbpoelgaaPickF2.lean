/- The walk of PickFirst. -/
import Derived.Test.YtaimbclbpoelgaaPickF
import Derived.Test.YtaimbclbpoelgaaPickA
import Derived.StillTailTactics
namespace Go.Proofs.Ytaimbclbpoelgaa
open Go.RowKit Go.Maps

theorem kind19 (kinds : List Int) (i : Nat) (B0 nk : Nat) (A : Option Addr) (c : Nat) (g : Nat) (w : World) (hk : Sl B0 3 1 w (.slice A nk c) nk (kinds.flatMap fun a => [.int .i64 a])) (hnk : nk = kinds.length) (hlk : nk ≤ 100000) (hi : i ≤ 100000)
    (hbox : w.cell? ⟨g, 0, none⟩ = some (.slice A nk c)) :
    Calls Try.prog 19 #[.int .i64 i, .pointer (some ⟨g, 0, none⟩)] w fun e w' => e = .returned (.int .i64 (kindAt kinds i)) ∧ w = w' := by
  by_cases hik : i < nk
  · obtain ⟨bk, ok, y, rfl, hy, hbk, qk⟩ := hk.one (Value.int .i64) (below_self w) hnk hik
    have hky : Hid (kindAt kinds i = y) := by show _ = _; simp [kindAt, List.getD, hy]
    clear hnk hy
    go_enter Try.func19, Try.ntmps19
    go_wp2
    go_ret
    exact ⟨by rw [hky.out]; rfl, rfl⟩
  · have hky : Hid (kindAt kinds i = 0) := by show _ = _; simp [kindAt, List.getD, List.getElem?_eq_none (show kinds.length ≤ i by omega)]
    clear hnk
    go_enter Try.func19, Try.ntmps19
    go_wp2
    go_ret
    exact ⟨by rw [hky.out]; rfl, rfl⟩

set_option maxRecDepth 100000 in
set_option maxHeartbeats 4000000 in
theorem law_PickFirst (B0 : Nat) (width : Int) (busy : Bool) (kinds : List Int) (can : List Bool) (cut : Int) (nk nc : Nat) (vk vc : Value) (w : World) (hk : Sl B0 3 1 w vk nk (kinds.flatMap fun a => [.int .i64 a])) (hc : Sl B0 4 1 w vc nc (can.flatMap fun a => [.bool a]))
    (hnk : nk = kinds.length) (hnc : nc = can.length) :
    Calls Try.prog 6 #[.int .i64 width, .bool busy, vk, vc, .int .i64 cut] w fun e w' => e = .returned (.bool true) ∧ Below w.heap.size w w' := by
  obtain ⟨Ak, ck, rfl, k1, k2, -, -⟩ := id hk
  obtain ⟨Ac, cc, rfl, c1, c2, -, -⟩ := id hc
  obtain ⟨mk, hmk⟩ : ∃ m, m = min nk 40 := ⟨_, rfl⟩
  obtain ⟨mc, hmc⟩ : ∃ m, m = min nc 40 := ⟨_, rfl⟩
  have sk := Lib.hid (hk.takeL (fun a : Int => [Value.int .i64 a]) (fun _ => rfl) mk (by omega))
  have sc := Lib.hid (hc.takeL (fun a : Bool => [Value.bool a]) (fun _ => rfl) mc (by omega))
  have lk : Hid (mk = (kinds.take mk).length) := by show _ = _; simp; omega
  have lc : Hid (mc = (can.take mc).length) := by show _ = _; simp; omega
  have HK := Lib.hid hmk
  have HC := Lib.hid hmc
  have m1 : mk ≤ 40 := by omega
  have m2 : mc ≤ 40 := by omega
  have m3 : mc ≤ cc := by omega
  unfold maxLen at c2
  clear hmk hmc hk hc hnk hnc
  generalize kinds.take mk = ks at *
  generalize can.take mc = cs at *
  obtain ⟨T, ct, hT, hT1, hT2, hct, hq1, hq2⟩ := cut_in cut mc
  have hmf : ∀ (fn : Fn) (first cap : Array Value) (w : World), (Instr.makeFunc fn first cap).run Try.prog w = .ok (.func fn first cap) w := fun _ _ _ _ => rfl
  go_enter Try.func6, Try.ntmps6
  go_wp2_with fail
  have H0 := below_all (w := w) (.cells #[.slice Ak nk ck] 33)
  refine (few17 Ak Ac nk nc ck cc mk mc _ HK.out HC.out k1 c1 k2 (by unfold maxLen; exact c2)).mono ?_
  rintro e w1 ⟨rfl, B1⟩
  have hbox1 : w1.heap[w.heap.size]? = some (.cells #[.slice Ak nk ck] 33) := (B1.block _ (by simp)).trans (heap_alloc_new w _)
  have B1 := H0.and B1
  have hsz1 := B1.size
  have hc1 : w1.cell? ⟨w.heap.size, 0, none⟩ = some (.slice Ak nk ck) := by simp [World.cell?, hbox1]
  have hf1 : w1.frozen? ⟨w.heap.size, 0, none⟩ = false := by simp [World.frozen?, hbox1]
  go_wp2_with fail
  have B2 : Below w.heap.size w (w1.setCell ⟨w.heap.size, 0, none⟩ (.slice Ak mk ck)) := B1.setCell (p := ⟨w.heap.size, 0, none⟩) (Nat.le_refl _) _
  have hc2 : (w1.setCell ⟨w.heap.size, 0, none⟩ (.slice Ak mk ck)).cell? ⟨w.heap.size, 0, none⟩ = some (.slice Ak mk ck) := World.cell?_setCell_same' _ _ _ (by rw [hc1]; rfl)
  generalize w1.setCell ⟨w.heap.size, 0, none⟩ (.slice Ak mk ck) = w2 at *
  clear hbox1 hc1 hf1 hsz1 B1 H0
  refine (pick_any width busy ks cs B0 mk mc _ _ w2 (sk.out.below (by omega) B2) (sc.out.below (by omega) B2) lk.out lc.out (by omega) (by omega)).mono ?_
  rintro e w3 ⟨vl, rfl, ownl, B3⟩
  have hc3 := (B3.cell (lt_of_cell hc2)).trans hc2
  have B23 := B2.and B3
  have sl3 := Lib.hid (Sl.of_own (B0 := 0) ownl (by omega))
  clear ownl hc2
  have hll : (pickOf width busy ks cs).length ≤ mc := by
    have := pick_len_le (width := width) (busy := busy) (kinds := ks) (can := cs) cs.length
    have := lc.out
    unfold pickOf
    omega
  obtain ⟨nl, hnl⟩ : ∃ n, n = (pickOf width busy ks cs).length := ⟨_, rfl⟩
  have HNL := Lib.hid hnl
  rw [← hnl] at hll sl3
  clear hnl
  obtain ⟨Al, cl, rfl, l1, l2, -, -⟩ := id sl3.out
  go_wp2_with fail
  have hc3' : ({ heap := w3.heap, tape := w3.tape, drawn := w3.drawn + 1, os := w3.os, output := w3.output } : World).cell? ⟨w.heap.size, 0, none⟩ = some (.slice Ak mk ck) := hc3
  have m4 : ct ≤ cc := by omega
  go_still_tail 6, (by kernel_rfl)
  clear hc3'
  have B3d : Below w3.heap.size w3 w3.drew := (below_self _).drew
  have hc3 := (B3d.cell (lt_of_cell hc3)).trans hc3
  have B23 := B23.and B3d
  have sl3 := Lib.hid (sl3.out.below (by omega) B3d)
  change wpList _ _ _ _ _ w3.drew
  generalize w3.drew = w4 at *
  clear B3d B3 B2
  go_wp2_with fail
  have sct := Lib.hid (sc.out.takeL (fun a : Bool => [Value.bool a]) (fun _ => rfl) ct hct)
  have lct : Hid (ct = (cs.take ct).length) := by show _ = _; rw [List.length_take, ← lc.out]; omega
  refine (pick_any width busy ks (cs.take ct) B0 mk ct _ _ w4 (sk.out.below (by omega) B23) (sct.out.below (Nat.lt_succ_self 0) B23) lk.out lct.out (by omega) (by omega)).mono ?_
  have hmo : Hid (pickOf width busy ks (cs.take ct) = (pickTo width busy ks cs ct).out) := by
    show _ = _
    unfold pickOf
    rw [← lct.out, pick_cut width busy ks cs ct ct (Nat.le_refl _)]
  rw [hmo.out]
  obtain ⟨r, hr1, hr2⟩ := pick_prefix width busy ks cs ct (mc - ct)
  have hpo : Hid (pickOf width busy ks cs = (pickTo width busy ks cs ct).out ++ r) := by
    show _ = _
    unfold pickOf
    rw [← lc.out, ← hr1, show ct + (mc - ct) = mc by omega]
  have hinv := Lib.hid (show PInv width busy ks cs mc (pickTo width busy ks cs mc) from pick_inv width busy ks cs mc)
  have hpm : Hid (pickOf width busy ks cs = (pickTo width busy ks cs mc).out) := by show _ = _; unfold pickOf; rw [← lc.out]
  have HR2 := Lib.hid hr2
  clear hr1 hr2 hmo sct lct
  rintro e w5 ⟨vm, rfl, ownm, B5⟩
  generalize (pickTo width busy ks cs ct).out = m at *
  have hc5 := (B5.cell (lt_of_cell hc3)).trans hc3
  have B25 := B23.and B5
  have sl5 := Lib.hid (sl3.out.below (by omega) B5)
  have sm5 := Lib.hid (Sl.of_own (B0 := 0) ownm (by omega))
  clear ownm hc3 sl3
  have hnm : m.length ≤ nl := by rw [HNL.out, hpo.out]; simp
  obtain ⟨nm, hnmq⟩ : ∃ n, n = m.length := ⟨_, rfl⟩
  have HNM := Lib.hid hnmq
  rw [← hnmq] at hnm sm5
  clear hnmq
  obtain ⟨Am, cm, rfl, n1, n2, -, -⟩ := id sm5.out
  obtain ⟨wn, hwn⟩ : ∃ n, n = width.toNat := ⟨_, rfl⟩
  have r1 := max_is Try.prog width wn hwn
  have HWN := Lib.hid hwn
  clear hwn
  have hwl : nl ≤ wn := by
    have := hinv.out.wid
    rw [← hpm.out, ← HNL.out, ← HWN.out] at this
    exact this
  have n3 : nm ≤ cl := by omega
  have hlt1 : decide (nl < nm) = false := by simp; omega
  have hlt2 : decide (wn < nl) = false := by simp; omega
  go_wp2_with fail
  have slm := sl5.out.takeL (fun n : Nat => [Value.int .i64 n]) (fun _ => rfl) nm hnm
  have hlm : (pickOf width busy ks cs).take nm = m := by rw [hpo.out, HNM.out]; simp
  rw [hlm] at slm
  refine (same14 m 0 0 nm _ _ w5 slm sm5.out HNM.out (by omega)).mono ?_
  rintro e w6 ⟨rfl, B6⟩
  clear slm hlm
  go_wp2_with fail
  refine (alive17 w6).mono ?_
  rintro e w7 ⟨rfl, B7⟩
  have B57 := B6.and B7
  have hc7 := (B57.cell (lt_of_cell hc5)).trans hc5
  have B27 := B25.and B57
  have sl7 := Lib.hid (sl5.out.below (by omega) B57)
  clear B6 B7 B5 sl5 hc5
  go_wp2_with fail
  have hcnt : ∀ (k : Nat) (i u : Nat), (pickOf width busy ks cs)[k]? = some i → (((pickOf width busy ks cs).take (k + 1)).filter fun i => unitOf (kindAt ks i) == u).length = (((pickOf width busy ks cs).take k).filter fun i => unitOf (kindAt ks i) == u).length + (if unitOf (kindAt ks i) = u then 1 else 0) := by
    intro k i u h
    rw [List.take_add_one, h]
    simp only [Option.toList, List.filter_append, List.length_append]
    by_cases hu : unitOf (kindAt ks i) = u <;> simp [hu]
  have hcl : ∀ (k u : Nat), (((pickOf width busy ks cs).take k).filter fun i => unitOf (kindAt ks i) == u).length ≤ k := by
    intro k u
    refine Nat.le_trans (List.length_filter_le _ _) ?_
    rw [List.length_take]
    omega
  have HCNT := Lib.hid hcnt
  have HCL := Lib.hid hcl
  have hrise : ∀ (k i i' : Nat), (pickOf width busy ks cs)[k]? = some i → (pickOf width busy ks cs)[k + 1]? = some i' → i < i' := by
    intro k i i' h1 h2
    rw [hpm.out] at h1 h2
    exact hinv.out.rise k i i' h1 h2
  have HRI := Lib.hid hrise
  have hone : (((pickOf width busy ks cs)).filter fun i => unitOf (kindAt ks i) == 1).length ≤ (if busy then 0 else 1) := by
    have := hinv.out.one
    rw [← hpm.out] at this
    refine Nat.le_trans this ?_
    cases busy <;> simp
    split <;> omega
  have htwo : (((pickOf width busy ks cs)).filter fun i => unitOf (kindAt ks i) == 2).length ≤ 1 := by
    have := hinv.out.two
    rw [← hpm.out] at this
    refine Nat.le_trans this ?_
    split <;> omega
  have HONE := Lib.hid hone
  have HTWO := Lib.hid htwo
  have hcan : ∀ k i, (pickOf width busy ks cs)[k]? = some i → i < mc ∧ cs[i]? = some true ∧ (nm ≤ k → ct ≤ i) := by
    intro k i h
    have hm := List.mem_of_getElem? h
    refine ⟨hinv.out.lt i (by rw [← hpm.out]; exact hm), hinv.out.can' i (by rw [← hpm.out]; exact hm), fun hk => ?_⟩
    rw [hpo.out, List.getElem?_append_right (by rw [← HNM.out]; exact hk)] at h
    exact HR2.out i (List.mem_of_getElem? h)
  have HCAN := Lib.hid hcan
  clear hcnt hcl hrise hone htwo hcan
  obtain ⟨c1of, hc1of⟩ : ∃ f : Nat → Nat, ∀ k, f k = (((pickOf width busy ks cs).take k).filter fun i => unitOf (kindAt ks i) == 1).length := ⟨_, fun _ => rfl⟩
  obtain ⟨c2of, hc2of⟩ : ∃ f : Nat → Nat, ∀ k, f k = (((pickOf width busy ks cs).take k).filter fun i => unitOf (kindAt ks i) == 2).length := ⟨_, fun _ => rfl⟩
  have C1 := Lib.hid hc1of
  have C2 := Lib.hid hc2of
  clear hc1of hc2of
  go_loopw [15, 16, 17, 18, 79] (fun me di _ _ i wx => ∃ k : Nat, i = .int .i64 k ∧ k ≤ nl ∧ me = .int .i64 (c2of k) ∧ di = .int .i64 (c1of k) ∧ w7 = wx) (fun _ _ _ _ i _ => nl - (intOf i).toNat)
  case atStart => exact ⟨0, rfl, Nat.zero_le _, by rw [C2.out]; rfl, by rw [C1.out]; rfl, rfl⟩
  case round =>
    obtain ⟨k, rfl, hk, rfl, rfl, rfl⟩ := hrel
    by_cases hkl : k < nl
    · obtain ⟨bl, ol, i, hAl, hi, hbl, qi⟩ := sl7.out.one (fun n : Nat => Value.int .i64 n) (below_self w7) HNL.out hkl
      subst hAl
      obtain ⟨him, hci, hcut⟩ := HCAN.out k i hi
      obtain ⟨bc, oc, x, hAc, hx, hbc, qc⟩ := sc.out.one Value.bool B27 lc.out him
      subst hAc
      obtain rfl : x = true := by rw [hx] at hci; simpa using hci
      have h1 := HCNT.out k i 1 hi
      have h2 := HCNT.out k i 2 hi
      rw [← C1.out, ← C1.out] at h1
      rw [← C2.out, ← C2.out] at h2
      have g1 : c1of k ≤ 40 := by rw [C1.out]; exact Nat.le_trans (HCL.out k 1) (by omega)
      have g2 : c2of k ≤ 40 := by rw [C2.out]; exact Nat.le_trans (HCL.out k 2) (by omega)
      have H1 := Lib.hid h1
      have H2 := Lib.hid h2
      have HI := Lib.hid hi
      clear h1 h2 hx hci hi
      have hkin := kind19 ks i B0 mk Ak ck w.heap.size w7 (sk.out.below (by omega) B27) lk.out (by omega) (by omega) hc7
      obtain ⟨y, hy⟩ : ∃ y, y = kindAt ks i := ⟨_, rfl⟩
      rw [← hy] at hkin
      have HKIN := Lib.hid hkin
      have HY := Lib.hid hy
      clear hkin hy
      have hcase1 : decide (0 < k) = false ∨ (∃ (i' : Nat), 0 < k ∧ decide (i ≤ i') = false ∧ w7.cell? ⟨bl, ol + (k - 1), none⟩ = some (.int .i64 i') ∧ ((k : Int) - 1).toNat = k - 1) := by
        rcases Nat.eq_zero_or_pos k with h0 | h0
        · exact .inl (by simp [h0])
        · obtain ⟨bl', ol', i', hA, hi', hbl', qi'⟩ := sl7.out.one (fun n : Nat => Value.int .i64 n) (below_self w7) HNL.out (show k - 1 < nl by omega)
          cases hA
          have := HRI.out (k - 1) i' i hi' (by rw [show k - 1 + 1 = k by omega]; exact HI.out)
          exact .inr ⟨i', h0, by simp; omega, qi', by omega⟩
      have hcase2 : decide (nm ≤ k) = false ∨ (nm ≤ k ∧ decide (i < ct) = false) := by
        rcases Nat.lt_or_ge k nm with h0 | h0
        · exact .inl (by simp; omega)
        · exact .inr ⟨h0, by have := hcut h0; simp; omega⟩
      clear hcut
      have hyc : y = 2 ∨ y = 3 ∨ y = 4 ∨ (¬ y = 2 ∧ ¬ y = 3 ∧ ¬ y = 4) := by omega
      have hy2 : ∀ z : Int, ((z == 2) = true ∧ z = 2) ∨ ((z == 2) = false ∧ (z == 3) = true ∧ z = 3) ∨ ((z == 2) = false ∧ (z == 3) = false ∧ (z == 4) = true ∧ z = 4) ∨ ((z == 2) = false ∧ (z == 3) = false ∧ (z == 4) = false ∧ unitOf z = 0) := by
        intro z
        by_cases a2 : z = 2
        · exact .inl ⟨by simpa using a2, a2⟩
        · by_cases a3 : z = 3
          · exact .inr (.inl ⟨by simpa using a2, by simpa using a3, a3⟩)
          · by_cases a4 : z = 4
            · exact .inr (.inr (.inl ⟨by simpa using a2, by simpa using a3, by simpa using a4, a4⟩))
            · exact .inr (.inr (.inr ⟨by simpa using a2, by simpa using a3, by simpa using a4, by simp [unitOf, a2, a3, a4]⟩))
      have hu : (y = 2 ∧ c1of (k + 1) = c1of k + 1 ∧ c2of (k + 1) = c2of k) ∨ (y = 3 ∧ c1of (k + 1) = c1of k ∧ c2of (k + 1) = c2of k + 1) ∨ (y = 4 ∧ c1of (k + 1) = c1of k ∧ c2of (k + 1) = c2of k + 1) ∨ ((y == 2) = false ∧ (y == 3) = false ∧ (y == 4) = false ∧ c1of (k + 1) = c1of k ∧ c2of (k + 1) = c2of k) := by
        rw [H1.out, H2.out, ← HY.out]
        rcases hy2 y with ⟨_, rfl⟩ | ⟨_, _, rfl⟩ | ⟨_, _, _, rfl⟩ | ⟨e2, e3, e4, e5⟩
        · simp [unitOf]
        · simp [unitOf]
        · simp [unitOf]
        · rw [e5]; simp [e2, e3, e4]
      clear hy2 hyc
      have d1 : decide ((i : Int) < 0) = false := by simp
      have d2 : decide (mc ≤ i) = false := by simp; omega
      go_upto_region 13 with (fail)
      go_cut [121] (fun t wx => t = .bool false ∧ w7 = wx)
      case first =>
        rcases hcase1 with h1 | ⟨i', h1, hii, qj, hk1⟩
        · rcases hcase2 with h2 | ⟨h2, h3⟩
          all_goals
            go_wp2_with fail
            go_meet
            case rel => exact ⟨rfl, rfl⟩
        · rcases hcase2 with h2 | ⟨h2, h3⟩
          all_goals
            go_wp2_with fail
            go_meet
            case rel => exact ⟨rfl, rfl⟩
      case rest =>
        obtain ⟨rfl, rfl⟩ := hcut
        clear hcase1 hcase2
        rcases hu with ⟨rfl, e1, e2⟩ | ⟨rfl, e1, e2⟩ | ⟨rfl, e1, e2⟩ | ⟨y2, y3, y4, e1, e2⟩
        all_goals
          have E1 := Lib.hid e1
          have E2 := Lib.hid e2
          clear e1 e2
          go_wp2_with (go_at_call 19; refine HKIN.out.mono ?_; rintro e w' ⟨rfl, rfl⟩)
          go_roundw
          case rel => exact ⟨k + 1, by go_num, by omega, by first | (rw [E2.out]; done) | (rw [E2.out]; go_num), by first | (rw [E1.out]; done) | (rw [E1.out]; go_num), trivial⟩
          case measure => simp [intOf]; omega
    · have hkk : k = nl := by omega
      have f1 : c1of k ≤ (if busy then 0 else 1) := by
        rw [C1.out, hkk, HNL.out, List.take_length]
        exact HONE.out
      have f2 : c2of k ≤ 1 := by
        rw [C2.out, hkk, HNL.out, List.take_length]
        exact HTWO.out
      have f3 : busy = true → c1of k = 0 := fun h => by rw [h] at f1; simpa using f1
      have f1' : c1of k ≤ 1 := by cases busy <;> simp at f1 <;> omega
      have d1 : decide ((1 : Int) < (c2of k : Int)) = false := by simp; omega
      have d2 : decide ((1 : Int) < (c1of k : Int)) = false := by simp; omega
      have d1' : decide (1 < c2of k) = false := by simp; omega
      have d2' : decide (1 < c1of k) = false := by simp; omega
      have hbz : busy = false ∨ (busy = true ∧ decide (0 < c1of k) = false) := by
        cases hb : busy
        · exact .inl rfl
        · exact .inr ⟨rfl, by simp [f3 hb]⟩
      clear f1 f3 hkk
      go_upto_region 22 with (fail)
      go_cut [147] (fun t wx => t = .bool false ∧ w7 = wx)
      case first =>
        rcases hbz with rfl | ⟨rfl, hz⟩
        all_goals
          go_wp2_with fail
          go_meet
          case rel => exact ⟨rfl, rfl⟩
      case rest =>
        obtain ⟨rfl, rfl⟩ := hcut
        clear hbz d1 d2 d1' d2'
        go_wp2_with fail
        go_loopw [19, 20, 150] (fun _ _ i wx => ∃ k : Nat, i = .int .i64 k ∧ k ≤ mc ∧ (∀ j, j < k → cs[j]? ≠ some true) ∧ w7 = wx) (fun _ _ i _ => mc - (intOf i).toNat)
        case atStart => exact ⟨0, rfl, Nat.zero_le _, fun j hj => by omega, rfl⟩
        case round =>
          obtain ⟨k2, rfl, hk2, hno, rfl⟩ := hrel
          have HNO := Lib.hid hno
          clear hno
          by_cases hkc : k2 < mc
          · obtain ⟨bc, oc, x, hAc, hx, hbc, qc⟩ := sc.out.one Value.bool B27 lc.out hkc
            subst hAc
            have HX := Lib.hid hx
            clear hx
            cases x with
            | false =>
              go_wp2_with fail
              go_roundw
              case rel =>
                refine ⟨k2 + 1, by go_num, by omega, fun j hj => ?_, trivial⟩
                rcases Nat.lt_or_ge j k2 with h | h
                · exact HNO.out j h
                · rw [show j = k2 by omega, HX.out]; simp
              case measure => simp [intOf]; omega
            | true =>
              have hkin := Lib.hid (kind19 ks k2 B0 mk Ak ck w.heap.size w7 (sk.out.below (by omega) B27) lk.out (by omega) (by omega) hc7)
              have hw : (width < 1 ∧ nl = 0) ∨ (1 ≤ width ∧ ((busy = true ∧ kindAt ks k2 = 2) ∨ (∃ bl ol, Al = some ⟨bl, ol, none⟩ ∧ 0 < nl ∧ w7.cell? ⟨bl, ol, none⟩ = some (.int .i64 k2) ∧ (busy = false ∨ (busy = true ∧ (kindAt ks k2 == 2) = false))))) := by
                rcases Int.lt_or_le width 1 with hw | hw
                · exact .inl ⟨hw, by have := HWN.out; omega⟩
                · refine .inr ⟨hw, ?_⟩
                  by_cases hb : busy = true ∧ unitOf (kindAt ks k2) = 1
                  · refine .inl ⟨hb.1, ?_⟩
                    have := hb.2
                    unfold unitOf at this
                    split at this
                    · assumption
                    · split at this <;> omega
                  · have hf := pick_first width busy ks cs k2 HNO.out HX.out hw hb
                    have hpos : 0 < nl := by
                      rw [HNL.out]
                      rcases Nat.eq_zero_or_pos (pickOf width busy ks cs).length with h | h
                      · rw [List.eq_nil_of_length_eq_zero h] at hf; cases hf
                      · exact h
                    obtain ⟨bl, ol, i, hAl, hi, hbl, qi⟩ := sl7.out.one (fun n : Nat => Value.int .i64 n) (below_self w7) HNL.out hpos
                    obtain rfl : i = k2 := by rw [hf] at hi; simpa using hi.symm
                    refine .inr ⟨bl, ol, hAl, hpos, qi, ?_⟩
                    cases hbb : busy
                    · exact .inl rfl
                    · refine .inr ⟨rfl, ?_⟩
                      have h2 : kindAt ks i ≠ 2 := fun h => hb ⟨hbb, by simp [unitOf, h]⟩
                      simpa using h2
              obtain ⟨y, hy⟩ : ∃ y, y = kindAt ks k2 := ⟨_, rfl⟩
              rw [← hy] at hkin hw
              clear hy
              rcases hw with ⟨hw1, hn0⟩ | ⟨hw1, ⟨rfl, rfl⟩ | ⟨bl, ol, rfl, hpos, q0, rfl | ⟨rfl, hy2⟩⟩⟩
              · have e0 : ((nl : Int) == 0) = true := by simp [hn0]
                clear hn0
                go_wp2_with (go_at_call 19; refine hkin.out.mono ?_; rintro e w' ⟨rfl, rfl⟩)
                go_ret
                exact ⟨rfl, B27⟩
              all_goals
                go_wp2_with (go_at_call 19; refine hkin.out.mono ?_; rintro e w' ⟨rfl, rfl⟩)
                go_ret
                exact ⟨rfl, B27⟩
          · have hnil : nl = 0 := by
              have hk2c : k2 = mc := by omega
              have := pick_none width busy ks cs mc (by rw [← hk2c]; exact HNO.out)
              rw [HNL.out, hpm.out, this]
              rfl
            have e0 : ((nl : Int) == 0) = true := by simp [hnil]
            clear hnil
            go_wp2_with fail
            go_ret
            exact ⟨rfl, B27⟩
end Go.Proofs.Ytaimbclbpoelgaa
