/- The walk of PickAll. -/
import Derived.Test.YtaimbclbpoelgaaPickA
namespace Go.Proofs.Ytaimbclbpoelgaa
open Go.RowKit Go.Maps

set_option maxRecDepth 100000 in
set_option maxHeartbeats 4000000 in
theorem law_PickAll (B0 : Nat) (width : Int) (busy : Bool) (kinds : List Int) (can : List Bool) (nk nc : Nat) (vk vc : Value) (w : World) (hk : Sl B0 3 1 w vk nk (kinds.flatMap fun a => [.int .i64 a])) (hc : Sl B0 4 1 w vc nc (can.flatMap fun a => [.bool a]))
    (hnk : nk = kinds.length) (hnc : nc = can.length) :
    Calls Try.prog 7 #[.int .i64 width, .bool busy, vk, vc] w fun e w' => e = .returned (.bool true) ∧ Below w.heap.size w w' := by
  obtain ⟨Ak, ck, rfl, k1, k2, -, -⟩ := id hk
  obtain ⟨Ac, cc, rfl, c1, c2, -, -⟩ := id hc
  obtain ⟨mk, hmk⟩ : ∃ m, m = min nk 40 := ⟨_, rfl⟩
  obtain ⟨mc, hmc⟩ : ∃ m, m = min nc 40 := ⟨_, rfl⟩
  have sk := Lib.hid (hk.takeL (fun a : Int => [Value.int .i64 a]) (fun _ => rfl) mk (by omega))
  have sc := Lib.hid (hc.takeL (fun a : Bool => [Value.bool a]) (fun _ => rfl) mc (by omega))
  have lk : Hid (mk = (kinds.take mk).length) := by show _ = _; simp; omega
  have lc : Hid (mc = (can.take mc).length) := by show _ = _; simp; omega
  have HK := Lib.hid hmk
  have HC := Lib.hid hmc
  have m1 : mk ≤ 40 := by omega
  have m2 : mc ≤ 40 := by omega
  clear hmk hmc hk hc hnk hnc
  generalize kinds.take mk = ks at *
  generalize can.take mc = cs at *
  have hmm := @run_makeMap Try.prog
  go_enter Try.func7, Try.ntmps7
  go_wp2_with fail
  refine (few17 Ak Ac nk nc ck cc mk mc w HK.out HC.out k1 c1 k2 c2).mono ?_
  rintro e w1 ⟨rfl, B1⟩
  go_wp2_with fail
  refine (pick_any mc busy ks cs B0 mk mc _ _ w1 (sk.out.below (by omega) B1) (sc.out.below (by omega) B1) lk.out lc.out (by omega) (by omega)).mono ?_
  rintro e w2 ⟨va, rfl, owna, B2⟩
  have B2 := B1.and B2
  go_wp2_with fail
  refine (pick_any width busy ks cs B0 mk mc _ _ w2 (sk.out.below (by omega) B2) (sc.out.below (by omega) B2) lk.out lc.out (by omega) (by omega)).mono ?_
  rintro e w3 ⟨vs, rfl, owns, B3⟩
  have hA3 := Lib.hid ((Sl.of_own (B0 := 0) owna (by omega)).below (by omega) B3)
  have hS3 := Lib.hid (Sl.of_own (B0 := 0) owns (by omega))
  have B3 := B2.and B3
  have hlt := Lib.hid (pick_lt mc busy ks cs cs.length)
  have hle : (pickOf mc busy ks cs).length ≤ mc := by
    have := pick_len_le (width := mc) (busy := busy) (kinds := ks) (can := cs) cs.length
    have := lc.out
    unfold pickOf
    omega
  have hsome : Hid (pickOf width busy ks cs = (pickOf mc busy ks cs).take (min width.toNat (pickOf mc busy ks cs).length)) := by
    show _ = _
    have := pick_some width busy ks cs
    rw [← lc.out] at this
    exact this
  have hstep : ∀ (k : Nat) (x : Bool), cs[k]? = some x → ((pickOf mc busy ks cs).contains k = (x && !barred ks (pickTo mc busy ks cs k) k)) ∧
      (pickTo mc busy ks cs (k + 1)).t1 = ((pickTo mc busy ks cs k).t1 || (x && unitOf (kindAt ks k) == 1)) ∧ (pickTo mc busy ks cs (k + 1)).t2 = ((pickTo mc busy ks cs k).t2 || (x && unitOf (kindAt ks k) == 2)) := by
    intro k x hx
    have e := lc.out
    have h1 := pick_all_mem busy ks cs k x hx
    have h2 := pick_all_marks busy ks cs k x hx
    rw [← e] at h1 h2
    exact ⟨h1, h2.1, h2.2⟩
  have HST := Lib.hid hstep
  have hlt' : Hid (∀ j ∈ pickOf mc busy ks cs, j < mc) := by
    intro j hj
    have := hlt.out j hj
    rw [← lc.out] at this
    exact this
  clear hstep owna owns hlt
  generalize hall : pickOf mc busy ks cs = all at *
  have HALL := Lib.hid hall
  clear hall
  generalize pickOf width busy ks cs = some' at *
  obtain ⟨Aa, ca, rfl, a1, a2, -, -⟩ := id hA3.out
  obtain ⟨As, cs', rfl, s1, s2, -, -⟩ := id hS3.out
  go_wp2_with fail
  have hB3 := B3.and (below_all (w := w3) (.map #[] 0))
  have hM0 := InMap.made w3
  have hws3 := B3.size
  go_loopw [15, 42] (fun _ i wr => ∃ (k n : Nat), i = .int .i64 k ∧ k ≤ all.length ∧ n ≤ k ∧ InMap wr w3.heap.size n (all.take k) ∧ Below w3.heap.size w3 wr) (fun _ i _ => all.length - (intOf i).toNat)
  case atStart => exact ⟨0, 0, rfl, Nat.zero_le _, Nat.le_refl _, by simpa using hM0, below_all _⟩
  case round =>
    obtain ⟨k, n, rfl, hk, hn, hM, hb⟩ := hrel
    by_cases hkl : k < all.length
    · obtain ⟨ba, oa, x, rfl, hx, hba, qx⟩ := hA3.out.one (fun n : Nat => Value.int .i64 n) hb rfl hkl
      have hxm : x < mc := hlt'.out x (List.mem_of_getElem? hx)
      obtain ⟨w4, hr, hM4, hg⟩ := hM.put (by omega) x (by omega)
      have htk : Hid (all.take (k + 1) = all.take k ++ [x]) := by show _ = _; rw [List.take_add_one, hx]; rfl
      clear hx
      have hb4 := hb.grown hg hb.size (fun j hj => by cases hj; exact Nat.le_refl _)
      go_wp2_with fail
      go_roundw
      case rel => exact ⟨k + 1, n + 1, by go_num, by omega, by omega, by rw [htk.out]; exact hM4, hb4⟩
      case measure => simp [intOf]; omega
    · have hM : InMap wr w3.heap.size n all := by
        have : k = all.length := by omega
        subst this
        rw [List.take_length] at hM
        exact hM
      have hb3 := B3.and hb
      clear hB3 hM0 hk hn
      go_wp2_with fail
      go_loopw [12, 13, 16, 17, 18, 19, 51] (fun me di _ _ _ _ i wx => ∃ k : Nat, i = .int .i64 k ∧ k ≤ mc ∧ me = .bool (pickTo mc busy ks cs k).t2 ∧ di = .bool (pickTo mc busy ks cs k).t1 ∧ wr = wx) (fun _ _ _ _ _ _ i _ => mc - (intOf i).toNat)
      case atStart => exact ⟨0, rfl, Nat.zero_le _, rfl, rfl, rfl⟩
      case round =>
        obtain ⟨k, rfl, hk, rfl, rfl, rfl⟩ := hrel
        by_cases hkc : k < mc
        · obtain ⟨bc, oc, x, rfl, hx, hbc, qc⟩ := sc.out.one Value.bool hb3 lc.out hkc
          obtain ⟨hin, ht1, ht2⟩ := HST.out k x hx
          have hlk := hM.look k (by omega)
          rw [hin] at hlk
          have HT1 := Lib.hid ht1
          have HT2 := Lib.hid ht2
          clear hin ht1 ht2 hx
          have hkd : (∃ bk ok, Ak = some ⟨bk, ok, none⟩ ∧ wr.cell? ⟨bk, ok + k, none⟩ = some (.int .i64 (kindAt ks k)) ∧ k < mk) ∨ (¬ k < mk ∧ kindAt ks k = 0) := by
            by_cases hik : k < mk
            · obtain ⟨bk, ok, y, rfl, hy, -, qk⟩ := sk.out.one (Value.int .i64) hb3 lk.out hik
              refine .inl ⟨bk, ok, rfl, ?_, hik⟩
              rw [qk]
              simp [kindAt, List.getD, hy]
            · refine .inr ⟨hik, ?_⟩
              have := lk.out
              simp [kindAt, List.getD, List.getElem?_eq_none (show ks.length ≤ k by omega)]
          have hbar : barred ks (pickTo mc busy ks cs k) k = ((unitOf (kindAt ks k) == 1 && (pickTo mc busy ks cs k).t1) || (unitOf (kindAt ks k) == 2 && (pickTo mc busy ks cs k).t2)) := rfl
          rw [hbar] at hlk
          clear hbar
          generalize (pickTo mc busy ks cs k).t1 = d at *
          generalize (pickTo mc busy ks cs k).t2 = m at *
          generalize kindAt ks k = y at *
          obtain ⟨bv, hbv⟩ : ∃ b, b = (x && !((unitOf y == 1 && d) || (unitOf y == 2 && m))) := ⟨_, rfl⟩
          rw [← hbv] at hlk
          have HBV := Lib.hid hbv
          clear hbv
          go_upto_if 59 with (fail)
          go_cut [18] (fun o wx => o = .int .i64 y ∧ wr = wx)
          case first =>
            rcases hkd with ⟨bk, ok, rfl, qk, hik⟩ | ⟨hik, rfl⟩
            all_goals
              go_wp2_with fail
              go_meet
              case rel => exact ⟨rfl, rfl⟩
          case rest =>
            obtain ⟨rfl, rfl⟩ := hcut
            clear hkd
            have hy : y = 2 ∨ y = 3 ∨ y = 4 ∨ (¬ y = 2 ∧ ¬ y = 3 ∧ ¬ y = 4) := by omega
            have hcase : Hid (unitOf y = if y = 2 then 1 else if y = 3 ∨ y = 4 then 2 else 0) := rfl
            rcases hy with rfl | rfl | rfl | ⟨h2, h3, h4⟩
            · have hv := HBV.out
              cases d
              all_goals
                cases m
              all_goals
                cases x
              all_goals
                simp [unitOf] at hv
                subst hv
                go_wp2_with fail
                go_roundw
                case rel => exact ⟨k + 1, by go_num, by omega, by rw [HT2.out]; rfl, by rw [HT1.out]; rfl, trivial⟩
                case measure => simp [intOf]; omega
            · have hv := HBV.out
              cases d
              all_goals
                cases m
              all_goals
                cases x
              all_goals
                simp [unitOf] at hv
                subst hv
                go_wp2_with fail
                go_roundw
                case rel => exact ⟨k + 1, by go_num, by omega, by rw [HT2.out]; rfl, by rw [HT1.out]; rfl, trivial⟩
                case measure => simp [intOf]; omega
            · have hv := HBV.out
              cases d
              all_goals
                cases m
              all_goals
                cases x
              all_goals
                simp [unitOf] at hv
                subst hv
                go_wp2_with fail
                go_roundw
                case rel => exact ⟨k + 1, by go_num, by omega, by rw [HT2.out]; rfl, by rw [HT1.out]; rfl, trivial⟩
                case measure => simp [intOf]; omega
            · have hu0 : unitOf y = 0 := by simp [unitOf, h2, h3, h4]
              have hv := HBV.out
              have t2 : ((y : Int) == 2) = false := by simpa using h2
              have t3 : ((y : Int) == 3) = false := by simpa using h3
              have t4 : ((y : Int) == 4) = false := by simpa using h4
              have HU0 := Lib.hid hu0
              simp only [hu0] at hv
              clear hu0
              cases d
              all_goals
                cases m
              all_goals
                cases x
              all_goals
                simp at hv
                subst hv
                go_wp2_with fail
                go_roundw
                case rel => exact ⟨k + 1, by go_num, by omega, by rw [HT2.out, HU0.out]; rfl, by rw [HT1.out, HU0.out]; rfl, trivial⟩
                case measure => simp [intOf]; omega
        · obtain ⟨wn, hwn⟩ : ∃ n, n = width.toNat := ⟨_, rfl⟩
          obtain ⟨q, hq⟩ : ∃ n, n = min wn all.length := ⟨_, rfl⟩
          have r1 := max_is Try.prog width wn hwn
          have r2 := run_min_to Try.prog wn all.length q _ rfl hq
          have hql : q ≤ all.length := by omega
          have hso : Hid (some' = all.take q) := by show _ = _; rw [hq, hwn]; exact hsome.out
          have hqn : Hid (q = (all.take q).length) := by show _ = _; simp; omega
          clear hwn hq hk HST hM
          go_wp2_with fail
          refine (alive17 wr).mono ?_
          rintro e w6 ⟨rfl, B6⟩
          have hb6 := hb3.and B6
          have sA := hA3.out.below (by omega) (hb.and B6)
          have sS := hS3.out.below (by omega) (hb.and B6)
          have sA' := sA.takeL (fun n : Nat => [Value.int .i64 n]) (fun _ => rfl) q hql
          rw [hso.out, ← hqn.out] at sS
          go_wp2_with fail
          rw [hso.out, ← hqn.out]
          refine (same14 (all.take q) 0 0 q _ _ w6 sS sA' hqn.out (by omega)).mono ?_
          rintro e w7 ⟨rfl, B7⟩
          have hb7 := hb6.and B7
          go_wp2_with fail
          go_ret
          exact ⟨rfl, hb7⟩
end Go.Proofs.Ytaimbclbpoelgaa
