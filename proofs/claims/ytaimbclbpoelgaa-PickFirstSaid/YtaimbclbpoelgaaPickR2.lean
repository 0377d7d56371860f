/- The walk of the reference's Pick, its loops. -/
import Derived.Test.YtaimbclbpoelgaaPickR
namespace Go.Proofs.Ytaimbclbpoelgaa
open Go.RowKit Go.Maps

set_option maxHeartbeats 2000000 in
theorem ref_pick_any (width : Int) (busy : Bool) (kinds : List Int) (can : List Bool) (B0 nk nc : Nat) (vk vc : Value) (w : World) (hk : Sl B0 3 1 w vk nk (kinds.flatMap fun a => [.int .i64 a])) (hc : Sl B0 4 1 w vc nc (can.flatMap fun a => [.bool a]))
    (hnk : nk = kinds.length) (hnc : nc = can.length) (hlk : nk ≤ 100000) (hlc : nc ≤ 100000) :
    Calls Try.prog 18 #[.int .i64 width, .bool busy, vk, vc] w fun e w' => ∃ v, e = .returned v ∧ w'.ownsRow w.heap.size 3 1 v (pickOf width busy kinds can).length ((pickOf width busy kinds can).flatMap fun n : Nat => [.int .i64 n]) ∧ Below w.heap.size w w' := by
  obtain ⟨Ak, ck, rfl, k1, k2, -, -⟩ := id hk
  obtain ⟨Ac, cc, rfl, c1, c2, -, -⟩ := id hc
  have HNK := Lib.hid hnk
  have HNC := Lib.hid hnc
  clear hnk hnc
  have hown0 : (w.alloc (.cells #[] 3)).ownsRow w.heap.size 3 1 (.slice (some ⟨w.heap.size, 0, none⟩) 0 0) 0 [] := World.ownsRow_made w #[] 0 (Nat.le_refl _) (Nat.zero_le _) rfl
  go_enter Try.func18, Try.ntmps18
  go_wp2_with fail
  go_loopw [9, 10, 11, 12, 14, 18] (fun o _ _ _ _ i wr => ∃ (k : Nat) (A : Option Addr) (c : Nat), i = .int .i64 k ∧ k ≤ nc ∧ o = .slice A (pickTo width busy kinds can k).out.length c ∧
      wr.ownsRow w.heap.size 3 1 (.slice A (pickTo width busy kinds can k).out.length c) (pickTo width busy kinds can k).out.length ((pickTo width busy kinds can k).out.flatMap fun n : Nat => [.int .i64 n]) ∧ Below w.heap.size w wr)
    (fun _ _ _ _ _ i _ => nc - (intOf i).toNat)
  case atStart => exact ⟨0, some ⟨w.heap.size, 0, none⟩, 0, rfl, Nat.zero_le _, rfl, hown0, below_all _⟩
  case round =>
    obtain ⟨k, A, c, rfl, hkn, rfl, hown, hb⟩ := hrel
    by_cases hlt : k < nc
    · obtain ⟨bc, oc, x, rfl, hx, hbc, qc⟩ := hc.one Value.bool hb HNC.out hlt
      have hstep := Lib.hid (fits_step width busy kinds can k x hx)
      have hle := pick_len_le (width := width) (busy := busy) (kinds := kinds) (can := can) k
      have hltk := Lib.hid (pick_lt width busy kinds can k)
      clear hx
      generalize (pickTo width busy kinds can k).out = out at *
      obtain ⟨u, hu⟩ : ∃ u, u = unitOf (kindAt kinds k) := ⟨_, rfl⟩
      have HU := Lib.hid hu
      clear hu
      have hws := hb.size
      go_upto_region 5 with (fail)
      go_cut [11] (fun o wx => o = .bool (x && decide ((out.length : Int) < width)) ∧ wr = wx)
      case first =>
        cases x with
        | false =>
          go_wp2_with fail
          go_meet
          case rel => exact ⟨rfl, rfl⟩
        | true =>
          go_wp2_with fail
          go_meet
          case rel => exact ⟨rfl, rfl⟩
      case rest =>
        obtain ⟨rfl, rfl⟩ := hcut
        generalize hok : (x && decide ((out.length : Int) < width)) = ok1
        have HOK := Lib.hid hok
        clear hok
        go_upto_region 7 with (go_at_call 22; refine (group_any kinds k B0 nk _ _ (hk.below (by omega) hb) HNK.out hlk (by omega)).mono ?_; rw [← HU.out]; rintro e w' ⟨rfl, rfl⟩)
        go_cut [38] (fun t wx => t = .bool (u == 1 && busy) ∧ wr = wx)
        case first =>
          by_cases hu1 : u = 1
          · subst hu1
            go_wp2_with fail
            go_meet
            case rel => exact ⟨rfl, rfl⟩
          · have h1 : ((u : Int) == 1) = false := by simp; omega
            have h2 : (u == 1) = false := by simpa using hu1
            clear hu1
            go_wp2_with fail
            go_meet
            case rel => exact ⟨by simp [h2], rfl⟩
        case rest =>
          obtain ⟨rfl, rfl⟩ := hcut
          generalize hq : (u == 1 && busy) = q1
          have HQ := Lib.hid hq
          clear hq
          go_upto_if 38 with (fail)
          go_cut [11] (fun o wx => o = .bool (ok1 && !q1) ∧ wr = wx)
          case first =>
            cases q1
            all_goals
              go_wp2_with fail
              go_meet
              case rel => exact ⟨by simp, rfl⟩
          case rest =>
            obtain ⟨rfl, rfl⟩ := hcut
            have hou := hown
            go_wp2_with fail
            go_loopw [11, 14, 41] (fun o _ i wx => ∃ j : Nat, i = .int .i64 j ∧ j ≤ out.length ∧ o = .bool ((ok1 && !q1) && !((out.take j).any fun m => decide (0 < u) && unitOf (kindAt kinds m) == u)) ∧ wr = wx) (fun _ _ i _ => out.length - (intOf i).toNat)
            case atStart => exact ⟨0, rfl, Nat.zero_le _, by simp, rfl⟩
            case round =>
              obtain ⟨j, rfl, hj, rfl, rfl⟩ := hrel
              by_cases hjl : j < out.length
              · obtain ⟨m, hm⟩ : ∃ m, out[j]? = some m := ⟨_, List.getElem?_eq_getElem hjl⟩
                have hmk : m < k := hltk.out m (List.mem_of_getElem? hm)
                obtain ⟨g, cap, hA, hg, -⟩ := hown.form (by omega)
                cases hA
                have hcell : wr.cell? ⟨g, j, none⟩ = some (.int .i64 m) := by
                  have := hown.cells (g := g) rfl j (.int .i64 m) (by
                    have hfm : ∀ l : List Nat, (l.flatMap fun n : Nat => [Value.int .i64 n]) = l.map fun n : Nat => Value.int .i64 n := by
                      intro l
                      induction l with
                      | nil => rfl
                      | cons a l ih => simp only [List.flatMap_cons, List.map_cons, ih]; rfl
                    rw [hfm, List.getElem?_map, hm]; rfl)
                  have hadd : (⟨g, 0, none⟩ : Addr).add j = ⟨g, j, none⟩ := by unfold Addr.add; split <;> simp_all
                  rw [hadd] at this
                  exact this
                have htake : Hid (out.take (j + 1) = out.take j ++ [m]) := by show _ = _; rw [List.take_add_one, hm]; rfl
                clear hm
                generalize hz : ((ok1 && !q1) && !((out.take j).any fun m => decide (0 < u) && unitOf (kindAt kinds m) == u)) = z
                have HZ := Lib.hid hz
                clear hz
                have hcase : u = 0 ∨ (0 < u ∧ unitOf (kindAt kinds m) = u) ∨ (0 < u ∧ unitOf (kindAt kinds m) ≠ u) := by omega
                have hsk := hk.below (by omega) hb
                rcases hcase with rfl | ⟨h0, hm1⟩ | ⟨h0, hm1⟩
                · go_wp2_with fail
                  go_roundw
                  case rel => exact ⟨j + 1, by go_num, by omega, by rw [htake.out, ← HZ.out]; simp, trivial⟩
                  case measure => simp [intOf]; omega
                · have h0' : decide ((0 : Int) < u) = true := by simp; omega
                  have HM := Lib.hid hm1
                  clear hm1
                  go_wp2_with (go_at_call 22; refine (group_any kinds m B0 nk _ _ hsk HNK.out hlk (by omega)).mono ?_; rw [HM.out]; rintro e w' ⟨rfl, rfl⟩)
                  go_roundw
                  case rel => exact ⟨j + 1, by go_num, by omega, by rw [htake.out]; simp [HM.out, h0], trivial⟩
                  case measure => simp [intOf]; omega
                · have h0' : decide ((0 : Int) < u) = true := by simp; omega
                  obtain ⟨u', hu'⟩ : ∃ u', u' = unitOf (kindAt kinds m) := ⟨_, rfl⟩
                  have HM := Lib.hid hu'
                  have hne : ((u' : Int) == u) = false := by simp; rw [hu']; exact_mod_cast hm1
                  have hne' : Hid ((unitOf (kindAt kinds m) == u) = false) := by show _ = _; simpa using hm1
                  clear hm1 hu'
                  go_wp2_with (go_at_call 22; refine (group_any kinds m B0 nk _ _ hsk HNK.out hlk (by omega)).mono ?_; rw [← HM.out]; rintro e w' ⟨rfl, rfl⟩)
                  go_roundw
                  case rel => exact ⟨j + 1, by go_num, by omega, by rw [htake.out, ← HZ.out]; simp [hne'.out], trivial⟩
                  case measure => simp [intOf]; omega
              · have hjj : j = out.length := by omega
                have HZ : Hid (((ok1 && !q1) && !((out.take j).any fun m => decide (0 < u) && unitOf (kindAt kinds m) == u)) = (x && decide ((out.length : Int) < width) && fits kinds busy out (unitOf (kindAt kinds k)))) := by
                  show _ = _
                  rw [← HU.out, ← HOK.out, ← HQ.out, hjj, List.take_length]
                  unfold fits
                  simp only [Bool.and_assoc]
                generalize ((ok1 && !q1) && !((out.take j).any fun m => decide (0 < u) && unitOf (kindAt kinds m) == u)) = z at HZ
                clear hjj
                cases z with
                | false =>
                  have HS : Hid ((pickTo width busy kinds can (k + 1)).out = out) := by show _ = _; rw [hstep.out, ← HZ.out]; simp
                  go_wp2_with fail
                  go_roundw
                  case rel => exact ⟨k + 1, A, c, by go_num, by omega, by rw [HS.out], by rw [HS.out]; exact hown, hb⟩
                  case measure => simp [intOf]; omega
                | true =>
                  have HS : Hid ((pickTo width busy kinds can (k + 1)).out = out ++ [k]) := by show _ = _; rw [hstep.out, ← HZ.out]; simp
                  go_wp2_with (first
                    | (at_builtin
                       refine wpList_app1g int_info rfl (.tmp 56) (.tmp 58) rfl w.heap.size (.slice A out.length c) out.length _ rfl hown (by omega) hws wr.heap.size rfl rfl rfl rfl ?_
                       intro g' cap' w3 hown3 hb3 hg3))
                  go_roundw
                  case rel => exact ⟨k + 1, some ⟨g', 0, none⟩, cap', by go_num, by omega, by rw [HS.out]; simp, by rw [HS.out]; simpa using hown3, (hb.alloc hws _).trans hb3⟩
                  case measure => simp [intOf]; omega
    · have hkk : k = nc := by omega
      have HO : Hid ((pickTo width busy kinds can k).out = pickOf width busy kinds can) := by show _ = _; rw [hkk, HNC.out]; rfl
      clear hkk
      go_wp2_with fail
      go_ret
      exact ⟨_, rfl, by rw [← HO.out]; exact hown, hb⟩
end Go.Proofs.Ytaimbclbpoelgaa
