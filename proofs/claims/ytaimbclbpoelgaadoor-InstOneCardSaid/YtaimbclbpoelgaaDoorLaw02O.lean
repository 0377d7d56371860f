/- The law InstOne (printed by wip/bin/onegen.py). -/
import Derived.Test.YtaimbclbpoelgaaDoorBits
import Derived.Test.YtaimbclbpoelgaaDoorLaw02
namespace Go.Proofs.YtaimbclbpoelgaaDoor
open Go.RowKit

set_option maxRecDepth 100000 in
set_option maxHeartbeats 4000000 in
theorem one_walk (x y : Nat) (w : World) (hC : Codes w) (hx : x < 4294967296) (hy : y < 4294967296) : Calls Tryd.prog 5 #[.int .u32 x, .int .u32 y] w fun e w' => e = .returned (.bool true) ∧ Below w.heap.size w w' := by
  by_cases hk : opOf x = 0
  · by_cases hk' : opOf y = 0
    · skip
      go_enter Tryd.func5, Tryd.ntmps5
      go_wp2_with fail
      refine (decode_no x _ hC hx hk).mono ?_; rintro e w1 ⟨rfl, B1⟩
      have hs := B1.size
      go_wp2_with fail
      have hb := B1.alloc hs (.cells #[.int .i64 0, .int .i64 0, .int .i64 0, .int .i64 0, .int .u32 0] 24)
      refine (decode_no y _ (hC.kept hb) hy hk').mono ?_; rintro e w2 ⟨rfl, B2⟩
      have hs2 := B2.size
      simp at hs2
      go_wp2_with fail
      have hb2 := (hb.trans (B2.mono (by simp; omega))).alloc (show w.heap.size ≤ w2.heap.size by omega) (.cells #[.int .i64 0, .int .i64 0, .int .i64 0, .int .i64 0, .int .u32 0] 24)
      refine (alive02 _ (hC.kept hb2)).mono ?_; rintro e w3 ⟨rfl, B3⟩
      have q0 := (B3.cell (p := ⟨w1.heap.size, 0, none⟩) (by simp; omega)).trans ((World.cell?_alloc_lt _ _ _ (by show w1.heap.size < w2.heap.size; omega)).trans (B2.cell (p := ⟨w1.heap.size, 0, none⟩) (by simp)))
      have q1 := (B3.cell (p := ⟨w1.heap.size, 1, none⟩) (by simp; omega)).trans ((World.cell?_alloc_lt _ _ _ (by show w1.heap.size < w2.heap.size; omega)).trans (B2.cell (p := ⟨w1.heap.size, 1, none⟩) (by simp)))
      have q2 := (B3.cell (p := ⟨w1.heap.size, 2, none⟩) (by simp; omega)).trans ((World.cell?_alloc_lt _ _ _ (by show w1.heap.size < w2.heap.size; omega)).trans (B2.cell (p := ⟨w1.heap.size, 2, none⟩) (by simp)))
      have q3 := (B3.cell (p := ⟨w1.heap.size, 3, none⟩) (by simp; omega)).trans ((World.cell?_alloc_lt _ _ _ (by show w1.heap.size < w2.heap.size; omega)).trans (B2.cell (p := ⟨w1.heap.size, 3, none⟩) (by simp)))
      have q4 := (B3.cell (p := ⟨w1.heap.size, 4, none⟩) (by simp; omega)).trans ((World.cell?_alloc_lt _ _ _ (by show w1.heap.size < w2.heap.size; omega)).trans (B2.cell (p := ⟨w1.heap.size, 4, none⟩) (by simp)))
      have p0 := B3.cell (p := ⟨w2.heap.size, 0, none⟩) (by simp)
      have p1 := B3.cell (p := ⟨w2.heap.size, 1, none⟩) (by simp)
      have p2 := B3.cell (p := ⟨w2.heap.size, 2, none⟩) (by simp)
      have p3 := B3.cell (p := ⟨w2.heap.size, 3, none⟩) (by simp)
      have p4 := B3.cell (p := ⟨w2.heap.size, 4, none⟩) (by simp)
      simp [go_sem] at q0 q1 q2 q3 q4 p0 p1 p2 p3 p4
      have hb3 := hb2.trans (B3.mono (by simp; omega))
      clear B3 B2 B1 hb hb2
      go_wp2_with fail
      go_ret
      exact ⟨rfl, hb3⟩
    · have c2 := fun w hC => decode_ok y w hC hy hk'
      clear hk'
      generalize decN y = s at *
      go_enter Tryd.func5, Tryd.ntmps5
      go_wp2_with fail
      refine (decode_no x _ hC hx hk).mono ?_; rintro e w1 ⟨rfl, B1⟩
      have hs := B1.size
      go_wp2_with fail
      have hb := B1.alloc hs (.cells #[.int .i64 0, .int .i64 0, .int .i64 0, .int .i64 0, .int .u32 0] 24)
      refine (c2 _ (hC.kept hb)).mono ?_; rintro e w2 ⟨rfl, B2⟩
      have hs2 := B2.size
      simp at hs2
      go_wp2_with fail
      have hb2 := (hb.trans (B2.mono (by simp; omega))).alloc (show w.heap.size ≤ w2.heap.size by omega) (.cells #[.int .i64 s.op, .int .i64 s.rd, .int .i64 s.rs1, .int .i64 s.rs2, .int .u32 s.imm] 24)
      refine (alive02 _ (hC.kept hb2)).mono ?_; rintro e w3 ⟨rfl, B3⟩
      have q0 := (B3.cell (p := ⟨w1.heap.size, 0, none⟩) (by simp; omega)).trans ((World.cell?_alloc_lt _ _ _ (by show w1.heap.size < w2.heap.size; omega)).trans (B2.cell (p := ⟨w1.heap.size, 0, none⟩) (by simp)))
      have q1 := (B3.cell (p := ⟨w1.heap.size, 1, none⟩) (by simp; omega)).trans ((World.cell?_alloc_lt _ _ _ (by show w1.heap.size < w2.heap.size; omega)).trans (B2.cell (p := ⟨w1.heap.size, 1, none⟩) (by simp)))
      have q2 := (B3.cell (p := ⟨w1.heap.size, 2, none⟩) (by simp; omega)).trans ((World.cell?_alloc_lt _ _ _ (by show w1.heap.size < w2.heap.size; omega)).trans (B2.cell (p := ⟨w1.heap.size, 2, none⟩) (by simp)))
      have q3 := (B3.cell (p := ⟨w1.heap.size, 3, none⟩) (by simp; omega)).trans ((World.cell?_alloc_lt _ _ _ (by show w1.heap.size < w2.heap.size; omega)).trans (B2.cell (p := ⟨w1.heap.size, 3, none⟩) (by simp)))
      have q4 := (B3.cell (p := ⟨w1.heap.size, 4, none⟩) (by simp; omega)).trans ((World.cell?_alloc_lt _ _ _ (by show w1.heap.size < w2.heap.size; omega)).trans (B2.cell (p := ⟨w1.heap.size, 4, none⟩) (by simp)))
      have p0 := B3.cell (p := ⟨w2.heap.size, 0, none⟩) (by simp)
      have p1 := B3.cell (p := ⟨w2.heap.size, 1, none⟩) (by simp)
      have p2 := B3.cell (p := ⟨w2.heap.size, 2, none⟩) (by simp)
      have p3 := B3.cell (p := ⟨w2.heap.size, 3, none⟩) (by simp)
      have p4 := B3.cell (p := ⟨w2.heap.size, 4, none⟩) (by simp)
      simp [go_sem] at q0 q1 q2 q3 q4 p0 p1 p2 p3 p4
      have hb3 := hb2.trans (B3.mono (by simp; omega))
      clear B3 B2 B1 hb hb2
      go_wp2_with fail
      go_ret
      exact ⟨rfl, hb3⟩
  · by_cases hk' : opOf y = 0
    · have c1 := fun w hC => decode_ok x w hC hx hk
      clear hk
      generalize decN x = r at *
      go_enter Tryd.func5, Tryd.ntmps5
      go_wp2_with fail
      refine (c1 _ hC).mono ?_; rintro e w1 ⟨rfl, B1⟩
      have hs := B1.size
      go_wp2_with fail
      have hb := B1.alloc hs (.cells #[.int .i64 r.op, .int .i64 r.rd, .int .i64 r.rs1, .int .i64 r.rs2, .int .u32 r.imm] 24)
      refine (decode_no y _ (hC.kept hb) hy hk').mono ?_; rintro e w2 ⟨rfl, B2⟩
      have hs2 := B2.size
      simp at hs2
      go_wp2_with fail
      have hb2 := (hb.trans (B2.mono (by simp; omega))).alloc (show w.heap.size ≤ w2.heap.size by omega) (.cells #[.int .i64 0, .int .i64 0, .int .i64 0, .int .i64 0, .int .u32 0] 24)
      refine (alive02 _ (hC.kept hb2)).mono ?_; rintro e w3 ⟨rfl, B3⟩
      have q0 := (B3.cell (p := ⟨w1.heap.size, 0, none⟩) (by simp; omega)).trans ((World.cell?_alloc_lt _ _ _ (by show w1.heap.size < w2.heap.size; omega)).trans (B2.cell (p := ⟨w1.heap.size, 0, none⟩) (by simp)))
      have q1 := (B3.cell (p := ⟨w1.heap.size, 1, none⟩) (by simp; omega)).trans ((World.cell?_alloc_lt _ _ _ (by show w1.heap.size < w2.heap.size; omega)).trans (B2.cell (p := ⟨w1.heap.size, 1, none⟩) (by simp)))
      have q2 := (B3.cell (p := ⟨w1.heap.size, 2, none⟩) (by simp; omega)).trans ((World.cell?_alloc_lt _ _ _ (by show w1.heap.size < w2.heap.size; omega)).trans (B2.cell (p := ⟨w1.heap.size, 2, none⟩) (by simp)))
      have q3 := (B3.cell (p := ⟨w1.heap.size, 3, none⟩) (by simp; omega)).trans ((World.cell?_alloc_lt _ _ _ (by show w1.heap.size < w2.heap.size; omega)).trans (B2.cell (p := ⟨w1.heap.size, 3, none⟩) (by simp)))
      have q4 := (B3.cell (p := ⟨w1.heap.size, 4, none⟩) (by simp; omega)).trans ((World.cell?_alloc_lt _ _ _ (by show w1.heap.size < w2.heap.size; omega)).trans (B2.cell (p := ⟨w1.heap.size, 4, none⟩) (by simp)))
      have p0 := B3.cell (p := ⟨w2.heap.size, 0, none⟩) (by simp)
      have p1 := B3.cell (p := ⟨w2.heap.size, 1, none⟩) (by simp)
      have p2 := B3.cell (p := ⟨w2.heap.size, 2, none⟩) (by simp)
      have p3 := B3.cell (p := ⟨w2.heap.size, 3, none⟩) (by simp)
      have p4 := B3.cell (p := ⟨w2.heap.size, 4, none⟩) (by simp)
      simp [go_sem] at q0 q1 q2 q3 q4 p0 p1 p2 p3 p4
      have hb3 := hb2.trans (B3.mono (by simp; omega))
      clear B3 B2 B1 hb hb2
      go_wp2_with fail
      go_ret
      exact ⟨rfl, hb3⟩
    · have hr : ∀ (r s : SI), r = s ↔ r.op = s.op ∧ r.rd = s.rd ∧ r.rs1 = s.rs1 ∧ r.rs2 = s.rs2 ∧ r.imm = s.imm := fun r s => by
        obtain ⟨_, _, _, _, _⟩ := r
        obtain ⟨_, _, _, _, _⟩ := s
        simp
      have hi := dec_inj x y hk hk' hx hy
      have hq : Hid ((x = y) ↔ (decN x).op = (decN y).op ∧ (decN x).rd = (decN y).rd ∧ (decN x).rs1 = (decN y).rs1 ∧ (decN x).rs2 = (decN y).rs2 ∧ (decN x).imm = (decN y).imm) := by
        show _ ↔ _
        rw [← hr]
        exact ⟨fun e => by rw [e], hi⟩
      have c1 := fun w hC => decode_ok x w hC hx hk
      have c2 := fun w hC => decode_ok y w hC hy hk'
      clear hi hr
      by_cases hxy : x = y
      · subst hxy
        have hrr : Hid (decN x = decN x) := (rfl : decN x = decN x)
        clear hq hk hk' hrr
        generalize decN x = r at *
        go_enter Tryd.func5, Tryd.ntmps5
        go_wp2_with fail
        refine (c1 _ hC).mono ?_; rintro e w1 ⟨rfl, B1⟩
        have hs := B1.size
        go_wp2_with fail
        have hb := B1.alloc hs (.cells #[.int .i64 r.op, .int .i64 r.rd, .int .i64 r.rs1, .int .i64 r.rs2, .int .u32 r.imm] 24)
        refine (c2 _ (hC.kept hb)).mono ?_; rintro e w2 ⟨rfl, B2⟩
        have hs2 := B2.size
        simp at hs2
        go_wp2_with fail
        have hb2 := (hb.trans (B2.mono (by simp; omega))).alloc (show w.heap.size ≤ w2.heap.size by omega) (.cells #[.int .i64 r.op, .int .i64 r.rd, .int .i64 r.rs1, .int .i64 r.rs2, .int .u32 r.imm] 24)
        refine (alive02 _ (hC.kept hb2)).mono ?_; rintro e w3 ⟨rfl, B3⟩
        have q0 := (B3.cell (p := ⟨w1.heap.size, 0, none⟩) (by simp; omega)).trans ((World.cell?_alloc_lt _ _ _ (by show w1.heap.size < w2.heap.size; omega)).trans (B2.cell (p := ⟨w1.heap.size, 0, none⟩) (by simp)))
        have q1 := (B3.cell (p := ⟨w1.heap.size, 1, none⟩) (by simp; omega)).trans ((World.cell?_alloc_lt _ _ _ (by show w1.heap.size < w2.heap.size; omega)).trans (B2.cell (p := ⟨w1.heap.size, 1, none⟩) (by simp)))
        have q2 := (B3.cell (p := ⟨w1.heap.size, 2, none⟩) (by simp; omega)).trans ((World.cell?_alloc_lt _ _ _ (by show w1.heap.size < w2.heap.size; omega)).trans (B2.cell (p := ⟨w1.heap.size, 2, none⟩) (by simp)))
        have q3 := (B3.cell (p := ⟨w1.heap.size, 3, none⟩) (by simp; omega)).trans ((World.cell?_alloc_lt _ _ _ (by show w1.heap.size < w2.heap.size; omega)).trans (B2.cell (p := ⟨w1.heap.size, 3, none⟩) (by simp)))
        have q4 := (B3.cell (p := ⟨w1.heap.size, 4, none⟩) (by simp; omega)).trans ((World.cell?_alloc_lt _ _ _ (by show w1.heap.size < w2.heap.size; omega)).trans (B2.cell (p := ⟨w1.heap.size, 4, none⟩) (by simp)))
        have p0 := B3.cell (p := ⟨w2.heap.size, 0, none⟩) (by simp)
        have p1 := B3.cell (p := ⟨w2.heap.size, 1, none⟩) (by simp)
        have p2 := B3.cell (p := ⟨w2.heap.size, 2, none⟩) (by simp)
        have p3 := B3.cell (p := ⟨w2.heap.size, 3, none⟩) (by simp)
        have p4 := B3.cell (p := ⟨w2.heap.size, 4, none⟩) (by simp)
        simp [go_sem] at q0 q1 q2 q3 q4 p0 p1 p2 p3 p4
        have hb3 := hb2.trans (B3.mono (by simp; omega))
        clear B3 B2 B1 hb hb2
        go_wp2_with fail
        go_ret
        exact ⟨rfl, hb3⟩
      · have hb0 : ((x : Int) == (y : Int)) = false := by simp only [beq_eq_false_iff_ne]; omega
        clear hk hk'
        generalize decN x = r at *
        generalize decN y = s at *
        go_enter Tryd.func5, Tryd.ntmps5
        go_wp2_with fail
        refine (c1 _ hC).mono ?_; rintro e w1 ⟨rfl, B1⟩
        have hs := B1.size
        go_wp2_with fail
        have hb := B1.alloc hs (.cells #[.int .i64 r.op, .int .i64 r.rd, .int .i64 r.rs1, .int .i64 r.rs2, .int .u32 r.imm] 24)
        refine (c2 _ (hC.kept hb)).mono ?_; rintro e w2 ⟨rfl, B2⟩
        have hs2 := B2.size
        simp at hs2
        go_wp2_with fail
        have hb2 := (hb.trans (B2.mono (by simp; omega))).alloc (show w.heap.size ≤ w2.heap.size by omega) (.cells #[.int .i64 s.op, .int .i64 s.rd, .int .i64 s.rs1, .int .i64 s.rs2, .int .u32 s.imm] 24)
        refine (alive02 _ (hC.kept hb2)).mono ?_; rintro e w3 ⟨rfl, B3⟩
        have q0 := (B3.cell (p := ⟨w1.heap.size, 0, none⟩) (by simp; omega)).trans ((World.cell?_alloc_lt _ _ _ (by show w1.heap.size < w2.heap.size; omega)).trans (B2.cell (p := ⟨w1.heap.size, 0, none⟩) (by simp)))
        have q1 := (B3.cell (p := ⟨w1.heap.size, 1, none⟩) (by simp; omega)).trans ((World.cell?_alloc_lt _ _ _ (by show w1.heap.size < w2.heap.size; omega)).trans (B2.cell (p := ⟨w1.heap.size, 1, none⟩) (by simp)))
        have q2 := (B3.cell (p := ⟨w1.heap.size, 2, none⟩) (by simp; omega)).trans ((World.cell?_alloc_lt _ _ _ (by show w1.heap.size < w2.heap.size; omega)).trans (B2.cell (p := ⟨w1.heap.size, 2, none⟩) (by simp)))
        have q3 := (B3.cell (p := ⟨w1.heap.size, 3, none⟩) (by simp; omega)).trans ((World.cell?_alloc_lt _ _ _ (by show w1.heap.size < w2.heap.size; omega)).trans (B2.cell (p := ⟨w1.heap.size, 3, none⟩) (by simp)))
        have q4 := (B3.cell (p := ⟨w1.heap.size, 4, none⟩) (by simp; omega)).trans ((World.cell?_alloc_lt _ _ _ (by show w1.heap.size < w2.heap.size; omega)).trans (B2.cell (p := ⟨w1.heap.size, 4, none⟩) (by simp)))
        have p0 := B3.cell (p := ⟨w2.heap.size, 0, none⟩) (by simp)
        have p1 := B3.cell (p := ⟨w2.heap.size, 1, none⟩) (by simp)
        have p2 := B3.cell (p := ⟨w2.heap.size, 2, none⟩) (by simp)
        have p3 := B3.cell (p := ⟨w2.heap.size, 3, none⟩) (by simp)
        have p4 := B3.cell (p := ⟨w2.heap.size, 4, none⟩) (by simp)
        simp [go_sem] at q0 q1 q2 q3 q4 p0 p1 p2 p3 p4
        have hb3 := hb2.trans (B3.mono (by simp; omega))
        clear B3 B2 B1 hb hb2
        go_wp2_with fail
        all_goals (first
          | (go_ret; exact ⟨rfl, hb3⟩)
          | exact absurd (hq.out.2 ⟨by first | rfl | assumption | omega, by first | rfl | assumption | omega, by first | rfl | assumption | omega, by first | rfl | assumption | omega, by first | rfl | assumption | omega⟩) hxy)
end Go.Proofs.YtaimbclbpoelgaaDoor
