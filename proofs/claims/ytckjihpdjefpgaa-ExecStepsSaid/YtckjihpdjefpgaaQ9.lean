/- The reference's functions that have no loop, on the second machine. -/
import Derived.Test.YtckjihpdjefpgaaQ8
import Derived.Test.YtckjihpdjefpgaaQ7
import Derived.Test.YtckjihpdjefpgaaRefN
namespace Go.Proofs.Ytckjihpdjefpgaa
open Go.RowKit

theorem u32N {a b : Nat} (h : a = b) : AV.v (.int .u32 ((a : Nat) : Int)) = .v (.int .u32 ((b : Nat) : Int)) := by rw [h]
theorem size_spec (op : Int) : ((op = 11 ∨ op = 14 ∨ op = 16) ∧ sizeOf' op = 1) ∨ ((op = 12 ∨ op = 15 ∨ op = 17) ∧ sizeOf' op = 2) ∨ ((op = 13 ∨ op = 18) ∧ sizeOf' op = 4) ∨ ((op < 11 ∨ 18 < op) ∧ sizeOf' op = 0) := by
 unfold sizeOf'
 (repeat' split) <;> first | (simp; done) | (simp; omega)
def letterOf (op : Int) : Nat :=
 if op < 1 ∨ 48 < op then 0 else if op ≤ 2 then 85 else if op = 3 then 74 else if op = 4 then 73 else if op ≤ 10 then 66 else if op ≤ 15 then 73 else if op ≤ 18 then 83
 else if op ≤ 24 then 73 else if op ≤ 27 then 84 else if op ≤ 45 then 82 else 87
theorem letter_spec (op : Int) : ((op < 1 ∨ 48 < op) ∧ letterOf op = 0) ∨ ((1 ≤ op ∧ op ≤ 2) ∧ letterOf op = 85) ∨ ((op = 3) ∧ letterOf op = 74) ∨ ((op = 4) ∧ letterOf op = 73) ∨ ((5 ≤ op ∧ op ≤ 10) ∧ letterOf op = 66) ∨ ((11 ≤ op ∧ op ≤ 15) ∧ letterOf op = 73) ∨ ((16 ≤ op ∧ op ≤ 18) ∧ letterOf op = 83) ∨ ((19 ≤ op ∧ op ≤ 24) ∧ letterOf op = 73) ∨ ((25 ≤ op ∧ op ≤ 27) ∧ letterOf op = 84) ∨ ((28 ≤ op ∧ op ≤ 45) ∧ letterOf op = 82) ∨ ((46 ≤ op ∧ op ≤ 48) ∧ letterOf op = 87) := by
 unfold letterOf
 (repeat' split) <;> first | (simp; done) | (simp; omega)
theorem kind_spec (op : Int) : ((3 ≤ op ∧ op ≤ 10) ∧ kindOf op = 5) ∨ ((11 ≤ op ∧ op ≤ 15) ∧ kindOf op = 3) ∨ ((16 ≤ op ∧ op ≤ 18) ∧ kindOf op = 4) ∨ ((38 ≤ op ∧ op ≤ 41) ∧ kindOf op = 1) ∨ ((42 ≤ op ∧ op ≤ 45) ∧ kindOf op = 2) ∨ ((op = 47 ∨ op = 48) ∧ kindOf op = 6) ∨ ((op < 3 ∨ (19 ≤ op ∧ op ≤ 37) ∨ op = 46 ∨ 48 < op) ∧ kindOf op = 0) := by
 unfold kindOf
 (repeat' split) <;> first | (simp; done) | (simp; omega)
theorem wr_spec (i : SI) : ((letterOf i.op = 82 ∨ letterOf i.op = 73 ∨ letterOf i.op = 84 ∨ letterOf i.op = 85 ∨ letterOf i.op = 74) ∧ wr i = i.rd) ∨ (¬ (letterOf i.op = 82 ∨ letterOf i.op = 73 ∨ letterOf i.op = 84 ∨ letterOf i.op = 85 ∨ letterOf i.op = 74) ∧ wr i = 0) := by
 unfold wr
 have : hasRd (formOf i.op) = decide (letterOf i.op = 82 ∨ letterOf i.op = 73 ∨ letterOf i.op = 84 ∨ letterOf i.op = 85 ∨ letterOf i.op = 74) := by
  unfold formOf letterOf
  (repeat' split) <;> first | rfl | (exfalso; omega)
 rw [this]
 simp only [decide_eq_true_eq]
 split <;> omega

set_option maxRecDepth 100000 in
set_option maxHeartbeats 4000000 in
theorem rSize (op : Int) : DCall C0 19 [vI op] (.v (.int .i64 ((sizeOf' op : Nat) : Int))) := by
 refine DCall.intro c0Ok Try.func19 rfl rfl (by kernel_rfl) rfl ?_
 refine cSeq ?_
 refine cR ?_
 refine rO 2 (vI 0) ?_
 refine rE 1 ?_
 refine cSeq ?_
 refine cSeq ?_
 refine cR ?_
 refine rO 3 (vI op) ?_
 refine rE 2 ?_
 refine cBlock ?_
 refine cSeq ?_
 refine cSeq ?_
 refine cR ?_
 refine rO 5 (vB (op == 11)) ?_
 refine rO 4 (vB (op == 11)) ?_
 refine rE 4 ?_
 refine cEq op 11 (fun h1 => ?_) (fun h1 => ?_)
 ·skip
  refine cSkip ?_
  refine cT (pEq.2 h1) ?_
  refine cSeq ?_
  refine cR ?_
  refine rO 2 (vI 1) ?_
  refine rE 5 ?_
  refine cRet ?_
  exact fI rfl (by have := size_spec op; omega)
 ·skip
  refine cSeq ?_
  refine cR ?_
  refine rO 6 (vB (op == 14)) ?_
  refine rO 4 (vB (op == 14)) ?_
  refine rE 6 ?_
  refine cEq op 14 (fun h2 => ?_) (fun h2 => ?_)
  ·skip
   refine cSkip ?_
   refine cT (pEq.2 h2) ?_
   refine cSeq ?_
   refine cR ?_
   refine rO 2 (vI 1) ?_
   refine rE 7 ?_
   refine cRet ?_
   exact fI rfl (by have := size_spec op; omega)
  ·skip
   refine cR ?_
   refine rO 7 (vB (op == 16)) ?_
   refine rO 4 (vB (op == 16)) ?_
   refine rE 8 ?_
   refine cEq op 16 (fun h3 => ?_) (fun h3 => ?_)
   ·skip
    refine cSeq ?_
    refine cR ?_
    refine rO 2 (vI 1) ?_
    refine rE 9 ?_
    refine cRet ?_
    exact fI rfl (by have := size_spec op; omega)
   ·skip
    refine cSeq ?_
    refine cSeq ?_
    refine cR ?_
    refine rO 9 (vB (op == 12)) ?_
    refine rO 8 (vB (op == 12)) ?_
    refine rE 10 ?_
    refine cEq op 12 (fun h4 => ?_) (fun h4 => ?_)
    ·skip
     refine cSkip ?_
     refine cT (pEq.2 h4) ?_
     refine cSeq ?_
     refine cR ?_
     refine rO 2 (vI 2) ?_
     refine rE 11 ?_
     refine cRet ?_
     exact fI rfl (by have := size_spec op; omega)
    ·skip
     refine cSeq ?_
     refine cR ?_
     refine rO 10 (vB (op == 15)) ?_
     refine rO 8 (vB (op == 15)) ?_
     refine rE 12 ?_
     refine cEq op 15 (fun h5 => ?_) (fun h5 => ?_)
     ·skip
      refine cSkip ?_
      refine cT (pEq.2 h5) ?_
      refine cSeq ?_
      refine cR ?_
      refine rO 2 (vI 2) ?_
      refine rE 13 ?_
      refine cRet ?_
      exact fI rfl (by have := size_spec op; omega)
     ·skip
      refine cR ?_
      refine rO 11 (vB (op == 17)) ?_
      refine rO 8 (vB (op == 17)) ?_
      refine rE 14 ?_
      refine cEq op 17 (fun h6 => ?_) (fun h6 => ?_)
      ·skip
       refine cSeq ?_
       refine cR ?_
       refine rO 2 (vI 2) ?_
       refine rE 15 ?_
       refine cRet ?_
       exact fI rfl (by have := size_spec op; omega)
      ·skip
       refine cSeq ?_
       refine cSeq ?_
       refine cR ?_
       refine rO 13 (vB (op == 13)) ?_
       refine rO 12 (vB (op == 13)) ?_
       refine rE 16 ?_
       refine cEq op 13 (fun h7 => ?_) (fun h7 => ?_)
       ·skip
        refine cSkip ?_
        refine cT (pEq.2 h7) ?_
        refine cSeq ?_
        refine cR ?_
        refine rO 2 (vI 4) ?_
        refine rE 17 ?_
        refine cRet ?_
        exact fI rfl (by have := size_spec op; omega)
       ·skip
        refine cR ?_
        refine rO 14 (vB (op == 18)) ?_
        refine rO 12 (vB (op == 18)) ?_
        refine rE 18 ?_
        refine cEq op 18 (fun h8 => ?_) (fun h8 => ?_)
        ·skip
         refine cSeq ?_
         refine cR ?_
         refine rO 2 (vI 4) ?_
         refine rE 19 ?_
         refine cRet ?_
         exact fI rfl (by have := size_spec op; omega)
        ·skip
         refine cSkip ?_
         refine cSeq ?_
         refine cR ?_
         refine rO 2 (vI 0) ?_
         refine rE 19 ?_
         refine cRet ?_
         exact fI rfl (by have := size_spec op; omega)
set_option maxRecDepth 100000 in
set_option maxHeartbeats 4000000 in
theorem rForm (op : Int) : DCall C0 32 [vI op] (.v (.int .u8 ((letterOf op : Nat) : Int))) := by
 refine DCall.intro c0Ok Try.func32 rfl rfl (by kernel_rfl) rfl ?_
 refine cSeq ?_
 refine cR ?_
 refine rO 2 (.v (.int .u8 0)) ?_
 refine rE 1 ?_
 refine cSeq ?_
 refine cSeq ?_
 refine cR ?_
 refine rO 3 (vI op) ?_
 refine rE 2 ?_
 refine cBlock ?_
 refine cSeq ?_
 refine cSeq ?_
 refine cR ?_
 refine rO 5 (vB (op == 1)) ?_
 refine rO 4 (vB (op == 1)) ?_
 refine rE 4 ?_
 refine cEq op 1 (fun h1 => ?_) (fun h1 => ?_)
 ·skip
  refine cSkip ?_
  refine cT (pEq.2 h1) ?_
  refine cSeq ?_
  refine cR ?_
  refine rO 2 (.v (.int .u8 85)) ?_
  refine rE 5 ?_
  refine cRet ?_
  exact fI rfl (by have := letter_spec op; omega)
 ·skip
  refine cR ?_
  refine rO 6 (vB (op == 2)) ?_
  refine rO 4 (vB (op == 2)) ?_
  refine rE 6 ?_
  refine cEq op 2 (fun h2 => ?_) (fun h2 => ?_)
  ·skip
   refine cSeq ?_
   refine cR ?_
   refine rO 2 (.v (.int .u8 85)) ?_
   refine rE 7 ?_
   refine cRet ?_
   exact fI rfl (by have := letter_spec op; omega)
  ·skip
   refine cSeq ?_
   refine cR ?_
   refine rO 8 (vB (op == 3)) ?_
   refine rO 7 (vB (op == 3)) ?_
   refine rE 8 ?_
   refine cEq op 3 (fun h3 => ?_) (fun h3 => ?_)
   ·skip
    refine cSeq ?_
    refine cR ?_
    refine rO 2 (.v (.int .u8 74)) ?_
    refine rE 9 ?_
    refine cRet ?_
    exact fI rfl (by have := letter_spec op; omega)
   ·skip
    refine cSeq ?_
    refine cSeq ?_
    refine cR ?_
    refine rO 10 (vB (op == 5)) ?_
    refine rO 9 (vB (op == 5)) ?_
    refine rE 10 ?_
    refine cEq op 5 (fun h4 => ?_) (fun h4 => ?_)
    ·skip
     refine cSkip ?_
     refine cT (pEq.2 h4) ?_
     refine cSeq ?_
     refine cR ?_
     refine rO 2 (.v (.int .u8 66)) ?_
     refine rE 11 ?_
     refine cRet ?_
     exact fI rfl (by have := letter_spec op; omega)
    ·skip
     refine cSeq ?_
     refine cR ?_
     refine rO 11 (vB (op == 6)) ?_
     refine rO 9 (vB (op == 6)) ?_
     refine rE 12 ?_
     refine cEq op 6 (fun h5 => ?_) (fun h5 => ?_)
     ·skip
      refine cSkip ?_
      refine cT (pEq.2 h5) ?_
      refine cSeq ?_
      refine cR ?_
      refine rO 2 (.v (.int .u8 66)) ?_
      refine rE 13 ?_
      refine cRet ?_
      exact fI rfl (by have := letter_spec op; omega)
     ·skip
      refine cSeq ?_
      refine cR ?_
      refine rO 12 (vB (op == 7)) ?_
      refine rO 9 (vB (op == 7)) ?_
      refine rE 14 ?_
      refine cEq op 7 (fun h6 => ?_) (fun h6 => ?_)
      ·skip
       refine cSkip ?_
       refine cT (pEq.2 h6) ?_
       refine cSeq ?_
       refine cR ?_
       refine rO 2 (.v (.int .u8 66)) ?_
       refine rE 15 ?_
       refine cRet ?_
       exact fI rfl (by have := letter_spec op; omega)
      ·skip
       refine cSeq ?_
       refine cR ?_
       refine rO 13 (vB (op == 8)) ?_
       refine rO 9 (vB (op == 8)) ?_
       refine rE 16 ?_
       refine cEq op 8 (fun h7 => ?_) (fun h7 => ?_)
       ·skip
        refine cSkip ?_
        refine cT (pEq.2 h7) ?_
        refine cSeq ?_
        refine cR ?_
        refine rO 2 (.v (.int .u8 66)) ?_
        refine rE 17 ?_
        refine cRet ?_
        exact fI rfl (by have := letter_spec op; omega)
       ·skip
        refine cSeq ?_
        refine cR ?_
        refine rO 14 (vB (op == 9)) ?_
        refine rO 9 (vB (op == 9)) ?_
        refine rE 18 ?_
        refine cEq op 9 (fun h8 => ?_) (fun h8 => ?_)
        ·skip
         refine cSkip ?_
         refine cT (pEq.2 h8) ?_
         refine cSeq ?_
         refine cR ?_
         refine rO 2 (.v (.int .u8 66)) ?_
         refine rE 19 ?_
         refine cRet ?_
         exact fI rfl (by have := letter_spec op; omega)
        ·skip
         refine cR ?_
         refine rO 15 (vB (op == 10)) ?_
         refine rO 9 (vB (op == 10)) ?_
         refine rE 20 ?_
         refine cEq op 10 (fun h9 => ?_) (fun h9 => ?_)
         ·skip
          refine cSeq ?_
          refine cR ?_
          refine rO 2 (.v (.int .u8 66)) ?_
          refine rE 21 ?_
          refine cRet ?_
          exact fI rfl (by have := letter_spec op; omega)
         ·skip
          refine cSeq ?_
          refine cSeq ?_
          refine cR ?_
          refine rO 17 (vB (op == 16)) ?_
          refine rO 16 (vB (op == 16)) ?_
          refine rE 22 ?_
          refine cEq op 16 (fun h10 => ?_) (fun h10 => ?_)
          ·skip
           refine cSkip ?_
           refine cT (pEq.2 h10) ?_
           refine cSeq ?_
           refine cR ?_
           refine rO 2 (.v (.int .u8 83)) ?_
           refine rE 23 ?_
           refine cRet ?_
           exact fI rfl (by have := letter_spec op; omega)
          ·skip
           refine cSeq ?_
           refine cR ?_
           refine rO 18 (vB (op == 17)) ?_
           refine rO 16 (vB (op == 17)) ?_
           refine rE 24 ?_
           refine cEq op 17 (fun h11 => ?_) (fun h11 => ?_)
           ·skip
            refine cSkip ?_
            refine cT (pEq.2 h11) ?_
            refine cSeq ?_
            refine cR ?_
            refine rO 2 (.v (.int .u8 83)) ?_
            refine rE 25 ?_
            refine cRet ?_
            exact fI rfl (by have := letter_spec op; omega)
           ·skip
            refine cR ?_
            refine rO 19 (vB (op == 18)) ?_
            refine rO 16 (vB (op == 18)) ?_
            refine rE 26 ?_
            refine cEq op 18 (fun h12 => ?_) (fun h12 => ?_)
            ·skip
             refine cSeq ?_
             refine cR ?_
             refine rO 2 (.v (.int .u8 83)) ?_
             refine rE 27 ?_
             refine cRet ?_
             exact fI rfl (by have := letter_spec op; omega)
            ·skip
             refine cSeq ?_
             refine cSeq ?_
             refine cR ?_
             refine rO 21 (vB (op == 25)) ?_
             refine rO 20 (vB (op == 25)) ?_
             refine rE 28 ?_
             refine cEq op 25 (fun h13 => ?_) (fun h13 => ?_)
             ·skip
              refine cSkip ?_
              refine cT (pEq.2 h13) ?_
              refine cSeq ?_
              refine cR ?_
              refine rO 2 (.v (.int .u8 84)) ?_
              refine rE 29 ?_
              refine cRet ?_
              exact fI rfl (by have := letter_spec op; omega)
             ·skip
              refine cSeq ?_
              refine cR ?_
              refine rO 22 (vB (op == 26)) ?_
              refine rO 20 (vB (op == 26)) ?_
              refine rE 30 ?_
              refine cEq op 26 (fun h14 => ?_) (fun h14 => ?_)
              ·skip
               refine cSkip ?_
               refine cT (pEq.2 h14) ?_
               refine cSeq ?_
               refine cR ?_
               refine rO 2 (.v (.int .u8 84)) ?_
               refine rE 31 ?_
               refine cRet ?_
               exact fI rfl (by have := letter_spec op; omega)
              ·skip
               refine cR ?_
               refine rO 23 (vB (op == 27)) ?_
               refine rO 20 (vB (op == 27)) ?_
               refine rE 32 ?_
               refine cEq op 27 (fun h15 => ?_) (fun h15 => ?_)
               ·skip
                refine cSeq ?_
                refine cR ?_
                refine rO 2 (.v (.int .u8 84)) ?_
                refine rE 33 ?_
                refine cRet ?_
                exact fI rfl (by have := letter_spec op; omega)
               ·skip
                refine cSeq ?_
                refine cSeq ?_
                refine cR ?_
                refine rO 25 (vB (op == 46)) ?_
                refine rO 24 (vB (op == 46)) ?_
                refine rE 34 ?_
                refine cEq op 46 (fun h16 => ?_) (fun h16 => ?_)
                ·skip
                 refine cSkip ?_
                 refine cT (pEq.2 h16) ?_
                 refine cSeq ?_
                 refine cR ?_
                 refine rO 2 (.v (.int .u8 87)) ?_
                 refine rE 35 ?_
                 refine cRet ?_
                 exact fI rfl (by have := letter_spec op; omega)
                ·skip
                 refine cSeq ?_
                 refine cR ?_
                 refine rO 26 (vB (op == 47)) ?_
                 refine rO 24 (vB (op == 47)) ?_
                 refine rE 36 ?_
                 refine cEq op 47 (fun h17 => ?_) (fun h17 => ?_)
                 ·skip
                  refine cSkip ?_
                  refine cT (pEq.2 h17) ?_
                  refine cSeq ?_
                  refine cR ?_
                  refine rO 2 (.v (.int .u8 87)) ?_
                  refine rE 37 ?_
                  refine cRet ?_
                  exact fI rfl (by have := letter_spec op; omega)
                 ·skip
                  refine cR ?_
                  refine rO 27 (vB (op == 48)) ?_
                  refine rO 24 (vB (op == 48)) ?_
                  refine rE 38 ?_
                  refine cEq op 48 (fun h18 => ?_) (fun h18 => ?_)
                  ·skip
                   refine cSeq ?_
                   refine cR ?_
                   refine rO 2 (.v (.int .u8 87)) ?_
                   refine rE 39 ?_
                   refine cRet ?_
                   exact fI rfl (by have := letter_spec op; omega)
                  ·skip
                   refine cSkip ?_
                   refine cSeq ?_
                   refine cSeq ?_
                   refine cR ?_
                   refine rO 28 (vI op) ?_
                   refine rO 29 (vB (op == 4)) ?_
                   refine rO 30 (vB (op == 4)) ?_
                   refine gO 31 (!(op == 4)) (vI op) ?_
                   refine gOkS (d := 32) (x := vB (decide (op ≥ 11))) (g := !(op == 4)) rfl rfl rfl rfl (fun h => h) rfl rfl ?_
                   refine gOkS (d := 33) (x := vB (decide (op ≥ 11))) (g := !(op == 4)) rfl rfl rfl rfl (fun h => h) rfl rfl ?_
                   refine gO 34 ((!(op == 4)) && (decide (op ≥ 11))) (vI op) ?_
                   refine gOkS (d := 35) (x := vB (decide (op ≤ 15))) (g := (!(op == 4)) && (decide (op ≥ 11))) rfl rfl rfl rfl (fun h => h) rfl rfl ?_
                   refine gNeedS (d := 36) (x := vB (cond2 (decide (op ≥ 11)) (decide (op ≤ 15)) false)) (g := !(op == 4)) rfl rfl rfl rfl (fun h => h) rfl rfl (fun hg hc => by first | (rw [hg, hc]; rfl) | simp_all) ?_
                   refine rNeed (d := 37) (x := vB (cond2 (op == 4) true (cond2 (decide (op ≥ 11)) (decide (op ≤ 15)) false))) rfl rfl rfl (by simp) ?_
                   refine rO 38 (vB (cond2 (op == 4) true (cond2 (decide (op ≥ 11)) (decide (op ≤ 15)) false))) ?_
                   refine gO 39 (!(cond2 (op == 4) true (cond2 (decide (op ≥ 11)) (decide (op ≤ 15)) false))) (vI op) ?_
                   refine gOkS (d := 40) (x := vB (decide (op ≥ 19))) (g := !(cond2 (op == 4) true (cond2 (decide (op ≥ 11)) (decide (op ≤ 15)) false))) rfl rfl rfl rfl (fun h => h) rfl rfl ?_
                   refine gOkS (d := 41) (x := vB (decide (op ≥ 19))) (g := !(cond2 (op == 4) true (cond2 (decide (op ≥ 11)) (decide (op ≤ 15)) false))) rfl rfl rfl rfl (fun h => h) rfl rfl ?_
                   refine gO 42 ((!(cond2 (op == 4) true (cond2 (decide (op ≥ 11)) (decide (op ≤ 15)) false))) && (decide (op ≥ 19))) (vI op) ?_
                   refine gOkS (d := 43) (x := vB (decide (op ≤ 24))) (g := (!(cond2 (op == 4) true (cond2 (decide (op ≥ 11)) (decide (op ≤ 15)) false))) && (decide (op ≥ 19))) rfl rfl rfl rfl (fun h => h) rfl rfl ?_
                   refine gNeedS (d := 44) (x := vB (cond2 (decide (op ≥ 19)) (decide (op ≤ 24)) false)) (g := !(cond2 (op == 4) true (cond2 (decide (op ≥ 11)) (decide (op ≤ 15)) false))) rfl rfl rfl rfl (fun h => h) rfl rfl (fun hg hc => by first | (rw [hg, hc]; rfl) | simp_all) ?_
                   refine rNeed (d := 45) (x := vB (cond2 (cond2 (op == 4) true (cond2 (decide (op ≥ 11)) (decide (op ≤ 15)) false)) true (cond2 (decide (op ≥ 19)) (decide (op ≤ 24)) false))) rfl rfl rfl (by simp) ?_
                   refine rE 56 ?_
                   refine cPr ((op = 4 ∨ (op ≥ 11 ∧ op ≤ 15)) ∨ (op ≥ 19 ∧ op ≤ 24)) (c2or _ _ (c2or _ _ pEq (c2and _ _ pDec pDec)) (c2and _ _ pDec pDec)) (fun h19 => ?_) (fun h19 => ?_)
                   ·skip
                    refine cSeq ?_
                    refine cR ?_
                    refine rO 2 (.v (.int .u8 73)) ?_
                    refine rE 57 ?_
                    refine cRet ?_
                    exact fI rfl (by have := letter_spec op; omega)
                   ·skip
                    refine cSkip ?_
                    refine cSeq ?_
                    refine cSeq ?_
                    refine cR ?_
                    refine rO 46 (vI op) ?_
                    refine rO 47 (vB (decide (op ≥ 28))) ?_
                    refine rO 48 (vB (decide (op ≥ 28))) ?_
                    refine gO 49 (decide (op ≥ 28)) (vI op) ?_
                    refine gOkS (d := 50) (x := vB (decide (op ≤ 45))) (g := decide (op ≥ 28)) rfl rfl rfl rfl (fun h => h) rfl rfl ?_
                    refine rNeed (d := 51) (x := vB (cond2 (decide (op ≥ 28)) (decide (op ≤ 45)) false)) rfl rfl rfl (fun h => h) ?_
                    refine rE 62 ?_
                    refine cPr (op ≥ 28 ∧ op ≤ 45) (c2and _ _ pDec pDec) (fun h20 => ?_) (fun h20 => ?_)
                    ·skip
                     refine cSeq ?_
                     refine cR ?_
                     refine rO 2 (.v (.int .u8 82)) ?_
                     refine rE 63 ?_
                     refine cRet ?_
                     exact fI rfl (by have := letter_spec op; omega)
                    ·skip
                     refine cSkip ?_
                     refine cSeq ?_
                     refine cR ?_
                     refine rO 2 (.v (.int .u8 0)) ?_
                     refine rE 63 ?_
                     refine cRet ?_
                     exact fI rfl (by have := letter_spec op; omega)
set_option maxRecDepth 100000 in
set_option maxHeartbeats 4000000 in
theorem rKind (op : Int) : DCall C0 12 [vI op] (.v (.int .i64 ((kindOf op : Nat) : Int))) := by
 refine DCall.intro c0Ok Try.func12 rfl rfl (by kernel_rfl) rfl ?_
 refine cSeq ?_
 refine cR ?_
 refine rO 2 (vI 0) ?_
 refine rE 1 ?_
 refine cSeq ?_
 refine cR ?_
 refine rO 4 (vI op) ?_
 refine rCall (args := [vI op]) (d := 5) (x := .v (.int .u8 ((letterOf op : Nat) : Int))) rfl rfl rfl rfl (.inl rfl) rfl (rForm _) ?_
 refine rO 3 (.v (.int .u8 ((letterOf op : Nat) : Int))) ?_
 refine rE 4 ?_
 refine cSeq ?_
 refine cSeq ?_
 refine cR ?_
 refine rO 6 (.v (.int .u8 ((letterOf op : Nat) : Int))) ?_
 refine rX 7 (vB ((letterOf op) == 83)) (okB (eqN _ _)) ?_
 refine rE 6 ?_
 refine cEq (letterOf op) 83 (fun h1 => ?_) (fun h1 => ?_)
 ·skip
  refine cSeq ?_
  refine cR ?_
  refine rO 2 (vI 4) ?_
  refine rE 7 ?_
  refine cRet ?_
  exact fI rfl (by have := letter_spec op; have := kind_spec op; omega)
 ·skip
  refine cSkip ?_
  refine cSeq ?_
  refine cSeq ?_
  refine cR ?_
  refine rO 8 (.v (.int .u8 ((letterOf op : Nat) : Int))) ?_
  refine rX 9 (vB ((letterOf op) == 66)) (okB (eqN _ _)) ?_
  refine rO 10 (vB ((letterOf op) == 66)) ?_
  refine gO 11 (!((letterOf op) == 66)) (.v (.int .u8 ((letterOf op : Nat) : Int))) ?_
  refine gOkS (d := 12) (x := vB ((letterOf op) == 74)) (g := !((letterOf op) == 66)) rfl rfl rfl rfl (fun h => h) rfl (okB (eqN _ _)) ?_
  refine rNeed (d := 13) (x := vB (cond2 ((letterOf op) == 66) true ((letterOf op) == 74))) rfl rfl rfl (by simp) ?_
  refine rO 14 (vB (cond2 ((letterOf op) == 66) true ((letterOf op) == 74))) ?_
  refine gO 15 (!(cond2 ((letterOf op) == 66) true ((letterOf op) == 74))) (vI op) ?_
  refine gOkS (d := 16) (x := vB (op == 4)) (g := !(cond2 ((letterOf op) == 66) true ((letterOf op) == 74))) rfl rfl rfl rfl (fun h => h) rfl rfl ?_
  refine rNeed (d := 17) (x := vB (cond2 (cond2 ((letterOf op) == 66) true ((letterOf op) == 74)) true (op == 4))) rfl rfl rfl (by simp) ?_
  refine rE 16 ?_
  refine cPr (((letterOf op) = 66 ∨ (letterOf op) = 74) ∨ op = 4) (c2or _ _ (c2or _ _ pEq pEq) pEq) (fun h2 => ?_) (fun h2 => ?_)
  ·skip
   refine cSeq ?_
   refine cR ?_
   refine rO 2 (vI 5) ?_
   refine rE 17 ?_
   refine cRet ?_
   exact fI rfl (by have := letter_spec op; have := kind_spec op; omega)
  ·skip
   refine cSkip ?_
   refine cSeq ?_
   refine cSeq ?_
   refine cR ?_
   refine rO 18 (vI op) ?_
   refine rO 19 (vB (decide (op ≥ 11))) ?_
   refine rO 20 (vB (decide (op ≥ 11))) ?_
   refine gO 21 (decide (op ≥ 11)) (vI op) ?_
   refine gOkS (d := 22) (x := vB (decide (op ≤ 15))) (g := decide (op ≥ 11)) rfl rfl rfl rfl (fun h => h) rfl rfl ?_
   refine rNeed (d := 23) (x := vB (cond2 (decide (op ≥ 11)) (decide (op ≤ 15)) false)) rfl rfl rfl (fun h => h) ?_
   refine rE 22 ?_
   refine cPr (op ≥ 11 ∧ op ≤ 15) (c2and _ _ pDec pDec) (fun h3 => ?_) (fun h3 => ?_)
   ·skip
    refine cSeq ?_
    refine cR ?_
    refine rO 2 (vI 3) ?_
    refine rE 23 ?_
    refine cRet ?_
    exact fI rfl (by have := letter_spec op; have := kind_spec op; omega)
   ·skip
    refine cSkip ?_
    refine cSeq ?_
    refine cSeq ?_
    refine cR ?_
    refine rO 24 (vI op) ?_
    refine rO 25 (vB (decide (op ≥ 38))) ?_
    refine rO 26 (vB (decide (op ≥ 38))) ?_
    refine gO 27 (decide (op ≥ 38)) (vI op) ?_
    refine gOkS (d := 28) (x := vB (decide (op ≤ 41))) (g := decide (op ≥ 38)) rfl rfl rfl rfl (fun h => h) rfl rfl ?_
    refine rNeed (d := 29) (x := vB (cond2 (decide (op ≥ 38)) (decide (op ≤ 41)) false)) rfl rfl rfl (fun h => h) ?_
    refine rE 28 ?_
    refine cPr (op ≥ 38 ∧ op ≤ 41) (c2and _ _ pDec pDec) (fun h4 => ?_) (fun h4 => ?_)
    ·skip
     refine cSeq ?_
     refine cR ?_
     refine rO 2 (vI 1) ?_
     refine rE 29 ?_
     refine cRet ?_
     exact fI rfl (by have := letter_spec op; have := kind_spec op; omega)
    ·skip
     refine cSkip ?_
     refine cSeq ?_
     refine cSeq ?_
     refine cR ?_
     refine rO 30 (vI op) ?_
     refine rO 31 (vB (decide (op ≥ 42))) ?_
     refine rO 32 (vB (decide (op ≥ 42))) ?_
     refine gO 33 (decide (op ≥ 42)) (vI op) ?_
     refine gOkS (d := 34) (x := vB (decide (op ≤ 45))) (g := decide (op ≥ 42)) rfl rfl rfl rfl (fun h => h) rfl rfl ?_
     refine rNeed (d := 35) (x := vB (cond2 (decide (op ≥ 42)) (decide (op ≤ 45)) false)) rfl rfl rfl (fun h => h) ?_
     refine rE 34 ?_
     refine cPr (op ≥ 42 ∧ op ≤ 45) (c2and _ _ pDec pDec) (fun h5 => ?_) (fun h5 => ?_)
     ·skip
      refine cSeq ?_
      refine cR ?_
      refine rO 2 (vI 2) ?_
      refine rE 35 ?_
      refine cRet ?_
      exact fI rfl (by have := letter_spec op; have := kind_spec op; omega)
     ·skip
      refine cSkip ?_
      refine cSeq ?_
      refine cSeq ?_
      refine cR ?_
      refine rO 36 (vI op) ?_
      refine rO 37 (vB (op == 47)) ?_
      refine rO 38 (vB (op == 47)) ?_
      refine gO 39 (!(op == 47)) (vI op) ?_
      refine gOkS (d := 40) (x := vB (op == 48)) (g := !(op == 47)) rfl rfl rfl rfl (fun h => h) rfl rfl ?_
      refine rNeed (d := 41) (x := vB (cond2 (op == 47) true (op == 48))) rfl rfl rfl (by simp) ?_
      refine rE 40 ?_
      refine cPr (op = 47 ∨ op = 48) (c2or _ _ pEq pEq) (fun h6 => ?_) (fun h6 => ?_)
      ·skip
       refine cSeq ?_
       refine cR ?_
       refine rO 2 (vI 6) ?_
       refine rE 41 ?_
       refine cRet ?_
       exact fI rfl (by have := letter_spec op; have := kind_spec op; omega)
      ·skip
       refine cSkip ?_
       refine cSeq ?_
       refine cR ?_
       refine rO 2 (vI 0) ?_
       refine rE 41 ?_
       refine cRet ?_
       exact fI rfl (by have := letter_spec op; have := kind_spec op; omega)
set_option maxRecDepth 100000 in
set_option maxHeartbeats 4000000 in
theorem rWrites (i : SI) : DCall C0 42 [siA i] (.v (.int .i64 (wr i))) := by
 refine DCall.intro c0Ok Try.func42 rfl rfl (by kernel_rfl) rfl ?_
 refine cSeq ?_
 refine cR ?_
 refine rF 1 (.ptr 0 0) (upd _ 0 (some (.box [vI i.op, vI i.rd, vI i.rs1, vI i.rs2, vU i.imm]))) ?_
 refine rO 2 (vI 0) ?_
 refine rE 2 ?_
 refine cSeq ?_
 refine cSeq ?_
 refine cR ?_
 refine rO 3 (.ptr 0 0) ?_
 refine rO 4 (vI i.op) ?_
 refine rCall (args := [vI i.op]) (d := 5) (x := .v (.int .u8 ((letterOf i.op : Nat) : Int))) rfl rfl rfl rfl (.inl rfl) rfl (rForm _) ?_
 refine rE 5 ?_
 refine cBlock ?_
 refine cSeq ?_
 refine cSeq ?_
 refine cR ?_
 refine rX 7 (vB ((letterOf i.op) == 82)) (okB (eqN _ _)) ?_
 refine rO 6 (vB ((letterOf i.op) == 82)) ?_
 refine rE 7 ?_
 refine cEq (letterOf i.op) 82 (fun h1 => ?_) (fun h1 => ?_)
 ·skip
  refine cSkip ?_
  refine cT (pEq.2 h1) ?_
  refine cSeq ?_
  refine cR ?_
  refine rO 12 (.ptr 0 1) ?_
  refine rO 13 (vI i.rd) ?_
  refine rO 2 (vI i.rd) ?_
  refine rE 10 ?_
  refine cRet ?_
  exact fI rfl (by have := wr_spec i; omega)
 ·skip
  refine cSeq ?_
  refine cR ?_
  refine rX 8 (vB ((letterOf i.op) == 73)) (okB (eqN _ _)) ?_
  refine rO 6 (vB ((letterOf i.op) == 73)) ?_
  refine rE 9 ?_
  refine cEq (letterOf i.op) 73 (fun h2 => ?_) (fun h2 => ?_)
  ·skip
   refine cSkip ?_
   refine cT (pEq.2 h2) ?_
   refine cSeq ?_
   refine cR ?_
   refine rO 12 (.ptr 0 1) ?_
   refine rO 13 (vI i.rd) ?_
   refine rO 2 (vI i.rd) ?_
   refine rE 12 ?_
   refine cRet ?_
   exact fI rfl (by have := wr_spec i; omega)
  ·skip
   refine cSeq ?_
   refine cR ?_
   refine rX 9 (vB ((letterOf i.op) == 84)) (okB (eqN _ _)) ?_
   refine rO 6 (vB ((letterOf i.op) == 84)) ?_
   refine rE 11 ?_
   refine cEq (letterOf i.op) 84 (fun h3 => ?_) (fun h3 => ?_)
   ·skip
    refine cSkip ?_
    refine cT (pEq.2 h3) ?_
    refine cSeq ?_
    refine cR ?_
    refine rO 12 (.ptr 0 1) ?_
    refine rO 13 (vI i.rd) ?_
    refine rO 2 (vI i.rd) ?_
    refine rE 14 ?_
    refine cRet ?_
    exact fI rfl (by have := wr_spec i; omega)
   ·skip
    refine cSeq ?_
    refine cR ?_
    refine rX 10 (vB ((letterOf i.op) == 85)) (okB (eqN _ _)) ?_
    refine rO 6 (vB ((letterOf i.op) == 85)) ?_
    refine rE 13 ?_
    refine cEq (letterOf i.op) 85 (fun h4 => ?_) (fun h4 => ?_)
    ·skip
     refine cSkip ?_
     refine cT (pEq.2 h4) ?_
     refine cSeq ?_
     refine cR ?_
     refine rO 12 (.ptr 0 1) ?_
     refine rO 13 (vI i.rd) ?_
     refine rO 2 (vI i.rd) ?_
     refine rE 16 ?_
     refine cRet ?_
     exact fI rfl (by have := wr_spec i; omega)
    ·skip
     refine cR ?_
     refine rX 11 (vB ((letterOf i.op) == 74)) (okB (eqN _ _)) ?_
     refine rO 6 (vB ((letterOf i.op) == 74)) ?_
     refine rE 15 ?_
     refine cEq (letterOf i.op) 74 (fun h5 => ?_) (fun h5 => ?_)
     ·skip
      refine cSeq ?_
      refine cR ?_
      refine rO 12 (.ptr 0 1) ?_
      refine rO 13 (vI i.rd) ?_
      refine rO 2 (vI i.rd) ?_
      refine rE 18 ?_
      refine cRet ?_
      exact fI rfl (by have := wr_spec i; omega)
     ·skip
      refine cSkip ?_
      refine cSeq ?_
      refine cR ?_
      refine rO 2 (vI 0) ?_
      refine rE 16 ?_
      refine cRet ?_
      exact fI rfl (by have := wr_spec i; omega)
set_option maxRecDepth 100000 in
set_option maxHeartbeats 4000000 in
theorem rOne (is : Bool) : DCall C0 107 [vB is] (.v (.int .u32 (((if is = true then 1 else 0 : Nat)) : Int))) := by
 refine DCall.intro c0Ok Try.func107 rfl rfl (by kernel_rfl) rfl ?_
 refine cSeq ?_
 refine cR ?_
 refine rO 2 (.v (.int .u32 0)) ?_
 refine rE 1 ?_
 refine cSeq ?_
 refine cSeq ?_
 refine cR ?_
 refine rO 3 (vB is) ?_
 refine rE 2 ?_
 refine cPr (is = true) Iff.rfl (fun h1 => ?_) (fun h1 => ?_)
 ·skip
  refine cSeq ?_
  refine cR ?_
  refine rO 2 (.v (.int .u32 1)) ?_
  refine rE 3 ?_
  refine cRet ?_
  exact fI rfl (by rw [if_pos h1]; rfl)
 ·skip
  refine cSkip ?_
  refine cSeq ?_
  refine cR ?_
  refine rO 2 (.v (.int .u32 0)) ?_
  refine rE 3 ?_
  refine cRet ?_
  exact fI rfl (by rw [if_neg h1]; rfl)
set_option maxRecDepth 100000 in
set_option maxHeartbeats 4000000 in
theorem rTaken (op : Int) (a b : Nat) (ha : a ≤ 4294967295) (hb : b ≤ 4294967295) : DCall C0 82 [vI op, vU a, vU b] (.v (.bool (takenP op a b))) := by
 refine DCall.intro c0Ok Try.func82 rfl rfl (by kernel_rfl) rfl ?_
 refine cSeq ?_
 refine cR ?_
 refine rO 6 (vB false) ?_
 refine rE 1 ?_
 refine cSeq ?_
 refine cSeq ?_
 refine cR ?_
 refine rO 7 (vI op) ?_
 refine rE 2 ?_
 refine cBlock ?_
 refine cSeq ?_
 refine cR ?_
 refine rO 9 (vB (op == 5)) ?_
 refine rO 8 (vB (op == 5)) ?_
 refine rE 4 ?_
 refine cEq op 5 (fun h1 => ?_) (fun h1 => ?_)
 ·skip
  refine cSeq ?_
  refine cR ?_
  refine rO 10 (vU a) ?_
  refine rO 11 (vU b) ?_
  refine rX 12 (vB (a == b)) (okB (eqN _ _)) ?_
  refine rO 6 (vB (a == b)) ?_
  refine rE 8 ?_
  refine cRet ?_
  exact fB rfl (by unfold takenP; (repeat' split) <;> first | rfl | (exfalso; omega) | (rw [Bool.eq_iff_iff]; simp; done) | (rw [Bool.eq_iff_iff]; simp; omega))
 ·skip
  refine cSeq ?_
  refine cR ?_
  refine rO 14 (vB (op == 6)) ?_
  refine rO 13 (vB (op == 6)) ?_
  refine rE 6 ?_
  refine cEq op 6 (fun h2 => ?_) (fun h2 => ?_)
  ·skip
   refine cSeq ?_
   refine cR ?_
   refine rO 15 (vU a) ?_
   refine rO 16 (vU b) ?_
   refine rX 17 (vB (a == b)) (okB (eqN _ _)) ?_
   refine rO 18 (vB (!(a == b))) ?_
   refine rO 6 (vB (!(a == b))) ?_
   refine rE 11 ?_
   refine cRet ?_
   exact fB rfl (by unfold takenP; (repeat' split) <;> first | rfl | (exfalso; omega) | (rw [Bool.eq_iff_iff]; simp; done) | (rw [Bool.eq_iff_iff]; simp; omega))
  ·skip
   refine cSeq ?_
   refine cR ?_
   refine rO 20 (vB (op == 7)) ?_
   refine rO 19 (vB (op == 7)) ?_
   refine rE 8 ?_
   refine cEq op 7 (fun h3 => ?_) (fun h3 => ?_)
   ·skip
    refine cSeq ?_
    refine cR ?_
    refine rO 21 (vU a) ?_
    refine rCall (args := [vU a]) (d := 22) (x := vI (sgn a)) rfl rfl rfl rfl (.inl rfl) rfl (dSigned a ha) ?_
    refine rO 23 (vU b) ?_
    refine rCall (args := [vU b]) (d := 24) (x := vI (sgn b)) rfl rfl rfl rfl (.inl rfl) rfl (dSigned b hb) ?_
    refine rO 25 (vB (decide ((sgn a) < (sgn b)))) ?_
    refine rO 6 (vB (decide ((sgn a) < (sgn b)))) ?_
    refine rE 14 ?_
    refine cRet ?_
    exact fB rfl (by unfold takenP; (repeat' split) <;> first | rfl | (exfalso; omega) | (rw [Bool.eq_iff_iff]; simp; done) | (rw [Bool.eq_iff_iff]; simp; omega))
   ·skip
    refine cSeq ?_
    refine cR ?_
    refine rO 27 (vB (op == 8)) ?_
    refine rO 26 (vB (op == 8)) ?_
    refine rE 10 ?_
    refine cEq op 8 (fun h4 => ?_) (fun h4 => ?_)
    ·skip
     refine cSeq ?_
     refine cR ?_
     refine rO 28 (vU a) ?_
     refine rCall (args := [vU a]) (d := 29) (x := vI (sgn a)) rfl rfl rfl rfl (.inl rfl) rfl (dSigned a ha) ?_
     refine rO 30 (vU b) ?_
     refine rCall (args := [vU b]) (d := 31) (x := vI (sgn b)) rfl rfl rfl rfl (.inl rfl) rfl (dSigned b hb) ?_
     refine rO 32 (vB (decide ((sgn a) < (sgn b)))) ?_
     refine rO 33 (vB (!(decide ((sgn a) < (sgn b))))) ?_
     refine rO 6 (vB (!(decide ((sgn a) < (sgn b))))) ?_
     refine rE 17 ?_
     refine cRet ?_
     exact fB rfl (by unfold takenP; (repeat' split) <;> first | rfl | (exfalso; omega) | (rw [Bool.eq_iff_iff]; simp; done) | (rw [Bool.eq_iff_iff]; simp; omega))
    ·skip
     refine cSeq ?_
     refine cR ?_
     refine rO 35 (vB (op == 9)) ?_
     refine rO 34 (vB (op == 9)) ?_
     refine rE 12 ?_
     refine cEq op 9 (fun h5 => ?_) (fun h5 => ?_)
     ·skip
      refine cSeq ?_
      refine cR ?_
      refine rO 36 (vU a) ?_
      refine rO 37 (vU b) ?_
      refine rX 38 (vB (decide (a < b))) (okB (ltN _ _)) ?_
      refine rO 6 (vB (decide (a < b))) ?_
      refine rE 16 ?_
      refine cRet ?_
      exact fB rfl (by unfold takenP; (repeat' split) <;> first | rfl | (exfalso; omega) | (rw [Bool.eq_iff_iff]; simp; done) | (rw [Bool.eq_iff_iff]; simp; omega))
     ·skip
      refine cSeq ?_
      refine cR ?_
      refine rO 40 (vB (op == 10)) ?_
      refine rO 39 (vB (op == 10)) ?_
      refine rE 14 ?_
      refine cEq op 10 (fun h6 => ?_) (fun h6 => ?_)
      ·skip
       refine cSeq ?_
       refine cR ?_
       refine rO 41 (vU a) ?_
       refine rO 42 (vU b) ?_
       refine rX 43 (vB (decide (a < b))) (okB (ltN _ _)) ?_
       refine rO 44 (vB (!(decide (a < b)))) ?_
       refine rO 6 (vB (!(decide (a < b)))) ?_
       refine rE 19 ?_
       refine cRet ?_
       exact fB rfl (by unfold takenP; (repeat' split) <;> first | rfl | (exfalso; omega) | (rw [Bool.eq_iff_iff]; simp; done) | (rw [Bool.eq_iff_iff]; simp; omega))
      ·skip
       refine cSkip ?_
       refine cSeq ?_
       refine cR ?_
       refine rO 6 (vB false) ?_
       refine rE 15 ?_
       refine cRet ?_
       exact fB rfl (by unfold takenP; (repeat' split) <;> first | rfl | (exfalso; omega) | (rw [Bool.eq_iff_iff]; simp; done) | (rw [Bool.eq_iff_iff]; simp; omega))
theorem mulh_ss (a b : Nat) (ha : a ≤ 4294967295) (hb : b ≤ 4294967295) : sgn a * sgn b = ((a * b : Nat) : Int) - 4294967296 * ((if a ≥ 2147483648 then (b : Int) else 0) + (if b ≥ 2147483648 then (a : Int) else 0)) + (if a ≥ 2147483648 ∧ b ≥ 2147483648 then 18446744073709551616 else 0) := by
 have e : ((a * b : Nat) : Int) = (a : Int) * b := Int.natCast_mul a b
 rw [e]
 unfold sgn
 have h1 : ((a : Int) - 4294967296) * b = a * b - 4294967296 * b := Int.sub_mul ..
 have h2 : (a : Int) * (b - 4294967296) = a * b - a * 4294967296 := Int.mul_sub ..
 have h3 : ((a : Int) - 4294967296) * (b - 4294967296) = a * b - 4294967296 * b - (a * 4294967296 - 18446744073709551616) := by rw [Int.mul_sub, Int.sub_mul, Int.sub_mul]; omega
 (repeat' split) <;> first | (exfalso; omega) | (simp only [h1, h2, h3]; omega) | omega
theorem mulh_su (a b : Nat) (ha : a ≤ 4294967295) (hb : b ≤ 4294967295) : sgn a * b = ((a * b : Nat) : Int) - 4294967296 * (if a ≥ 2147483648 then (b : Int) else 0) := by
 have e : ((a * b : Nat) : Int) = (a : Int) * b := Int.natCast_mul a b
 rw [e]
 unfold sgn
 have h1 : ((a : Int) - 4294967296) * b = a * b - 4294967296 * b := Int.sub_mul ..
 (repeat' split) <;> first | (exfalso; omega) | (simp only [h1]; omega) | omega

theorem mulE (a b : Nat) (ha : a ≤ 4294967295) (hb : b ≤ 4294967295) (op : Int) (x : Int) (h : (op = 38 ∧ x = ((a * b % 4294967296 : Nat) : Int)) ∨ (op = 39 ∧ x = (((a * b / 4294967296 : Nat) : Int) - (if a ≥ 2147483648 then (b : Int) else 0) - (if b ≥ 2147483648 then (a : Int) else 0)) % 4294967296) ∨ (op = 40 ∧ x = (((a * b / 4294967296 : Nat) : Int) - (if a ≥ 2147483648 then (b : Int) else 0)) % 4294967296) ∨
  (op = 41 ∧ x = ((a * b / 4294967296 : Nat) : Int)) ∨ (¬ op = 38 ∧ ¬ op = 39 ∧ ¬ op = 40 ∧ ¬ op = 41 ∧ x = 0)) : x = ((mulP op a b : Nat) : Int) := by
 have hle : a * b ≤ 4294967295 * 4294967295 := Nat.mul_le_mul ha hb
 unfold mulP wordOf
 rw [mulh_ss a b ha hb, mulh_su a b ha hb]
 generalize a * b = p at *
 (repeat' split at h) <;> (repeat' split) <;> omega

set_option maxRecDepth 100000 in
set_option maxHeartbeats 4000000 in
theorem rMul (op : Int) (a b : Nat) (ha : a ≤ 4294967295) (hb : b ≤ 4294967295) : DCall C0 79 [vI op, vU a, vU b] (.v (.int .u32 ((mulP op a b : Nat) : Int))) := by
 refine DCall.intro c0Ok Try.func79 rfl rfl (by kernel_rfl) rfl ?_
 have hhi : a * b / 4294967296 ≤ 4294967295 := by have := Nat.mul_le_mul ha hb; omega
 refine cSeq ?_
 refine cR ?_
 refine rO 6 (.v (.int .u32 0)) ?_
 refine rE 1 ?_
 refine cSeq ?_
 refine cR ?_
 refine rO 8 (vU a) ?_
 refine rO 9 (vU b) ?_
 refine rCall (args := [vU a, vU b]) (d := 10) (x := vU (a * b / 4294967296)) rfl rfl rfl rfl (.inl rfl) rfl (dHigh a b ha hb) ?_
 refine rO 7 (vU (a * b / 4294967296)) ?_
 refine rE 5 ?_
 refine cSeq ?_
 refine cSeq ?_
 refine cR ?_
 refine rO 11 (vI op) ?_
 refine rO 12 (vB (op == 39)) ?_
 refine rO 13 (vB (op == 39)) ?_
 refine gO 14 (!(op == 39)) (vI op) ?_
 refine gOkS (d := 15) (x := vB (op == 40)) (g := !(op == 39)) rfl rfl rfl rfl (fun h => h) rfl rfl ?_
 refine rNeed (d := 16) (x := vB (cond2 (op == 39) true (op == 40))) rfl rfl rfl (by simp) ?_
 refine rO 17 (vB (cond2 (op == 39) true (op == 40))) ?_
 refine gO 18 (cond2 (op == 39) true (op == 40)) (vU a) ?_
 refine gOkS (d := 19) (x := vB (decide (a ≥ 2147483648))) (g := cond2 (op == 39) true (op == 40)) rfl rfl rfl rfl (fun h => h) rfl (okB (geN _ _)) ?_
 refine rNeed (d := 20) (x := vB (cond2 (cond2 (op == 39) true (op == 40)) (decide (a ≥ 2147483648)) false)) rfl rfl rfl (fun h => h) ?_
 refine rE 15 ?_
 refine cPr ((op = 39 ∨ op = 40) ∧ a ≥ 2147483648) (c2and _ _ (c2or _ _ pEq pEq) pDec) (fun h1 => ?_) (fun h1 => ?_)
 ·skip
  refine cR ?_
  refine rO 21 (vU (a * b / 4294967296)) ?_
  refine rO 22 (vU b) ?_
  have b1 : ((a * b / 4294967296) + 4294967296 - b) % 4294967296 ≤ 4294967295 := Nat.le_of_lt_succ (Nat.mod_lt _ (by decide))
  refine rX 23 (vU (((a * b / 4294967296) + 4294967296 - b) % 4294967296)) (okI (subI32 hb rfl)) ?_
  refine rO 7 (vU (((a * b / 4294967296) + 4294967296 - b) % 4294967296)) ?_
  refine rE 19 ?_
  refine cSeq ?_
  refine cSeq ?_
  refine cR ?_
  refine rO 24 (vI op) ?_
  refine rO 25 (vB (op == 39)) ?_
  refine rO 26 (vB (op == 39)) ?_
  refine gO 27 (op == 39) (vU b) ?_
  refine gOkS (d := 28) (x := vB (decide (b ≥ 2147483648))) (g := op == 39) rfl rfl rfl rfl (fun h => h) rfl (okB (geN _ _)) ?_
  refine rNeed (d := 29) (x := vB (cond2 (op == 39) (decide (b ≥ 2147483648)) false)) rfl rfl rfl (fun h => h) ?_
  refine rE 25 ?_
  refine cPr (op = 39 ∧ b ≥ 2147483648) (c2and _ _ pEq pDec) (fun h2 => ?_) (fun h2 => ?_)
  ·skip
   refine cR ?_
   refine rO 30 (vU (((a * b / 4294967296) + 4294967296 - b) % 4294967296)) ?_
   refine rO 31 (vU a) ?_
   have b2 : ((((a * b / 4294967296) + 4294967296 - b) % 4294967296) + 4294967296 - a) % 4294967296 ≤ 4294967295 := Nat.le_of_lt_succ (Nat.mod_lt _ (by decide))
   refine rX 32 (vU (((((a * b / 4294967296) + 4294967296 - b) % 4294967296) + 4294967296 - a) % 4294967296)) (okI (subI32 ha rfl)) ?_
   refine rO 7 (vU (((((a * b / 4294967296) + 4294967296 - b) % 4294967296) + 4294967296 - a) % 4294967296)) ?_
   refine rE 29 ?_
   refine cSeq ?_
   refine cSeq ?_
   refine cR ?_
   refine rO 33 (vI op) ?_
   refine rO 34 (vB (op == 39)) ?_
   refine rO 35 (vB (op == 39)) ?_
   refine gO 36 (!(op == 39)) (vI op) ?_
   refine gOkS (d := 37) (x := vB (op == 40)) (g := !(op == 39)) rfl rfl rfl rfl (fun h => h) rfl rfl ?_
   refine rNeed (d := 38) (x := vB (cond2 (op == 39) true (op == 40))) rfl rfl rfl (by simp) ?_
   refine rO 39 (vB (cond2 (op == 39) true (op == 40))) ?_
   refine gO 40 (!(cond2 (op == 39) true (op == 40))) (vI op) ?_
   refine gOkS (d := 41) (x := vB (op == 41)) (g := !(cond2 (op == 39) true (op == 40))) rfl rfl rfl rfl (fun h => h) rfl rfl ?_
   refine rNeed (d := 42) (x := vB (cond2 (cond2 (op == 39) true (op == 40)) true (op == 41))) rfl rfl rfl (by simp) ?_
   refine rE 39 ?_
   refine cPr ((op = 39 ∨ op = 40) ∨ op = 41) (c2or _ _ (c2or _ _ pEq pEq) pEq) (fun h3 => ?_) (fun h3 => absurd h3 (by omega))
   refine cSeq ?_
   refine cR ?_
   refine rO 43 (vU (((((a * b / 4294967296) + 4294967296 - b) % 4294967296) + 4294967296 - a) % 4294967296)) ?_
   refine rO 6 (vU (((((a * b / 4294967296) + 4294967296 - b) % 4294967296) + 4294967296 - a) % 4294967296)) ?_
   refine rE 41 ?_
   refine cRet ?_
   exact fI rfl (mulE a b ha hb op _ (by omega))
  ·skip
   refine cSkip ?_
   refine cSeq ?_
   refine cSeq ?_
   refine cR ?_
   refine rO 33 (vI op) ?_
   refine rO 34 (vB (op == 39)) ?_
   refine rO 35 (vB (op == 39)) ?_
   refine gO 36 (!(op == 39)) (vI op) ?_
   refine gOkS (d := 37) (x := vB (op == 40)) (g := !(op == 39)) rfl rfl rfl rfl (fun h => h) rfl rfl ?_
   refine rNeed (d := 38) (x := vB (cond2 (op == 39) true (op == 40))) rfl rfl rfl (by simp) ?_
   refine rO 39 (vB (cond2 (op == 39) true (op == 40))) ?_
   refine gO 40 (!(cond2 (op == 39) true (op == 40))) (vI op) ?_
   refine gOkS (d := 41) (x := vB (op == 41)) (g := !(cond2 (op == 39) true (op == 40))) rfl rfl rfl rfl (fun h => h) rfl rfl ?_
   refine rNeed (d := 42) (x := vB (cond2 (cond2 (op == 39) true (op == 40)) true (op == 41))) rfl rfl rfl (by simp) ?_
   refine rE 35 ?_
   refine cPr ((op = 39 ∨ op = 40) ∨ op = 41) (c2or _ _ (c2or _ _ pEq pEq) pEq) (fun h4 => ?_) (fun h4 => absurd h4 (by omega))
   refine cSeq ?_
   refine cR ?_
   refine rO 43 (vU (((a * b / 4294967296) + 4294967296 - b) % 4294967296)) ?_
   refine rO 6 (vU (((a * b / 4294967296) + 4294967296 - b) % 4294967296)) ?_
   refine rE 37 ?_
   refine cRet ?_
   exact fI rfl (mulE a b ha hb op _ (by omega))
 ·skip
  refine cSkip ?_
  refine cSeq ?_
  refine cSeq ?_
  refine cR ?_
  refine rO 24 (vI op) ?_
  refine rO 25 (vB (op == 39)) ?_
  refine rO 26 (vB (op == 39)) ?_
  refine gO 27 (op == 39) (vU b) ?_
  refine gOkS (d := 28) (x := vB (decide (b ≥ 2147483648))) (g := op == 39) rfl rfl rfl rfl (fun h => h) rfl (okB (geN _ _)) ?_
  refine rNeed (d := 29) (x := vB (cond2 (op == 39) (decide (b ≥ 2147483648)) false)) rfl rfl rfl (fun h => h) ?_
  refine rE 21 ?_
  refine cPr (op = 39 ∧ b ≥ 2147483648) (c2and _ _ pEq pDec) (fun h5 => ?_) (fun h5 => ?_)
  ·skip
   refine cR ?_
   refine rO 30 (vU (a * b / 4294967296)) ?_
   refine rO 31 (vU a) ?_
   have b3 : ((a * b / 4294967296) + 4294967296 - a) % 4294967296 ≤ 4294967295 := Nat.le_of_lt_succ (Nat.mod_lt _ (by decide))
   refine rX 32 (vU (((a * b / 4294967296) + 4294967296 - a) % 4294967296)) (okI (subI32 ha rfl)) ?_
   refine rO 7 (vU (((a * b / 4294967296) + 4294967296 - a) % 4294967296)) ?_
   refine rE 25 ?_
   refine cSeq ?_
   refine cSeq ?_
   refine cR ?_
   refine rO 33 (vI op) ?_
   refine rO 34 (vB (op == 39)) ?_
   refine rO 35 (vB (op == 39)) ?_
   refine gO 36 (!(op == 39)) (vI op) ?_
   refine gOkS (d := 37) (x := vB (op == 40)) (g := !(op == 39)) rfl rfl rfl rfl (fun h => h) rfl rfl ?_
   refine rNeed (d := 38) (x := vB (cond2 (op == 39) true (op == 40))) rfl rfl rfl (by simp) ?_
   refine rO 39 (vB (cond2 (op == 39) true (op == 40))) ?_
   refine gO 40 (!(cond2 (op == 39) true (op == 40))) (vI op) ?_
   refine gOkS (d := 41) (x := vB (op == 41)) (g := !(cond2 (op == 39) true (op == 40))) rfl rfl rfl rfl (fun h => h) rfl rfl ?_
   refine rNeed (d := 42) (x := vB (cond2 (cond2 (op == 39) true (op == 40)) true (op == 41))) rfl rfl rfl (by simp) ?_
   refine rE 35 ?_
   refine cPr ((op = 39 ∨ op = 40) ∨ op = 41) (c2or _ _ (c2or _ _ pEq pEq) pEq) (fun h6 => ?_) (fun h6 => absurd h6 (by omega))
   refine cSeq ?_
   refine cR ?_
   refine rO 43 (vU (((a * b / 4294967296) + 4294967296 - a) % 4294967296)) ?_
   refine rO 6 (vU (((a * b / 4294967296) + 4294967296 - a) % 4294967296)) ?_
   refine rE 37 ?_
   refine cRet ?_
   exact fI rfl (mulE a b ha hb op _ (by omega))
  ·skip
   refine cSkip ?_
   refine cSeq ?_
   refine cSeq ?_
   refine cR ?_
   refine rO 33 (vI op) ?_
   refine rO 34 (vB (op == 39)) ?_
   refine rO 35 (vB (op == 39)) ?_
   refine gO 36 (!(op == 39)) (vI op) ?_
   refine gOkS (d := 37) (x := vB (op == 40)) (g := !(op == 39)) rfl rfl rfl rfl (fun h => h) rfl rfl ?_
   refine rNeed (d := 38) (x := vB (cond2 (op == 39) true (op == 40))) rfl rfl rfl (by simp) ?_
   refine rO 39 (vB (cond2 (op == 39) true (op == 40))) ?_
   refine gO 40 (!(cond2 (op == 39) true (op == 40))) (vI op) ?_
   refine gOkS (d := 41) (x := vB (op == 41)) (g := !(cond2 (op == 39) true (op == 40))) rfl rfl rfl rfl (fun h => h) rfl rfl ?_
   refine rNeed (d := 42) (x := vB (cond2 (cond2 (op == 39) true (op == 40)) true (op == 41))) rfl rfl rfl (by simp) ?_
   refine rE 31 ?_
   refine cPr ((op = 39 ∨ op = 40) ∨ op = 41) (c2or _ _ (c2or _ _ pEq pEq) pEq) (fun h7 => ?_) (fun h7 => ?_)
   ·skip
    refine cSeq ?_
    refine cR ?_
    refine rO 43 (vU (a * b / 4294967296)) ?_
    refine rO 6 (vU (a * b / 4294967296)) ?_
    refine rE 33 ?_
    refine cRet ?_
    exact fI rfl (mulE a b ha hb op _ (by omega))
   ·skip
    refine cSkip ?_
    refine cSeq ?_
    refine cSeq ?_
    refine cR ?_
    refine rO 44 (vI op) ?_
    refine rO 45 (vB (op == 38)) ?_
    refine rE 33 ?_
    refine cEq op 38 (fun h8 => ?_) (fun h8 => ?_)
    ·skip
     refine cSeq ?_
     refine cR ?_
     refine rO 46 (vU a) ?_
     refine rX 47 (.v (.int .u64 ((a : Nat) : Int))) (okI (modI ha rfl)) ?_
     refine rO 48 (vU b) ?_
     refine rX 49 (.v (.int .u64 ((b : Nat) : Int))) (okI (modI hb rfl)) ?_
     have b4 : a * b ≤ 18446744065119617025 := Nat.mul_le_mul ha hb
     refine rX 50 (.v (.int .u64 ((a * b : Nat) : Int))) (okI (modI b4 rfl)) ?_
     have b5 : (a * b) % 4294967296 ≤ 4294967295 := Nat.le_of_lt_succ (Nat.mod_lt _ (by decide))
     refine rNeed (d := 51) (x := .v (.int .u64 (((a * b) % 4294967296 : Nat) : Int))) rfl rfl rfl (by decide) ?_
     refine rX 52 (vU ((a * b) % 4294967296)) (okI (modI b5 rfl)) ?_
     refine rO 6 (vU ((a * b) % 4294967296)) ?_
     refine rE 41 ?_
     refine cRet ?_
     exact fI rfl (mulE a b ha hb op _ (by omega))
    ·skip
     refine cSkip ?_
     refine cSeq ?_
     refine cR ?_
     refine rO 6 (.v (.int .u32 0)) ?_
     refine rE 34 ?_
     refine cRet ?_
     exact fI rfl (mulE a b ha hb op _ (by omega))
set_option maxRecDepth 100000 in
set_option maxHeartbeats 4000000 in
theorem rNext (i : SI) (pc a b : Nat) (hi : i.imm ≤ 4294967295) (hpc : pc ≤ 4294967295) (ha : a ≤ 4294967295) (hb : b ≤ 4294967295) : DCall C0 49 [siA i, .v (.int .u32 ((pc : Nat) : Int)), .v (.int .u32 ((a : Nat) : Int)), .v (.int .u32 ((b : Nat) : Int))] (.v (.int .u32 ((nextP i.op i.imm pc a b : Nat) : Int))) := by
 refine DCall.intro c0Ok Try.func49 rfl rfl (by kernel_rfl) rfl ?_
 refine cSeq ?_
 refine cR ?_
 refine rF 4 (.ptr 0 0) (upd _ 0 (some (.box [vI i.op, vI i.rd, vI i.rs1, vI i.rs2, vU i.imm]))) ?_
 refine rO 8 (.v (.int .u32 0)) ?_
 refine rE 2 ?_
 refine cSeq ?_
 refine cSeq ?_
 refine cR ?_
 refine rO 10 (.ptr 0 0) ?_
 refine rO 11 (vI i.op) ?_
 refine rO 12 (vB (i.op == 4)) ?_
 refine rE 5 ?_
 refine cEq i.op 4 (fun h1 => ?_) (fun h1 => ?_)
 ·skip
  refine cSeq ?_
  refine cR ?_
  refine rO 13 (vU a) ?_
  refine rO 14 (.ptr 0 4) ?_
  refine rO 15 (vU i.imm) ?_
  have b1 : (a + i.imm) % 4294967296 ≤ 4294967295 := Nat.le_of_lt_succ (Nat.mod_lt _ (by decide))
  refine rO 16 (vU ((a + i.imm) % 4294967296)) ?_
  refine rO 9 (vU ((a + i.imm) % 4294967296)) ?_
  refine rE 10 ?_
  refine cSeq ?_
  refine cR ?_
  refine rO 17 (vU ((a + i.imm) % 4294967296)) ?_
  refine rO 18 (vU ((a + i.imm) % 4294967296)) ?_
  have b2 : ((a + i.imm) % 4294967296) % 2 ≤ 1 := Nat.le_of_lt_succ (Nat.mod_lt _ (by decide))
  refine rNeed (d := 19) (x := vU (((a + i.imm) % 4294967296) % 2)) rfl rfl rfl (by decide) ?_
  have b3 : (((a + i.imm) % 4294967296) + 4294967296 - (((a + i.imm) % 4294967296) % 2)) % 4294967296 ≤ 4294967295 := Nat.le_of_lt_succ (Nat.mod_lt _ (by decide))
  refine rX 20 (vU ((((a + i.imm) % 4294967296) + 4294967296 - (((a + i.imm) % 4294967296) % 2)) % 4294967296)) (okI (subI32 b2 rfl)) ?_
  refine rO 8 (vU ((((a + i.imm) % 4294967296) + 4294967296 - (((a + i.imm) % 4294967296) % 2)) % 4294967296)) ?_
  refine rE 15 ?_
  refine cRet ?_
  exact fI rfl (by have t4 : i.op = 4 → takenP i.op a b = false := (fun e => by rw [e]; rfl); unfold nextP; (repeat' split) <;> first | omega | (simp_all; done) | (simp_all; omega))
 ·skip
  refine cSkip ?_
  refine cSeq ?_
  refine cSeq ?_
  refine cR ?_
  refine rO 21 (.ptr 0 0) ?_
  refine rO 22 (vI i.op) ?_
  refine rO 23 (vB (i.op == 3)) ?_
  refine rO 24 (vB (i.op == 3)) ?_
  refine gO 25 (!(i.op == 3)) (.ptr 0 0) ?_
  refine gOkS (d := 26) (x := vI i.op) (g := !(i.op == 3)) rfl rfl rfl rfl (fun h => h) rfl rfl ?_
  refine gO 27 (!(i.op == 3)) (vU a) ?_
  refine gO 28 (!(i.op == 3)) (vU b) ?_
  refine gCallS (args := [vI i.op, vU a, vU b]) (d := 29) (x := vB (takenP i.op a b)) (g := !(i.op == 3)) rfl rfl rfl rfl (fun h => by simp_all) rfl rfl rfl (.inl rfl) rfl (fun hg => rTaken i.op a b ha hb) ?_
  refine rNeed (d := 30) (x := vB (cond2 (i.op == 3) true (takenP i.op a b))) rfl rfl rfl (by simp) ?_
  refine rE 15 ?_
  refine cPr (i.op = 3 ∨ (takenP i.op a b) = true) (c2or _ _ pEq Iff.rfl) (fun h2 => ?_) (fun h2 => ?_)
  ·skip
   refine cSeq ?_
   refine cR ?_
   refine rO 31 (vU pc) ?_
   refine rO 32 (.ptr 0 4) ?_
   refine rO 33 (vU i.imm) ?_
   have b4 : (pc + i.imm) % 4294967296 ≤ 4294967295 := Nat.le_of_lt_succ (Nat.mod_lt _ (by decide))
   refine rO 34 (vU ((pc + i.imm) % 4294967296)) ?_
   refine rO 8 (vU ((pc + i.imm) % 4294967296)) ?_
   refine rE 20 ?_
   refine cRet ?_
   exact fI rfl (by have t4 : i.op = 4 → takenP i.op a b = false := (fun e => by rw [e]; rfl); unfold nextP; (repeat' split) <;> first | omega | (simp_all; done) | (simp_all; omega))
  ·skip
   refine cSkip ?_
   refine cSeq ?_
   refine cR ?_
   refine rO 35 (vU pc) ?_
   have b5 : (pc + 4) % 4294967296 ≤ 4294967295 := Nat.le_of_lt_succ (Nat.mod_lt _ (by decide))
   refine rO 36 (vU ((pc + 4) % 4294967296)) ?_
   refine rO 8 (vU ((pc + 4) % 4294967296)) ?_
   refine rE 18 ?_
   refine cRet ?_
   exact fI rfl (by have t4 : i.op = 4 → takenP i.op a b = false := (fun e => by rw [e]; rfl); unfold nextP; (repeat' split) <;> first | omega | (simp_all; done) | (simp_all; omega))
theorem size_sgn (op : Int) (x : Nat) (hx : x ≤ 4294967295) : ((sizeP op x : Nat) : Int) = if op = 42 ∨ op = 44 then (if sgn x < 0 then - sgn x else sgn x) else (x : Int) := by
 unfold sizeP sgn
 (repeat' split) <;> omega
theorem sgn_bnd (x : Nat) (hx : x ≤ 4294967295) : -2147483648 ≤ sgn x ∧ sgn x ≤ 2147483647 := by unfold sgn; split <;> omega

set_option maxRecDepth 100000 in
set_option maxHeartbeats 4000000 in
theorem rSize4 (op : Int) (a : Nat) (ha : a ≤ 4294967295) : DCall C0 83 [vI op, vU a] (.v (.int .i64 ((sizeP op a : Nat) : Int))) := by
 refine DCall.intro c0Ok Try.func83 rfl rfl (by kernel_rfl) rfl ?_
 refine cSeq ?_
 refine cR ?_
 refine rO 4 (vI 0) ?_
 refine rE 1 ?_
 refine cSeq ?_
 refine cR ?_
 refine rO 6 (vU a) ?_
 refine rX 7 (vI (a : Int)) (okI (wrap_i64 (by omega) (by omega))) ?_
 refine rO 5 (vI (a : Int)) ?_
 refine rE 4 ?_
 refine cSeq ?_
 refine cSeq ?_
 refine cR ?_
 refine rO 8 (vI op) ?_
 refine rO 9 (vB (op == 42)) ?_
 refine rO 10 (vB (op == 42)) ?_
 refine gO 11 (!(op == 42)) (vI op) ?_
 refine gOkS (d := 12) (x := vB (op == 44)) (g := !(op == 42)) rfl rfl rfl rfl (fun h => h) rfl rfl ?_
 refine rNeed (d := 13) (x := vB (cond2 (op == 42) true (op == 44))) rfl rfl rfl (by simp) ?_
 refine rE 10 ?_
 refine cPr (op = 42 ∨ op = 44) (c2or _ _ pEq pEq) (fun h1 => ?_) (fun h1 => ?_)
 ·skip
  refine cR ?_
  refine rO 14 (vU a) ?_
  refine rCall (args := [vU a]) (d := 15) (x := vI (sgn a)) rfl rfl rfl rfl (.inl rfl) rfl (dSigned a ha) ?_
  refine rO 5 (vI (sgn a)) ?_
  refine rE 13 ?_
  refine cSeq ?_
  refine cSeq ?_
  refine cR ?_
  refine rO 16 (vI (sgn a)) ?_
  refine rO 17 (vB (decide ((sgn a) < 0))) ?_
  refine rE 15 ?_
  refine cPr ((sgn a) < 0) pDec (fun h2 => ?_) (fun h2 => ?_)
  ·skip
   refine cSeq ?_
   refine cR ?_
   refine rO 18 (vI (sgn a)) ?_
   refine rX 19 (vI (-(sgn a))) (okI (by rw [Int.zero_sub]; exact wrap_i64 (by have := sgn_bnd a ha; omega) (by have := sgn_bnd a ha; omega))) ?_
   refine rO 4 (vI (-(sgn a))) ?_
   refine rE 18 ?_
   refine cRet ?_
   exact fI rfl (by rw [size_sgn op a ha]; (repeat' split) <;> omega)
  ·skip
   refine cSkip ?_
   refine cSeq ?_
   refine cR ?_
   refine rO 20 (vI (sgn a)) ?_
   refine rO 4 (vI (sgn a)) ?_
   refine rE 17 ?_
   refine cRet ?_
   exact fI rfl (by rw [size_sgn op a ha]; (repeat' split) <;> omega)
 ·skip
  refine cSkip ?_
  refine cSeq ?_
  refine cSeq ?_
  refine cR ?_
  refine rO 16 (vI (a : Int)) ?_
  refine rO 17 (vB (decide ((a : Int) < 0))) ?_
  refine rE 12 ?_
  refine cPr ((a : Int) < 0) pDec (fun h3 => ?_) (fun h3 => ?_)
  ·skip
   refine cSeq ?_
   refine cR ?_
   refine rO 18 (vI (a : Int)) ?_
   refine rX 19 (vI (-(a : Int))) (okI (by rw [Int.zero_sub]; exact wrap_i64 (by have := sgn_bnd a ha; omega) (by have := sgn_bnd a ha; omega))) ?_
   refine rO 4 (vI (-(a : Int))) ?_
   refine rE 15 ?_
   refine cRet ?_
   exact fI rfl (by rw [size_sgn op a ha]; (repeat' split) <;> omega)
  ·skip
   refine cSkip ?_
   refine cSeq ?_
   refine cR ?_
   refine rO 20 (vI (a : Int)) ?_
   refine rO 4 (vI (a : Int)) ?_
   refine rE 14 ?_
   refine cRet ?_
   exact fI rfl (by rw [size_sgn op a ha]; (repeat' split) <;> omega)
theorem word_tmod (n : Int) (h : ¬ (Int.tmod n 4294967296 < 0)) : IntKind.wrap .u32 (Int.tmod n 4294967296) = ((wordOf n : Nat) : Int) := by
 rw [wordOf_cast]
 simp only [IntKind.wrap, IntKind.signed, IntKind.bits]
 have := Int.mul_tdiv_add_tmod n 4294967296
 simp
 omega
theorem word_tmodP (n : Int) (h : Int.tmod n 4294967296 < 0) : IntKind.wrap .u32 (Int.tmod n 4294967296 + 4294967296) = ((wordOf n : Nat) : Int) := by
 rw [wordOf_cast]
 simp only [IntKind.wrap, IntKind.signed, IntKind.bits]
 have := Int.mul_tdiv_add_tmod n 4294967296
 simp
 omega

set_option maxRecDepth 100000 in
set_option maxHeartbeats 4000000 in
theorem rWord (n : Int) : DCall C0 104 [vI n] (.v (.int .u32 ((wordOf n : Nat) : Int))) := by
 refine DCall.intro c0Ok Try.func104 rfl rfl (by kernel_rfl) rfl ?_
 refine cSeq ?_
 refine cR ?_
 refine rO 2 (.v (.int .u32 0)) ?_
 refine rE 1 ?_
 refine cSeq ?_
 refine cR ?_
 refine rO 4 (vI n) ?_
 refine rNeed (d := 5) (x := vI (Int.tmod n 4294967296)) rfl rfl rfl (by decide) ?_
 refine rO 3 (vI (Int.tmod n 4294967296)) ?_
 refine rE 4 ?_
 refine cSeq ?_
 refine cSeq ?_
 refine cR ?_
 refine rO 6 (vI (Int.tmod n 4294967296)) ?_
 refine rO 7 (vB (decide ((Int.tmod n 4294967296) < 0))) ?_
 refine rE 6 ?_
 refine cPr ((Int.tmod n 4294967296) < 0) pDec (fun h1 => ?_) (fun h1 => ?_)
 ·skip
  refine cR ?_
  refine rO 8 (vI (Int.tmod n 4294967296)) ?_
  refine rX 9 (vI (Int.tmod n 4294967296 + 4294967296)) (okI (wrap_i64 (by have := Int.tmod_lt_of_pos n (show (0 : Int) < 4294967296 by decide); have := Int.lt_tmod_of_pos n (show (0 : Int) < 4294967296 by decide); omega) (by have := Int.tmod_lt_of_pos n (show (0 : Int) < 4294967296 by decide); omega))) ?_
  refine rO 3 (vI (Int.tmod n 4294967296 + 4294967296)) ?_
  refine rE 9 ?_
  refine cSeq ?_
  refine cR ?_
  refine rO 10 (vI (Int.tmod n 4294967296 + 4294967296)) ?_
  refine rX 11 (vU (wordOf n)) (okI (word_tmodP n h1)) ?_
  refine rO 2 (vU (wordOf n)) ?_
  refine rE 12 ?_
  refine cRet ?_
  exact finTA rfl trivial rfl rfl
 ·skip
  refine cSkip ?_
  refine cSeq ?_
  refine cR ?_
  refine rO 10 (vI (Int.tmod n 4294967296)) ?_
  refine rX 11 (vU (wordOf n)) (okI (word_tmod n h1)) ?_
  refine rO 2 (vU (wordOf n)) ?_
  refine rE 9 ?_
  refine cRet ?_
  exact finTA rfl trivial rfl rfl
theorem qnzS (a b : Nat) (_ha : a ≤ 4294967295) (hb : b ≤ 4294967295) (h : ¬ b = 0) : sgn b ≠ 0 := by unfold sgn; split <;> omega
theorem qnzU (a b : Nat) (_ha : a ≤ 4294967295) (_hb : b ≤ 4294967295) (h : ¬ b = 0) : ((b : Nat) : Int) ≠ 0 := by omega
theorem quo_bnd (x y : Int) (h1 : -4294967295 ≤ x) (h2 : x ≤ 4294967295) : -4294967295 ≤ Int.tdiv x y ∧ Int.tdiv x y ≤ 4294967295 := by
 have := Int.natAbs_tdiv_le_natAbs x y
 omega
theorem quoS (a b : Nat) (ha : a ≤ 4294967295) (_hb : b ≤ 4294967295) : IntKind.wrap .i64 (Int.tdiv (sgn a) (sgn b)) = Int.tdiv (sgn a) (sgn b) := by
 have := sgn_bnd a ha
 have := quo_bnd (sgn a) (sgn b) (by omega) (by omega)
 exact wrap_i64 (by omega) (by omega)
theorem quoU (a b : Nat) (ha : a ≤ 4294967295) (_hb : b ≤ 4294967295) : IntKind.wrap .i64 (Int.tdiv ((a : Nat) : Int) ((b : Nat) : Int)) = Int.tdiv ((a : Nat) : Int) ((b : Nat) : Int) := by
 have := quo_bnd ((a : Nat) : Int) ((b : Nat) : Int) (by omega) (by omega)
 exact wrap_i64 (by omega) (by omega)
theorem xor_top (a b : Nat) (ha : a ≤ 4294967295) (hb : b ≤ 4294967295) : 2147483648 ≤ a ^^^ b ↔ ¬ (2147483648 ≤ a ↔ 2147483648 ≤ b) := by
 have tb : ∀ x : Nat, x ≤ 4294967295 → (2147483648 ≤ x ↔ x.testBit 31 = true) := by
  intro x hx
  rw [Nat.testBit_eq_decide_div_mod_eq]
  simp
  omega
 have hx : a ^^^ b < 2 ^ 32 := Nat.xor_lt_two_pow (n := 32) (by omega) (by omega)
 rw [tb a ha, tb b hb, tb (a ^^^ b) (by omega), Nat.testBit_xor]
 cases a.testBit 31 <;> cases b.testBit 31 <;> simp
theorem div4S (op : Int) (a b : Nat) (ha : a ≤ 4294967295) (hb : b ≤ 4294967295) (h0 : ¬ b = 0) (ho : op = 42) : wordOf (Int.tdiv (sgn a) (sgn b)) = divP op a b := by
 subst ho
 unfold divP backP sizeP
 simp only [h0, if_false, true_or, if_true, true_and, xor_top a b ha hb]
 unfold wordOf sgn
 have key : ∀ x y : Nat, (x : Int).tdiv (y : Int) = ((x / y : Nat) : Int) := fun x y => rfl
 have n1 : ∀ x : Nat, 2147483648 ≤ x → x ≤ 4294967295 → (x : Int) - 4294967296 = -((4294967296 - x : Nat) : Int) := fun x h1 h2 => by omega
 by_cases h1 : 2147483648 ≤ a <;> by_cases h2 : 2147483648 ≤ b
 ·rw [if_neg (by omega), if_neg (by omega), n1 a h1 ha, n1 b h2 hb, Int.neg_tdiv, Int.tdiv_neg, Int.neg_neg, key]
  have := Nat.div_le_self (4294967296 - a) (4294967296 - b)
  simp only [h1, h2, iff_self, not_true, if_false, if_true]
  generalize (4294967296 - a) / (4294967296 - b) = q at *
  omega
 ·rw [if_neg (by omega), if_pos (by omega), n1 a h1 ha, Int.neg_tdiv, key]
  have := Nat.div_le_self (4294967296 - a) b
  simp only [h1, h2, iff_false, not_true, not_false_iff, if_false, if_true]
  omega
 ·rw [if_pos (by omega), if_neg (by omega), n1 b h2 hb, Int.tdiv_neg, key]
  have := Nat.div_le_self a (4294967296 - b)
  simp only [h1, h2, false_iff, not_true, not_false_iff, if_false, if_true]
  omega
 ·rw [if_pos (by omega), if_pos (by omega), key]
  have := Nat.div_le_self a b
  simp only [h1, h2, iff_self, not_true, if_false]
  generalize a / b = q at *
  omega
theorem div4U (op : Int) (a b : Nat) (ha : a ≤ 4294967295) (_hb : b ≤ 4294967295) (h0 : ¬ b = 0) (ho : op = 43) : wordOf (Int.tdiv ((a : Nat) : Int) ((b : Nat) : Int)) = divP op a b := by
 subst ho
 have d : divP 43 a b = a / b := by unfold divP backP sizeP; simp [h0]
 rw [d]
 unfold wordOf
 have e : ((a : Nat) : Int).tdiv ((b : Nat) : Int) = ((a / b : Nat) : Int) := rfl
 rw [e]
 have := Nat.div_le_self a b
 generalize a / b = q at *
 omega
theorem rem4S (op : Int) (a b : Nat) (ha : a ≤ 4294967295) (hb : b ≤ 4294967295) (h0 : ¬ b = 0) (ho : op = 44) : wordOf (Int.tmod (sgn a) (sgn b)) = divP op a b := by
 subst ho
 unfold divP backP sizeP
 simp only [h0, if_false, or_true, true_or, if_true, true_and, show ¬ ((44 : Int) = 42 ∨ (44 : Int) = 43) by decide]
 unfold wordOf sgn
 have key : ∀ x y : Nat, (x : Int).tmod (y : Int) = ((x % y : Nat) : Int) := fun x y => rfl
 have n1 : ∀ x : Nat, 2147483648 ≤ x → x ≤ 4294967295 → (x : Int) - 4294967296 = -((4294967296 - x : Nat) : Int) := fun x h1 h2 => by omega
 by_cases h1 : 2147483648 ≤ a <;> by_cases h2 : 2147483648 ≤ b
 ·rw [if_neg (by omega), if_neg (by omega), n1 a h1 ha, n1 b h2 hb, Int.neg_tmod, Int.tmod_neg, key]
  have := Nat.mod_le (4294967296 - a) (4294967296 - b)
  simp only [h1, h2, if_true]
  omega
 ·rw [if_neg (by omega), if_pos (by omega), n1 a h1 ha, Int.neg_tmod, key]
  have := Nat.mod_le (4294967296 - a) b
  simp only [h1, h2, if_false, if_true]
  omega
 ·rw [if_pos (by omega), if_neg (by omega), n1 b h2 hb, Int.tmod_neg, key]
  have := Nat.mod_le a (4294967296 - b)
  simp only [h1, h2, if_false, if_true]
  omega
 ·rw [if_pos (by omega), if_pos (by omega), key]
  have := Nat.mod_le a b
  simp only [h1, h2, if_false]
  omega
theorem rem4U (op : Int) (a b : Nat) (ha : a ≤ 4294967295) (_hb : b ≤ 4294967295) (h0 : ¬ b = 0) (ho : op = 45) : wordOf (Int.tmod ((a : Nat) : Int) ((b : Nat) : Int)) = divP op a b := by
 subst ho
 have d : divP 45 a b = a % b := by unfold divP backP sizeP; simp [h0]
 rw [d]
 unfold wordOf
 have e : ((a : Nat) : Int).tmod ((b : Nat) : Int) = ((a % b : Nat) : Int) := rfl
 rw [e]
 have := Nat.mod_le a b
 generalize a % b = q at *
 omega

set_option maxRecDepth 100000 in
set_option maxHeartbeats 4000000 in
theorem rDo4 (op : Int) (a b : Nat) (ha : a ≤ 4294967295) (hb : b ≤ 4294967295) : DCall C0 80 [vI op, vU a, vU b] (.v (.int .u32 ((divP op a b : Nat) : Int))) := by
 refine DCall.intro c0Ok Try.func80 rfl rfl (by kernel_rfl) rfl ?_
 refine cSeq ?_
 refine cR ?_
 refine rO 6 (.v (.int .u32 0)) ?_
 refine rE 1 ?_
 refine cSeq ?_
 refine cSeq ?_
 refine cR ?_
 refine rO 10 (vI op) ?_
 refine rO 11 (vB (decide (op < 42))) ?_
 refine rO 12 (vB (decide (op < 42))) ?_
 refine gO 13 (!(decide (op < 42))) (vI op) ?_
 refine gOkS (d := 14) (x := vB (decide (op > 45))) (g := !(decide (op < 42))) rfl rfl rfl rfl (fun h => h) rfl rfl ?_
 refine rNeed (d := 15) (x := vB (cond2 (decide (op < 42)) true (decide (op > 45)))) rfl rfl rfl (by simp) ?_
 refine rE 7 ?_
 refine cPr (op < 42 ∨ op > 45) (c2or _ _ pDec pDec) (fun h1 => ?_) (fun h1 => ?_)
 ·skip
  refine cSeq ?_
  refine cR ?_
  refine rO 6 (.v (.int .u32 0)) ?_
  refine rE 8 ?_
  refine cRet ?_
  exact fI rfl (by unfold divP; (repeat' split) <;> omega)
 ·skip
  refine cSkip ?_
  refine cSeq ?_
  refine cR ?_
  refine rO 16 (vI op) ?_
  refine rO 17 (vB (op == 42)) ?_
  refine rO 18 (vB (op == 42)) ?_
  refine gO 19 (!(op == 42)) (vI op) ?_
  refine gOkS (d := 20) (x := vB (op == 43)) (g := !(op == 42)) rfl rfl rfl rfl (fun h => h) rfl rfl ?_
  refine rNeed (d := 21) (x := vB (cond2 (op == 42) true (op == 43))) rfl rfl rfl (by simp) ?_
  refine rO 7 (vB (cond2 (op == 42) true (op == 43))) ?_
  refine rE 14 ?_
  refine cSeq ?_
  refine cSeq ?_
  refine cR ?_
  refine rO 22 (vU b) ?_
  refine rX 23 (vB (b == 0)) (okB (eqN _ _)) ?_
  refine rE 16 ?_
  refine cEq b 0 (fun h2 => ?_) (fun h2 => ?_)
  ·skip
   refine cSeq ?_
   refine cSeq ?_
   refine cR ?_
   refine rO 24 (vB (cond2 (op == 42) true (op == 43))) ?_
   refine rE 17 ?_
   refine cPr (op = 42 ∨ op = 43) (c2or _ _ pEq pEq) (fun h3 => ?_) (fun h3 => ?_)
   ·skip
    refine cSeq ?_
    refine cR ?_
    refine rO 6 (.v (.int .u32 4294967295)) ?_
    refine rE 18 ?_
    refine cRet ?_
    exact fI rfl (by unfold divP; (repeat' split) <;> omega)
   ·skip
    refine cSkip ?_
    refine cSeq ?_
    refine cR ?_
    refine rO 25 (vU a) ?_
    refine rO 6 (vU a) ?_
    refine rE 19 ?_
    refine cRet ?_
    exact fI rfl (by unfold divP; (repeat' split) <;> omega)
  ·skip
   refine cSkip ?_
   refine cSeq ?_
   refine cR ?_
   refine rO 26 (vU a) ?_
   refine rX 27 (vI (a : Int)) (okI (wrap_i64 (by omega) (by omega))) ?_
   refine rO 8 (vI (a : Int)) ?_
   refine rE 19 ?_
   refine cSeq ?_
   refine cR ?_
   refine rO 28 (vU b) ?_
   refine rX 29 (vI (b : Int)) (okI (wrap_i64 (by omega) (by omega))) ?_
   refine rO 9 (vI (b : Int)) ?_
   refine rE 22 ?_
   refine cSeq ?_
   refine cSeq ?_
   refine cR ?_
   refine rO 30 (vI op) ?_
   refine rO 31 (vB (op == 42)) ?_
   refine rO 32 (vB (op == 42)) ?_
   refine gO 33 (!(op == 42)) (vI op) ?_
   refine gOkS (d := 34) (x := vB (op == 44)) (g := !(op == 42)) rfl rfl rfl rfl (fun h => h) rfl rfl ?_
   refine rNeed (d := 35) (x := vB (cond2 (op == 42) true (op == 44))) rfl rfl rfl (by simp) ?_
   refine rE 28 ?_
   refine cPr (op = 42 ∨ op = 44) (c2or _ _ pEq pEq) (fun h4 => ?_) (fun h4 => ?_)
   ·skip
    refine cSeq ?_
    refine cR ?_
    refine rO 36 (vU a) ?_
    refine rCall (args := [vU a]) (d := 37) (x := vI (sgn a)) rfl rfl rfl rfl (.inl rfl) rfl (dSigned a ha) ?_
    refine rO 8 (vI (sgn a)) ?_
    refine rE 31 ?_
    refine cR ?_
    refine rO 38 (vU b) ?_
    refine rCall (args := [vU b]) (d := 39) (x := vI (sgn b)) rfl rfl rfl rfl (.inl rfl) rfl (dSigned b hb) ?_
    refine rO 9 (vI (sgn b)) ?_
    refine rE 34 ?_
    refine cSeq ?_
    refine cSeq ?_
    refine cR ?_
    refine rO 40 (vB (cond2 (op == 42) true (op == 43))) ?_
    refine rE 35 ?_
    refine cPr (op = 42 ∨ op = 43) (c2or _ _ pEq pEq) (fun h5 => ?_) (fun h5 => ?_)
    ·skip
     refine cSeq ?_
     refine cR ?_
     refine rO 41 (vI (sgn a)) ?_
     refine rO 42 (vI (sgn b)) ?_
     refine rNeed (d := 43) (x := vI (Int.tdiv (sgn a) (sgn b))) rfl rfl (needI (quoS a b ha hb)) (qnzS a b ha hb h2) ?_
     refine rCall (args := [vI (Int.tdiv (sgn a) (sgn b))]) (d := 44) (x := vU (wordOf (Int.tdiv (sgn a) (sgn b)))) rfl rfl rfl rfl (.inl rfl) rfl (rWord _) ?_
     refine rO 6 (vU (wordOf (Int.tdiv (sgn a) (sgn b)))) ?_
     refine rE 40 ?_
     refine cRet ?_
     exact fI rfl (congrArg Int.ofNat (div4S op a b ha hb (by omega) (by omega)))
    ·skip
     refine cSkip ?_
     refine cSeq ?_
     refine cR ?_
     refine rO 45 (vI (sgn a)) ?_
     refine rO 46 (vI (sgn b)) ?_
     refine rNeed (d := 47) (x := vI (Int.tmod (sgn a) (sgn b))) rfl rfl rfl (qnzS a b ha hb h2) ?_
     refine rCall (args := [vI (Int.tmod (sgn a) (sgn b))]) (d := 48) (x := vU (wordOf (Int.tmod (sgn a) (sgn b)))) rfl rfl rfl rfl (.inl rfl) rfl (rWord _) ?_
     refine rO 6 (vU (wordOf (Int.tmod (sgn a) (sgn b)))) ?_
     refine rE 40 ?_
     refine cRet ?_
     exact fI rfl (congrArg Int.ofNat (rem4S op a b ha hb (by omega) (by omega)))
   ·skip
    refine cSkip ?_
    refine cSeq ?_
    refine cSeq ?_
    refine cR ?_
    refine rO 40 (vB (cond2 (op == 42) true (op == 43))) ?_
    refine rE 29 ?_
    refine cPr (op = 42 ∨ op = 43) (c2or _ _ pEq pEq) (fun h6 => ?_) (fun h6 => ?_)
    ·skip
     refine cSeq ?_
     refine cR ?_
     refine rO 41 (vI (a : Int)) ?_
     refine rO 42 (vI (b : Int)) ?_
     refine rNeed (d := 43) (x := vI (Int.tdiv (a : Int) (b : Int))) rfl rfl (needI (quoU a b ha hb)) (qnzU a b ha hb h2) ?_
     refine rCall (args := [vI (Int.tdiv (a : Int) (b : Int))]) (d := 44) (x := vU (wordOf (Int.tdiv (a : Int) (b : Int)))) rfl rfl rfl rfl (.inl rfl) rfl (rWord _) ?_
     refine rO 6 (vU (wordOf (Int.tdiv (a : Int) (b : Int)))) ?_
     refine rE 34 ?_
     refine cRet ?_
     exact fI rfl (congrArg Int.ofNat (div4U op a b ha hb (by omega) (by omega)))
    ·skip
     refine cSkip ?_
     refine cSeq ?_
     refine cR ?_
     refine rO 45 (vI (a : Int)) ?_
     refine rO 46 (vI (b : Int)) ?_
     refine rNeed (d := 47) (x := vI (Int.tmod (a : Int) (b : Int))) rfl rfl rfl (qnzU a b ha hb h2) ?_
     refine rCall (args := [vI (Int.tmod (a : Int) (b : Int))]) (d := 48) (x := vU (wordOf (Int.tmod (a : Int) (b : Int)))) rfl rfl rfl rfl (.inl rfl) rfl (rWord _) ?_
     refine rO 6 (vU (wordOf (Int.tmod (a : Int) (b : Int)))) ?_
     refine rE 34 ?_
     refine cRet ?_
     exact fI rfl (congrArg Int.ofNat (rem4U op a b ha hb (by omega) (by omega)))
end Go.Proofs.Ytckjihpdjefpgaa

namespace Go.Proofs.Ytckjihpdjefpgaa

/-- The word that bits make, the lowest one first. -/
def ofB : List Nat → Nat
  | [] => 0
  | b :: l => (2 * ofB l + b) % 4294967296
theorem ofB_ofN : ∀ (l : List Nat), (∀ b ∈ l, b < 2) → l.length ≤ 32 → ofB l = ofN l
  | [], _, _ => rfl
  | b :: l, hb, hl => by
    have hl' : l.length ≤ 31 := by simp at hl; omega
    have ih := ofB_ofN l (fun x hx => hb x (List.mem_cons_of_mem _ hx)) (by omega)
    have h1 := ofN_lt l (fun x hx => hb x (List.mem_cons_of_mem _ hx))
    have h2 := hb b List.mem_cons_self
    have h3 : 2 ^ l.length ≤ 2 ^ 31 := Nat.pow_le_pow_right (by decide) hl'
    show (2 * ofB l + b) % 4294967296 = 2 * ofN l + b
    rw [ih]; omega

def upto {α : Type} (g : Nat → α) (k : Nat) : List α := (List.range k).map g
theorem upto_len {α : Type} (g : Nat → α) (k : Nat) : (upto g k).length = k := by simp [upto]
theorem upto_succ {α : Type} (g : Nat → α) (k : Nat) : upto g (k + 1) = upto g k ++ [g k] := by simp [upto, List.range_succ]
theorem upto_get (g : Nat → Nat) (k j : Nat) (h : j < k) : (upto g k).getD j 0 = g j := by simp [upto, h]
theorem upto_mem {α : Type} {g : Nat → α} {k : Nat} {p : α → Prop} (h : ∀ i, i < k → p (g i)) : ∀ b ∈ upto g k, p b := by
  intro b hb
  simp only [upto, List.mem_map, List.mem_range] at hb
  obtain ⟨i, hi, rfl⟩ := hb
  exact h i hi

theorem tbD (a i : Nat) : a.testBit i = decide (a / 2 ^ i % 2 = 1) := Nat.testBit_eq_decide_div_mod_eq
theorem tb_hi {a i : Nat} (ha : a < 4294967296) (hi : 32 ≤ i) : a.testBit i = false :=
  Nat.testBit_lt_two_pow (Nat.lt_of_lt_of_le ha (Nat.pow_le_pow_right (n := 2) (by decide) hi))
theorem ofB_bits (g : Nat → Nat) (x : Nat) (hg : ∀ i, i < 32 → g i < 2) (hx : x < 4294967296) (h : ∀ i, i < 32 → (g i = 1 ↔ x.testBit i = true)) : ofB (upto g 32) = x := by
  have hb : ∀ b ∈ upto g 32, b < 2 := upto_mem hg
  rw [ofB_ofN _ hb (by rw [upto_len]; exact Nat.le_refl _)]
  refine Nat.eq_of_testBit_eq fun j => ?_
  rw [tb_ofN _ hb]
  by_cases hj : j < 32
  · rw [upto_get g 32 j hj]
    have := h j hj
    cases hx : x.testBit j <;> simp_all
  · rw [List.getD_eq_getElem?_getD, List.getElem?_eq_none (by rw [upto_len]; omega), tb_hi hx (by omega)]; rfl

def bothG (rule : Int) (a b i : Nat) : Nat := if ((rule = 1 ∧ a / 2 ^ i % 2 + b / 2 ^ i % 2 = 2) ∨ (rule = 2 ∧ a / 2 ^ i % 2 + b / 2 ^ i % 2 > 0)) ∨ (rule = 3 ∧ a / 2 ^ i % 2 + b / 2 ^ i % 2 = 1) then 1 else 0
theorem bothG_lt (rule : Int) (a b i : Nat) : bothG rule a b i < 2 := by unfold bothG; split <;> omega
theorem both_and (a b : Nat) (ha : a ≤ 4294967295) (_hb : b ≤ 4294967295) : ofB (upto (bothG 1 a b) 32) = a &&& b := by
  refine ofB_bits _ _ (fun i _ => bothG_lt ..) (Nat.lt_of_le_of_lt Nat.and_le_left (by omega)) fun i _ => ?_
  rw [Nat.testBit_and, tbD, tbD]
  unfold bothG
  rcases Nat.mod_two_eq_zero_or_one (a / 2 ^ i) with h1 | h1 <;> rcases Nat.mod_two_eq_zero_or_one (b / 2 ^ i) with h2 | h2 <;> simp [h1, h2]
theorem both_or (a b : Nat) (ha : a ≤ 4294967295) (hb : b ≤ 4294967295) : ofB (upto (bothG 2 a b) 32) = a ||| b := by
  refine ofB_bits _ _ (fun i _ => bothG_lt ..) (Nat.or_lt_two_pow (n := 32) (by omega) (by omega)) fun i _ => ?_
  rw [Nat.testBit_or, tbD, tbD]
  unfold bothG
  rcases Nat.mod_two_eq_zero_or_one (a / 2 ^ i) with h1 | h1 <;> rcases Nat.mod_two_eq_zero_or_one (b / 2 ^ i) with h2 | h2 <;> simp [h1, h2]
theorem both_xor (a b : Nat) (ha : a ≤ 4294967295) (hb : b ≤ 4294967295) : ofB (upto (bothG 3 a b) 32) = a ^^^ b := by
  refine ofB_bits _ _ (fun i _ => bothG_lt ..) (Nat.xor_lt_two_pow (n := 32) (by omega) (by omega)) fun i _ => ?_
  rw [Nat.testBit_xor, tbD, tbD]
  unfold bothG
  rcases Nat.mod_two_eq_zero_or_one (a / 2 ^ i) with h1 | h1 <;> rcases Nat.mod_two_eq_zero_or_one (b / 2 ^ i) with h2 | h2 <;> simp [h1, h2]

def movedG (a : Nat) (n : Int) (fill i : Nat) : Nat := if ((i : Int) - n < 0 ∨ (i : Int) - n > 31) then fill else a / 2 ^ ((i : Int) - n).toNat % 2
theorem movedG_lt (a : Nat) (n : Int) {fill : Nat} (hf : fill < 2) (i : Nat) : movedG a n fill i < 2 := by unfold movedG; split <;> omega
theorem moved_sll (a s : Nat) (_ha : a ≤ 4294967295) (hs : s < 32) : ofB (upto (movedG a (s : Int) 0) 32) = a * 2 ^ s % 4294967296 := by
  refine ofB_bits _ _ (fun i _ => movedG_lt _ _ (by decide) _) (Nat.mod_lt _ (by decide)) fun i hi => ?_
  rw [show (4294967296 : Nat) = 2 ^ 32 from rfl, Nat.testBit_mod_two_pow, Nat.testBit_mul_two_pow]
  unfold movedG
  by_cases h : i < s
  · rw [if_pos (.inl (by omega))]; simp; omega
  · rw [if_neg (by omega), show ((i : Int) - (s : Int)).toNat = i - s by omega, tbD]; simp; omega
theorem moved_srl (a s : Nat) (ha : a ≤ 4294967295) (_hs : s < 32) : ofB (upto (movedG a (-(s : Int)) 0) 32) = a / 2 ^ s := by
  refine ofB_bits _ _ (fun i _ => movedG_lt _ _ (by decide) _) (Nat.lt_of_le_of_lt (Nat.div_le_self _ _) (by omega)) fun i hi => ?_
  rw [Nat.testBit_div_two_pow]
  unfold movedG
  by_cases h : i + s > 31
  · rw [if_pos (.inr (by omega)), tb_hi (by omega) (by omega)]; simp
  · rw [if_neg (by omega), show ((i : Int) - -(s : Int)).toNat = i + s by omega, tbD]; simp
theorem sra_val (a s : Nat) (ha : a ≤ 4294967295) (hs : s < 32) : wordOf (sgn a / 2 ^ s) = if a < 2147483648 then a / 2 ^ s else 2 ^ (32 - s) * (2 ^ s - 1) + a / 2 ^ s := by
  have hp : (2 : Nat) ^ 32 = 2 ^ (32 - s) * 2 ^ s := by rw [← Nat.pow_add]; congr 1; omega
  have hd : a / 2 ^ s < 2 ^ (32 - s) := Nat.div_lt_of_lt_mul (by rw [Nat.mul_comm, ← hp]; omega)
  have hK : 2 ^ (32 - s) ≤ 2 ^ 32 := Nat.pow_le_pow_right (by decide) (by omega)
  have hpos : 0 < 2 ^ s := Nat.two_pow_pos s
  unfold wordOf sgn
  have hc : ((2 : Int) ^ s) = ((2 ^ s : Nat) : Int) := by simp
  split
  · rw [hc]
    have e : ((a : Int) / ((2 ^ s : Nat) : Int)) = ((a / 2 ^ s : Nat) : Int) := rfl
    have := Nat.div_le_self a (2 ^ s)
    rw [e]
    generalize a / 2 ^ s = q at *
    omega
  · have e : ((a : Int) - 4294967296) / 2 ^ s = ((a / 2 ^ s : Nat) : Int) - ((2 ^ (32 - s) : Nat) : Int) := by
      have h1 : (a : Int) - 4294967296 = (a : Int) + (-((2 ^ (32 - s) : Nat) : Int)) * ((2 ^ s : Nat) : Int) := by
        have : ((2 ^ (32 - s) : Nat) : Int) * ((2 ^ s : Nat) : Int) = 4294967296 := by rw [← Int.natCast_mul, ← hp]; rfl
        rw [Int.neg_mul, this]; omega
      rw [hc, h1, Int.add_mul_ediv_right _ _ (by omega)]
      have e : ((a : Int) / ((2 ^ s : Nat) : Int)) = ((a / 2 ^ s : Nat) : Int) := rfl
      rw [e]; omega
    rw [e, Nat.mul_sub, ← hp, Nat.mul_one]
    generalize a / 2 ^ s = q at *
    generalize 2 ^ (32 - s) = K at *
    omega
theorem moved_sra (a s : Nat) (ha : a ≤ 4294967295) (hs : s < 32) : ofB (upto (movedG a (-(s : Int)) (a / 2 ^ 31 % 2)) 32) = wordOf (sgn a / 2 ^ s) := by
  have hp : (2 : Nat) ^ 32 = 2 ^ (32 - s) * 2 ^ s := by rw [← Nat.pow_add]; congr 1; omega
  have hd : a / 2 ^ s < 2 ^ (32 - s) := Nat.div_lt_of_lt_mul (by rw [Nat.mul_comm, ← hp]; omega)
  rw [sra_val a s ha hs]
  by_cases h2 : a < 2147483648
  · rw [if_pos h2, show a / 2 ^ 31 % 2 = 0 by omega]; exact moved_srl a s ha hs
  · rw [if_neg h2, show a / 2 ^ 31 % 2 = 1 by omega]
    have hpos : 0 < 2 ^ s := Nat.two_pow_pos s
    refine ofB_bits _ _ (fun i _ => movedG_lt _ _ (by decide) _) (by rw [Nat.mul_sub, ← hp]; have : 2 ^ (32 - s) ≤ 2 ^ 32 := Nat.pow_le_pow_right (by decide) (by omega); omega) fun i hi => ?_
    rw [Nat.testBit_two_pow_mul_add _ hd]
    unfold movedG
    by_cases h : i + s > 31
    · rw [if_pos (.inr (by omega)), if_neg (by omega), Nat.testBit_two_pow_sub_one]; simp; omega
    · rw [if_neg (by omega), if_pos (by omega), Nat.testBit_div_two_pow, show ((i : Int) - -(s : Int)).toNat = i + s by omega, tbD]; simp

theorem fold_push : ∀ (l : List Int) (b : ByteArray), (l.foldl (fun r m => r.push (UInt8.ofNat m.toNat)) b).data.toList = b.data.toList ++ l.map fun m => UInt8.ofNat m.toNat
  | [], b => by simp
  | m :: l, b => by
    rw [List.foldl_cons, fold_push l]
    show (b.data.push (UInt8.ofNat m.toNat)).toList ++ _ = _
    simp
def byteG (x i : Nat) : UInt8 := UInt8.ofNat (field x (8 * i) 8)
theorem pow256' (j : Nat) : 256 ^ j = 2 ^ (8 * j) := by rw [Nat.pow_mul]
theorem bytesG_eq (x n : Nat) : (⟨(upto (byteG x) n).toArray⟩ : ByteArray) = bytesP x n := by
  have h : (bytesP x n).data.toList = upto (byteG x) n := by
    unfold bytesP
    rw [fold_push]
    simp only [ByteArray.empty, upto, List.map_map]
    show [] ++ _ = _
    rw [List.nil_append]
    refine List.map_congr_left fun j _ => ?_
    simp only [Function.comp, byteG, field, Int.toNat_natCast]
    rw [pow256']
  rw [← h]
theorem joinTo_cons (b : UInt8) (l : List UInt8) : ∀ k, joinTo (b :: l) (k + 1) = b.toNat + 256 * joinTo l k
  | 0 => by simp [joinTo]
  | k + 1 => by
    show joinTo (b :: l) (k + 1) + 256 ^ (k + 1) * ((b :: l).getD (k + 1) 0).toNat = b.toNat + 256 * (joinTo l k + 256 ^ k * (l.getD k 0).toNat)
    rw [joinTo_cons b l k, Nat.mul_add, show (b :: l).getD (k + 1) 0 = l.getD k 0 from rfl, Nat.pow_succ, ← Nat.mul_assoc, Nat.mul_comm 256 (256 ^ k)]
    omega
theorem join_drop (l : List UInt8) (k : Nat) (hk : k < l.length) : joinTo (l.drop (l.length - (k + 1))) (k + 1) = 256 * joinTo (l.drop (l.length - k)) k + (l.getD (l.length - 1 - k) 0).toNat := by
  have h1 : l.length - (k + 1) < l.length := by omega
  rw [List.drop_eq_getElem_cons h1, joinTo_cons, show l.length - (k + 1) + 1 = l.length - k by omega, show l.length - 1 - k = l.length - (k + 1) by omega, List.getD_eq_getElem?_getD, List.getElem?_eq_getElem h1]
  simp; omega
def writeG (m b : ByteArray) (addr i : Nat) : UInt8 := if ((i : Int) - (addr : Int) ≥ 0 ∧ (i : Int) - (addr : Int) < (b.size : Int)) then b.data.toList.getD ((i : Int) - (addr : Int)).toNat 0 else m.data.toList.getD i 0
theorem writeG_eq (m b : ByteArray) (addr : Nat) (h : addr + b.size ≤ m.size) : (⟨(upto (writeG m b addr) m.size).toArray⟩ : ByteArray) = writeP m addr b := by
  unfold writeP
  congr 2
  have hm : m.data.toList.length = m.size := Array.length_toList
  have hb : b.data.toList.length = b.size := Array.length_toList
  refine List.ext_getElem? fun i => ?_
  unfold upto
  rw [List.getElem?_map]
  by_cases hi : i < m.size
  · rw [List.getElem?_range hi]
    simp only [Option.map_some, writeG]
    by_cases h1 : i < addr
    · rw [if_neg (by omega), List.append_assoc, List.getElem?_append_left (by rw [List.length_take]; omega), List.getElem?_take_of_lt h1, List.getD_eq_getElem?_getD, List.getElem?_eq_getElem (by omega)]; rfl
    · by_cases h2 : i < addr + b.size
      · rw [if_pos (by omega), List.append_assoc, List.getElem?_append_right (by rw [List.length_take]; omega), List.length_take, List.getElem?_append_left (by omega), List.getD_eq_getElem?_getD, show ((i : Int) - (addr : Int)).toNat = i - min addr m.data.toList.length by omega, List.getElem?_eq_getElem (by omega)]; rfl
      · rw [if_neg (by omega), List.getElem?_append_right (by rw [List.length_append, List.length_take]; omega), List.length_append, List.length_take, List.getElem?_drop, show addr + b.size + (i - (min addr m.data.toList.length + b.data.toList.length)) = i by omega, List.getD_eq_getElem?_getD, List.getElem?_eq_getElem (by omega)]; rfl
  · rw [List.getElem?_eq_none (by simpa using hi), List.getElem?_eq_none (by simp only [List.length_append, List.length_take, List.length_drop]; omega)]; rfl
end Go.Proofs.Ytckjihpdjefpgaa
