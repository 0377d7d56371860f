/- The second machine and the model: whatever order is drawn. -/
import Derived.Test.YtckjihpdjefpgaaAbsZ
namespace Go.Proofs.Ytckjihpdjefpgaa
open Go.RowKit

def lastW (W : Nat → Bool) : Nat → Nat
  | 0 => 0
  | k + 1 => match W k with | true => k + 1 | false => lastW W k
theorem lastW_le (W : Nat → Bool) : ∀ k, lastW W k ≤ k
  | 0 => Nat.le_refl _
  | k + 1 => by simp only [lastW]; split <;> have := lastW_le W k <;> omega
theorem lastW_ge {W : Nat → Bool} : ∀ (k i : Nat), i < k → W i = true → i + 1 ≤ lastW W k
  | 0, i, h, _ => by omega
  | k + 1, i, h, hi => by
    simp only [lastW]
    split
    · omega
    · rename_i hk
      by_cases he : i = k
      · subst he; rw [hi] at hk; cases hk
      · exact lastW_ge k i (by omega) hi
theorem lastW_mem {W : Nat → Bool} : ∀ (k : Nat), lastW W k = 0 ∨ W (lastW W k - 1) = true
  | 0 => .inl rfl
  | k + 1 => by
    simp only [lastW]
    split
    · rename_i hk; exact .inr (by simpa using hk)
    · exact lastW_mem k
theorem lastW_none {W : Nat → Bool} : ∀ (k p : Nat), (∀ i, i < k → W i = true → i < p) → lastW W k ≤ p
  | 0, _, _ => Nat.zero_le _
  | k + 1, p, h => by
    simp only [lastW]
    split
    · rename_i hk; exact h k (by omega) hk
    · exact lastW_none k p fun i hi => h i (by omega)

def cntX (X : Nat → Bool) : Nat → Nat
  | 0 => 0
  | k + 1 => (match X k with | true => 0 | false => 1) + cntX X k
theorem cntX_zero {X : Nat → Bool} : ∀ k, cntX X k = 0 → ∀ i, i < k → X i = true
  | 0, _, i, hi => by omega
  | k + 1, h, i, hi => by
    simp only [cntX] at h
    by_cases he : i = k
    · subst he; cases hx : X i <;> rw [hx] at h <;> first | rfl | (simp at h; done) | (simp at h; omega)
    · exact cntX_zero k (by omega) i (by omega)
theorem cntX_congr {X Y : Nat → Bool} : ∀ k, (∀ i, i < k → X i = Y i) → cntX X k = cntX Y k
  | 0, _ => rfl
  | k + 1, h => by simp only [cntX, h k (by omega), cntX_congr k fun i hi => h i (by omega)]
theorem cntX_put {X Y : Nat → Bool} {j : Nat} (hj : X j = false) (hy : Y j = true) (ho : ∀ i, i ≠ j → Y i = X i) : ∀ k, j < k → cntX Y k + 1 = cntX X k
  | 0, h => by omega
  | k + 1, h => by
    simp only [cntX]
    by_cases he : j = k
    · subst he
      rw [hj, hy, cntX_congr (X := Y) (Y := X) j fun i hi => ho i (by omega)]
      simp; omega
    · have := cntX_put hj hy ho k (by omega)
      rw [ho k (fun e => he e.symm)]
      omega

section
variable {C : Ctx} {R : FuncId → List AV → AV → Prop}

theorem bit_lt {l : List Oper} (D : DrawOk l) {i j : Nat} {oj : Oper} (hj : l[j]? = some oj) (hi : ((masks l []).getD j 0).testBit i = true) : i < j :=
  masks_ok (X := (· < j)) (fun k ok hk hok e he hb => Nat.lt_trans (D.back k ok hok e he hb) hk) hj (fun e he hb => D.back j oj hj e he hb) hi
/-- Of two that are told in order, that one has come up that stands ahead. -/
theorem ord_iff {l : List Oper} (D : DrawOk l) {X : Nat → Prop} (hX : Down l X) {i j : Nat} {oi oj : Oper} (hi : l[i]? = some oi) (hj : l[j]? = some oj) (hp : ∀ e ∈ oj.after.toList, Region.binds .any e = true → X e.on) (hnj : ¬ X j) (ho : ordd (masks l []) i j = true) : X i ↔ i < j := by
  simp only [ordd, Bool.or_eq_true] at ho
  rcases ho with ho | ho
  · exact ⟨fun _ => bit_lt D hj ho, fun _ => masks_ok hX hj hp ho⟩
  · have hlt := bit_lt D hi ho
    refine ⟨fun hXi => absurd (masks_ok hX hi (fun e he hb => hX i oi hXi hi e he hb) ho) hnj, fun h => by omega⟩

theorem same_to {hh : Nat → AH} {b j : Nat} : ∀ k, j ≤ k → (∀ i, j ≤ i → i < k → hh (i + 1) b = hh i b) → hh k b = hh j b
  | 0, hj, _ => by rw [show j = 0 by omega]
  | k + 1, hj, h => by
    by_cases he : j = k + 1
    · rw [he]
    · rw [h k (by omega) (by omega)]
      exact same_to k (by omega) fun i h1 h2 => h i h1 (by omega)

def wrt (l : List Oper) (k : Nat) : Bool := match l[k]? with | some o => writesO o.op | none => false
theorem writes_reads : ∀ (op : Op), writesO op = true → readsO op = true := by
  intro op h
  cases op <;> first | rfl | (simp [writesO] at h)

/-- A region's chain of steps. -/
structure Chn (C : Ctx) (l : List Oper) (n : Nat) (h : AH) (t : Nat → AV) (xs : Nat → AV) (hh : Nat → AH) (tt : Nat → Nat → AV) : Prop where
  D : DrawOk l
  step : ∀ k o, l[k]? = some o → StepR C (DCall C) l o (n + k) (tt k) (hh k) (xs k) (hh (k + 1))
  next : ∀ k o, l[k]? = some o → tt (k + 1) = updO (tt k) o.dst (xs k)
  t0 : tt 0 = t
  h0 : hh 0 = h
  new : ∀ s, n ≤ s → h s = none

variable {l : List Oper} {n : Nat} {h : AH} {t xs : Nat → AV} {hh : Nat → AH} {tt : Nat → Nat → AV}

theorem Chn.quiet (Z : Chn C l n h t xs hh tt) {i : Nat} (hi : i < l.length) (hw : wrt l i = false) {b : Nat} (hb : b ≠ n + i) : hh (i + 1) b = hh i b := by
  refine Classical.byContradiction fun hn => ?_
  have ho : l[i]? = some l[i] := List.getElem?_eq_getElem hi
  have := (stepR_heap (Z.step i _ ho) b hb hn).1
  simp only [wrt, ho, this] at hw
  cases hw
theorem Chn.live (Z : Chn C l n h t xs hh tt) {i : Nat} (hi : i < l.length) {b : Nat} (hb : b ≠ n + i) (hn : hh i b = none) : hh (i + 1) b = none := by
  have ho : l[i]? = some l[i] := List.getElem?_eq_getElem hi
  by_cases he : hh (i + 1) b = hh i b
  · rw [he, hn]
  · exact absurd hn (stepR_heap (Z.step i _ ho) b hb he).2
theorem Chn.fresh (Z : Chn C l n h t xs hh tt) {b : Nat} (hb : n ≤ b) : ∀ k, k ≤ l.length → n + k ≤ b → hh k b = none
  | 0, _, _ => by rw [Z.h0]; exact Z.new b hb
  | k + 1, hk, hkb => Z.live (by omega) (by omega) (Z.fresh hb k (by omega) (by omega))

/-- What holds where some have come up. -/
structure DInv (C : Ctx) (l : List Oper) (n : Nat) (h : AH) (t xs : Nat → AV) (hh : Nat → AH) (w0 : World) (S0 : Nat → Prop) (N : Nat) (X : Nat → Bool) (a : Act) (w : World) : Prop where
  down : Down l (X · = true)
  bnd : ∀ i, X i = true → i < l.length
  H3 : ∀ k j, X k = true → wrt l k = true → X j = false → j < l.length → hh (k + 1) (n + j) = hh k (n + j)
  sim : ∃ S β hX, SimD C w0 S0 N (fun s => s < n ∨ ∃ i, X i = true ∧ s = n + i) (valX X l xs t l.length) hX a w S β ∧
    (∀ s, s < n → hX s = hh (lastW (fun i => X i && wrt l i) l.length) s) ∧
    (∀ i, X i = true → hX (n + i) = hh (max (i + 1) (lastW (fun i => X i && wrt l i) l.length)) (n + i))

theorem dinv_step (hC : CtxOk C) (Z : Chn C l n h t xs hh tt) {ops : Array Oper} (hall : ops.toList = l) {w0 : World} {S0 : Nat → Prop} {N : Nat} (hb : slotsOk N l = true) {X Y : Nat → Bool} {a : Act} {w : World} (I : DInv C l n h t xs hh w0 S0 N X a w) {j : Nat} {o : Oper} (hj : l[j]? = some o)
    (hp : ∀ e ∈ o.after.toList, Region.binds .any e = true → X e.on = true) (hnj : X j = false) (hYj : Y j = true) (hY : ∀ i, i ≠ j → Y i = X i) {K : Act → World → Prop} {Q : Exit → Act → World → Prop} (hK : ∀ a' w', DInv C l n h t xs hh w0 S0 N Y a' w' → K a' w') :
    if Region.wanted o (yielded ops a.tmps) then o.wp C.P a w K Q ∨ (o.asks C.P a w ∧ LetsOut Q) else K (a.put o.dst undef) w := by
  obtain ⟨S, β, hX, M, H1, H2⟩ := I.sim
  have hjl : j < l.length := (List.getElem?_eq_some_iff.1 hj).1
  have hnj' : ¬ (X j = true) := by rw [hnj]; simp
  -- a name that is new
  have hs : β (n + j) = none := by
    cases hq : β (n + j) with
    | none => rfl
    | some loc =>
      rcases M.dom _ _ hq with h | ⟨i, hi, he⟩
      · omega
      · have : i = j := by omega
        subst this; rw [hnj] at hi; cases hi
  -- writers and this one
  have wiff : readsO o.op = true → ∀ k, k < l.length → k ≠ j → wrt l k = true → (X k = true ↔ k < j) := by
    intro hr k hk hne hw
    have hok : l[k]? = some l[k] := List.getElem?_eq_getElem hk
    have hwk : writesO l[k].op = true := by simpa only [wrt, hok] using hw
    exact ord_iff Z.D I.down hok hj hp hnj' (Z.D.mem k j _ o hok hj hne hwk hr)
  generalize hP : lastW (fun i => X i && wrt l i) l.length = p at H1 H2
  have hple : p ≤ l.length := by rw [← hP]; exact lastW_le _ _
  -- for one that reads: no writer between p and j
  have pj : readsO o.op = true → p ≤ j := by
    intro hr
    rw [← hP]
    refine lastW_none _ _ fun i hi hw => ?_
    simp only [Bool.and_eq_true] at hw
    by_cases he : i = j
    · subst he; rw [hnj] at hw; cases hw.1
    · exact (wiff hr i hi he hw.2).1 hw.1
  have pq : readsO o.op = true → ∀ i, p ≤ i → i < j → wrt l i = false := by
    intro hr i h1 h2
    cases hw : wrt l i with
    | false => rfl
    | true =>
      have hXi := (wiff hr i (by omega) (by omega) hw).2 h2
      have := lastW_ge (W := fun i => X i && wrt l i) l.length i (by omega) (by simp [hXi, hw])
      rw [hP] at this
      omega
  have old : readsO o.op = true → ∀ s, s < n → hX s = hh j s := by
    intro hr s hsn
    rw [H1 s hsn]
    exact (same_to j (pj hr) fun i h1 h2 => Z.quiet (by omega) (pq hr i h1 h2) (by omega)).symm
  have newer : readsO o.op = true → ∀ i, X i = true → i < j → hX (n + i) = hh j (n + i) := by
    intro hr i hi hij
    rw [H2 i hi]
    exact (same_to j (by have := pj hr; omega) fun k h1 h2 => Z.quiet (by omega) (pq hr k (by omega) h2) (by omega)).symm
  have hag : readsO o.op = true → Agree β (hh j) hX := by
    intro hr b loc hbl hne
    rcases M.dom _ _ hbl with hbn | ⟨i, hi, rfl⟩
    · exact old hr b hbn
    · rcases Nat.lt_or_ge i j with hij | hij
      · exact newer hr i hi hij
      · exact absurd (Z.fresh (by omega) j (by omega) (by omega)) hne
  -- slots
  have slot : ∀ tmp ∈ looksO l o, valX X l xs t l.length tmp = tt j tmp := by
    intro tmp htmp
    rw [val_all Z.t0 (fun k o hk => Z.next k o hk) j (by omega), ← val_lt tmp (by omega)]
    refine val_congr _ fun i oi hi hoi hd => ?_
    by_cases he : i = j
    · subst he; rw [hnj]; simp
    · have := ord_iff Z.D I.down hoi hj hp hnj' (Z.D.slot i j oi o tmp hoi hj he hd htmp)
      by_cases hlt : i < j
      · rw [this.2 hlt]; simp [hlt]
      · have hx : ¬ (X i = true) := fun h => hlt (this.1 h)
        simp only [hlt, decide_false]
        simpa using hx
  obtain ⟨h2, st, hrel⟩ := stepR_tr M (Z.step j o hj) slot hag
  refine step_sound hC M hs hall st (slots_lt hb (List.mem_of_getElem? hj)) (fun i pol d _ hd => guard_lt hb i d hd) fun a' w' S' β' M' => hK a' w' ?_
  have XY : ∀ i, Y i = true ↔ X i = true ∨ i = j := fun i => by
    by_cases he : i = j
    · subst he; simp [hYj]
    · rw [hY i he]; simp [he]
  -- none of what is new to others is turned
  have hXnone : hX (n + j) = none := by
    cases hq : hX (n + j) with
    | none => rfl
    | some blk =>
      obtain ⟨loc, _, _, _, hl, _⟩ := M.H.own _ _ hq
      rw [hs] at hl; cases hl
  have hjnone : hh j (n + j) = none := Z.fresh (by omega) j (by omega) (by omega)
  have h2new : h2 (n + j) = hh (j + 1) (n + j) := hrel.1 _ (by rw [hXnone, hjnone])
  refine ⟨fun k ok hk hok e he hbd => ?_, fun i hi => ?_, fun k i hk hw hi hil => ?_, S', β', h2, ?_, ?_, ?_⟩
  · rcases (XY k).1 hk with hk | rfl
    · exact (XY _).2 (.inl (I.down k ok hk hok e he hbd))
    · rw [hj] at hok; injection hok with hok; subst hok
      exact (XY _).2 (.inl (hp e he hbd))
  · rcases (XY i).1 hi with hi | rfl
    · exact I.bnd i hi
    · exact hjl
  · have hXi : X i = false := by
      cases hx : X i with
      | false => rfl
      | true => rw [(XY i).2 (.inl hx)] at hi; cases hi
    have hij : i ≠ j := fun e => by subst e; rw [hYj] at hi; cases hi
    rcases (XY k).1 hk with hk | rfl
    · exact I.H3 k i hk hw hXi hil
    · refine Classical.byContradiction fun hn => ?_
      obtain ⟨_, _, loc, hl⟩ := hrel.2 (n + i) (by omega) (.inl hn)
      rcases M.dom _ _ hl with h | ⟨i', hi', he⟩
      · omega
      · have : i' = i := by omega
        subst this; rw [hXi] at hi'; cases hi'
  · -- the state
    have hval : updO (valX X l xs t l.length) o.dst (xs j) = valX Y l xs t l.length := by
      funext tmp
      by_cases hd : o.dst = some tmp
      · rw [hd, updO_same]
        have hlook : tmp ∈ looksO l o := by simp [looksO, hd]
        rw [val_stop (X := Y) (j := j + 1) l.length (by omega) fun i oi h1 h2 hoi hdi => ?_]
        · simp only [valX, hj, hYj, hd, updO_same]
        · have he : i ≠ j := by omega
          have := ord_iff Z.D I.down hoi hj hp hnj' (Z.D.slot i j oi o tmp hoi hj he hdi hlook)
          cases hx : Y i with
          | false => rfl
          | true =>
            rcases (XY i).1 hx with h | h
            · have := this.1 h; omega
            · omega
      · rw [updO_other hd]
        refine val_congr _ fun i oi hi hoi hdi => ?_
        by_cases he : i = j
        · subst he; rw [hj] at hoi; injection hoi with hoi; subst hoi; exact absurd hdi hd
        · exact (hY i he).symm
    rw [← hval]
    refine ⟨M'.T, M'.H, M'.B, fun y loc hy => ?_, M'.df, M'.sz, M'.G, M'.nw⟩
    rcases M'.dom y loc hy with (h | ⟨i, hi, he⟩) | h
    · exact .inl h
    · exact .inr ⟨i, (XY i).2 (.inl hi), he⟩
    · exact .inr ⟨j, hYj, h⟩
  all_goals
    cases hw : wrt l j with
    | true =>
      have hwo : writesO o.op = true := by simpa only [wrt, hj] using hw
      have hr := writes_reads _ hwo
      have hp' : lastW (fun i => Y i && wrt l i) l.length = j + 1 := by
        refine Nat.le_antisymm (lastW_none _ _ fun i hi hwi => ?_) (lastW_ge _ j hjl (by simp [hYj, hw]))
        simp only [Bool.and_eq_true] at hwi
        rcases (XY i).1 hwi.1 with h | h
        · have hne : i ≠ j := fun e => by subst e; rw [hnj] at h; cases h
          have := (wiff hr i hi hne hwi.2).1 h
          omega
        · omega
      rw [hp']
      first
        | (intro s hsn; exact hrel.1 s (old hr s hsn))
        | (intro i hi
           rcases (XY i).1 hi with hi | rfl
           · rcases Nat.lt_or_ge i j with hij | hij
             · rw [hrel.1 _ (newer hr i hi hij), Nat.max_eq_right (by omega)]
             · have hne : i ≠ j := fun e => by subst e; rw [hnj] at hi; cases hi
               have hpj := pj hr
               rw [Nat.max_eq_left (by omega)]
               have hfr : hh j (n + i) = none := Z.fresh (by omega) j (by omega) (by omega)
               have h3 : h2 (n + i) = hX (n + i) := Classical.byContradiction fun hn => (hrel.2 (n + i) (by omega) (.inr hn)).2.1 hfr
               rw [h3, H2 i hi, Nat.max_eq_left (by omega)]
           · rw [h2new, Nat.max_self])
    | false =>
      have hwo : writesO o.op = false := by simpa only [wrt, hj] using hw
      have hp' : lastW (fun i => Y i && wrt l i) l.length = p := by
        rw [← hP]
        have : (fun i => Y i && wrt l i) = fun i => X i && wrt l i := by
          funext i
          by_cases he : i = j
          · subst he; simp [hw]
          · rw [hY i he]
        rw [this]
      rw [hp']
      have same : ∀ b, b ≠ n + j → h2 b = hX b := fun b hbj => Classical.byContradiction fun hn => by
        have := (hrel.2 b hbj (.inr hn)).1
        rw [hwo] at this; cases this
      first
        | (intro s hsn; rw [same s (by omega)]; exact H1 s hsn)
        | (intro i hi
           rcases (XY i).1 hi with hi | rfl
           · have hne : i ≠ j := fun e => by subst e; rw [hnj] at hi; cases hi
             rw [same _ (by omega)]; exact H2 i hi
           · rw [h2new]
             refine (same_to _ (Nat.le_max_left _ _) fun k h1 h2' => ?_).symm
             have hkp : k < p := by omega
             cases hwk : wrt l k with
             | false => exact Z.quiet (by omega) hwk (by omega)
             | true =>
               refine I.H3 k i ?_ hwk hnj hjl
               -- a writer ahead of one that has come up has come up
               rcases lastW_mem (W := fun i => X i && wrt l i) l.length with h0 | h0
               · rw [hP] at h0; omega
               · rw [hP] at h0
                 simp only [Bool.and_eq_true] at h0
                 by_cases hke : k = p - 1
                 · rw [hke]; exact h0.1
                 · have hkl : k < l.length := by omega
                   have hpl : p - 1 < l.length := by omega
                   have hok : l[k]? = some l[k] := List.getElem?_eq_getElem hkl
                   have hop : l[p - 1]? = some l[p - 1] := List.getElem?_eq_getElem hpl
                   have w1 : writesO l[k].op = true := by simpa only [wrt, hok] using hwk
                   have w2 : writesO l[p - 1].op = true := by have := h0.2; simpa only [wrt, hop] using this
                   have ho := Z.D.mem k (p - 1) _ _ hok hop hke w1 (writes_reads _ w2)
                   simp only [ordd, Bool.or_eq_true] at ho
                   rcases ho with ho | ho
                   · exact masks_ok I.down hop (fun e he hbd => I.down _ _ h0.1 hop e he hbd) ho
                   · have := bit_lt Z.D hok ho; omega)

theorem SimD.drawn {w0 : World} {S0 : Nat → Prop} {N : Nat} {D : Nat → Prop} {a : Act} {w : World} {S : Nat → Prop} {β : Bt} (M : SimD C w0 S0 N D t h a w S β) (k : Nat) : SimD C w0 S0 N D t h a { w with drawn := k } S β := by
  have hE : Evo S w { w with drawn := k } := ⟨fun _ _ => rfl, fun b cs e fr hb => ⟨cs, hb, rfl⟩⟩
  refine ⟨fun i => (M.T i).mono (fun _ h => h) hE (BtLe.refl _), ⟨fun s blk hs => ?_, M.H.inj, M.H.lt, M.H.big⟩, ⟨M.B.os, M.B.tape, M.B.output, M.B.size, M.B.block⟩, M.dom, M.df, M.sz, fun g cells hg => (M.G g cells hg).mono (fun _ h => h) hE (BtLe.refl _), M.nw⟩
  obtain ⟨l, cs, e, fr, k1, k2, k3, k4, k5, k6⟩ := M.H.own s blk hs
  exact ⟨l, cs, e, fr, k1, k2, k3, k4, k5, k6.mono (fun _ h => h) hE (BtLe.refl _)⟩

/-- A REGION WHOSE ORDER IS DRAWN. -/
theorem draw_sound (hC : CtxOk C) {w0 : World} {S0 : Nat → Prop} {N : Nat} {ops : Array Oper} (hb : slotsOk N ops.toList = true) (hd : drawOk ops.toList = true) {K : ASt → Prop} (hr : regA C (DCall C) ops.toList ops.toList 0 ⟨t, h, n⟩ K)
    {a : Act} {w : World} {S : Nat → Prop} {β : Bt} (M : SimD C w0 S0 N (· < n) t h a w S β) {Q : Exit → Act → World → Prop} (hQ : ∀ st a' w' S' β', K st → SimD C w0 S0 N (· < st.n) st.t st.h a' w' S' β' → Q .normal a' w') :
    wpAny C.P .any ops Q ops.size (Array.replicate ops.size false) a { w with drawn := w.drawn + 1 } := by
  obtain ⟨xs, hh, tt, e1, e2, e3, e4⟩ := chain_ex ops.toList 0 t h hr
  simp only [Nat.zero_add] at e3 e4
  have hnew : ∀ s, n ≤ s → h s = none := fun s hs => by
    cases hq : h s with
    | none => rfl
    | some blk =>
      obtain ⟨l, _, _, _, hl, _⟩ := M.H.own s blk hq
      have : s < n := M.dom s l hl
      omega
  have Z : Chn C ops.toList n h t xs hh tt := ⟨drawOk_spec hd, fun k o hk => (e3 k o hk).1, fun k o hk => (e3 k o hk).2, e1, e2, hnew⟩
  have hm : ops.toList.length = ops.size := by simp
  -- all have come up
  have fin : ∀ (X : Nat → Bool) (a : Act) (w : World), (∀ i, i < ops.size → X i = true) → DInv C ops.toList n h t xs hh w0 S0 N X a w → Q .normal a w := by
    intro X a w hall I
    obtain ⟨S, β, hX, M, H1, H2⟩ := I.sim
    have hall' : ∀ i, i < ops.toList.length → X i = true := fun i hi => hall i (by rw [← hm]; exact hi)
    refine hQ _ a w S β e4 ?_
    generalize hP : lastW (fun i => X i && wrt ops.toList i) ops.toList.length = p at H1 H2
    have hple : p ≤ ops.toList.length := by rw [← hP]; exact lastW_le _ _
    have quiet : ∀ i, p ≤ i → i < ops.toList.length → wrt ops.toList i = false := fun i h1 h2 => by
      cases hw : wrt ops.toList i with
      | false => rfl
      | true =>
        have := lastW_ge (W := fun i => X i && wrt ops.toList i) ops.toList.length i h2 (by simp [hall' i h2, hw])
        rw [hP] at this; omega
    have hT : valX X ops.toList xs t ops.toList.length = tt ops.toList.length := by
      rw [val_all Z.t0 (fun k o hk => Z.next k o hk) _ (Nat.le_refl _)]
      funext tmp
      exact val_congr _ fun i o hi _ _ => hall' i hi
    have hH : hX = hh ops.toList.length := by
      funext b
      rcases Nat.lt_or_ge b n with hbn | hbn
      · rw [H1 b hbn]
        exact (same_to _ hple fun i h1 h2 => Z.quiet h2 (quiet i h1 h2) (by omega)).symm
      · rcases Nat.lt_or_ge b (n + ops.toList.length) with hb2 | hb2
        · obtain ⟨i, rfl⟩ : ∃ i, b = n + i := ⟨b - n, by omega⟩
          have hi : i < ops.toList.length := by omega
          rw [H2 i (hall' i hi)]
          exact (same_to _ (by omega) fun k h1 h2 => Z.quiet h2 (quiet k (by omega) h2) (by omega)).symm
        · rw [Z.fresh hbn _ (Nat.le_refl _) hb2]
          cases hq : hX b with
          | none => rfl
          | some blk =>
            obtain ⟨l, _, _, _, hl, _⟩ := M.H.own b blk hq
            rcases M.dom b l hl with h | ⟨i, hi, he⟩
            · omega
            · have := I.bnd i hi; omega
    rw [← hT, ← hH]
    refine ⟨M.T, M.H, M.B, fun x l hx => ?_, M.df, M.sz, M.G, M.nw⟩
    show x < n + ops.toList.length
    rcases M.dom x l hx with h | ⟨i, hi, he⟩
    · omega
    · have := I.bnd i hi; omega
  -- none is ready only where all have come up
  have done : ∀ (listed : Array Bool), listed.size = ops.size → Region.ready .any ops listed = [] → ∀ i, i < ops.size → listed.getD i false = true := by
    intro listed hsz hnil i hi
    induction i using Nat.strongRecOn with
    | _ i ih =>
      cases hq : listed.getD i false with
      | true => rfl
      | false =>
        exfalso
        have hmem : i ∈ Region.ready .any ops listed := by
          refine mem_ready.2 ⟨?_, ops[i], Array.getElem?_eq_getElem hi, fun e he hbd => ?_⟩
          · have : i < listed.size := by omega
            rw [Array.getD_eq_getD_getElem?, Array.getElem?_eq_getElem this] at hq ⊢
            exact hq
          · have := Z.D.back i ops[i] (by rw [Array.getElem?_toList, Array.getElem?_eq_getElem hi]) e (by simpa using he) hbd
            exact ih e.on this (by omega)
        rw [hnil] at hmem
        cases hmem
  have main : ∀ (fuel : Nat) (listed : Array Bool) (a : Act) (w : World), listed.size = ops.size → cntX (fun i => listed.getD i false) ops.size = fuel → DInv C ops.toList n h t xs hh w0 S0 N (fun i => listed.getD i false) a w → wpAny C.P .any ops Q fuel listed a w := by
    intro fuel
    induction fuel with
    | zero =>
      intro listed a w hsz hc I
      have hall := cntX_zero _ hc
      refine ⟨?_, fin _ a w hall I⟩
      cases hr : Region.ready .any ops listed with
      | nil => rfl
      | cons i rest =>
        exfalso
        have hmem : i ∈ Region.ready .any ops listed := by rw [hr]; exact List.mem_cons_self
        obtain ⟨h1, o, ho, _⟩ := mem_ready.1 hmem
        have hi : i < ops.size := (Array.getElem?_eq_some_iff.1 ho).1
        have h2 := hall i hi
        have : i < listed.size := by omega
        rw [Array.getD_eq_getD_getElem?, Array.getElem?_eq_getElem this] at h1 h2
        simp only [Option.getD_some] at h1 h2
        rw [h1] at h2; cases h2
    | succ fuel ih =>
      intro listed a w hsz hc I
      refine ⟨fun hnil => fin _ a w (done listed hsz hnil) I, fun j hj => ?_⟩
      obtain ⟨h1, o, ho, hpre⟩ := mem_ready.1 hj
      have hjl : j < ops.size := (Array.getElem?_eq_some_iff.1 ho).1
      have hjs : j < listed.size := by omega
      have hoj : ops.toList[j]? = some o := by rw [Array.getElem?_toList]; exact ho
      have hXj : listed.getD j false = false := by
        rw [Array.getD_eq_getD_getElem?, Array.getElem?_eq_getElem hjs] at h1 ⊢
        exact h1
      have hYj : (listed.setIfInBounds j true).getD j false = true := by
        rw [Array.getD_eq_getD_getElem?, Array.getElem?_setIfInBounds_self_of_lt hjs]; rfl
      have hY : ∀ i, i ≠ j → (listed.setIfInBounds j true).getD i false = listed.getD i false := fun i hi => by
        rw [Array.getD_eq_getD_getElem?, Array.getD_eq_getD_getElem?, Array.getElem?_setIfInBounds_ne (Ne.symm hi)]
      unfold wpOp
      simp only [ho]
      refine dinv_step (X := fun i => listed.getD i false) (Y := fun i => (listed.setIfInBounds j true).getD i false) hC Z rfl hb I hoj (fun e he hbd => hpre e (by simpa using he) hbd) hXj hYj hY fun a' w' I' => ?_
      refine ih _ a' w' (by simp [hsz]) ?_ I'
      have := cntX_put (X := fun i => listed.getD i false) (Y := fun i => (listed.setIfInBounds j true).getD i false) hXj hYj hY ops.size hjl
      omega
  have hfalse : ∀ i, (Array.replicate ops.size false).getD i false = false := fun i => by
    rw [Array.getD_eq_getD_getElem?]
    by_cases hi : i < ops.size
    · simp [hi]
    · rw [Array.getElem?_eq_none (by simpa using hi)]; rfl
  have hXf : (fun i => (Array.replicate ops.size false).getD i false) = fun _ => false := funext hfalse
  have hcnt : ∀ k, cntX (fun i => (Array.replicate ops.size false).getD i false) k = k := by
    rw [hXf]
    intro k
    induction k with
    | zero => rfl
    | succ k ih => simp only [cntX, ih]; omega
  refine main ops.size _ a _ (by simp) (hcnt _) ⟨fun j oj hj => ?_, fun i hi => ?_, fun k j hk => ?_, S, β, h, ?_, fun s hs => ?_, fun i hi => ?_⟩
  · have := (hfalse j).symm.trans hj; cases this
  · have := (hfalse i).symm.trans hi; cases this
  · have := (hfalse k).symm.trans hk; cases this
  · have hv : valX (fun i => (Array.replicate ops.size false).getD i false) ops.toList xs t ops.toList.length = t := by
      have : ∀ k, valX (fun i => (Array.replicate ops.size false).getD i false) ops.toList xs t k = t := by
        intro k
        induction k with
        | zero => rfl
        | succ k ih =>
          rw [hXf] at ih ⊢
          simp only [valX]
          split <;> exact ih
      exact this _
    rw [hv]
    have M' := M.drawn (w.drawn + 1)
    exact ⟨M'.T, M'.H, M'.B, fun x l hx => .inl (M'.dom x l hx), M'.df, M'.sz, M'.G, M'.nw⟩
  · have : lastW (fun i => (Array.replicate ops.size false).getD i false && wrt ops.toList i) ops.toList.length = 0 := by
      refine Nat.le_zero.1 (lastW_none _ _ fun i _ hw => ?_)
      have h1 := hfalse i
      rw [h1] at hw; simp at hw
    rw [this, e2]
  · have := (hfalse i).symm.trans hi; cases this
end
end Go.Proofs.Ytckjihpdjefpgaa
