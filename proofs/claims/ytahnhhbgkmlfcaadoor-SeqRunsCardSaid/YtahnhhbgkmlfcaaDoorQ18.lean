/- seq.Run: so many steps from the beginning. -/
import Derived.Test.YtahnhhbgkmlfcaaDoorQ17
import Derived.Shelf.Abstract
namespace Go.Proofs.YtahnhhbgkmlfcaaDoor
open Go.RowKit

/-- What is asked of memory of one's own where a piece of code of a round comes to its end. -/
theorem simH_B {B : Nat} {S : Nat → Prop} {w : World} {β : Bt} {h : AH} (H : SimH 0 S w β h) (hb : ∀ s l, h s ≠ none → β s = some l → B ≤ l.blk) (hB : B ≤ w.heap.size) : SimH B S w β h := by
  refine ⟨fun s blk hs => ?_, H.inj, H.lt, hB⟩
  obtain ⟨l, cs, e, fr, k1, k2, k3, k4, k5, k6⟩ := H.own s blk hs
  exact ⟨l, cs, e, fr, k1, k2, k3, hb s l (by rw [hs]; simp) k1, k5, k6⟩
theorem simH_grow {B : Nat} {S S' : Nat → Prop} {w : World} {β : Bt} {h : AH} (H : SimH B S w β h) (hS : ∀ b, S b → S' b) (hn : ∀ s l, h s ≠ none → β s = some l → ¬ S' l.blk) (hlt : ∀ b, S' b → b < w.heap.size) : SimH B S' w β h := by
  refine ⟨fun s blk hs => ?_, H.inj, hlt, H.big⟩
  obtain ⟨l, cs, e, fr, k1, k2, k3, k4, k5, k6⟩ := H.own s blk hs
  exact ⟨l, cs, e, fr, k1, k2, k3, k4, hn s l (by rw [hs]; simp) k1, k6.mono hS (Evo.refl _ _) (BtLe.refl _)⟩
def ownB (β : Bt) : Nat → Prop := fun b => ∃ s l, β s = some l ∧ b = l.blk
def keepB (h : AH) (β : Bt) : Bt := fun s => match h s with | none => none | some _ => β s
theorem keepB_some {h : AH} {β : Bt} {s : Nat} {l : Loc} (hk : keepB h β s = some l) : h s ≠ none ∧ β s = some l := by
  unfold keepB at hk
  split at hk
  · cases hk
  · rename_i b hb
    exact ⟨by rw [hb]; simp, hk⟩
theorem keepB_of {h : AH} {β : Bt} {s : Nat} {l : Loc} (hs : h s ≠ none) (hb : β s = some l) : keepB h β s = some l := by
  unfold keepB
  split
  · rename_i h0; exact absurd h0 hs
  · exact hb
theorem simH_keep {B : Nat} {S : Nat → Prop} {w : World} {β : Bt} {h : AH} (H : SimH B S w β h) (hf : ∀ s blk, h s = some blk → freeB blk = true) (hp : ∀ s blk, h s = some blk → match blk with | .box cells => ∀ x ∈ cells, (match x with | .ptr s' _ | .ptr2 s' _ _ | .osl s' _ _ _ => h s' ≠ none | _ => True) | _ => True) : SimH B S w (keepB h β) h := by
  refine ⟨fun s blk hs => ?_, fun s s' l l' h1 h2 e1 e2 => H.inj s s' l l' h1 h2 (keepB_some e1).2 (keepB_some e2).2, H.lt, H.big⟩
  obtain ⟨l, cs, e, fr, k1, k2, k3, k4, k5, k6⟩ := H.own s blk hs
  refine ⟨l, cs, e, fr, keepB_of (by rw [hs]; simp) k1, k2, k3, k4, k5, ?_⟩
  have h1 := hf s blk hs
  have h2 := hp s blk hs
  cases blk with
  | box cells =>
    intro j a hj
    obtain ⟨u, q1, q2, q3⟩ := k6 j a hj
    have hmm := List.mem_of_getElem? hj
    have hfa := List.all_eq_true.1 h1 a hmm
    have hpa := h2 a hmm
    refine ⟨u, q1, q2, ?_⟩
    cases q3 with
    | v => exact .v _
    | ptr s c l hl => exact .ptr s c l (keepB_of hpa hl)
    | ptr2 s r c l hl => exact .ptr2 s r c l (keepB_of hpa hl)
    | osl s lo len clip l A c hl hc hm hcl hA cs e fr hh room => exact .osl s lo len clip l A c (keepB_of hpa hl) hc hm hcl hA cs e fr hh room
    | sl rs rows clip A c b o u hc hm hcl hrs hA hw h1 hr =>
      cases rows with
      | nil => exact .sl rs [] clip A c b o u hc hm hcl (fun row h => by cases h) (fun h => absurd h (Nat.lt_irrefl 0)) (fun i row j a h => by simp at h) h1 fun i row j a h => by simp at h
      | cons _ _ => simp [freeA] at hfa
    | _ => simp [freeA] at hfa
  | arr rows rs => exact k6

/-- A PIECE OF A ROUND. -/
theorem roundSeg {F : Fence} {m N n : Nat} {C : Ctx} {c : Code} {L : List (Nat × AV)} {hp : List (Nat × Blk)} {st' : ASt} {kp : Nat → Bool} {SA : Nat → Prop} {A : World} {a : Act} {β : Bt} {Q : Exit → Act → World → Prop} {e' : AEx}
    (hF : FOk F C.P) (hC : CtxOk C) (hok : codeOkIn N kp c = true) (hT : ∀ p ∈ L, Rep SA A β p.2 (a.tmps.getD p.1 undef)) (H : SimH 0 SA A β (heapF hp)) (hdom : ∀ x l, β x = some l → heapF hp x ≠ none) (hn : ∀ x, heapF hp x ≠ none → x < n) (hdf : a.defers = C.df) (hsz : a.tmps.size = N) (hG : GOk C SA A)
    (hw : codeA C (DCall C) c ⟨slotsF L, heapF hp, n⟩ (fun e st => e = e' ∧ ∃ σ, Weak st st' σ)) (hf : ∀ s blk, st'.h s = some blk → freeB blk = true) (hp' : ∀ s blk, st'.h s = some blk → match blk with | .box cells => ∀ x ∈ cells, (match x with | .ptr s' _ | .ptr2 s' _ _ | .osl s' _ _ _ => st'.h s' ≠ none | _ => True) | _ => True)
    (hk : ∀ a' B β', SimH 0 SA B β' st'.h → (∀ i s, st'.t i = .ptr s 0 → st'.h s ≠ none → ∃ lo, β' s = some lo ∧ a'.tmps.getD i undef = ptrV lo) → (∀ i, freeA (st'.t i) = true → (match st'.t i with | .ptr s' _ | .ptr2 s' _ _ | .osl s' _ _ _ => st'.h s' ≠ none | _ => True) → Rep SA B β' (st'.t i) (a'.tmps.getD i undef)) → (∀ x l, β' x = some l → st'.h x ≠ none) → Same (fun b => ¬ ownB β b) A B → (∀ b, ownB β' b → ownB β b ∨ A.heap.size ≤ b) → a'.tmps.size = N → a'.defers = C.df →
      (∀ i, kp i = true → a'.tmps.getD i undef = a.tmps.getD i undef) → Q (toExit e') a' B) (hlt : C.lt = false := by rfl) : c.wpIn F m C.P Q a A := by
  have hSA : ∀ b, SA b → b < A.heap.size ∧ ¬ ownB β b := fun b hb => ⟨H.lt b hb, by
    rintro ⟨s, l, h1, rfl⟩
    cases hs : heapF hp s with
    | none => exact hdom s l h1 hs
    | some blk =>
      obtain ⟨l', _, _, _, k1, _, _, _, k5, _⟩ := H.own s blk hs
      rw [h1] at k1; cases k1
      exact k5 hb⟩
  have X := simx_mk (C := C) (N := N) (kp := kp) (S := fun b => b < A.heap.size ∧ ¬ ownB β b) (β := β) (n := n) (w := A) (L := L) (hp := hp) (a := a) (fun p hp => (hT p hp).mono hSA (Evo.refl _ _) (BtLe.refl _))
    (simH_grow H hSA (fun s l _ h1 h2 => h2.2 ⟨s, l, h1, rfl⟩) fun b h => h.1) (fun x l h => hn x (hdom x l h)) hdf hsz (fun g cells hg => (hG g cells hg).mono hSA (Evo.refl _ _) (BtLe.refl _))
  refine wpIn_mono (code_soundIn (m := m) hF hC hlt c hok _ _ hw a A _ β X) ?_
  rintro e a' B ⟨e1, st1, S1, β1, rfl, ⟨rfl, σ, hW⟩, X1⟩
  replace X1 := X1.weak hW
  generalize (fun s => if s < st'.n then β1 (σ s) else none) = β2 at X1
  have hnS : ∀ s l, st'.h s ≠ none → β2 s = some l → ¬ S1 l.blk := fun s l hs h1 h2 => by
    cases hq : st'.h s with
    | none => exact hs hq
    | some blk =>
      obtain ⟨l', _, _, _, k1, _, _, _, k5, _⟩ := X1.M.H.own s blk hq
      rw [h1] at k1; cases k1
      exact k5 h2
  have hszB : A.heap.size ≤ B.heap.size := X1.sz
  have H2 : SimH 0 SA B β2 st'.h := simH_free X1.M.H hf (fun s l hs h1 h2 => hnS s l hs h1 (X1.hS _ (hSA _ h2))) (fun b hb => Nat.lt_of_lt_of_le (H.lt b hb) hszB) (fun _ _ _ => rfl) (Nat.zero_le _)
  refine hk a' B (keepB st'.h β2) (simH_keep H2 hf hp') (fun i s h1 h2 => ?_) (fun i hf1 hf2 => ?_) (fun x l h => (keepB_some h).1) (X1.same rfl rfl rfl |>.mono fun x hx hx' => ⟨hx, hx'⟩) ?_ X1.M.sz X1.M.df X1.tm
  · have hT := X1.M.T i
    rw [h1] at hT
    generalize a'.tmps.getD i undef = v at hT
    cases hT with
    | ptr _ _ l hl => exact ⟨l, keepB_of h2 hl, rfl⟩
  · have hT := X1.M.T i
    generalize st'.t i = x at hT hf1 hf2
    generalize a'.tmps.getD i undef = v at hT
    cases hT with
    | v => exact .v _
    | ptr s c l hl => exact .ptr s c l (keepB_of hf2 hl)
    | ptr2 s r c l hl => exact .ptr2 s r c l (keepB_of hf2 hl)
    | osl s lo len clip l A c hl hc hm hcl hA cs e fr hh room => exact .osl s lo len clip l A c (keepB_of hf2 hl) hc hm hcl hA cs e fr hh room
    | sl rs rows clip A c b o u hc hm hcl hrs hA hw h1 hr =>
      cases rows with
      | nil => exact .sl rs [] clip A c b o u hc hm hcl (fun row h => by cases h) (fun h => absurd h (Nat.lt_irrefl 0)) (fun i row j a h => by simp at h) h1 fun i row j a h => by simp at h
      | cons _ _ => simp [freeA] at hf1
    | _ => simp [freeA] at hf1
  · rintro b ⟨s, l, h1, rfl⟩
    obtain ⟨h2, h3⟩ := keepB_some h1
    rcases Nat.lt_or_ge l.blk A.heap.size with hlt | hge
    · left
      refine Classical.byContradiction fun hc => hnS s l h2 h3 (X1.hS _ ⟨hlt, hc⟩)
    · exact .inr hge

set_option maxRecDepth 100000 in
set_option maxHeartbeats 4000000 in
theorem dSteps (rows : List (List AV)) (s : St) (n : Int) (clip : Bool) (hs : s.ok) : DCall C0 22 [.sl 1 rows clip, stA s, .v (.int .i64 n)] (.clo 34 [] [.dp 35 0 (stL s.pc s.r s.mem s.halt), .dp 1 0 [.v (.int .i64 n)], .dp 1 0 [.sl 1 rows clip]]) := by
  refine DCall.intro c0Ok Tryd.func22 rfl rfl (by kernel_rfl) rfl ?_
  refine cSeq ?_
  refine cR ?_
  refine rFx (d := 3) (x := .ptr 0 0) (h' := upd _ 0 (some (.box [.sl 1 rows clip]))) rfl rfl (rfl) (trivial) ?_
  refine rFx (d := 4) (x := .ptr 1 0) (h' := upd _ 1 (some (.box (stL s.pc s.r s.mem s.halt)))) rfl rfl (rfl) (trivial) ?_
  refine rFx (d := 5) (x := .ptr 2 0) (h' := upd _ 2 (some (.box [vI n]))) rfl rfl (rfl) (trivial) ?_
  refine rO 6 (.v .nilFunc) ?_
  refine rE 4 ?_
  refine cSeq ?_
  refine cR ?_
  refine rO 7 (.clo 34 [] [.ptr 1 0, .ptr 2 0, .ptr 0 0]) ?_
  refine rO 6 (.clo 34 [] [.ptr 1 0, .ptr 2 0, .ptr 0 0]) ?_
  refine rE 6 ?_
  refine cRet ?_
  exact finTA rfl ⟨trivial, trivial, trivial, trivial, trivial⟩ rfl rfl

def capN (n : Int) : Int := if (10000 : Int) < n then 10000 else n
theorem capN_le (n : Int) : capN n ≤ 10000 := by unfold capN; split <;> omega
def newS (m : ByteArray) : St := ⟨0, fun _ => 0, cleanP m, 0⟩
theorem dNewS (p : AV) (m : ByteArray) : DCall C0 16 [p, .v (.string m)] (stA (newS m)) := dNew p m
theorem newS_ok (m : ByteArray) : (newS m).ok := ⟨Nat.zero_le _, fun _ => Nat.zero_le _, by show (cleanP m).size ≤ 256; rw [cleanP_size]; exact upS_le _⟩
def lastOf (s0 : St) (pre : List (St × Sp)) : St := (pre.getLast?.map (·.1)).getD s0
abbrev rowS (x : St × Sp) : List AV := spL x.2
def runL (prog : List Nat) (m : ByteArray) (n : Int) : List (St × Sp) := stepsL prog (capN n).toNat (newS m)
theorem stepsL_len (prog : List Nat) : ∀ (n : Nat) (s : St), (stepsL prog n s).length ≤ n
  | 0, _ => Nat.le_refl _
  | n + 1, s => by
    show (if s.halt = 0 then _ else _ : List (St × Sp)).length ≤ _
    split
    · have := stepsL_len prog n (stepP prog s).1; simp only [List.length_cons]; omega
    · exact Nat.zero_le _
theorem runL_len (prog : List Nat) (m : ByteArray) (n : Int) : (runL prog m n).length ≤ 10000 := by
  have h1 := stepsL_len prog (capN n).toNat (newS m)
  have h2 := capN_le n
  unfold runL
  omega
abbrev zero35 : List AV := [.v (.int .u32 0), .v (.int .u32 0), .v (.int .u32 0), .v (.int .u32 0), .v (.int .u32 0), .v (.int .u32 0), .v (.int .u32 0), .v (.int .u32 0), .v (.int .u32 0), .v (.int .u32 0), .v (.int .u32 0), .v (.int .u32 0), .v (.int .u32 0), .v (.int .u32 0), .v (.int .u32 0), .v (.int .u32 0), .v (.int .u32 0), .v (.int .u32 0), .v (.int .u32 0), .v (.int .u32 0), .v (.int .u32 0), .v (.int .u32 0), .v (.int .u32 0), .v (.int .u32 0), .v (.int .u32 0), .v (.int .u32 0), .v (.int .u32 0), .v (.int .u32 0), .v (.int .u32 0), .v (.int .u32 0), .v (.int .u32 0), .v (.int .u32 0), .v (.int .u32 0), .v (.string (⟨#[]⟩)), .v (.int .i64 0)]
abbrev hpN (s : St) : List (Nat × Blk) := [(0, .box zero35), (1, .box (stL s.pc s.r s.mem s.halt)), (2, .box [.sl 0 [] true])]
abbrev hpC (s : St) (rows : List (List AV)) (k : Nat) : List (Nat × Blk) := [(0, .box zero35), (1, .box (stL s.pc s.r s.mem s.halt)), (2, .box [.osl 3 0 k false]), (3, .arr rows 9)]
def hpR (s0 : St) (pre : List (St × Sp)) : List (Nat × Blk) := match pre with
  | [] => hpN s0
  | _ :: _ => hpC (lastOf s0 pre) (pre.map rowS) pre.length
theorem lastOf_snoc (s0 : St) (pre : List (St × Sp)) (x : St × Sp) : lastOf s0 (pre ++ [x]) = x.1 := by simp [lastOf]
theorem hpR_snoc (s0 : St) (pre : List (St × Sp)) (x : St × Sp) : hpR s0 (pre ++ [x]) = hpC x.1 (pre.map rowS ++ [rowS x]) (pre.length + 1) := by
  cases h : pre ++ [x] with
  | nil => simp at h
  | cons y l =>
    show hpC (lastOf s0 (y :: l)) ((y :: l).map rowS) (y :: l).length = _
    rw [← h, lastOf_snoc]; simp
theorem heapF_mem : ∀ {hp : List (Nat × Blk)} {s : Nat} {blk : Blk}, heapF hp s = some blk → (s, blk) ∈ hp
  | [], _, _, h => by cases h
  | (i, x) :: l, s, blk, h => by
    simp only [heapF] at h
    split at h
    · rename_i hb
      injection h with h; subst h
      rw [Nat.eq_of_beq_eq_true hb]; exact List.mem_cons_self
    · exact List.mem_cons_of_mem _ (heapF_mem h)
theorem heapF_ne : ∀ {hp : List (Nat × Blk)} {s : Nat}, heapF hp s ≠ none → s ∈ hp.map (·.1) := fun {hp s} h => by
  cases hq : heapF hp s with
  | none => exact absurd hq h
  | some blk => exact List.mem_map.2 ⟨_, heapF_mem hq, rfl⟩
def freeL (hp : List (Nat × Blk)) : Prop := ∀ p ∈ hp, freeB p.2 = true
theorem free_of {hp : List (Nat × Blk)} (h : freeL hp) : ∀ s blk, heapF hp s = some blk → freeB blk = true := fun s blk hs => h _ (heapF_mem hs)
theorem freeN (s : St) : freeL (hpN s) := by intro p hp; simp at hp; rcases hp with rfl | rfl | rfl <;> rfl
theorem rows_free (l : List (St × Sp)) : freeB (.arr (l.map rowS) 9) = true := by
  simp only [freeB, List.all_eq_true]
  intro row hr
  obtain ⟨x, _, rfl⟩ := List.mem_map.1 hr
  intro a ha
  simp at ha
  rcases ha with rfl | rfl | rfl | rfl | rfl | rfl | rfl | rfl | rfl <;> rfl
theorem freeC (s : St) (l : List (St × Sp)) (k : Nat) : freeL (hpC s (l.map rowS) k) := by
  intro p hp; simp at hp
  rcases hp with rfl | rfl | rfl | rfl
  · rfl
  · rfl
  · rfl
  · exact rows_free l
theorem freeR (s0 : St) (pre : List (St × Sp)) : freeL (hpR s0 pre) := by
  cases pre with
  | nil => exact freeN s0
  | cons y l => exact freeC _ (y :: l) _
theorem freeApp {hp hp' : List (Nat × Blk)} (h : freeL hp) (h' : freeL hp') : freeL (hp ++ hp') := fun p hm => (List.mem_append.1 hm).elim (h p) (h' p)

structure IRb (nw : Nat) (W3 : World) (SA : Nat → Prop) (p6 p8 p9 : Value) (hp : List (Nat × Blk)) (C : Nat → Prop) (A : World) (β : Bt) : Prop where
  H : SimH 0 SA A β (heapF hp)
  b6 : ∃ lo, β 0 = some lo ∧ p6 = ptrV lo
  b8 : ∃ lo, β 1 = some lo ∧ p8 = ptrV lo
  b9 : ∃ lo, β 2 = some lo ∧ p9 = ptrV lo
  dom : ∀ x l, β x = some l → heapF hp x ≠ none
  c : ∀ b, C b ↔ ownB β b
  sa : Same SA W3 A
  cw : ∀ b, C b → nw ≤ b
theorem own_at {B : Nat} {S : Nat → Prop} {w : World} {β : Bt} {h : AH} (H : SimH B S w β h) {s : Nat} {l : Loc} (hs : h s ≠ none) (hb : β s = some l) : l.blk < w.heap.size ∧ ¬ S l.blk := by
  cases hq : h s with
  | none => exact absurd hq hs
  | some blk =>
    obtain ⟨l', cs, e, fr, k1, k2, k3, k4, k5, k6⟩ := H.own s blk hq
    rw [hb] at k1; cases k1
    exact ⟨(Array.getElem?_eq_some_iff.1 k2).1, k5⟩
theorem IRb.same {nw : Nat} {W3 : World} {SA : Nat → Prop} {p6 p8 p9 : Value} {hp : List (Nat × Blk)} {C : Nat → Prop} {A B : World} {β : Bt} (I : IRb nw W3 SA p6 p8 p9 hp C A β) (hf : freeL hp) (hSA : ∀ b, SA b → b < W3.heap.size) (hs : Same (fun b => b < W3.heap.size ∨ C b) A B) : IRb nw W3 SA p6 p8 p9 hp C B β :=
  ⟨simH_free I.H (free_of hf) (fun s l h1 h2 => (own_at I.H h1 h2).2) (fun b hb => Nat.lt_of_lt_of_le (I.H.lt b hb) hs.size) (fun s l h1 => hs.block _ (own_at I.H (I.dom s l h1) h1).1 (.inr ((I.c _).2 ⟨s, l, h1, rfl⟩))) (Nat.zero_le _),
   I.b6, I.b8, I.b9, I.dom, I.c, I.sa.trans (hs.mono fun x _ hx => .inl (hSA x hx)), I.cw⟩


def kpR : Nat → Bool := fun i => match i with | 6 => true | 8 => true | 9 => true | _ => false
def SAof (W3 : World) (C : Nat → Prop) : Nat → Prop := fun b => b < W3.heap.size ∧ ¬ C b
/-- The slice that a run gives: none, or one in new memory. -/
def RunX (L : List (St × Sp)) (w w' : World) (z : Value) : Prop :=
  (L = [] ∧ Rep (fun _ => False) w' noB (.sl 0 [] true) z) ∨ L ≠ [] ∧ ∃ l, Rep (fun _ => False) w' (fun _ => some l) (.osl 0 0 L.length false) z ∧ SimH w.heap.size (fun _ => False) w' (fun _ => some l) (upd (fun _ => none) 0 (some (.arr (L.map rowS) 9)))
def RunP (c : AV) (L : List (St × Sp)) (w : World) (e : Ending) (w' : World) : Prop :=
  ∃ v1 v2, e = .returned (.tuple #[v1, v2]) ∧ Below w.heap.size w w' ∧ Rep (fun _ => False) w' noB c v1 ∧ RunX L w w' v2
theorem runX_own {B k : Nat} {rows : List (List AV)} {bx : Blk} {w' : World} {β : Bt} {z : Value} (H : SimH B (fun _ => False) w' β (heapF [(0, bx), (3, .arr rows 9)])) (hz : Rep (fun _ => False) w' β (.osl 3 0 k false) z) :
    ∃ l, Rep (fun _ => False) w' (fun _ => some l) (.osl 0 0 k false) z ∧ SimH B (fun _ => False) w' (fun _ => some l) (upd (fun _ => none) 0 (some (.arr rows 9))) := by
  obtain ⟨l, cs, e, fr, k1, k2, k3, k4, k5, k6⟩ := H.own 3 (.arr rows 9) rfl
  refine ⟨l, ?_, ⟨fun s blk hs => ?_, fun s s' l1 l2 h1 h2 _ _ _ => ?_, fun b hb => hb.elim, H.big⟩⟩
  · cases hz with
    | osl _ _ _ _ l2 A c hl hc hm hcl hA cs2 e2 fr2 hb room =>
      rw [k1] at hl; cases hl
      exact .osl 0 0 k false l A c rfl hc hm hcl hA cs2 e2 fr2 hb room
  · by_cases h0 : s = 0
    · subst h0
      rw [upd_same] at hs
      injection hs with hs; subst hs
      exact ⟨l, cs, e, fr, rfl, k2, k3, k4, k5, k6⟩
    · rw [upd_other _ _ h0] at hs; cases hs
  · have : ∀ x, upd (fun _ => none) 0 (some (Blk.arr rows 9)) x ≠ none → x = 0 := fun x hx => by
      by_cases h0 : x = 0
      · exact h0
      · rw [upd_other _ _ h0] at hx; exact absurd rfl hx
    rw [this s h1, this s' h2]

set_option maxRecDepth 100000 in
set_option maxHeartbeats 16000000 in
theorem runE (prog : List Nat) (m : ByteArray) (n : Int) (clip : Bool) (hp : ∀ x ∈ prog, x ≤ 4294967295) (hl : prog.length ≤ 1000000) (S : Nat → Prop) (w : World) (vs : List Value) (hS : ∀ b, S b → b < w.heap.size) (hG : GOk C0 S w) (hargs : RepL S w noB [.sl 1 (prog.map rowU) clip, .v (.string m), .v (.int .i64 n)] vs) :
    Calls C0.P 11 vs.toArray w fun e w' => RunP (stA (lastOf (newS m) (runL prog m n))) (runL prog m n) w e w' := by
  obtain ⟨hlen, hget⟩ := hargs
  match vs, hlen, hget with
  | [v0, v1, v2], _, hget =>
  have hr0 := hget 0 _ _ rfl rfl
  obtain rfl : v1 = .string m := rep_v (hget 1 _ _ rfl rfl)
  obtain rfl : v2 = .int .i64 n := rep_v (hget 2 _ _ rfl rfl)
  refine callsIn_wide.1 (callsIn_of_wp_marks (F := Fence.wide) (n := 3) Tryd.func11 rfl trivial ?_)
  simp only [Tryd.ntmps11, List.size_toArray, List.length_cons, List.length_nil, Nat.reduceAdd, Nat.reduceSub, Array.replicate_succ, Array.replicate_zero, List.push_toArray, List.append_toArray, List.nil_append, List.cons_append]
  have X0 := simx_mk (C := C0) (N := 29) (kp := fun _ => false) (S := (· < w.heap.size)) (β := noB) (n := 0) (w := w) (L := [(0, .sl 1 (prog.map rowU) clip), (1, .v (.string m)), (2, .v (.int .i64 n))]) (hp := [])
    (a := { tmps := #[v0, .string m, .int .i64 n, undef, undef, undef, undef, undef, undef, undef, undef, undef, undef, undef, undef, undef, undef, undef, undef, undef, undef, undef, undef, undef, undef, undef, undef, undef, undef], defers := [] })
    (by
      intro p hp
      simp only [List.mem_cons, List.not_mem_nil, or_false] at hp
      rcases hp with rfl | rfl | rfl
      · exact hr0.mono hS (Evo.refl _ _) (BtLe.refl _)
      · exact .v _
      · exact .v _)
    ⟨fun s blk h => (by cases h), fun s s' l l' h => absurd rfl h, fun b h => h, Nat.zero_le _⟩ (fun x l h => by cases h) rfl (by simp) (fun g cells hg => (hG g cells hg).mono hS (Evo.refl _ _) (BtLe.refl _))
  refine wpIn_seq (seg (st := ⟨slotsF [(0, .sl 1 (prog.map rowU) clip), (1, .v (.string m)), (2, vI n)], heapF [], 0⟩) (st' := ⟨slotsF [(0, .sl 1 (prog.map rowU) clip), (1, .v (.string m)), (2, vI n), (6, .ptr 0 0), (7, .sl 0 ([]) true)], heapF [(0, .box (stL 0 (fun _ => 0) (⟨#[]⟩) 0))], 2⟩) (fok_wide _) c0Ok (by kernel_rfl) X0 ?_ fun a1 A1 S1 β1 X1 => ?_)
  · skip
    refine cR ?_
    refine rFx (d := 6) (x := .ptr 0 0) (h' := upd _ 0 (some (.box (stL 0 (fun _ => 0) (⟨#[]⟩) 0)))) rfl rfl (rfl) (trivial) ?_
    refine rO 7 (.sl 0 ([]) true) ?_
    refine rE 2 ?_
    exact ⟨rfl, Weak.of_lists (fun s => s) ⟨⟨rfl, rfl⟩, ⟨rfl, rfl⟩, ⟨rfl, rfl⟩, ⟨rfl, rfl⟩, ⟨rfl, rfl⟩, trivial⟩ ⟨⟨rfl, rfl, rfl⟩, trivial⟩ rfl⟩
  refine wpIn_seq (seg (st := ⟨slotsF [(0, .sl 1 (prog.map rowU) clip), (1, .v (.string m)), (2, vI n), (6, .ptr 0 0), (7, .sl 0 ([]) true)], heapF [(0, .box (stL 0 (fun _ => 0) (⟨#[]⟩) 0))], 2⟩) (st' := ⟨slotsF [(0, .sl 1 (prog.map rowU) clip), (1, .v (.string m)), (2, vI n), (6, .ptr 0 0), (7, .sl 0 ([]) true), (8, .ptr 5 0)], heapF [(0, .box (stL 0 (fun _ => 0) (⟨#[]⟩) 0)), (5, .box (stL ((newS m).pc) ((newS m).r) ((newS m).mem) ((newS m).halt)))], 7⟩) (fok_wide _) c0Ok (by kernel_rfl) X1 ?_ fun a2 A2 S2 β2 X2 => ?_)
  · skip
    refine cR ?_
    refine rO 12 (.sl 1 (prog.map rowU) clip) ?_
    refine rO 13 (.v (.string m)) ?_
    refine rCall (args := [.sl 1 (prog.map rowU) clip, .v (.string m)]) (d := 14) (x := .agg (stL (newS m).pc (newS m).r (newS m).mem (newS m).halt)) rfl rfl rfl rfl (.inl rfl) rfl (dNewS (.sl 1 (prog.map rowU) clip) m) ?_
    refine rFx (d := 8) (x := .ptr 5 0) (h' := upd _ 5 (some (.box (stL 0 (fun _ => 0) (⟨#[]⟩) 0)))) rfl rfl (rfl) (trivial) ?_
    refine rFx0 (h' := upd _ 5 (some (.box (stL ((newS m).pc) ((newS m).r) ((newS m).mem) ((newS m).halt))))) rfl rfl (rfl) (trivial) ?_
    refine rE 7 ?_
    exact ⟨rfl, Weak.of_lists (fun s => s) ⟨⟨rfl, rfl⟩, ⟨rfl, rfl⟩, ⟨rfl, rfl⟩, ⟨rfl, rfl⟩, ⟨rfl, rfl⟩, ⟨rfl, rfl⟩, trivial⟩ ⟨⟨rfl, rfl, rfl⟩, ⟨rfl, rfl, rfl⟩, trivial⟩ rfl⟩
  refine wpIn_seq (seg (st := ⟨slotsF [(0, .sl 1 (prog.map rowU) clip), (1, .v (.string m)), (2, vI n), (6, .ptr 0 0), (7, .sl 0 ([]) true), (8, .ptr 5 0)], heapF [(0, .box (stL 0 (fun _ => 0) (⟨#[]⟩) 0)), (5, .box (stL ((newS m).pc) ((newS m).r) ((newS m).mem) ((newS m).halt)))], 7⟩) (st' := ⟨slotsF [(0, .sl 1 (prog.map rowU) clip), (1, .v (.string m)), (2, vI n), (6, .ptr 0 0), (7, .sl 0 ([]) true), (8, .ptr 5 0), (9, .ptr 7 0)], heapF [(0, .box (stL 0 (fun _ => 0) (⟨#[]⟩) 0)), (5, .box (stL ((newS m).pc) ((newS m).r) ((newS m).mem) ((newS m).halt))), (7, .box [.sl 0 ([]) true])], 8⟩) (fok_wide _) c0Ok (by kernel_rfl) X2 ?_ fun a3 A3 S3 β3 X3 => ?_)
  · skip
    refine cR ?_
    refine rFx (d := 9) (x := .ptr 7 0) (h' := upd _ 7 (some (.box [.sl 0 ([]) true]))) rfl rfl (rfl) (trivial) ?_
    refine rE 8 ?_
    exact ⟨rfl, Weak.of_lists (fun s => s) ⟨⟨rfl, rfl⟩, ⟨rfl, rfl⟩, ⟨rfl, rfl⟩, ⟨rfl, rfl⟩, ⟨rfl, rfl⟩, ⟨rfl, rfl⟩, ⟨rfl, rfl⟩, trivial⟩ ⟨⟨rfl, rfl, rfl⟩, ⟨rfl, rfl, rfl⟩, ⟨rfl, rfl, rfl⟩, trivial⟩ rfl⟩
  refine wpIn_seq (wpIn_seq (seg (st := ⟨slotsF [(0, .sl 1 (prog.map rowU) clip), (1, .v (.string m)), (2, vI n), (6, .ptr 0 0), (7, .sl 0 ([]) true), (8, .ptr 5 0), (9, .ptr 7 0)], heapF [(0, .box (stL 0 (fun _ => 0) (⟨#[]⟩) 0)), (5, .box (stL ((newS m).pc) ((newS m).r) ((newS m).mem) ((newS m).halt))), (7, .box [.sl 0 ([]) true])], 8⟩) (st' := ⟨slotsF [(0, .sl 1 (prog.map rowU) clip), (1, .v (.string m)), (2, vI n), (6, .ptr 0 0), (7, .sl 0 ([]) true), (8, .ptr 5 0), (9, .ptr 7 0), (19, .clo 34 [] [.dp 35 0 (stL ((newS m).pc) ((newS m).r) ((newS m).mem) ((newS m).halt)), .dp 1 0 ([vI (capN n)]), .dp 1 0 ([.sl 1 (prog.map rowU) clip])])], heapF [(0, .box (stL 0 (fun _ => 0) (⟨#[]⟩) 0)), (5, .box (stL ((newS m).pc) ((newS m).r) ((newS m).mem) ((newS m).halt))), (7, .box [.sl 0 ([]) true])], 13⟩) (fok_wide _) c0Ok (by kernel_rfl) X3 ?_ fun a3 W3 S3 β3 X4 => ?_))
  · skip
    refine cR ?_
    refine rO 15 (.sl 1 (prog.map rowU) clip) ?_
    refine rO 16 (.agg (stL ((newS m).pc) ((newS m).r) ((newS m).mem) ((newS m).halt))) ?_
    refine rO 17 (vI n) ?_
    refine rO 18 (vI (capN n)) ?_
    refine rCall (args := [.sl 1 (prog.map rowU) clip, .agg (stL ((newS m).pc) ((newS m).r) ((newS m).mem) ((newS m).halt)), vI (capN n)]) (d := 19) (x := .clo 34 [] [.dp 35 0 (stL ((newS m).pc) ((newS m).r) ((newS m).mem) ((newS m).halt)), .dp 1 0 ([vI (capN n)]), .dp 1 0 ([.sl 1 (prog.map rowU) clip])]) rfl rfl rfl rfl (.inl rfl) rfl (dSteps (prog.map rowU) (newS m) (capN n) clip (newS_ok m)) ?_
    refine rE 13 ?_
    exact ⟨rfl, Weak.of_lists (fun s => s) ⟨⟨rfl, rfl⟩, ⟨rfl, rfl⟩, ⟨rfl, rfl⟩, ⟨rfl, rfl⟩, ⟨rfl, rfl⟩, ⟨rfl, rfl⟩, ⟨rfl, rfl⟩, ⟨rfl, rfl⟩, trivial⟩ ⟨⟨rfl, rfl, rfl⟩, ⟨rfl, rfl, rfl⟩, ⟨rfl, rfl, rfl⟩, trivial⟩ rfl⟩
  replace X4 := X4.weak (st' := ⟨slotsF [(6, .ptr 0 0), (8, .ptr 1 0), (9, .ptr 2 0), (19, .clo 34 [] [.dp 35 0 (stL ((newS m).pc) ((newS m).r) ((newS m).mem) ((newS m).halt)), .dp 1 0 ([.v (.int .i64 (capN n))]), .dp 1 0 ([.sl 1 (prog.map rowU) clip])])], heapF [(0, .box (stL 0 (fun _ => 0) (⟨#[]⟩) 0)), (1, .box (stL ((newS m).pc) ((newS m).r) ((newS m).mem) ((newS m).halt))), (2, .box [.sl 0 ([]) true])], 3⟩) (σ := fun s => match s with | 1 => 5 | 2 => 7 | s => s) (Weak.of_lists (fun s => match s with | 1 => 5 | 2 => 7 | s => s) ⟨⟨rfl, rfl⟩, ⟨rfl, rfl⟩, ⟨rfl, rfl⟩, ⟨rfl, rfl⟩, trivial⟩ ⟨⟨rfl, rfl, rfl⟩, ⟨rfl, rfl, rfl⟩, ⟨rfl, rfl, rfl⟩, trivial⟩ rfl)
  clear X0 X1 X2 X3
  generalize (fun s => if s < _ then β3 _ else none : Bt) = β4 at X4
  -- the iterator
  have hT := X4.M.T 19
  generalize hc : a3.tmps.getD 19 undef = cv at hT
  obtain ⟨u0, u1, u2, rfl, g1, g2, g3⟩ : ∃ u0 u1 u2, cv = .func (.func 34) #[] #[u0, u1, u2] ∧ Rep S3 W3 noB (.dp 35 0 (stL (newS m).pc (newS m).r (newS m).mem (newS m).halt)) u0 ∧ Rep S3 W3 noB (.dp 1 0 [.v (.int .i64 (capN n))]) u1 ∧ Rep S3 W3 noB (.dp 1 0 [.sl 1 (prog.map rowU) clip]) u2 := by
    change Rep S3 W3 β4 (.clo 34 [] [.dp 35 0 (stL (newS m).pc (newS m).r (newS m).mem (newS m).halt), .dp 1 0 [.v (.int .i64 (capN n))], .dp 1 0 [.sl 1 (prog.map rowU) clip]]) cv at hT
    cases hT with
    | clo _ _ _ us ws q1 q2 q3 q4 =>
      obtain ⟨us⟩ := us
      obtain ⟨ws⟩ := ws
      have z1 : us = [] := List.eq_nil_of_length_eq_zero (by simpa using q1.symm)
      subst z1
      match ws, q3, q4 with
      | [u0, u1, u2], _, q4 => exact ⟨u0, u1, u2, rfl, closed_rep (q4 0 _ _ rfl rfl) rfl _, closed_rep (q4 1 _ _ rfl rfl) rfl _, closed_rep (q4 2 _ _ rfl rfl) rfl _⟩
  have hseq := iter_steps (R := S3) (w := W3) hp hl (newS_ok m) (by have := capN_le n; omega) X4.M.H.lt X4.M.G g1 g2 g3
  -- the caller's own memory
  have hkp := simH_keep X4.M.H (free_of (freeN (newS m))) (fun s blk hs => by
          have hm := heapF_mem hs
          simp at hm
          rcases hm with ⟨rfl, rfl⟩ | ⟨rfl, rfl⟩ | ⟨rfl, rfl⟩ <;> first | trivial | (intro x hx; simp at hx; first | (subst hx; first | trivial | (simp [heapF]; done)) | (rcases hx with rfl | rfl | rfl | rfl | rfl | rfl | rfl | rfl | rfl | rfl | rfl | rfl | rfl | rfl | rfl | rfl | rfl | rfl | rfl | rfl | rfl | rfl | rfl | rfl | rfl | rfl | rfl | rfl | rfl | rfl | rfl | rfl | rfl | rfl | rfl <;> trivial)))
  have hinS : ∀ b, ownB (keepB (heapF (hpN (newS m))) β4) b → b < W3.heap.size ∧ ¬ S3 b := by
    rintro b ⟨s, lo, h1, rfl⟩
    exact own_at hkp (keepB_some h1).1 h1
  have hwb : ∀ b, ownB (keepB (heapF (hpN (newS m))) β4) b → w.heap.size ≤ b := fun b hb => Nat.le_of_not_lt fun h => (hinS b hb).2 (X4.hS b h)
  obtain ⟨C1, hC1⟩ : ∃ C1 : Nat → Prop, C1 = ownB (keepB (heapF (hpN (newS m))) β4) := ⟨_, rfl⟩
  have hSA : ∀ b, S3 b → SAof W3 C1 b := fun b hb => ⟨X4.M.H.lt b hb, fun h => (hinS b (hC1 ▸ h)).2 hb⟩
  have bx : ∀ i s, s < 3 → slotsF [(6, .ptr 0 0), (8, .ptr 1 0), (9, .ptr 2 0)] i = .ptr s 0 → ∃ lo, keepB (heapF (hpN (newS m))) β4 s = some lo ∧ a3.tmps.getD i undef = ptrV lo := by
    intro i s hs hi
    have hne : heapF (hpN (newS m)) s ≠ none := by
      have : s = 0 ∨ s = 1 ∨ s = 2 := by omega
      rcases this with rfl | rfl | rfl <;> simp [heapF]
    have hi2 : slotsF [(6, .ptr 0 0), (8, .ptr 1 0), (9, .ptr 2 0), (19, .clo 34 [] [.dp 35 0 (stL ((newS m).pc) ((newS m).r) ((newS m).mem) ((newS m).halt)), .dp 1 0 ([.v (.int .i64 (capN n))]), .dp 1 0 ([.sl 1 (prog.map rowU) clip])])] i = .ptr s 0 := by
      simp only [slotsF] at hi ⊢
      split at hi
      · exact hi
      · split at hi
        · exact hi
        · split at hi
          · exact hi
          · cases hi
    have hT := X4.M.T i
    rw [show (⟨slotsF [(6, .ptr 0 0), (8, .ptr 1 0), (9, .ptr 2 0), (19, .clo 34 [] [.dp 35 0 (stL ((newS m).pc) ((newS m).r) ((newS m).mem) ((newS m).halt)), .dp 1 0 ([.v (.int .i64 (capN n))]), .dp 1 0 ([.sl 1 (prog.map rowU) clip])])], heapF [(0, .box (stL 0 (fun _ => 0) (⟨#[]⟩) 0)), (1, .box (stL ((newS m).pc) ((newS m).r) ((newS m).mem) ((newS m).halt))), (2, .box [.sl 0 ([]) true])], 3⟩ : ASt).t i = .ptr s 0 from hi2] at hT
    generalize a3.tmps.getD i undef = v at hT
    cases hT with
    | ptr _ _ lo hlo => exact ⟨lo, keepB_of hne hlo, rfl⟩
  have I0 : IRb w.heap.size W3 (SAof W3 C1) (a3.tmps.getD 6 undef) (a3.tmps.getD 8 undef) (a3.tmps.getD 9 undef) (hpR (newS m) []) C1 W3 (keepB (heapF (hpN (newS m))) β4) :=
    ⟨simH_free hkp (free_of (freeN (newS m))) (fun s lo h1 h2 h3 => h3.2 (hC1 ▸ ⟨s, lo, h2, rfl⟩)) (fun b h => h.1) (fun _ _ _ => rfl) (Nat.zero_le _), bx 6 0 (by omega) rfl, bx 8 1 (by omega) rfl, bx 9 2 (by omega) rfl, fun x lo h => (keepB_some h).1, fun b => by rw [hC1], Same.refl _ _, fun b hb => hwb b (hC1 ▸ hb)⟩
  have hsaw : Same (· < w.heap.size) w W3 := (X4.same rfl rfl rfl)
  have hGA : ∀ {A : World}, Same (SAof W3 C1) W3 A → GOk C0 (SAof W3 C1) A := fun hs g cells hg =>
    rep_transport (fun b hb => hs.block b hb.1 hb) ((X4.M.G g cells hg).mono hSA (Evo.refl _ _) (BtLe.refl _)) (fun _ _ h => by cases h)
  have hsz3 := X4.M.sz
  have hdf3 : a3.defers = [] := X4.M.df
  have hX4lt := X4.M.H.lt
  generalize hp6 : a3.tmps.getD 6 undef = p6 at I0
  generalize hp8 : a3.tmps.getD 8 undef = p8 at I0
  generalize hp9 : a3.tmps.getD 9 undef = p9 at I0
  generalize keepB (heapF (hpN (newS m))) β4 = β5 at I0
  clear hkp hinS hwb bx hC1
  refine wpIn_block ((wpIn_wide (n := 3)).2 (wp_rangeFunc_rg (gf := 34) (lb := #[u0, u1, u2]) (w0 := W3) hc (enters_of Tryd.func34 (by kernel_rfl) rfl) hseq (Same.refl _ _) hX4lt (fun _ => rfl)
    (fun C pre A => ∃ β, IRb w.heap.size W3 (SAof W3 C1) p6 p8 p9 (hpR (newS m) pre) C A β)
    (fun C pre x a1 A => ∃ β, IRb w.heap.size W3 (SAof W3 C1) p6 p8 p9 (hpR (newS m) pre ++ ([(4, .box (stL x.1.pc x.1.r x.1.mem x.1.halt)), (6, .box (spL x.2))] : List (Nat × Blk))) C A β ∧ a1.tmps.size = 29 ∧ a1.defers = [] ∧ a1.tmps.getD 6 undef = p6 ∧ a1.tmps.getD 8 undef = p8 ∧ a1.tmps.getD 9 undef = p9 ∧ (∃ lo, β 4 = some lo ∧ a1.tmps.getD 10 undef = ptrV lo) ∧ (∃ lo, β 6 = some lo ∧ a1.tmps.getD 11 undef = ptrV lo))
    C1 ?c0 ?cr ?hi ?hia ?hlt ⟨β5, I0⟩ ?assign ?body ?done))
  case c0 =>
    intro b hb
    obtain ⟨s, lo, h1, rfl⟩ := (I0.c b).1 hb
    exact (own_at I0.H (I0.dom s lo h1) h1).1
  case cr => exact fun b hb h => (hSA b hb).2 h
  case hi => exact fun C pre A B ⟨β, I⟩ hs => ⟨β, I.same (freeR _ _) (fun b h => h.1) hs⟩
  case hia => exact fun C pre x a A B ⟨β, I, h⟩ hs => ⟨β, I.same (freeApp (freeR _ _) (by intro p hp; simp at hp; rcases hp with rfl | rfl <;> rfl)) (fun b h => h.1) hs, h⟩
  case hlt =>
    rintro C pre A ⟨β, I⟩ b hb
    obtain ⟨s, lo, h1, rfl⟩ := (I.c b).1 hb
    exact (own_at I.H (I.dom s lo h1) h1).1
  case assign =>
    rintro l C pre x A ⟨β, I⟩ hpre hsz
    have hlen : pre.length ≤ 10000 := by
      have h1 := hpre.length_le
      have h2 := runL_len prog m n
      unfold runL at h2
      simp only [List.length_append, List.length_singleton] at h1
      omega
    have e0 : (#[20, 21].zip (encsX x)).foldl (fun t (p, v) => t.setIfInBounds p v) a3.tmps = (a3.tmps.setIfInBounds 20 (stV x.1)).setIfInBounds 21 (spV x.2) := by simp [encsX]
    rw [e0]
    have T6 : ((a3.tmps.setIfInBounds 20 (stV x.1)).setIfInBounds 21 (spV x.2)).getD 6 undef = p6 := by rw [← hp6]; simp [Array.getD_eq_getD_getElem?, Array.getElem?_setIfInBounds]
    have T8 : ((a3.tmps.setIfInBounds 20 (stV x.1)).setIfInBounds 21 (spV x.2)).getD 8 undef = p8 := by rw [← hp8]; simp [Array.getD_eq_getD_getElem?, Array.getElem?_setIfInBounds]
    have T9 : ((a3.tmps.setIfInBounds 20 (stV x.1)).setIfInBounds 21 (spV x.2)).getD 9 undef = p9 := by rw [← hp9]; simp [Array.getD_eq_getD_getElem?, Array.getElem?_setIfInBounds]
    have T20 : ((a3.tmps.setIfInBounds 20 (stV x.1)).setIfInBounds 21 (spV x.2)).getD 20 undef = stV x.1 := by simp [Array.getD_eq_getD_getElem?, Array.getElem?_setIfInBounds, hsz3]
    have T21 : ((a3.tmps.setIfInBounds 20 (stV x.1)).setIfInBounds 21 (spV x.2)).getD 21 undef = spV x.2 := by simp [Array.getD_eq_getD_getElem?, Array.getElem?_setIfInBounds, hsz3]
    have Tz : ((a3.tmps.setIfInBounds 20 (stV x.1)).setIfInBounds 21 (spV x.2)).size = 29 := by simp [hsz3]
    generalize (a3.tmps.setIfInBounds 20 (stV x.1)).setIfInBounds 21 (spV x.2) = tt at T6 T8 T9 T20 T21 Tz ⊢
    have hT : ∀ p ∈ ([(6, .ptr 0 0), (8, .ptr 1 0), (9, .ptr 2 0), (20, stA x.1), (21, spA x.2)] : List (Nat × AV)), Rep (SAof W3 C1) A β p.2 (({ tmps := tt, defers := [] } : Act).tmps.getD p.1 undef) := by
      obtain ⟨l6, q6, r6⟩ := I.b6
      obtain ⟨l8, q8, r8⟩ := I.b8
      obtain ⟨l9, q9, r9⟩ := I.b9
      intro p hp
      simp only [List.mem_cons, List.not_mem_nil, or_false] at hp
      rcases hp with rfl | rfl | rfl | rfl | rfl
      · show Rep _ _ _ _ (tt.getD 6 undef); rw [T6, r6]; exact .ptr 0 0 l6 q6
      · show Rep _ _ _ _ (tt.getD 8 undef); rw [T8, r8]; exact .ptr 1 0 l8 q8
      · show Rep _ _ _ _ (tt.getD 9 undef); rw [T9, r9]; exact .ptr 2 0 l9 q9
      · show Rep _ _ _ _ (tt.getD 20 undef); rw [T20]; exact valF_rep (stV_eq _)
      · show Rep _ _ _ _ (tt.getD 21 undef); rw [T21]; exact valF_rep (spV_eq _)
    have K : ∀ (hp : List (Nat × Blk)) (a' : Act) (B : World) (β' : Bt), IRb w.heap.size W3 (SAof W3 C1) p6 p8 p9 hp C A β → SimH 0 (SAof W3 C1) B β' (heapF (hp ++ ([(4, .box (stL x.1.pc x.1.r x.1.mem x.1.halt)), (6, .box (spL x.2))] : List (Nat × Blk)))) →
        (∃ lo, β' 0 = some lo ∧ a'.tmps.getD 6 undef = ptrV lo) → (∃ lo, β' 1 = some lo ∧ a'.tmps.getD 8 undef = ptrV lo) → (∃ lo, β' 2 = some lo ∧ a'.tmps.getD 9 undef = ptrV lo) → (∃ lo, β' 4 = some lo ∧ a'.tmps.getD 10 undef = ptrV lo) → (∃ lo, β' 6 = some lo ∧ a'.tmps.getD 11 undef = ptrV lo) →
        (∀ z l, β' z = some l → heapF (hp ++ ([(4, .box (stL x.1.pc x.1.r x.1.mem x.1.halt)), (6, .box (spL x.2))] : List (Nat × Blk))) z ≠ none) → Same (fun b => ¬ ownB β b) A B → (∀ b, ownB β' b → ownB β b ∨ A.heap.size ≤ b) → a'.tmps.size = 29 → a'.defers = [] → (∀ i, kpR i = true → a'.tmps.getD i undef = tt.getD i undef) →
        ∃ C', (∃ β, IRb w.heap.size W3 (SAof W3 C1) p6 p8 p9 (hp ++ ([(4, .box (stL x.1.pc x.1.r x.1.mem x.1.halt)), (6, .box (spL x.2))] : List (Nat × Blk))) C' B β ∧ a'.tmps.size = 29 ∧ a'.defers = [] ∧ a'.tmps.getD 6 undef = p6 ∧ a'.tmps.getD 8 undef = p8 ∧ a'.tmps.getD 9 undef = p9 ∧ (∃ lo, β 4 = some lo ∧ a'.tmps.getD 10 undef = ptrV lo) ∧ (∃ lo, β 6 = some lo ∧ a'.tmps.getD 11 undef = ptrV lo)) ∧ Same (fun b => ¬ C b) A B ∧ (∀ b, C' b → C b ∨ A.heap.size ≤ b) := by
      intro hp a' B β' I H' t6 t8 t9 t10 t11 dom' same' grow sz' df' kept
      have k6 := (kept 6 rfl).trans T6
      have k8 := (kept 8 rfl).trans T8
      have k9 := (kept 9 rfl).trans T9
      rw [k6] at t6; rw [k8] at t8; rw [k9] at t9
      have hw3 : W3.heap.size ≤ A.heap.size := hsz
      refine ⟨ownB β', ⟨β', ⟨H', t6, t8, t9, dom', fun b => Iff.rfl, I.sa.trans (same'.mono fun b hb hb' hc => ?_), fun b hb => ?_⟩, sz', df', k6, k8, k9, t10, t11⟩, same'.mono fun b hb hb' hc => hb' ((I.c b).2 hc), fun b hb => (grow b hb).imp (I.c b).2 id⟩
      · obtain ⟨s, lo, h1, rfl⟩ := hc
        exact (own_at I.H (I.dom s lo h1) h1).2 hb'
      · rcases grow b hb with h | h
        · exact I.cw b ((I.c b).2 h)
        · exact Nat.le_trans hsaw.size (Nat.le_trans hw3 h)
    cases pre with
    | nil =>
      refine roundSeg (C := C0) (n := 4) (kp := kpR) (SA := SAof W3 C1) (β := β) (L := [(6, .ptr 0 0), (8, .ptr 1 0), (9, .ptr 2 0), (20, stA x.1), (21, spA x.2)]) (hp := hpN (newS m)) (st' := ⟨slotsF [(6, .ptr 0 0), (8, .ptr 1 0), (9, .ptr 2 0), (10, .ptr 4 0), (11, .ptr 6 0)], heapF (hpN (newS m) ++ ([(4, .box (stL x.1.pc x.1.r x.1.mem x.1.halt)), (6, .box (spL x.2))] : List (Nat × Blk))), 8⟩) (e' := .normal) (fok_round _ l) c0Ok (by kernel_rfl) hT I.H I.dom (fun x hx => by have := heapF_ne hx; simp at this; omega) rfl Tz (hGA I.sa) ?_ (free_of (freeApp (freeN _) (by intro p hp; simp at hp; rcases hp with rfl | rfl <;> rfl))) (fun s blk hs => by
          have hm := heapF_mem hs
          simp at hm
          rcases hm with ⟨rfl, rfl⟩ | ⟨rfl, rfl⟩ | ⟨rfl, rfl⟩ | ⟨rfl, rfl⟩ | ⟨rfl, rfl⟩ <;> first | trivial | (intro x hx; simp at hx; first | (subst hx; first | trivial | (simp [heapF]; done)) | (rcases hx with rfl | rfl | rfl | rfl | rfl | rfl | rfl | rfl | rfl | rfl | rfl | rfl | rfl | rfl | rfl | rfl | rfl | rfl | rfl | rfl | rfl | rfl | rfl | rfl | rfl | rfl | rfl | rfl | rfl | rfl | rfl | rfl | rfl | rfl | rfl <;> trivial)))
        (fun a' B β' H' ptrs reps dom' same' grow sz' df' kept => K _ a' B β' I H' (ptrs 6 0 rfl (by simp [heapF])) (ptrs 8 1 rfl (by simp [heapF])) (ptrs 9 2 rfl (by simp [heapF])) (ptrs 10 4 rfl (by simp [heapF])) (ptrs 11 6 rfl (by simp [heapF])) dom' same' grow sz' df' kept)
      refine cSeq ?_
      refine cR ?_
      refine rFx (d := 10) (x := .ptr 4 0) (h' := upd _ 4 (some (.box (stL 0 (fun _ => 0) (⟨#[]⟩) 0)))) rfl rfl (rfl) (trivial) ?_
      refine rFx0 (h' := upd _ 4 (some (.box (stL x.1.pc x.1.r x.1.mem x.1.halt)))) rfl rfl (rfl) (trivial) ?_
      refine rE 6 ?_
      refine cR ?_
      refine rFx (d := 11) (x := .ptr 6 0) (h' := upd _ 6 (some (.box [.v (.int .u32 0), .v (.int .u32 0), vI 0, .v (.int .u32 0), .v (.int .u32 0), vI 0, .v (.bool false), vI 0, vI 0]))) rfl rfl (rfl) (trivial) ?_
      refine rFx0 (h' := upd _ 6 (some (.box [vU x.2.pc, vU x.2.next, vI x.2.rd, vU x.2.value, vU x.2.addr, vI x.2.size, .v (.bool x.2.store), vI x.2.halt, vI x.2.took]))) rfl rfl (rfl) (trivial) ?_
      refine rE 8 ?_
      exact ⟨rfl, ⟨fun s => s, Weak.of_lists (fun s => s) ⟨⟨rfl, rfl⟩, ⟨rfl, rfl⟩, ⟨rfl, rfl⟩, ⟨rfl, rfl⟩, ⟨rfl, rfl⟩, trivial⟩ ⟨⟨rfl, rfl, rfl⟩, ⟨rfl, rfl, rfl⟩, ⟨rfl, rfl, rfl⟩, ⟨rfl, rfl, rfl⟩, ⟨rfl, rfl, rfl⟩, trivial⟩ rfl⟩⟩
    | cons y l' =>
      obtain ⟨sl, hsl⟩ : ∃ sl, lastOf (newS m) (y :: l') = sl := ⟨_, rfl⟩
      obtain ⟨rows, hrows⟩ : ∃ rows, (y :: l').map rowS = rows := ⟨_, rfl⟩
      obtain ⟨k, hk0⟩ : ∃ k, (y :: l').length = k := ⟨_, rfl⟩
      have hk : k = rows.length := by rw [← hrows, ← hk0, List.length_map]
      have hkl : k ≤ 10000 := by rw [← hk0]; exact hlen

      have ehp : hpR (newS m) (y :: l') = hpC sl rows k := by show hpC _ _ _ = _; rw [hsl, hrows, hk0]
      have efr : freeL (hpC sl rows k) := by rw [← hrows]; exact freeC _ _ _
      rw [ehp] at I ⊢
      refine roundSeg (C := C0) (n := 4) (kp := kpR) (SA := SAof W3 C1) (β := β) (L := [(6, .ptr 0 0), (8, .ptr 1 0), (9, .ptr 2 0), (20, stA x.1), (21, spA x.2)]) (hp := hpC sl rows k) (st' := ⟨slotsF [(6, .ptr 0 0), (8, .ptr 1 0), (9, .ptr 2 0), (10, .ptr 4 0), (11, .ptr 6 0)], heapF (hpC sl rows k ++ ([(4, .box (stL x.1.pc x.1.r x.1.mem x.1.halt)), (6, .box (spL x.2))] : List (Nat × Blk))), 8⟩) (e' := .normal) (fok_round _ l) c0Ok (by kernel_rfl) hT I.H I.dom (fun x hx => by have := heapF_ne hx; simp at this; omega) rfl Tz (hGA I.sa) ?_ (free_of (freeApp efr (by intro p hp; simp at hp; rcases hp with rfl | rfl <;> rfl))) (fun s blk hs => by
          have hm := heapF_mem hs
          simp at hm
          rcases hm with ⟨rfl, rfl⟩ | ⟨rfl, rfl⟩ | ⟨rfl, rfl⟩ | ⟨rfl, rfl⟩ | ⟨rfl, rfl⟩ | ⟨rfl, rfl⟩ <;> first | trivial | (intro x hx; simp at hx; first | (subst hx; first | trivial | (simp [heapF]; done)) | (rcases hx with rfl | rfl | rfl | rfl | rfl | rfl | rfl | rfl | rfl | rfl | rfl | rfl | rfl | rfl | rfl | rfl | rfl | rfl | rfl | rfl | rfl | rfl | rfl | rfl | rfl | rfl | rfl | rfl | rfl | rfl | rfl | rfl | rfl | rfl | rfl <;> trivial)))
        (fun a' B β' H' ptrs reps dom' same' grow sz' df' kept => K _ a' B β' I H' (ptrs 6 0 rfl (by simp [heapF])) (ptrs 8 1 rfl (by simp [heapF])) (ptrs 9 2 rfl (by simp [heapF])) (ptrs 10 4 rfl (by simp [heapF])) (ptrs 11 6 rfl (by simp [heapF])) dom' same' grow sz' df' kept)
      refine cSeq ?_
      refine cR ?_
      refine rFx (d := 10) (x := .ptr 4 0) (h' := upd _ 4 (some (.box (stL 0 (fun _ => 0) (⟨#[]⟩) 0)))) rfl rfl (rfl) (trivial) ?_
      refine rFx0 (h' := upd _ 4 (some (.box (stL x.1.pc x.1.r x.1.mem x.1.halt)))) rfl rfl (rfl) (trivial) ?_
      refine rE 6 ?_
      refine cR ?_
      refine rFx (d := 11) (x := .ptr 6 0) (h' := upd _ 6 (some (.box [.v (.int .u32 0), .v (.int .u32 0), vI 0, .v (.int .u32 0), .v (.int .u32 0), vI 0, .v (.bool false), vI 0, vI 0]))) rfl rfl (rfl) (trivial) ?_
      refine rFx0 (h' := upd _ 6 (some (.box [vU x.2.pc, vU x.2.next, vI x.2.rd, vU x.2.value, vU x.2.addr, vI x.2.size, .v (.bool x.2.store), vI x.2.halt, vI x.2.took]))) rfl rfl (rfl) (trivial) ?_
      refine rE 8 ?_
      exact ⟨rfl, ⟨fun s => s, Weak.of_lists (fun s => s) ⟨⟨rfl, rfl⟩, ⟨rfl, rfl⟩, ⟨rfl, rfl⟩, ⟨rfl, rfl⟩, ⟨rfl, rfl⟩, trivial⟩ ⟨⟨rfl, rfl, rfl⟩, ⟨rfl, rfl, rfl⟩, ⟨rfl, rfl, rfl⟩, ⟨rfl, rfl, rfl⟩, ⟨rfl, rfl, rfl⟩, ⟨rfl, rfl, rfl⟩, trivial⟩ rfl⟩⟩
  case body =>
    rintro l C pre x a1 A ⟨β, I, h1, h2, T6, T8, T9, ⟨l10, q10, T10⟩, ⟨l11, q11, T11⟩⟩ hpre hsz
    have hlen : pre.length ≤ 10000 := by
      have h1 := hpre.length_le
      have h2 := runL_len prog m n
      unfold runL at h2
      simp only [List.length_append, List.length_singleton] at h1
      omega
    have hT : ∀ p ∈ ([(6, .ptr 0 0), (8, .ptr 1 0), (9, .ptr 2 0), (10, .ptr 4 0), (11, .ptr 6 0)] : List (Nat × AV)), Rep (SAof W3 C1) A β p.2 (a1.tmps.getD p.1 undef) := by
      obtain ⟨l6, q6, r6⟩ := I.b6
      obtain ⟨l8, q8, r8⟩ := I.b8
      obtain ⟨l9, q9, r9⟩ := I.b9
      intro p hp
      simp only [List.mem_cons, List.not_mem_nil, or_false] at hp
      rcases hp with rfl | rfl | rfl | rfl | rfl
      · show Rep _ _ _ _ (a1.tmps.getD 6 undef); rw [T6, r6]; exact .ptr 0 0 l6 q6
      · show Rep _ _ _ _ (a1.tmps.getD 8 undef); rw [T8, r8]; exact .ptr 1 0 l8 q8
      · show Rep _ _ _ _ (a1.tmps.getD 9 undef); rw [T9, r9]; exact .ptr 2 0 l9 q9
      · show Rep _ _ _ _ (a1.tmps.getD 10 undef); rw [T10]; exact .ptr 4 0 l10 q10
      · show Rep _ _ _ _ (a1.tmps.getD 11 undef); rw [T11]; exact .ptr 6 0 l11 q11
    have K : ∀ (hp hp' : List (Nat × Blk)) (a' : Act) (B : World) (β' : Bt), IRb w.heap.size W3 (SAof W3 C1) p6 p8 p9 hp C A β → SimH 0 (SAof W3 C1) B β' (heapF hp') →
        (∃ lo, β' 0 = some lo ∧ a'.tmps.getD 6 undef = ptrV lo) → (∃ lo, β' 1 = some lo ∧ a'.tmps.getD 8 undef = ptrV lo) → (∃ lo, β' 2 = some lo ∧ a'.tmps.getD 9 undef = ptrV lo) →
        (∀ x l, β' x = some l → heapF hp' x ≠ none) → Same (fun b => ¬ ownB β b) A B → (∀ b, ownB β' b → ownB β b ∨ A.heap.size ≤ b) → (∀ i, kpR i = true → a'.tmps.getD i undef = a1.tmps.getD i undef) →
        ∃ C', (∃ β, IRb w.heap.size W3 (SAof W3 C1) p6 p8 p9 hp' C' B β) ∧ Same (fun b => ¬ C b) A B ∧ (∀ b, C' b → C b ∨ A.heap.size ≤ b) := by
      intro hp hp' a' B β' I H' t6 t8 t9 dom' same' grow kept
      rw [(kept 6 rfl).trans T6] at t6; rw [(kept 8 rfl).trans T8] at t8; rw [(kept 9 rfl).trans T9] at t9
      have hw3 : W3.heap.size ≤ A.heap.size := hsz
      refine ⟨ownB β', ⟨β', ⟨H', t6, t8, t9, dom', fun b => Iff.rfl, I.sa.trans (same'.mono fun b hb hb' hc => ?_), fun b hb => ?_⟩⟩, same'.mono fun b hb hb' hc => hb' ((I.c b).2 hc), fun b hb => (grow b hb).imp (I.c b).2 id⟩
      · obtain ⟨s, lo, h1, rfl⟩ := hc
        exact (own_at I.H (I.dom s lo h1) h1).2 hb'
      · rcases grow b hb with h | h
        · exact I.cw b ((I.c b).2 h)
        · exact Nat.le_trans hsaw.size (Nat.le_trans hw3 h)
    rw [hpR_snoc]
    cases pre with
    | nil =>
      refine roundSeg (C := C0) (n := 8) (kp := kpR) (SA := SAof W3 C1) (β := β) (L := [(6, .ptr 0 0), (8, .ptr 1 0), (9, .ptr 2 0), (10, .ptr 4 0), (11, .ptr 6 0)]) (hp := hpN (newS m) ++ ([(4, .box (stL x.1.pc x.1.r x.1.mem x.1.halt)), (6, .box (spL x.2))] : List (Nat × Blk))) (st' := ⟨slotsF [(6, .ptr 0 0), (8, .ptr 1 0), (9, .ptr 2 0)], heapF (hpC x.1 [rowS x] 1), 14⟩) (e' := .normal) (fok_round _ l) c0Ok (by kernel_rfl) hT I.H I.dom (fun x hx => by have := heapF_ne hx; simp at this; omega) h2 h1 (hGA I.sa) ?_ (free_of (freeC x.1 [x] 1)) (fun s blk hs => by
          have hm := heapF_mem hs
          simp at hm
          rcases hm with ⟨rfl, rfl⟩ | ⟨rfl, rfl⟩ | ⟨rfl, rfl⟩ | ⟨rfl, rfl⟩ <;> first | trivial | (intro x hx; simp at hx; first | (subst hx; first | trivial | (simp [heapF]; done)) | (rcases hx with rfl | rfl | rfl | rfl | rfl | rfl | rfl | rfl | rfl | rfl | rfl | rfl | rfl | rfl | rfl | rfl | rfl | rfl | rfl | rfl | rfl | rfl | rfl | rfl | rfl | rfl | rfl | rfl | rfl | rfl | rfl | rfl | rfl | rfl | rfl <;> trivial)))
        (fun a' B β' H' ptrs reps dom' same' grow sz' df' kept => ⟨rfl, K _ _ a' B β' I H' (ptrs 6 0 rfl (by simp [heapF])) (ptrs 8 1 rfl (by simp [heapF])) (ptrs 9 2 rfl (by simp [heapF])) dom' same' grow kept⟩)
      refine cBlock ?_
      refine cSeq ?_
      refine cR ?_
      refine rO 22 (.agg (stL x.1.pc x.1.r x.1.mem x.1.halt)) ?_
      refine rFx0 (h' := upd _ 1 (some (.box (stL x.1.pc x.1.r x.1.mem x.1.halt)))) rfl rfl (rfl) (trivial) ?_
      refine rE 10 ?_
      refine cR ?_
      refine rO 23 (.sl 0 ([]) true) ?_
      refine rO 24 (.agg [vU x.2.pc, vU x.2.next, vI x.2.rd, vU x.2.value, vU x.2.addr, vI x.2.size, .v (.bool x.2.store), vI x.2.halt, vI x.2.took]) ?_
      refine rO 25 (.sl 9 ([[vU x.2.pc, vU x.2.next, vI x.2.rd, vU x.2.value, vU x.2.addr, vI x.2.size, .v (.bool x.2.store), vI x.2.halt, vI x.2.took]]) true) ?_
      refine rFx (d := 26) (x := .osl 13 0 1 false) (h' := upd _ 13 (some (.arr ([[vU x.2.pc, vU x.2.next, vI x.2.rd, vU x.2.value, vU x.2.addr, vI x.2.size, .v (.bool x.2.store), vI x.2.halt, vI x.2.took]]) 9))) rfl rfl (rfl) (⟨rfl, by simp [capMax], by simp [capMax], trivial⟩) ?_
      refine rFx0 (h' := upd _ 2 (some (.box [.osl 13 0 1 false]))) rfl rfl (rfl) (trivial) ?_
      refine rE 15 ?_
      exact ⟨rfl, ⟨fun s => match s with | 3 => 13 | s => s, Weak.of_lists (fun s => match s with | 3 => 13 | s => s) ⟨⟨rfl, rfl⟩, ⟨rfl, rfl⟩, ⟨rfl, rfl⟩, trivial⟩ ⟨⟨rfl, rfl, rfl⟩, ⟨rfl, rfl, rfl⟩, ⟨rfl, rfl, rfl⟩, ⟨rfl, rfl, rfl⟩, trivial⟩ rfl⟩⟩
    | cons y l' =>
      obtain ⟨sl, hsl⟩ : ∃ sl, lastOf (newS m) (y :: l') = sl := ⟨_, rfl⟩
      obtain ⟨rows, hrows⟩ : ∃ rows, (y :: l').map rowS = rows := ⟨_, rfl⟩
      obtain ⟨k, hk0⟩ : ∃ k, (y :: l').length = k := ⟨_, rfl⟩
      have hk : k = rows.length := by rw [← hrows, ← hk0, List.length_map]
      have hkl : k ≤ 10000 := by rw [← hk0]; exact hlen

      have ehp : hpR (newS m) (y :: l') = hpC sl rows k := by show hpC _ _ _ = _; rw [hsl, hrows, hk0]
      have efr : freeL (hpC sl rows k) := by rw [← hrows]; exact freeC _ _ _
      have efr2 : freeL (hpC x.1 (rows ++ [rowS x]) (k + 1)) := by
        have := freeC x.1 ((y :: l') ++ [x]) (k + 1)
        rwa [List.map_append, hrows] at this
      rw [ehp] at I
      rw [hrows, hk0]
      refine roundSeg (C := C0) (n := 8) (kp := kpR) (SA := SAof W3 C1) (β := β) (L := [(6, .ptr 0 0), (8, .ptr 1 0), (9, .ptr 2 0), (10, .ptr 4 0), (11, .ptr 6 0)]) (hp := hpC sl rows k ++ ([(4, .box (stL x.1.pc x.1.r x.1.mem x.1.halt)), (6, .box (spL x.2))] : List (Nat × Blk))) (st' := ⟨slotsF [(6, .ptr 0 0), (8, .ptr 1 0), (9, .ptr 2 0)], heapF (hpC x.1 (rows ++ [rowS x]) (k + 1)), 14⟩) (e' := .normal) (fok_round _ l) c0Ok (by kernel_rfl) hT I.H I.dom (fun x hx => by have := heapF_ne hx; simp at this; omega) h2 h1 (hGA I.sa) ?_ (free_of efr2) (fun s blk hs => by
          have hm := heapF_mem hs
          simp at hm
          rcases hm with ⟨rfl, rfl⟩ | ⟨rfl, rfl⟩ | ⟨rfl, rfl⟩ | ⟨rfl, rfl⟩ <;> first | trivial | (intro x hx; simp at hx; first | (subst hx; first | trivial | (simp [heapF]; done)) | (rcases hx with rfl | rfl | rfl | rfl | rfl | rfl | rfl | rfl | rfl | rfl | rfl | rfl | rfl | rfl | rfl | rfl | rfl | rfl | rfl | rfl | rfl | rfl | rfl | rfl | rfl | rfl | rfl | rfl | rfl | rfl | rfl | rfl | rfl | rfl | rfl <;> trivial)))
        (fun a' B β' H' ptrs reps dom' same' grow sz' df' kept => ⟨rfl, K _ _ a' B β' I H' (ptrs 6 0 rfl (by simp [heapF])) (ptrs 8 1 rfl (by simp [heapF])) (ptrs 9 2 rfl (by simp [heapF])) dom' same' grow kept⟩)
      refine cBlock ?_
      refine cSeq ?_
      refine cR ?_
      refine rO 22 (.agg (stL x.1.pc x.1.r x.1.mem x.1.halt)) ?_
      refine rFx0 (h' := upd _ 1 (some (.box (stL x.1.pc x.1.r x.1.mem x.1.halt)))) rfl rfl (rfl) (trivial) ?_
      refine rE 10 ?_
      refine cR ?_
      refine rO 23 (.osl 3 0 k false) ?_
      refine rO 24 (.agg [vU x.2.pc, vU x.2.next, vI x.2.rd, vU x.2.value, vU x.2.addr, vI x.2.size, .v (.bool x.2.store), vI x.2.halt, vI x.2.took]) ?_
      refine rO 25 (.sl 9 ([[vU x.2.pc, vU x.2.next, vI x.2.rd, vU x.2.value, vU x.2.addr, vI x.2.size, .v (.bool x.2.store), vI x.2.halt, vI x.2.took]]) true) ?_
      refine rFx (d := 26) (x := .osl 13 0 ((List.take k (List.drop 0 rows)).length + ([[.v (.int .u32 ((x.2.pc : Nat) : Int)), .v (.int .u32 ((x.2.next : Nat) : Int)), .v (.int .i64 x.2.rd), .v (.int .u32 ((x.2.value : Nat) : Int)), .v (.int .u32 ((x.2.addr : Nat) : Int)), .v (.int .i64 x.2.size), .v (.bool x.2.store), .v (.int .i64 x.2.halt), .v (.int .i64 x.2.took)]] : List (List AV)).length) false) (h' := upd (upd _ 3 none) 13 (some (.arr ((List.take k (List.drop 0 rows)) ++ [[.v (.int .u32 ((x.2.pc : Nat) : Int)), .v (.int .u32 ((x.2.next : Nat) : Int)), .v (.int .i64 x.2.rd), .v (.int .u32 ((x.2.value : Nat) : Int)), .v (.int .u32 ((x.2.addr : Nat) : Int)), .v (.int .i64 x.2.size), .v (.bool x.2.store), .v (.int .i64 x.2.halt), .v (.int .i64 x.2.took)]]) 9))) rfl rfl (rfl) (⟨by show List.length (List.take k (List.drop 0 rows)) + 1 ≤ 1000000; rw [hk, List.drop_zero, List.take_length]; omega, by show 0 + k = rows.length; omega, trivial⟩) ?_
      refine rFx0 (h' := upd _ 2 (some (.box [.osl 13 0 ((List.take k (List.drop 0 rows)).length + ([[vU x.2.pc, vU x.2.next, vI x.2.rd, vU x.2.value, vU x.2.addr, vI x.2.size, .v (.bool x.2.store), vI x.2.halt, vI x.2.took]] : List (List AV)).length) false]))) rfl rfl (rfl) (trivial) ?_
      refine rE 15 ?_
      exact ⟨rfl, ⟨fun s => match s with | 3 => 13 | s => s, Weak.of_lists (fun s => match s with | 3 => 13 | s => s) ⟨⟨rfl, rfl⟩, ⟨rfl, rfl⟩, ⟨rfl, rfl⟩, trivial⟩ ⟨⟨rfl, rfl, rfl⟩, ⟨rfl, rfl, rfl⟩, ⟨rfl, by show some (Blk.box [AV.osl 13 0 ((List.take k (List.drop 0 rows)).length + 1) false]) = some (Blk.box [AV.osl 13 0 (k + 1) false]); rw [hk, List.drop_zero, List.take_length], rfl⟩, ⟨rfl, by show some (Blk.arr ((List.take k (List.drop 0 rows)) ++ [[.v (.int .u32 ((x.2.pc : Nat) : Int)), .v (.int .u32 ((x.2.next : Nat) : Int)), .v (.int .i64 x.2.rd), .v (.int .u32 ((x.2.value : Nat) : Int)), .v (.int .u32 ((x.2.addr : Nat) : Int)), .v (.int .i64 x.2.size), .v (.bool x.2.store), .v (.int .i64 x.2.halt), .v (.int .i64 x.2.took)]]) 9) = some (Blk.arr (rows ++ [[.v (.int .u32 ((x.2.pc : Nat) : Int)), .v (.int .u32 ((x.2.next : Nat) : Int)), .v (.int .i64 x.2.rd), .v (.int .u32 ((x.2.value : Nat) : Int)), .v (.int .u32 ((x.2.addr : Nat) : Int)), .v (.int .i64 x.2.size), .v (.bool x.2.store), .v (.int .i64 x.2.halt), .v (.int .i64 x.2.took)]]) 9); rw [hk, List.drop_zero, List.take_length], rfl⟩, trivial⟩ rfl⟩⟩
  case done =>
    rintro D C W hD ⟨β, I⟩ hCD hDW
    show Code.wpIn Fence.wide 3 C0.P _ (bodyPostM Fence.wide 3 C0.P _ _) _ W
    rw [hdf3]
    have hlen := runL_len prog m n
    have hxe : stepsL prog (capN n).toNat (newS m) = runL prog m n := rfl
    rw [hxe] at I
    have hT : ∀ p ∈ ([(6, .ptr 0 0), (8, .ptr 1 0), (9, .ptr 2 0)] : List (Nat × AV)), Rep (SAof W3 C1) W β p.2 (a3.tmps.getD p.1 undef) := by
      obtain ⟨l6, q6, r6⟩ := I.b6
      obtain ⟨l8, q8, r8⟩ := I.b8
      obtain ⟨l9, q9, r9⟩ := I.b9
      intro p hp
      simp only [List.mem_cons, List.not_mem_nil, or_false] at hp
      rcases hp with rfl | rfl | rfl
      · show Rep _ _ _ _ (a3.tmps.getD 6 undef); rw [hp6, r6]; exact .ptr 0 0 l6 q6
      · show Rep _ _ _ _ (a3.tmps.getD 8 undef); rw [hp8, r8]; exact .ptr 1 0 l8 q8
      · show Rep _ _ _ _ (a3.tmps.getD 9 undef); rw [hp9, r9]; exact .ptr 2 0 l9 q9
    have K : ∀ (hp hp' : List (Nat × Blk)) (x7 : AV) (a' : Act) (B : World) (β' : Bt), IRb w.heap.size W3 (SAof W3 C1) p6 p8 p9 hp C W β → SimH 0 (SAof W3 C1) B β' (heapF hp') → freeL hp' → (∀ x, heapF hp' x ≠ none → x < 4) →
        (∃ lo, β' 0 = some lo ∧ a'.tmps.getD 6 undef = ptrV lo) → Rep (SAof W3 C1) B β' x7 (a'.tmps.getD 7 undef) → freeA x7 = true →
        (∀ z l, β' z = some l → heapF hp' z ≠ none) → Same (fun b => ¬ ownB β b) W B → (∀ b, ownB β' b → ownB β b ∨ W.heap.size ≤ b) → a'.tmps.size = 29 → a'.defers = [{ target := .collected D, args := #[] }] →
        (∀ (C : Ctx), C.ty = C0.ty → resA C ⟨slotsF [(6, .ptr 0 0), (7, x7)], heapF hp', 4⟩ Tryd.f11.results.toList = some [stA (lastOf (newS m) (runL prog m n)), x7]) → (∀ w' β z, SimH w.heap.size (fun _ => False) w' β (heapF hp') → Rep (fun _ => False) w' β x7 z → RunX (runL prog m n) w w' z) →
        LeavesInM Fence.wide 3 C0.P Tryd.f11 a'.tmps (fun e w' => RunP (stA (lastOf (newS m) (runL prog m n))) (runL prog m n) w e w') a'.defers .returning B := by
      intro hp hp' x7 a' B β' I H' hfr hn4 t6 r7 f7 dom' same' grow sz' df' hres hconv
      have hWD : D < W.heap.size := (Array.getElem?_eq_some_iff.1 hDW).1
      have hDB : B.heap[D]? = some (.deferred (some [])) := (same'.block D hWD fun h => hCD ((I.c D).2 h)).trans hDW
      rw [df']
      refine ⟨by simp, .inl ⟨D, _, rfl, run_takeDeferred hDB, ?_⟩⟩
      have hne : ∀ s lo, β' s = some lo → lo.blk ≠ D := fun s lo h1 e => by
        cases hq : heapF hp' s with
        | none => exact dom' s lo h1 hq
        | some blk =>
          obtain ⟨l', cs, e', fr, k1, k2, _⟩ := H'.own s blk hq
          rw [h1] at k1; cases k1
          rw [e, hDB] at k2; cases k2
      have hput : ∀ b, b ≠ D → (B.putObj D (.deferred none)).heap[b]? = B.heap[b]? := fun b hb => World.putObj_heap_other hb
      have hpsz : (B.putObj D (.deferred none)).heap.size = B.heap.size := by simp
      have hE : Evo (fun _ => False) B (B.putObj D (.deferred none)) := ⟨fun _ h => h.elim, fun b cs e fr hb => by
        by_cases h : b = D
        · rw [h, hDB] at hb; cases hb
        · exact ⟨cs, (hput b h).trans hb, rfl⟩⟩
      have H0 : SimH 0 (fun _ => False) (B.putObj D (.deferred none)) β' (heapF hp') := simH_free H' (free_of hfr) (fun _ _ _ _ h => h) (fun b h => h.elim) (fun s lo h1 => hput _ (hne s lo h1)) (Nat.zero_le _)
      have hws : w.heap.size ≤ W.heap.size := Nat.le_trans hsaw.size I.sa.size
      have H2 := simH_B H0 (B := w.heap.size) (fun s lo _ h1 => (grow lo.blk ⟨s, lo, h1, rfl⟩).elim (fun h => I.cw _ ((I.c _).2 h)) (fun h => Nat.le_trans hws h)) (by rw [hpsz]; exact Nat.le_trans hws same'.size)
      obtain ⟨l6, q6, r6⟩ := t6
      have X := simx_mk (C := { P := C0.P, ty := C0.ty, G := fun _ => none, df := a'.defers }) (N := 29) (kp := fun _ => false) (S := fun _ => False) (β := β') (n := 4) (w := B.putObj D (.deferred none)) (L := [(6, .ptr 0 0), (7, x7)]) (hp := hp') (a := a')
        (by
          intro p hp
          simp only [List.mem_cons, List.not_mem_nil, or_false] at hp
          rcases hp with rfl | rfl
          · show Rep _ _ _ _ (a'.tmps.getD 6 undef); rw [r6]; exact .ptr 0 0 l6 q6
          · exact rep_free r7 f7 hE)
        H0 (fun x l h => hn4 x (dom' x l h)) rfl sz' (fun g cells hg => by cases hg)
      obtain ⟨zs, e1, e2⟩ := res_ok (C := { P := C0.P, ty := C0.ty, G := fun _ => none, df := a'.defers }) (n := 4) ⟨c0Ok.ty, c0Ok.mixed⟩ X.M _ _ (hres _ rfl)
      match zs, e1, e2 with
      | [z0, z1], e1, e2 =>
      refine ⟨_, run_results _ _ e1 _ rfl, z0, z1, rfl, ⟨?_, ?_, ?_, ?_, ?_⟩, ?_, ?_⟩
      · exact same'.os.trans (I.sa.os.trans hsaw.os)
      · exact same'.tape.trans (I.sa.tape.trans hsaw.tape)
      · exact same'.output.trans (I.sa.output.trans hsaw.output)
      · rw [hpsz]; exact Nat.le_trans hws same'.size
      · intro b hb
        have hb3 : b < W3.heap.size := Nat.lt_of_lt_of_le hb hsaw.size
        rw [hput b (by omega), same'.block b (Nat.lt_of_lt_of_le hb hws) (fun h => by have := I.cw b ((I.c b).2 h); omega), I.sa.block b hb3 ⟨hb3, fun h => by have := I0.cw b h; omega⟩, hsaw.block b hb hb]
      · exact flat_rep (e2.2 0 _ _ rfl rfl) rfl
      · exact hconv _ _ _ H2 (e2.2 1 _ _ rfl rfl)
    have hCk : CtxOk ({ P := C0.P, ty := C0.ty, G := C0.G, df := [{ target := .collected D, args := #[] }] } : Ctx) := ⟨c0Ok.ty, c0Ok.mixed⟩
    generalize hxs : runL prog m n = xs at I hlen K ⊢
    cases xs with
    | nil =>
      refine roundSeg (C := { P := C0.P, ty := C0.ty, G := C0.G, df := [{ target := .collected D, args := #[] }] }) (n := 4) (kp := fun _ => false) (SA := SAof W3 C1) (β := β) (L := [(6, .ptr 0 0), (8, .ptr 1 0), (9, .ptr 2 0)]) (hp := hpN (newS m)) (st' := ⟨slotsF [(6, .ptr 0 0), (7, .sl 0 [] true)], heapF [(0, .box (stL (newS m).pc (newS m).r (newS m).mem (newS m).halt))], 8⟩) (e' := .ret) (fok_wide _) hCk (by kernel_rfl) hT I.H I.dom (fun x hx => by have := heapF_ne hx; simp at this; omega) rfl hsz3 (hGA I.sa) ?_ (free_of (by intro p hp; simp at hp; subst hp; rfl)) (fun s blk hs => by
          have hm := heapF_mem hs
          simp at hm
          rcases hm with ⟨rfl, rfl⟩ <;> first | trivial | (intro x hx; simp at hx; first | (subst hx; first | trivial | (simp [heapF]; done)) | (rcases hx with rfl | rfl | rfl | rfl | rfl | rfl | rfl | rfl | rfl | rfl | rfl | rfl | rfl | rfl | rfl | rfl | rfl | rfl | rfl | rfl | rfl | rfl | rfl | rfl | rfl | rfl | rfl | rfl | rfl | rfl | rfl | rfl | rfl | rfl | rfl <;> trivial)))
        (fun a' B β' H' ptrs reps dom' same' grow sz' df' kept => K _ [(0, .box (stL (newS m).pc (newS m).r (newS m).mem (newS m).halt))] (.sl 0 [] true) a' B β' I H' (by intro p hp; simp at hp; subst hp; rfl) (fun x hx => by have := heapF_ne hx; simp at this; omega) (ptrs 6 0 rfl (by simp [heapF])) (reps 7 rfl trivial) rfl dom' same' grow sz' df' (fun C hC => by obtain ⟨p, ty, g, d⟩ := C; subst hC; rfl) (fun w' β z _ hz => .inl ⟨rfl, closed_rep hz rfl _⟩))
      refine cSeq ?_
      refine cAny rfl ?_
      refine aGo [0, 1] (by kernel_rfl) rfl ⟨?_, ?_, trivial⟩
      · skip
        refine sOk (d := 27) (x := .agg (stL ((newS m).pc) ((newS m).r) ((newS m).mem) ((newS m).halt))) rfl rfl rfl rfl ?_
        refine aGo [1, 2] (by kernel_rfl) rfl ⟨?_, ?_, trivial⟩
        · skip
          refine sOk (d := 28) (x := .sl 0 ([]) true) rfl rfl rfl rfl ?_
          refine aGo [2] (by kernel_rfl) rfl ⟨?_, trivial⟩
          refine sFx0 (h' := upd _ 0 (some (.box (stL ((newS m).pc) ((newS m).r) ((newS m).mem) ((newS m).halt))))) rfl rfl rfl (rfl) (trivial) ?_
          refine aGo [3] (by kernel_rfl) rfl ⟨?_, trivial⟩
          refine sOk (d := 7) (x := .sl 0 ([]) true) rfl rfl rfl rfl ?_
          refine aEnd (n' := 8) (by kernel_rfl) rfl ?_
          refine cRet ?_
          exact ⟨rfl, ⟨fun s => s, Weak.of_lists (fun s => s) ⟨⟨rfl, rfl⟩, ⟨rfl, rfl⟩, trivial⟩ ⟨⟨rfl, rfl, rfl⟩, trivial⟩ rfl⟩⟩
        · skip
          refine sFx0 (h' := upd _ 0 (some (.box (stL ((newS m).pc) ((newS m).r) ((newS m).mem) ((newS m).halt))))) rfl rfl rfl (rfl) (trivial) ?_
          refine aGo [1] (by kernel_rfl) rfl ⟨?_, trivial⟩
          refine sOk (d := 28) (x := .sl 0 ([]) true) rfl rfl rfl rfl ?_
          refine aGo [3] (by kernel_rfl) rfl ⟨?_, trivial⟩
          refine sOk (d := 7) (x := .sl 0 ([]) true) rfl rfl rfl rfl ?_
          refine aEnd (n' := 8) (by kernel_rfl) rfl ?_
          refine cRet ?_
          exact ⟨rfl, ⟨fun s => s, Weak.of_lists (fun s => s) ⟨⟨rfl, rfl⟩, ⟨rfl, rfl⟩, trivial⟩ ⟨⟨rfl, rfl, rfl⟩, trivial⟩ rfl⟩⟩
      · skip
        refine sOk (d := 28) (x := .sl 0 ([]) true) rfl rfl rfl rfl ?_
        refine aGo [0] (by kernel_rfl) rfl ⟨?_, trivial⟩
        refine sOk (d := 27) (x := .agg (stL ((newS m).pc) ((newS m).r) ((newS m).mem) ((newS m).halt))) rfl rfl rfl rfl ?_
        refine aGo [2] (by kernel_rfl) rfl ⟨?_, trivial⟩
        refine sFx0 (h' := upd _ 0 (some (.box (stL ((newS m).pc) ((newS m).r) ((newS m).mem) ((newS m).halt))))) rfl rfl rfl (rfl) (trivial) ?_
        refine aGo [3] (by kernel_rfl) rfl ⟨?_, trivial⟩
        refine sOk (d := 7) (x := .sl 0 ([]) true) rfl rfl rfl rfl ?_
        refine aEnd (n' := 8) (by kernel_rfl) rfl ?_
        refine cRet ?_
        exact ⟨rfl, ⟨fun s => s, Weak.of_lists (fun s => s) ⟨⟨rfl, rfl⟩, ⟨rfl, rfl⟩, trivial⟩ ⟨⟨rfl, rfl, rfl⟩, trivial⟩ rfl⟩⟩
    | cons y l' =>
      obtain ⟨sl, hsl⟩ : ∃ sl, lastOf (newS m) (y :: l') = sl := ⟨_, rfl⟩
      obtain ⟨rows, hrows⟩ : ∃ rows, (y :: l').map rowS = rows := ⟨_, rfl⟩
      obtain ⟨k, hk0⟩ : ∃ k, (y :: l').length = k := ⟨_, rfl⟩
      have hk : k = rows.length := by rw [← hrows, ← hk0, List.length_map]
      have hkl : k ≤ 10000 := by rw [← hk0]; exact hlen

      have ehp : hpR (newS m) (y :: l') = hpC sl rows k := by show hpC _ _ _ = _; rw [hsl, hrows, hk0]
      rw [ehp] at I
      rw [hsl] at K ⊢
      have efr0 : freeL [(0, .box (stL sl.pc sl.r sl.mem sl.halt)), (3, .arr rows 9)] := by
        intro p hp
        simp only [List.mem_cons, List.not_mem_nil, or_false] at hp
        rcases hp with rfl | rfl
        · rfl
        · rw [← hrows]; exact rows_free (y :: l')
      refine roundSeg (C := { P := C0.P, ty := C0.ty, G := C0.G, df := [{ target := .collected D, args := #[] }] }) (n := 4) (kp := fun _ => false) (SA := SAof W3 C1) (β := β) (L := [(6, .ptr 0 0), (8, .ptr 1 0), (9, .ptr 2 0)]) (hp := hpC sl rows k) (st' := ⟨slotsF [(6, .ptr 0 0), (7, .osl 3 0 k false)], heapF [(0, .box (stL sl.pc sl.r sl.mem sl.halt)), (3, .arr rows 9)], 8⟩) (e' := .ret) (fok_wide _) hCk (by kernel_rfl) hT I.H I.dom (fun x hx => by have := heapF_ne hx; simp at this; omega) rfl hsz3 (hGA I.sa) ?_ (free_of efr0) (fun s blk hs => by
          have hm := heapF_mem hs
          simp at hm
          rcases hm with ⟨rfl, rfl⟩ | ⟨rfl, rfl⟩ <;> first | trivial | (intro x hx; simp at hx; first | (subst hx; first | trivial | (simp [heapF]; done)) | (rcases hx with rfl | rfl | rfl | rfl | rfl | rfl | rfl | rfl | rfl | rfl | rfl | rfl | rfl | rfl | rfl | rfl | rfl | rfl | rfl | rfl | rfl | rfl | rfl | rfl | rfl | rfl | rfl | rfl | rfl | rfl | rfl | rfl | rfl | rfl | rfl <;> trivial)))
        (fun a' B β' H' ptrs reps dom' same' grow sz' df' kept => K _ [(0, .box (stL sl.pc sl.r sl.mem sl.halt)), (3, .arr rows 9)] (.osl 3 0 k false) a' B β' I H' efr0 (fun x hx => by have := heapF_ne hx; simp at this; omega) (ptrs 6 0 rfl (by simp [heapF])) (reps 7 rfl (show heapF ([(0, .box (stL sl.pc sl.r sl.mem sl.halt)), (3, .arr rows 9)] : List (Nat × Blk)) 3 ≠ none by simp [heapF])) rfl dom' same' grow sz' df' (fun C hC => by obtain ⟨p, ty, g, d⟩ := C; subst hC; rfl) (fun w' β z hH hz => .inr ⟨by simp, by have h := runX_own hH hz; rw [← hk0, ← hrows] at h; exact h⟩))
      refine cSeq ?_
      refine cAny rfl ?_
      refine aGo [0, 1] (by kernel_rfl) rfl ⟨?_, ?_, trivial⟩
      · skip
        refine sOk (d := 27) (x := .agg (stL sl.pc sl.r sl.mem sl.halt)) rfl rfl rfl rfl ?_
        refine aGo [1, 2] (by kernel_rfl) rfl ⟨?_, ?_, trivial⟩
        · skip
          refine sOk (d := 28) (x := .osl 3 0 k false) rfl rfl rfl rfl ?_
          refine aGo [2] (by kernel_rfl) rfl ⟨?_, trivial⟩
          refine sFx0 (h' := upd _ 0 (some (.box (stL sl.pc sl.r sl.mem sl.halt)))) rfl rfl rfl (rfl) (trivial) ?_
          refine aGo [3] (by kernel_rfl) rfl ⟨?_, trivial⟩
          refine sOk (d := 7) (x := .osl 3 0 k false) rfl rfl rfl rfl ?_
          refine aEnd (n' := 8) (by kernel_rfl) rfl ?_
          refine cRet ?_
          exact ⟨rfl, ⟨fun s => s, Weak.of_lists (fun s => s) ⟨⟨rfl, rfl⟩, ⟨rfl, rfl⟩, trivial⟩ ⟨⟨rfl, rfl, rfl⟩, ⟨rfl, rfl, rfl⟩, trivial⟩ rfl⟩⟩
        · skip
          refine sFx0 (h' := upd _ 0 (some (.box (stL sl.pc sl.r sl.mem sl.halt)))) rfl rfl rfl (rfl) (trivial) ?_
          refine aGo [1] (by kernel_rfl) rfl ⟨?_, trivial⟩
          refine sOk (d := 28) (x := .osl 3 0 k false) rfl rfl rfl rfl ?_
          refine aGo [3] (by kernel_rfl) rfl ⟨?_, trivial⟩
          refine sOk (d := 7) (x := .osl 3 0 k false) rfl rfl rfl rfl ?_
          refine aEnd (n' := 8) (by kernel_rfl) rfl ?_
          refine cRet ?_
          exact ⟨rfl, ⟨fun s => s, Weak.of_lists (fun s => s) ⟨⟨rfl, rfl⟩, ⟨rfl, rfl⟩, trivial⟩ ⟨⟨rfl, rfl, rfl⟩, ⟨rfl, rfl, rfl⟩, trivial⟩ rfl⟩⟩
      · skip
        refine sOk (d := 28) (x := .osl 3 0 k false) rfl rfl rfl rfl ?_
        refine aGo [0] (by kernel_rfl) rfl ⟨?_, trivial⟩
        refine sOk (d := 27) (x := .agg (stL sl.pc sl.r sl.mem sl.halt)) rfl rfl rfl rfl ?_
        refine aGo [2] (by kernel_rfl) rfl ⟨?_, trivial⟩
        refine sFx0 (h' := upd _ 0 (some (.box (stL sl.pc sl.r sl.mem sl.halt)))) rfl rfl rfl (rfl) (trivial) ?_
        refine aGo [3] (by kernel_rfl) rfl ⟨?_, trivial⟩
        refine sOk (d := 7) (x := .osl 3 0 k false) rfl rfl rfl rfl ?_
        refine aEnd (n' := 8) (by kernel_rfl) rfl ?_
        refine cRet ?_
        exact ⟨rfl, ⟨fun s => s, Weak.of_lists (fun s => s) ⟨⟨rfl, rfl⟩, ⟨rfl, rfl⟩, trivial⟩ ⟨⟨rfl, rfl, rfl⟩, ⟨rfl, rfl, rfl⟩, trivial⟩ rfl⟩⟩

theorem dRun (prog : List Nat) (m : ByteArray) (n : Int) (clip : Bool) (hp : ∀ x ∈ prog, x ≤ 4294967295) (hl : prog.length ≤ 1000000) :
    DCall C0 11 [.sl 1 (prog.map rowU) clip, .v (.string m), .v (.int .i64 n)] (.tup [stA (lastOf (newS m) (runL prog m n)), .sl 9 ((runL prog m n).map rowS) false]) := by
  refine ⟨⟨_, Tryd.func11, rfl, rfl⟩, fun S w vs hS hG hargs => (runE prog m n clip hp hl S w vs hS hG hargs).mono ?_⟩
  rintro e w' ⟨v1, v2, rfl, hB, r1, hX⟩
  refine ⟨_, rfl, hB, .tup _ #[v1, v2] rfl fun i a u p q => ?_⟩
  match i, p, q with
  | 0, p, q => injection p with p; injection q with q; subst p; subst q; exact r1.mono (fun _ h => h.elim) (Evo.refl _ _) (BtLe.refl _)
  | 1, p, q =>
    injection p with p; injection q with q; subst p; subst q
    rcases hX with ⟨h0, r2⟩ | ⟨_, l, r2, H⟩
    · rw [h0]
      cases r2 with
      | sl _ _ _ A c b o u hc hm hcl hrs hA hw h1 hr => exact .sl 9 [] false A c b o u hc hm (fun h => by cases h) (fun row h => by cases h) (fun h => absurd h (Nat.lt_irrefl 0)) (fun i row j a h => by simp at h) h1 fun i row j a h => by simp at h
    · have hrow : ∀ row ∈ (runL prog m n).map rowS, closedL row = true := fun row hr => by
        obtain ⟨x, _, rfl⟩ := List.mem_map.1 hr; rfl
      have d := datA_rep H r2 (show 0 + (runL prog m n).length ≤ ((runL prog m n).map rowS).length by rw [List.length_map]; omega)
      have d' : Rep _ w' (fun _ => some l) (.sl 9 ((((runL prog m n).map rowS).drop 0).take (runL prog m n).length) false) v2 := d
      rw [List.drop_zero, List.take_of_length_le (by rw [List.length_map]; exact Nat.le_refl _)] at d'
      exact (closed_rep d' rfl noB).mono (fun b hb => hb.elim (fun h => h.elim) .inr) (Evo.refl _ _) (BtLe.refl _)
  | i + 2, p, q => simp at p
end Go.Proofs.YtahnhhbgkmlfcaaDoor
