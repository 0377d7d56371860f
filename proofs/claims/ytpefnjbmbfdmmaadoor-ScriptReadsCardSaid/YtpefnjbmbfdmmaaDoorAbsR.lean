/- The second machine and the model: what it means that a value, a row of temporaries, the memory are as they are known. -/
import Derived.Test.YtpefnjbmbfdmmaaDoorAbs
import Derived.Test.YtpefnjbmbfdmmaaDoorBase
import Derived.Deep.MidRow
import Derived.Deep.AppendSrc
import Derived.Laws.MakeOwn
namespace Go.Proofs.YtpefnjbmbfdmmaaDoor
open Go.RowKit

/-- v is as a says: S are the blocks that are not written any more, β where the blocks of the call's own lie. -/
inductive Rep (S : Nat → Prop) (w : World) : Bt → AV → Value → Prop
  | v {β : Bt} (x : Value) : Rep S w β (.v x) x
  | agg {β : Bt} (cs : List AV) (vs : Array Value) (hl : cs.length = vs.size) (h1 : ∀ (i : Nat) u, vs[i]? = some u → u.oneCell' = true) (h : ∀ (i : Nat) a u, cs[i]? = some a → vs[i]? = some u → Rep S w β a u) : Rep S w β (.agg cs) (.agg vs)
  | tup {β : Bt} (cs : List AV) (vs : Array Value) (hl : cs.length = vs.size) (h : ∀ (i : Nat) a u, cs[i]? = some a → vs[i]? = some u → Rep S w β a u) : Rep S w β (.tup cs) (.tuple vs)
  | sl {β : Bt} (rs : Nat) (rows : List (List AV)) (clip : Bool) (A : Option Addr) (c b o : Nat) (u : Nat → Nat → Value) (hc : rows.length ≤ c) (hm : c ≤ maxLen) (hcl : clip = true → c = rows.length)
      (hrs : ∀ row ∈ rows, row.length = rs) (hA : 0 < rows.length → A = some ⟨b, o, none⟩ ∧ S b)
      (hw : ∀ (i : Nat) row (j : Nat) a, rows[i]? = some row → row[j]? = some a → w.cell? ⟨b, o + i * rs + j, none⟩ = some (u i j))
      (h1 : ∀ i j, (u i j).oneCell' = true)
      (hr : ∀ (i : Nat) row (j : Nat) a, rows[i]? = some row → row[j]? = some a → Rep S w noB a (u i j)) : Rep S w β (.sl rs rows clip) (.slice A rows.length c)
  | dp {β : Bt} (rs col : Nat) (row : List AV) (b o : Nat) (u : Nat → Value) (hrs : row.length = rs) (hb : S b) (hw : ∀ (j : Nat) a, row[j]? = some a → w.cell? ⟨b, o + j, none⟩ = some (u j))
      (h1 : ∀ j, (u j).oneCell' = true)
      (hr : ∀ (j : Nat) a, row[j]? = some a → Rep S w noB a (u j)) : Rep S w β (.dp rs col row) (.pointer (some ⟨b, o + col, none⟩))
  | ptr {β : Bt} (s col : Nat) (l : Loc) (hl : β s = some l) : Rep S w β (.ptr s col) (.pointer (some ⟨l.blk, l.base + col, none⟩))
  | ptr2 {β : Bt} (s row col : Nat) (l : Loc) (hl : β s = some l) : Rep S w β (.ptr2 s row col) (.pointer (some ⟨l.blk, l.base + row * l.rs + col, none⟩))
  | osl {β : Bt} (s lo len : Nat) (clip : Bool) (l : Loc) (A : Option Addr) (c : Nat) (hl : β s = some l) (hc : len ≤ c) (hm : c ≤ maxLen) (hcl : clip = true → c = len) (hA : 0 < c → A = some ⟨l.blk, l.base + lo * l.rs, none⟩)
      (cs : Array Value) (e : TypeId) (fr : Nat × Nat) (hb : w.heap[l.blk]? = some (.cells cs e fr)) (room : l.base + (lo + c) * l.rs ≤ cs.size) : Rep S w β (.osl s lo len clip) (.slice A len c)
  | clo {β : Bt} (f : FuncId) (first caps : List AV) (vs us : Array Value) (hl : first.length = vs.size) (h : ∀ (i : Nat) a u, first[i]? = some a → vs[i]? = some u → Rep S w β a u)
      (hl' : caps.length = us.size) (h' : ∀ (i : Nat) a u, caps[i]? = some a → us[i]? = some u → Rep S w β a u) : Rep S w β (.clo f first caps) (.func (.func f) vs us)
  | optT {β : Bt} (g : Bool) (a : AV) (x : Value) (hg : g = true) (h : Rep S w β a x) : Rep S w β (.opt g a) x
  | optF {β : Bt} (g : Bool) (a : AV) (hg : g = false) : Rep S w β (.opt g a) undef
  | any {β : Bt} (x : Value) : Rep S w β .any x

theorem lt_of_heap {w : World} {b : Nat} {o : Obj} (h : w.heap[b]? = some o) : b < w.heap.size := by
  rcases Nat.lt_or_ge b w.heap.size with k | k
  · exact k
  · rw [Array.getElem?_eq_none k] at h; cases h
/-- From w to w': the blocks of S stand as they were; a row of cells stays one, as long as it was. -/
structure Evo (S : Nat → Prop) (w w' : World) : Prop where
  stable : ∀ b, S b → w'.heap[b]? = w.heap[b]?
  shape : ∀ (b : Nat) (cs : Array Value) (e : TypeId) (fr : Nat × Nat), w.heap[b]? = some (Obj.cells cs e fr) → ∃ cs' : Array Value, w'.heap[b]? = some (Obj.cells cs' e fr) ∧ cs'.size = cs.size

theorem Evo.refl (S : Nat → Prop) (w : World) : Evo S w w := ⟨fun _ _ => rfl, fun _ cs _ _ h => ⟨cs, h, rfl⟩⟩
theorem Evo.trans {S S' : Nat → Prop} {a b c : World} (h : Evo S a b) (hS : ∀ x, S x → S' x) (k : Evo S' b c) : Evo S a c :=
  ⟨fun x hx => (k.stable x (hS x hx)).trans (h.stable x hx), fun x cs e fr hx => by
    obtain ⟨c1, h1, h2⟩ := h.shape x cs e fr hx
    obtain ⟨c2, h3, h4⟩ := k.shape x c1 e fr h1
    exact ⟨c2, h3, h4.trans h2⟩⟩
theorem Evo.of_kept {S : Nat → Prop} {w w' : World} (h : ∀ b, b < w.heap.size → w'.heap[b]? = w.heap[b]?) (hS : ∀ b, S b → b < w.heap.size) : Evo S w w' :=
  ⟨fun b hb => h b (hS b hb), fun b cs _ _ hb => ⟨cs, (h b (lt_of_heap hb)).trans hb, rfl⟩⟩

def BtLe (β β' : Bt) : Prop := ∀ s l, β s = some l → β' s = some l
theorem BtLe.refl (β : Bt) : BtLe β β := fun _ _ h => h
theorem BtLe.trans {a b c : Bt} (h : BtLe a b) (k : BtLe b c) : BtLe a c := fun s l x => k s l (h s l x)

theorem cell_of_heap {w w' : World} {b o : Nat} (h : w'.heap[b]? = w.heap[b]?) : w'.cell? ⟨b, o, none⟩ = w.cell? ⟨b, o, none⟩ := by simp only [World.cell?, h]

theorem Rep.mono {S S' : Nat → Prop} {w w' : World} {β : Bt} {a : AV} {x : Value} (h : Rep S w β a x) (hS : ∀ b, S b → S' b) (hE : Evo S w w') : ∀ {β' : Bt}, BtLe β β' → Rep S' w' β' a x := by
  induction h with
  | v x => intro β' _; exact .v x
  | agg cs vs hl h1 h ih => intro β' hb; exact .agg cs vs hl h1 fun i a u h1 h2 => ih i a u h1 h2 hb
  | tup cs vs hl h ih => intro β' hb; exact .tup cs vs hl fun i a u h1 h2 => ih i a u h1 h2 hb
  | sl rs rows clip A c b o u hc hm hcl hrs hA hw h1 hr ih =>
    intro β' _
    refine .sl rs rows clip A c b o u hc hm hcl hrs (fun h0 => ⟨(hA h0).1, hS _ (hA h0).2⟩) (fun i row j a h1 h2 => ?_) h1 fun i row j a h1 h2 => ih i row j a h1 h2 (BtLe.refl _)
    have h0 : 0 < rows.length := Nat.lt_of_le_of_lt (Nat.zero_le i) (List.getElem?_eq_some_iff.1 h1).1
    rw [cell_of_heap (hE.stable b (hA h0).2)]
    exact hw i row j a h1 h2
  | dp rs col row b o u hrs hb hw h1 hr ih =>
    intro β' _
    exact .dp rs col row b o u hrs (hS _ hb) (fun j a h1 => by rw [cell_of_heap (hE.stable b hb)]; exact hw j a h1) h1 fun j a h1 => ih j a h1 (BtLe.refl _)
  | ptr s col l hl => intro β' hb; exact .ptr s col l (hb _ _ hl)
  | ptr2 s row col l hl => intro β' hb; exact .ptr2 s row col l (hb _ _ hl)
  | osl s lo len clip l A c hl hc hm hcl hA cs e fr hb room =>
    intro β' hβ
    obtain ⟨cs', h1, h2⟩ := hE.shape _ _ _ _ hb
    exact .osl s lo len clip l A c (hβ _ _ hl) hc hm hcl hA cs' e fr h1 (by rw [h2]; exact room)
  | clo f first caps vs us hl h hl' h' ih ih' => intro β' hb; exact .clo f first caps vs us hl (fun i a u h1 h2 => ih i a u h1 h2 hb) hl' fun i a u h1 h2 => ih' i a u h1 h2 hb
  | optT g a x hg h ih => intro β' hb; exact .optT g a x hg (ih hb)
  | optF g a hg => intro β' _; exact .optF g a hg
  | any x => intro β' _; exact .any x

def RepL (S : Nat → Prop) (w : World) (β : Bt) (cs : List AV) (vs : List Value) : Prop := cs.length = vs.length ∧ ∀ (i : Nat) a u, cs[i]? = some a → vs[i]? = some u → Rep S w β a u
theorem RepL.mono {S S' : Nat → Prop} {w w' : World} {β β' : Bt} {cs : List AV} {vs : List Value} (h : RepL S w β cs vs) (hS : ∀ b, S b → S' b) (hE : Evo S w w') (hb : BtLe β β') : RepL S' w' β' cs vs :=
  ⟨h.1, fun i a u h1 h2 => (h.2 i a u h1 h2).mono hS hE hb⟩
theorem RepL.nil (S : Nat → Prop) (w : World) (β : Bt) : RepL S w β [] [] := ⟨rfl, fun i a u h => by simp at h⟩
theorem RepL.cons {S : Nat → Prop} {w : World} {β : Bt} {a : AV} {u : Value} {cs : List AV} {vs : List Value} (h : Rep S w β a u) (k : RepL S w β cs vs) : RepL S w β (a :: cs) (u :: vs) :=
  ⟨by simp [k.1], fun i a' u' h1 h2 => by
    cases i with
    | zero => simp at h1 h2; subst h1 h2; exact h
    | succ i => simp at h1 h2; exact k.2 i a' u' h1 h2⟩

/-- The cells of a block of the call's own. -/
def InBlk (S : Nat → Prop) (w : World) (β : Bt) (l : Loc) (cs : Array Value) : Blk → Prop
  | .box cells => ∀ (j : Nat) a, cells[j]? = some a → ∃ u, cs[l.base + j]? = some u ∧ u.oneCell' = true ∧ Rep S w β a u
  | .arr rows rs => l.rs = rs ∧ (∀ row ∈ rows, row.length = rs) ∧ ∀ (i : Nat) row (j : Nat) a, rows[i]? = some row → row[j]? = some a → ∃ u, cs[l.base + i * rs + j]? = some u ∧ u.oneCell' = true ∧ Rep S w noB a u
  | .row cells => l.rs = 1 ∧ ∀ (j : Nat) a, cells[j]? = some a → ∃ u, cs[l.base + j]? = some u ∧ u.oneCell' = true ∧ Rep S w β a u

/-- The memory of the call's own, as it is known: from block number B on. -/
structure SimH (B : Nat) (S : Nat → Prop) (w : World) (β : Bt) (h : AH) : Prop where
  own : ∀ s blk, h s = some blk → ∃ l cs e fr, β s = some l ∧ w.heap[l.blk]? = some (.cells cs e fr) ∧ (∀ o, o < cs.size → (decide (fr.1 ≤ o) && decide (o < fr.2)) = false) ∧ B ≤ l.blk ∧ ¬ S l.blk ∧ InBlk S w β l cs blk
  inj : ∀ s s' l l', h s ≠ none → h s' ≠ none → β s = some l → β s' = some l' → l.blk = l'.blk → s = s'
  lt : ∀ b, S b → b < w.heap.size
  big : B ≤ w.heap.size

theorem InBlk.mono {S S' : Nat → Prop} {w w' : World} {β β' : Bt} {l : Loc} {cs : Array Value} {blk : Blk} (h : InBlk S w β l cs blk) (hS : ∀ b, S b → S' b) (hE : Evo S w w') (hb : BtLe β β') : InBlk S' w' β' l cs blk := by
  cases blk with
  | box cells => exact fun j a h1 => let ⟨u, h2, h4, h3⟩ := h j a h1; ⟨u, h2, h4, h3.mono hS hE hb⟩
  | arr rows rs => exact ⟨h.1, h.2.1, fun i row j a h1 h2 => let ⟨u, h3, h5, h4⟩ := h.2.2 i row j a h1 h2; ⟨u, h3, h5, h4.mono hS hE (BtLe.refl _)⟩⟩
  | row cells => exact ⟨h.1, fun j a h1 => let ⟨u, h2, h4, h3⟩ := h.2 j a h1; ⟨u, h2, h4, h3.mono hS hE hb⟩⟩

theorem cell_of_cells {w : World} {b : Nat} {cs : Array Value} {e : TypeId} {fr : Nat × Nat} (h : w.heap[b]? = some (.cells cs e fr)) (o : Nat) : w.cell? ⟨b, o, none⟩ = cs[o]? := by simp [World.cell?, h]
theorem frozen_of_cells {w : World} {b : Nat} {cs : Array Value} {e : TypeId} {fr : Nat × Nat} (h : w.heap[b]? = some (.cells cs e fr)) (hf : ∀ o, o < cs.size → (decide (fr.1 ≤ o) && decide (o < fr.2)) = false) (o : Nat) (ho : o < cs.size) : w.frozen? ⟨b, o, none⟩ = false := by
  simp only [World.frozen?, h]; exact hf o ho
/-- A step of a walk: what was, is; at most the name s is new; only blocks that have names are turned. -/
structure StepK (B : Nat) (S : Nat → Prop) (w : World) (β : Bt) (s : Nat) (S' : Nat → Prop) (w' : World) (β' : Bt) : Prop where
  hS : ∀ b, S b → S' b
  hE : Evo S w w'
  hB : Below B w w'
  hle : BtLe β β'
  hdom : ∀ x l, β' x = some l → β x = some l ∨ (x = s ∧ (w.heap.size ≤ l.blk ∨ ∃ y k, β y = some k ∧ k.blk = l.blk))
  hN : ∀ b, S' b → S b ∨ (B ≤ b ∧ (w.heap.size ≤ b ∨ ∃ y k, β y = some k ∧ k.blk = b))
  hO : ∀ b, b < w.heap.size → (∀ y k, β y = some k → k.blk ≠ b) → w'.heap[b]? = w.heap[b]?

/-- What holds all along a walk. -/
structure Inv (fr : Nat) where
  p : (Nat → Prop) → World → Bt → Prop
  mono : ∀ {B : Nat} {S : Nat → Prop} {w : World} {β : Bt} {s : Nat} {S' : Nat → Prop} {w' : World} {β' : Bt}, p S w β → StepK B S w β s S' w' β' → p S' w' β'
  weak : ∀ {S : Nat → Prop} {w : World} {β : Bt} {σ : Nat → Nat} {n : Nat}, p S w β → keepB fr σ n = true → p S w (fun s => if s < n then β (σ s) else none)
  frz : ∀ {S : Nat → Prop} {w : World} {β : Bt} {x : Nat} {l : Loc}, p S w β → β x = some l → p (fun b => S b ∨ b = l.blk) w β
  heap : ∀ {S : Nat → Prop} {w w' : World} {β : Bt}, p S w β → w'.heap = w.heap → p S w' β
/-- Nothing is asked. -/
def Inv.any (fr : Nat) : Inv fr := ⟨fun _ _ _ => True, fun _ _ => trivial, fun _ _ => trivial, fun _ _ => trivial, fun _ _ => trivial⟩

/-- What package variables hold. -/
def GRow (S : Nat → Prop) (w : World) (g : Nat) (cells : List AV) : Prop := Rep S w noB (.dp cells.length 0 cells) (.pointer (some ⟨g, 0, none⟩)) ∧ ∃ cs e fr, w.heap[g]? = some (.cells cs e fr) ∧ cs.size = cells.length
theorem GRow.mono {S S' : Nat → Prop} {w w' : World} {g : Nat} {cells : List AV} (h : GRow S w g cells) (hS : ∀ b, S b → S' b) (hE : Evo S w w') (hb : BtLe noB noB) : GRow S' w' g cells := by
  obtain ⟨h1, cs, e, fr, h2, h3⟩ := h
  refine ⟨h1.mono hS hE hb, cs, e, fr, ?_, h3⟩
  have hg : S g := by
    generalize hp : Value.pointer (some (⟨g, 0, none⟩ : Addr)) = p at h1
    cases h1 with
    | dp _ _ _ b o u hrs hb hw h1 hr => simp only [Value.pointer.injEq, Option.some.injEq, Addr.mk.injEq] at hp; rw [hp.1]; exact hb
  rw [hE.stable g hg]; exact h2
def GOkG (G : Nat → Option (List AV)) (S : Nat → Prop) (w : World) : Prop := ∀ g cells, G g = some cells → GRow S w g cells
/-- WHAT A FUNCTION DOES WITH ITS CALLER'S MEMORY: from h to h'; at most the name s is new. -/
def HSem (P : Program) (G : Nat → Option (List AV)) (f : FuncId) (args : List AV) (h : AH) (s : Nat) (Post : AV → AH → Prop) : Prop :=
  (∃ fn, P.funcs[f]? = some fn ∧ fn.body.isSome = true ∧ (fn.name == "runtime.NumGoroutine") = false) ∧
  ∀ (B : Nat) (S : Nat → Prop) (w : World) (β : Bt) (vs : List Value), SimH B S w β h → (∀ x l, β x = some l → x < s) → GOkG G S w → RepL S w β args vs →
    Calls P f vs.toArray w fun e w' => ∃ v S' β' r h', Post r h' ∧ e = .returned v ∧ Rep S' w' β' r v ∧ SimH B S' w' β' h' ∧ StepK B S w β s S' w' β'

/-- Cells, one beside the other. -/
structure CellL (S : Nat → Prop) (w : World) (β : Bt) (cs : List AV) (vs : List Value) : Prop where
  rep : RepL S w β cs vs
  one : ∀ (i : Nat) u, vs[i]? = some u → u.oneCell' = true
end Go.Proofs.YtpefnjbmbfdmmaaDoor
