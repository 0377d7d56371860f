/- Joined texts. -/
import Derived.WalkKit
import Derived.WalkSpells
import Derived.WalkLawsBesides
import Derived.BigQuiet
import Derived.Deep.QuietTactic
import Derived.Deep.Slices
import Derived.Deep.Fields
import Derived.Deep.AppendLies
import Derived.ProofKit
import Derived.Lib.Hide
import Derived.OpenShut
namespace Go.Proofs.YtpefnjbmbfdmmaaDoor
open Go.RowKit Go.ChangeShapes Go.WideShapes Go.ChangeAt
def elemOf (w : World) (b : Nat) : Option TypeId := match w.heap[b]? with | some (.cells _ e _) => some e | _ => none
theorem lt_of_cell {w : World} {a : Addr} {v : Value} (h : w.cell? a = some v) : a.block < w.heap.size := World.block_lt_of_cell? w a h
def Sl (B0 : Nat) (e : TypeId) (size : Nat) (w : World) (v : Value) (n : Nat) (xs : List Value) : Prop :=
  ∃ A c, v = .slice A n c ∧ n ≤ c ∧ c ≤ maxLen ∧ xs.length = n * size ∧
    (0 < n → ∃ b off, A = some ⟨b, off, none⟩ ∧ (b < B0 ∨ elemOf w b = some e) ∧ ∀ j u, xs[j]? = some u → w.cell? ⟨b, off + j, none⟩ = some u)
section
variable {B0 : Nat} {e : TypeId} {size : Nat} {w w' : World} {v : Value} {n : Nat} {xs : List Value}
theorem elemOf_below {b : Nat} (hb : Below w.heap.size w w') (h : elemOf w b = some e) : elemOf w' b = some e := by
  have hlt : b < w.heap.size := by
    rcases Nat.lt_or_ge b w.heap.size with hlt | hge
    · exact hlt
    · unfold elemOf at h; rw [Array.getElem?_eq_none hge] at h; simp at h
  unfold elemOf at h ⊢
  rw [hb.block b hlt]
  exact h
theorem Sl.below (h : Sl B0 e size w v n xs) (hs : 0 < size) (hb : Below w.heap.size w w') : Sl B0 e size w' v n xs := by
  obtain ⟨A, c, rfl, h1, h2, h3, h4⟩ := h
  refine ⟨A, c, rfl, h1, h2, h3, fun hn => ?_⟩
  obtain ⟨b, off, rfl, hbe, hc⟩ := h4 hn
  refine ⟨b, off, rfl, hbe.imp id (elemOf_below hb), fun j u hu => ?_⟩
  have := hc j u hu
  rw [← this]
  exact hb.cell (lt_of_cell this)
theorem Sl.nil (B0 : Nat) (e : TypeId) (size : Nat) (w : World) : Sl B0 e size w (.slice none 0 0) 0 [] := ⟨none, 0, rfl, Nat.le_refl _, Nat.zero_le _, by simp, fun h => absurd h (by omega)⟩
theorem Sl.drew (h : Sl B0 e size w v n xs) : Sl B0 e size w.drew v n xs := h
end
theorem _root_.Go.RowKit.Below.and {a b c : World} (h : Below a.heap.size a b) (k : Below b.heap.size b c) : Below a.heap.size a c := h.trans (k.mono h.size)
structure EInfo (P : Program) (t e : TypeId) (z : Value) (size bytes : Nat) : Prop where
  ht : P.underlying t = some (.slice e)
  hi : (P.info? e).map (fun i => (i.zero, i.size, i.bytes)) = some (some z, size, bytes)
  hzs : z.cells.size = size
  hsz : 0 < size
  hby : bytes ≤ 1000
section
variable {P : Program} {w : World} {ops : Array Oper} {rest : List Oper} {o : Oper} {a : Act} {Q : Exit → Act → World → Prop} {t e : TypeId} {z : Value} {size bytes : Nat}
end
section
variable {H : Type} {enc : TypeId × Value → H} {P : Program}
theorem trodAll_below (hl : laidOutB P = true) {W W' : World} (hb : Below W.heap.size W W') : ∀ (ts : List TypeId) (vs : List Value) (ds : List (DataW H)) (ps : List MemPlace),
    (∀ t ∈ ts, P.readableRec t = true ∧ t < P.types.size) → (∀ x ∈ ps, x.block < W.heap.size) → DataW.TrodAll enc P W 0 (fun _ => true) true ts vs ds ps →
    DataW.TrodAll enc P W' 0 (fun b => decide (b < W.heap.size)) true ts vs ds ps
  | [], vs, ds, ps, _, _, h => by
    cases vs <;> cases ds <;> simp_all [DataW.TrodAll]
  | t :: ts, vs, ds, ps, ht, hp, h => by
    obtain ⟨v0, vs0, d0, ds0, p0, q0, rfl, rfl, rfl, h0, r0⟩ := trodAll_cons h
    refine trodAll_cons_mk (Below.trod hl (ht t (by simp)).1 (ht t (by simp)).2 h0 hb fun x hx => hp x (by simp [hx])) ?_
    exact trodAll_below hl hb ts vs0 ds0 q0 (fun t' h' => ht t' (by simp [h'])) (fun x hx => hp x (by simp [hx])) r0
theorem law_post {f : Func} {s : ChangeSpec} {apart fresh handsOn : Bool} {W W' : World} {args : Array Value} {ds gs : List (DataW H)} {before pa pv : List MemPlace} {tb : TypeId}
    (hl : laidOutB P = true) (htb0 : (f.params.toList.all fun t => P.readableRec t && decide (t < P.types.size)) = true)
    (hW : DataW.Whole enc P f.params.toList s.vars apart W args.toList ds gs before)
    (hA : DataW.TrodAll enc P W 0 (fun _ => true) true f.params.toList args.toList ds pa)
    (hvars : s.vars = []) (hgs : gs = [])  (hps : before = pa ++ pv) (hpv : pv = [])
    (hr : f.resultTypes = #[tb]) (htb : P.underlying tb = some .bool)
    (e1 : (s.fn H (ds ++ gs)).results = [.lit (.bool true)]) (e2 : (s.fn H (ds ++ gs)).args = ds) (e3 : (s.fn H (ds ++ gs)).vars = [])
    (hb : Below W.heap.size W W') : s.post enc P f apart fresh handsOn false W args (.bool true) W' := by
  subst hpv
  have hts : ∀ t ∈ f.params.toList, P.readableRec t = true ∧ t < P.types.size := fun t ht => by
    have := List.all_eq_true.1 htb0 t ht
    simpa using this
  have hlt : ∀ p ∈ pa, p.block < W.heap.size := fun p hp => hW.lt p (by rw [hps]; simpa using hp)
  have hold : ∀ p ∈ before, (fun b => decide (b < W.heap.size)) p.block = true := fun p hp => by
    have := hW.lt p hp
    simpa using this
  refine ⟨ds, gs, before, [], pa, [], hW, ?_, ?_, ?_, ?_, fun h => by cases h⟩
  · rw [e1, hr]; exact trodAll_mk1 (shut_bool htb true)
  · rw [e2]; exact trodAll_below hl hb _ _ _ _ hts hlt hA
  · rw [e3, hvars]; exact (by rfl)
  · exact World.keptBut_mono (fun p hp => ⟨hp, by rw [hps] at hp; simpa using hp⟩) (hb.frame (· ∈ before))
end
end Go.Proofs.YtpefnjbmbfdmmaaDoor
