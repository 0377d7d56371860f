/- The second machine: a table of types, as a search tree. -/
import Derived.Test.YtpefnjbmbfdmmaaDoorAbsV
namespace Go.Proofs.YtpefnjbmbfdmmaaDoor
open Go.RowKit

inductive TT where
  | leaf (k : Nat) (i : TI)
  | node (k : Nat) (l r : TT)
def TT.find : TT → Nat → Option TI
  | .leaf k i, t => match Nat.beq t k with | true => some i | false => none
  | .node k l r, t => match Nat.blt t k with | true => l.find t | false => r.find t
def AllTy (P : Program) : TT → Prop
  | .leaf k i => TyOk P k i
  | .node _ l r => AllTy P l ∧ AllTy P r
theorem TT.find_ok {P : Program} : ∀ (T : TT), AllTy P T → ∀ t i, T.find t = some i → TyOk P t i
  | .leaf k i, h, t, i', hf => by
    simp only [TT.find] at hf
    split at hf
    · rename_i hb
      injection hf with hf; subst hf
      rw [Nat.eq_of_beq_eq_true hb]; exact h
    · cases hf
  | .node k l r, h, t, i, hf => by
    simp only [TT.find] at hf
    split at hf
    · exact TT.find_ok l h.1 t i hf
    · exact TT.find_ok r h.2 t i hf

/-- What the kernel reckons of a type. -/
def chkTy (P : Program) (inf : TypeInfo) (z : Value) (i : TI) : Bool :=
  inf.size == i.sz && inf.bytes == i.bytes && z.cells.size == i.sz && Nat.blt 0 i.sz && Nat.ble i.bytes 1000 && oneC z.cells.toList
theorem chkTy_ok {P : Program} {t : TypeId} {i : TI} {inf : TypeInfo} {z : Value} (h1 : P.info? t = some inf) (h2 : inf.zero = some z) (h3 : i.zero = absV z) (hc : chkTy P inf z i = true) {d : TypeDesc} (hd : P.underlying t = some d) (hrow : d.isRow = i.ag)
    (hk : match i.kd with
    | .bool => d = .bool
    | .int k => d = .int k
    | .string => d = .string
    | .slice e => d = .slice e
    | .array n e => d = .array n e
    | .struct fs => ∃ fields, d = .struct fields ∧ fields.toList.map (fun f => (f.offset, f.type)) = fs ∧ (fields.toList.all fun f => match P.info? f.type with | some i => !(i.size == 0) | none => false) = true
    | .pointer => ∃ e, d = .pointer e
    | _ => True) (he : i.eq ≠ [] → EqOk P t i.eq) : TyOk P t i := by
  simp only [chkTy, Bool.and_eq_true, beq_iff_eq] at hc
  obtain ⟨⟨⟨⟨⟨c1, c2⟩, c3⟩, c4⟩, c5⟩, c6⟩ := hc
  refine ⟨⟨inf, z, h1, c1, c2, h2, h3, c3, Nat.le_of_ble_eq_true c4, Nat.le_of_ble_eq_true c5⟩, fun inf' z' e1 e2 k u hu => ?_, ⟨d, hd, hrow⟩, ?_, he⟩
  · rw [h1] at e1; injection e1 with e1; subst e1
    rw [h2] at e2; injection e2 with e2; subst e2
    exact oneC_spec _ c6 k u (by simpa using hu)
  · cases hkd : i.kd <;> rw [hkd] at hk <;> simp only at hk ⊢ <;> first | (rw [hd, hk]; done) | (obtain ⟨e, rfl⟩ := hk; exact ⟨e, hd⟩) | trivial | skip
    obtain ⟨fields, rfl, g1, g2⟩ := hk
    refine ⟨fields, hd, g1, fun f hf => ?_⟩
    have := List.all_eq_true.1 g2 f hf
    split at this
    · rename_i inf' hi
      exact ⟨inf', hi, by simpa using this⟩
    · cases this
end Go.Proofs.YtpefnjbmbfdmmaaDoor
