/- What is handed to the laws of package seq: rows of words; a law's last step out of the second machine. -/
import Derived.Test.YtahnhhbgkmlfcaaDoorSeqR
import Derived.Test.YtahnhhbgkmlfcaaDoorAbsG
import Derived.Test.YtahnhhbgkmlfcaaDoorOpenS
namespace Go.Proofs.YtahnhhbgkmlfcaaDoor
open Go.RowKit Go.ChangeShapes Go.WideShapes Go.ChangeAt Go.Deep

set_option maxRecDepth 100000 in
theorem open_u32s {H : Type} {enc : TypeId × Value → H} {w : World} {base : Nat} {spare : Nat → Bool} {held : Bool} {r : Reach} {b0 : Nat} {v : Value} {d : DataW H} {p : List MemPlace}
    (hv : Value.okWide Tryd.prog w r b0 22 v) (h : DataW.Trod enc Tryd.prog w base spare held 22 v d p) :
    ∃ l : List Nat, (∀ x ∈ l, x ≤ 4294967295) ∧ l.length ≤ maxLen ∧ Rep (· < w.heap.size) w noB (.sl 1 (l.map rowU) false) v := by
  obtain ⟨a0, len, cap, rfl⟩ := okWide_slice Tryd.underlying22 hv
  obtain ⟨fuel, hf⟩ := h
  obtain ⟨cs, ho⟩ := trod_opened 3 fuel _ _ _ hf (by kernel_rfl)
  have hty := ho.ty
  have hrep := ho.rep
  have hu := Tryd.underlying22
  have rowsU : ∀ (rows : List (List AV)), (∀ row ∈ rows, TyV Tryd.prog 25 row) → ∃ l : List Nat, rows = l.map rowU ∧ ∀ x ∈ l, x ≤ 4294967295 := by
    intro rows
    induction rows with
    | nil => intro _; exact ⟨[], rfl, fun x h => by cases h⟩
    | cons row rows ih =>
      intro hr
      obtain ⟨l, h1, h2⟩ := ih fun row hm => hr row (List.mem_cons_of_mem _ hm)
      have hrow := hr row List.mem_cons_self
      have hue := Tryd.underlying25
      cases hrow with
      | int h n hn =>
        rw [hue] at h
        injection h with h
        injection h with h
        subst h
        obtain ⟨k, rfl, hk⟩ : ∃ k : Nat, n = k ∧ k < 4294967296 := by
          simp only [Lit.wf, IntKind.min, IntKind.max, IntKind.signed, IntKind.bits, Bool.and_eq_true, decide_eq_true_eq] at hn
          simp at hn
          exact ⟨n.toNat, by omega, by omega⟩
        exact ⟨k :: l, by rw [h1]; rfl, fun x hx => by rcases List.mem_cons.1 hx with rfl | hx; exact Nat.le_of_lt_succ hk; exact h2 x hx⟩
      | bool h => rw [hue] at h; cases h
      | string h => rw [hue] at h; cases h
      | slice h => rw [hue] at h; cases h
      | struct h => rw [hue] at h; cases h
      | array h => rw [hue] at h; cases h
  cases hty with
  | slice h rows hl hr hrs =>
    rw [hu] at h
    injection h with h
    injection h with h
    subst h
    obtain ⟨l, rfl, hb⟩ := rowsU rows hr
    refine ⟨l, hb, by simpa using hl, ?_⟩
    have := hrep.2 0 _ _ rfl rfl
    rwa [show Tryd.prog.cellsOf 25 = 1 by kernel_rfl] at this
  | bool h => rw [hu] at h; cases h
  | int h => rw [hu] at h; cases h
  | string h => rw [hu] at h; cases h
  | struct h => rw [hu] at h; cases h
  | array h => rw [hu] at h; cases h

theorem codes_pos {w : World} (h : Codes w) : 0 < w.heap.size := by
  have := h 0 (by decide)
  unfold World.cell? at this
  cases hq : w.heap[0]? with
  | none => simp [hq] at this
  | some o => exact (Array.getElem?_eq_some_iff.1 hq).1
/-- What a law comes to, out of its walk. -/
theorem DCall.law {f : FuncId} {args : List AV} {vs : List Value} {w : World} (h : DCall C0 f args (.v (.bool true))) (hC : Codes w) (ha : RepL (· < w.heap.size) w noB args vs) :
    Calls Tryd.prog f vs.toArray w fun e w' => e = .returned (.bool true) ∧ Below w.heap.size w w' :=
  (h.2 (· < w.heap.size) w vs (fun _ h => h) (g0Ok hC (codes_pos hC)) ha).mono fun e w' ⟨v, h1, h2, h3⟩ => ⟨by rw [h1, rep_v h3], h2⟩
theorem DCall.weaken {C : Ctx} {f : FuncId} {args args' : List AV} {r : AV} (h : DCall C f args' r) (hl : args.length = args'.length) (hs : ∀ (i : Nat) a a', args[i]? = some a → args'[i]? = some a' → ∀ S w v, Rep S w noB a v → Rep S w noB a' v) : DCall C f args r :=
  ⟨h.1, fun S w vs hS hG hv => h.2 S w vs hS hG ⟨hl ▸ hv.1, fun i a' u h1 h2 => by
    have hi : i < args.length := by rw [hl]; exact (List.getElem?_eq_some_iff.1 h1).1
    exact hs i args[i] a' (List.getElem?_eq_getElem hi) h1 S w u (hv.2 i _ u (List.getElem?_eq_getElem hi) h2)⟩⟩
theorem nil_any {S : Nat → Prop} {w : World} {v : Value} {rs : Nat} (h : Rep S w noB (.sl 0 [] true) v) : Rep S w noB (.sl rs [] false) v := by
  cases h with
  | sl _ _ _ A c b o u hc hm hcl hrs hA hw h1 hr => exact .sl rs [] false A c b o u hc hm (fun h => by cases h) (fun row h => by cases h) (fun h => absurd h (Nat.lt_irrefl 0)) (fun i row j a h => by simp at h) h1 fun i row j a h => by simp at h

/-! ### plain laws of runs -/
theorem stepP_halt {prog : List Nat} {s : St} (h : s.halt = 0) : (stepP prog s).2.halt = (stepP prog s).1.halt ∧ ((stepP prog s).1.halt ≠ 0 → (stepP prog s).2.pc = (stepP prog s).1.pc ∧ (stepP prog s).2.next = (stepP prog s).1.pc) := by
  have hal : ∀ (why : Int) (addr : Nat), (haltP s why addr).2.halt = (haltP s why addr).1.halt ∧ ((haltP s why addr).1.halt ≠ 0 → (haltP s why addr).2.pc = (haltP s why addr).1.pc ∧ (haltP s why addr).2.next = (haltP s why addr).1.pc) := fun why addr => ⟨rfl, fun _ => ⟨rfl, rfl⟩⟩
  have fin : ∀ (i : SI) (a b nx : Nat) (tk : Int), (finP s i a b nx tk).2.halt = (finP s i a b nx tk).1.halt ∧ ((finP s i a b nx tk).1.halt ≠ 0 → (finP s i a b nx tk).2.pc = (finP s i a b nx tk).1.pc ∧ (finP s i a b nx tk).2.next = (finP s i a b nx tk).1.pc) := fun i a b nx tk => by
    unfold finP
    split <;> exact ⟨h.symm, fun hh => absurd h hh⟩
  unfold stepP
  split
  · split
    · split
      · exact hal _ _
      · unfold doI
        split
        · exact hal _ _
        · split
          · exact hal _ _
          · split
            · unfold accessP
              split
              · split
                · exact ⟨h.symm, fun hh => absurd h hh⟩
                · split <;> exact ⟨h.symm, fun hh => absurd h hh⟩
              · exact hal _ _
            · unfold reckonP
              split
              · split
                · exact fin _ _ _ _ _
                · exact hal _ _
              · exact fin _ _ _ _ _
    · exact hal _ _
  · exact absurd h ‹_›
theorem stepP_stays {prog : List Nat} {s : St} (h : s.halt ≠ 0) : stepP prog s = (s, noSp) := by unfold stepP; rw [if_neg h]
theorem lastOf_cons (s0 : St) (x : St × Sp) (l : List (St × Sp)) : lastOf s0 (x :: l) = lastOf x.1 l := by
  unfold lastOf
  cases l with
  | nil => rfl
  | cons y l => rw [List.getLast?_cons_cons]; rw [List.getLast?_cons]; rfl
/-- A run: it stops where it halts; its last step tells where. -/
theorem run_facts {prog : List Nat} : ∀ (n : Nat) (s0 : St), s0.halt = 0 → ((lastOf s0 (stepsL prog n s0)).halt = 0 → (stepsL prog n s0).length = n) ∧
    ((lastOf s0 (stepsL prog n s0)).halt ≠ 0 → ∃ pre x, stepsL prog n s0 = pre ++ [x] ∧ x.1 = lastOf s0 (stepsL prog n s0) ∧ x.2.halt = x.1.halt ∧ x.2.pc = x.1.pc ∧ x.2.next = x.1.pc)
  | 0, s0, h => ⟨fun _ => rfl, fun hh => absurd h hh⟩
  | n + 1, s0, h => by
    rw [stepsL_more h, lastOf_cons]
    obtain ⟨p1, p2⟩ := stepP_halt (prog := prog) h
    by_cases hh : (stepP prog s0).1.halt = 0
    · obtain ⟨f1, f2⟩ := run_facts n (stepP prog s0).1 hh
      refine ⟨fun h1 => by rw [List.length_cons, f1 h1], fun h1 => ?_⟩
      obtain ⟨pre, x, e1, e2⟩ := f2 h1
      exact ⟨stepP prog s0 :: pre, x, by rw [e1]; rfl, e2⟩
    · rw [stepsL_done (.inr hh)]
      exact ⟨fun h1 => absurd h1 hh, fun _ => ⟨[], stepP prog s0, rfl, rfl, p1, p2 hh⟩⟩
theorem lastOf_ok {prog : List Nat} : ∀ (n : Nat) (s0 : St), s0.ok → (lastOf s0 (stepsL prog n s0)).ok
  | 0, s0, h => h
  | n + 1, s0, h => by
    by_cases hh : s0.halt = 0
    · rw [stepsL_more hh, lastOf_cons]; exact lastOf_ok n _ (stepP_ok h)
    · rw [stepsL_done (.inr hh)]; exact h
end Go.Proofs.YtahnhhbgkmlfcaaDoor
