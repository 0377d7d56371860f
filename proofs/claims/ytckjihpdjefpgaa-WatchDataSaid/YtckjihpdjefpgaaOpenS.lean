/- A core that is handed to a law. -/
import Derived.Test.YtckjihpdjefpgaaAbsGS
import Derived.Test.YtckjihpdjefpgaaWatchW
namespace Go.Proofs.Ytckjihpdjefpgaa
open Go.RowKit Go.ChangeShapes Go.WideShapes Go.ChangeAt Go.Deep

theorem u32_nat {n : Int} (h : (Lit.int .u32 n).wf = true) : ∃ m : Nat, n = m ∧ m ≤ 4294967295 := by
  simp only [Lit.wf, IntKind.min, IntKind.max, IntKind.signed, IntKind.bits, Bool.and_eq_true, decide_eq_true_eq] at h
  simp at h
  exact ⟨n.toNat, by omega, by omega⟩
theorem tv_int {cs : List AV} (h : TyV Try.prog 3 cs) : ∃ n : Int, cs = [.v (.int .i64 n)] ∧ True := by
  have hu := Try.underlying3
  cases h with
  | int h n hn => rw [hu] at h; injection h with h; injection h with h; subst h; exact ⟨n, rfl, trivial⟩
  | bool h => rw [hu] at h; cases h
  | string h => rw [hu] at h; cases h
  | slice h => rw [hu] at h; cases h
  | struct h => rw [hu] at h; cases h
  | array h => rw [hu] at h; cases h
theorem tv_u32 {cs : List AV} (h : TyV Try.prog 22 cs) : ∃ n : Nat, cs = [.v (.int .u32 (n : Int))] ∧ n ≤ 4294967295 := by
  have hu := Try.underlying22
  cases h with
  | int h n hn =>
    rw [hu] at h; injection h with h; injection h with h; subst h
    obtain ⟨m, rfl, hm⟩ := u32_nat hn
    exact ⟨m, rfl, hm⟩
  | bool h => rw [hu] at h; cases h
  | string h => rw [hu] at h; cases h
  | slice h => rw [hu] at h; cases h
  | struct h => rw [hu] at h; cases h
  | array h => rw [hu] at h; cases h
theorem tv_bool {cs : List AV} (h : TyV Try.prog 4 cs) : ∃ b : Bool, cs = [.v (.bool b)] ∧ True := by
  have hu := Try.underlying4
  cases h with
  | bool h b => exact ⟨b, rfl, trivial⟩
  | int h => rw [hu] at h; cases h
  | string h => rw [hu] at h; cases h
  | slice h => rw [hu] at h; cases h
  | struct h => rw [hu] at h; cases h
  | array h => rw [hu] at h; cases h
theorem tv_str {cs : List AV} (h : TyV Try.prog 9 cs) : ∃ b : ByteArray, cs = [.v (.string b)] ∧ b.size ≤ maxLen := by
  have hu := Try.underlying9
  cases h with
  | string h b hb => exact ⟨b, rfl, hb⟩
  | int h => rw [hu] at h; cases h
  | bool h => rw [hu] at h; cases h
  | slice h => rw [hu] at h; cases h
  | struct h => rw [hu] at h; cases h
  | array h => rw [hu] at h; cases h
theorem rows_of {α : Type} {f : α → List AV} {p : α → Prop} : ∀ (rows : List (List AV)), (∀ row ∈ rows, ∃ x, row = f x ∧ p x) → ∃ l : List α, rows = l.map f ∧ l.length = rows.length ∧ ∀ x ∈ l, p x
  | [], _ => ⟨[], rfl, rfl, fun x h => by cases h⟩
  | row :: rows, h => by
    obtain ⟨x, rfl, hx⟩ := h row (List.mem_cons_self)
    obtain ⟨l, rfl, hl, hp⟩ := rows_of rows fun r hr => h r (List.mem_cons_of_mem _ hr)
    exact ⟨x :: l, rfl, by simp, fun y hy => by rcases List.mem_cons.1 hy with rfl | hy; exact hx; exact hp y hy⟩
theorem tv_slice {α : Type} {t e : TypeId} {k : Nat} {f : α → List AV} {p : α → Prop} (hu : Try.prog.underlying t = some (.slice e)) (hk : Try.prog.cellsOf e = k) (hrow : ∀ row, TyV Try.prog e row → ∃ x, row = f x ∧ p x) {cs : List AV} (h : TyV Try.prog t cs) :
    ∃ l : List α, cs = [.sl k (l.map f) false] ∧ l.length ≤ 9223372036854775807 ∧ ∀ x ∈ l, p x := by
  cases h with
  | slice h rows hl hr hrs hby =>
    rw [hu] at h; injection h with h; injection h with h; subst h; subst hk
    obtain ⟨l, rfl, h1, h2⟩ := rows_of rows fun row hrow' => hrow row (hr row hrow')
    exact ⟨l, rfl, Nat.le_trans (Nat.le_of_eq h1) (Nat.le_trans hl (by decide)), h2⟩
  | int h => rw [hu] at h; cases h
  | bool h => rw [hu] at h; cases h
  | string h => rw [hu] at h; cases h
  | struct h => rw [hu] at h; cases h
  | array h => rw [hu] at h; cases h
theorem tv_sliceB {α : Type} {t e : TypeId} {k : Nat} {f : α → List AV} {p : α → Prop} (hu : Try.prog.underlying t = some (.slice e)) (hk : Try.prog.cellsOf e = k) (h24 : Try.prog.bytesOf e = 24) (hrow : ∀ row, TyV Try.prog e row → ∃ x, row = f x ∧ p x) {cs : List AV} (h : TyV Try.prog t cs) :
    ∃ l : List α, cs = [.sl k (l.map f) false] ∧ l.length ≤ 5864062014805 ∧ ∀ x ∈ l, p x := by
  cases h with
  | slice h rows hl hr hrs hby =>
    rw [hu] at h; injection h with h; injection h with h; subst h; subst hk
    obtain ⟨l, rfl, h1, h2⟩ := rows_of rows fun row hrow' => hrow row (hr row hrow')
    exact ⟨l, rfl, by rw [h24] at hby; omega, h2⟩
  | int h => rw [hu] at h; cases h
  | bool h => rw [hu] at h; cases h
  | string h => rw [hu] at h; cases h
  | struct h => rw [hu] at h; cases h
  | array h => rw [hu] at h; cases h
theorem fm_ext {α β : Type} {f g : α → List β} : ∀ (l : List α), (∀ x ∈ l, f x = g x) → l.flatMap f = l.flatMap g
  | [], _ => rfl
  | x :: l, h => by rw [List.flatMap_cons, List.flatMap_cons, h x (List.mem_cons_self), fm_ext l (fun y hy => h y (List.mem_cons_of_mem _ hy))]
abbrev rgL (r : Nat → Nat) : List AV := [.v (.int .u32 (r 0 : Int)), .v (.int .u32 (r 1 : Int)), .v (.int .u32 (r 2 : Int)), .v (.int .u32 (r 3 : Int)), .v (.int .u32 (r 4 : Int)), .v (.int .u32 (r 5 : Int)), .v (.int .u32 (r 6 : Int)), .v (.int .u32 (r 7 : Int)), .v (.int .u32 (r 8 : Int)), .v (.int .u32 (r 9 : Int)), .v (.int .u32 (r 10 : Int)), .v (.int .u32 (r 11 : Int)), .v (.int .u32 (r 12 : Int)), .v (.int .u32 (r 13 : Int)), .v (.int .u32 (r 14 : Int)), .v (.int .u32 (r 15 : Int)), .v (.int .u32 (r 16 : Int)), .v (.int .u32 (r 17 : Int)), .v (.int .u32 (r 18 : Int)), .v (.int .u32 (r 19 : Int)), .v (.int .u32 (r 20 : Int)), .v (.int .u32 (r 21 : Int)), .v (.int .u32 (r 22 : Int)), .v (.int .u32 (r 23 : Int)), .v (.int .u32 (r 24 : Int)), .v (.int .u32 (r 25 : Int)), .v (.int .u32 (r 26 : Int)), .v (.int .u32 (r 27 : Int)), .v (.int .u32 (r 28 : Int)), .v (.int .u32 (r 29 : Int)), .v (.int .u32 (r 30 : Int)), .v (.int .u32 (r 31 : Int))]
theorem tv_regs {cs : List AV} (h : TyV Try.prog 37 cs) : ∃ r : Nat → Nat, cs = rgL r ∧ ∀ k, r k ≤ 4294967295 := by
  have hu := Try.underlying37
  cases h with
  | bool h => rw [hu] at h; cases h
  | int h => rw [hu] at h; cases h
  | string h => rw [hu] at h; cases h
  | slice h => rw [hu] at h; cases h
  | struct h => rw [hu] at h; cases h
  | @array _ e n h parts hp =>
    rw [hu] at h; injection h with h; injection h with h1 h2; subst h1; subst h2
    have hj : ∀ j, ∃ m : Nat, (j < 32 → parts j = [.v (.int .u32 (m : Int))]) ∧ m ≤ 4294967295 := fun j => by
      by_cases hlt : j < 32
      · obtain ⟨m, h1, h2⟩ := tv_u32 (hp j hlt); exact ⟨m, fun _ => h1, h2⟩
      · exact ⟨0, fun h => absurd h hlt, by omega⟩
    obtain ⟨r, hr⟩ : ∃ r : Nat → Nat, ∀ j, (j < 32 → parts j = [.v (.int .u32 (r j : Int))]) ∧ r j ≤ 4294967295 := ⟨fun j => (hj j).choose, fun j => (hj j).choose_spec⟩
    refine ⟨r, ?_, fun j => (hr j).2⟩
    exact (fm_ext (List.range 32) (fun j hj => (hr j).1 (List.mem_range.1 hj))).trans rfl
theorem tv_way {cs : List AV} (h : TyV Try.prog 76 cs) : ∃ x : Wy, cs = wyL x ∧ x.ok := by
  have hu := Try.underlying76
  cases h with
  | bool h => rw [hu] at h; cases h
  | int h => rw [hu] at h; cases h
  | string h => rw [hu] at h; cases h
  | slice h => rw [hu] at h; cases h
  | array h => rw [hu] at h; cases h
  | struct h parts hp =>
    rw [hu] at h; injection h with h; injection h with h; subst h
    obtain ⟨x0, e0, p0⟩ := tv_u32 (hp 0 _ rfl)
    obtain ⟨x1, e1, p1⟩ := tv_bool (hp 1 _ rfl)
    obtain ⟨x2, e2, p2⟩ := tv_str (hp 2 _ rfl)
    refine ⟨⟨x0, x1, x2⟩, ?_, ⟨p0⟩⟩
    show parts 0 ++ (parts 1 ++ (parts 2 ++ [])) = _
    rw [e0, e1, e2]; rfl
theorem tv_set {cs : List AV} (h : TyV Try.prog 74 cs) : ∃ l : List Wy, cs = [.sl 3 (l.map wyL) false] ∧ l.length ≤ 5864062014805 ∧ ∀ x ∈ l, Wy.ok x :=
  tv_sliceB (f := wyL) (p := Wy.ok) Try.underlying74 (by kernel_rfl) (by kernel_rfl) (fun row hr => tv_way hr) h
theorem tv_setR (row : List AV) (h : TyV Try.prog 74 row) : ∃ s : List Wy, row = rowSet s ∧ (s.length ≤ 5864062014805 ∧ ∀ x ∈ s, x.ok) := tv_set h
theorem tv_sets {cs : List AV} (h : TyV Try.prog 57 cs) : ∃ l : List (List Wy), cs = [.sl 1 (l.map rowSet) false] ∧ l.length ≤ 5864062014805 ∧ ∀ x ∈ l, (fun s : List Wy => s.length ≤ 5864062014805 ∧ ∀ x ∈ s, x.ok) x :=
  tv_sliceB (f := rowSet) (p := (fun s : List Wy => s.length ≤ 5864062014805 ∧ ∀ x ∈ s, x.ok)) Try.underlying57 (by kernel_rfl) (by kernel_rfl) (fun row hr => tv_setR _ hr) h
theorem tv_cache {cs : List AV} (h : TyV Try.prog 59 cs) : ∃ x : Ca, cs = caL x false ∧ (x.ok ∧ x.sets.length ≤ 5864062014805 ∧ ∀ s ∈ x.sets, s.length ≤ 5864062014805) := by
  have hu := Try.underlying59
  cases h with
  | bool h => rw [hu] at h; cases h
  | int h => rw [hu] at h; cases h
  | string h => rw [hu] at h; cases h
  | slice h => rw [hu] at h; cases h
  | array h => rw [hu] at h; cases h
  | struct h parts hp =>
    rw [hu] at h; injection h with h; injection h with h; subst h
    obtain ⟨x0, e0, p0⟩ := tv_int (hp 0 _ rfl)
    obtain ⟨x1, e1, p1⟩ := tv_sets (hp 1 _ rfl)
    refine ⟨⟨x0, x1⟩, ?_, ⟨⟨Nat.le_trans p1.1 (by decide), fun s hs => ⟨Nat.le_trans (p1.2 s hs).1 (by decide), (p1.2 s hs).2⟩⟩, p1.1, fun s hs => (p1.2 s hs).1⟩⟩
    show parts 0 ++ (parts 1 ++ []) = _
    rw [e0, e1]; rfl
theorem tv_req {cs : List AV} (h : TyV Try.prog 100 cs) : ∃ x : Req, cs = rqL x ∧ x.line ≤ 4294967295 := by
  have hu := Try.underlying100
  cases h with
  | bool h => rw [hu] at h; cases h
  | int h => rw [hu] at h; cases h
  | string h => rw [hu] at h; cases h
  | slice h => rw [hu] at h; cases h
  | array h => rw [hu] at h; cases h
  | struct h parts hp =>
    rw [hu] at h; injection h with h; injection h with h; subst h
    obtain ⟨x0, e0, p0⟩ := tv_int (hp 0 _ rfl)
    obtain ⟨x1, e1, p1⟩ := tv_u32 (hp 1 _ rfl)
    obtain ⟨x2, e2, p2⟩ := tv_int (hp 2 _ rfl)
    obtain ⟨x3, e3, p3⟩ := tv_str (hp 3 _ rfl)
    refine ⟨⟨x0, x1, x2, x3⟩, ?_, p1⟩
    show parts 0 ++ (parts 1 ++ (parts 2 ++ (parts 3 ++ []))) = _
    rw [e0, e1, e2, e3]; rfl
theorem tv_bus {cs : List AV} (h : TyV Try.prog 60 cs) : ∃ l : List Req, cs = [.sl 4 (l.map rqL) false] ∧ l.length ≤ 9223372036854775807 ∧ ∀ x ∈ l, (fun x : Req => x.line ≤ 4294967295) x :=
  tv_slice (f := rqL) (p := (fun x : Req => x.line ≤ 4294967295)) Try.underlying60 (by kernel_rfl) (fun row hr => tv_req hr) h
theorem tv_step {cs : List AV} (h : TyV Try.prog 46 cs) : ∃ x : Sp, cs = spL x ∧ x.pc ≤ 4294967295 := by
  have hu := Try.underlying46
  cases h with
  | bool h => rw [hu] at h; cases h
  | int h => rw [hu] at h; cases h
  | string h => rw [hu] at h; cases h
  | slice h => rw [hu] at h; cases h
  | array h => rw [hu] at h; cases h
  | struct h parts hp =>
    rw [hu] at h; injection h with h; injection h with h; subst h
    obtain ⟨x0, e0, p0⟩ := tv_u32 (hp 0 _ rfl)
    obtain ⟨x1, e1, p1⟩ := tv_u32 (hp 1 _ rfl)
    obtain ⟨x2, e2, p2⟩ := tv_int (hp 2 _ rfl)
    obtain ⟨x3, e3, p3⟩ := tv_u32 (hp 3 _ rfl)
    obtain ⟨x4, e4, p4⟩ := tv_u32 (hp 4 _ rfl)
    obtain ⟨x5, e5, p5⟩ := tv_int (hp 5 _ rfl)
    obtain ⟨x6, e6, p6⟩ := tv_bool (hp 6 _ rfl)
    obtain ⟨x7, e7, p7⟩ := tv_int (hp 7 _ rfl)
    obtain ⟨x8, e8, p8⟩ := tv_int (hp 8 _ rfl)
    refine ⟨⟨x0, x1, x2, x3, x4, x5, x6, x7, x8⟩, ?_, p0⟩
    show parts 0 ++ (parts 1 ++ (parts 2 ++ (parts 3 ++ (parts 4 ++ (parts 5 ++ (parts 6 ++ (parts 7 ++ (parts 8 ++ [])))))))) = _
    rw [e0, e1, e2, e3, e4, e5, e6, e7, e8]; rfl
theorem tv_ret {cs : List AV} (h : TyV Try.prog 64 cs) : ∃ l : List Sp, cs = [.sl 9 (l.map spL) false] ∧ l.length ≤ 9223372036854775807 ∧ ∀ x ∈ l, (fun x : Sp => x.pc ≤ 4294967295) x :=
  tv_slice (f := spL) (p := (fun x : Sp => x.pc ≤ 4294967295)) Try.underlying64 (by kernel_rfl) (fun row hr => tv_step hr) h
theorem tv_ft {cs : List AV} (h : TyV Try.prog 157 cs) : ∃ x : Ft, cs = ftL x ∧ True := by
  have hu := Try.underlying157
  cases h with
  | bool h => rw [hu] at h; cases h
  | int h => rw [hu] at h; cases h
  | string h => rw [hu] at h; cases h
  | slice h => rw [hu] at h; cases h
  | array h => rw [hu] at h; cases h
  | struct h parts hp =>
    rw [hu] at h; injection h with h; injection h with h; subst h
    obtain ⟨x0, e0, p0⟩ := tv_u32 (hp 0 _ rfl)
    obtain ⟨x1, e1, p1⟩ := tv_u32 (hp 1 _ rfl)
    refine ⟨⟨x0, x1⟩, ?_, trivial⟩
    show parts 0 ++ (parts 1 ++ []) = _
    rw [e0, e1]; rfl
theorem tv_fts {cs : List AV} (h : TyV Try.prog 55 cs) : ∃ l : List Ft, cs = [.sl 2 (l.map ftL) false] ∧ l.length ≤ 9223372036854775807 ∧ ∀ x ∈ l, (fun (_ : Ft) => True) x :=
  tv_slice (f := ftL) (p := (fun (_ : Ft) => True)) Try.underlying55 (by kernel_rfl) (fun row hr => tv_ft hr) h
theorem tv_pt {cs : List AV} (h : TyV Try.prog 159 cs) : ∃ x : Pt, cs = ptL x ∧ True := by
  have hu := Try.underlying159
  cases h with
  | bool h => rw [hu] at h; cases h
  | int h => rw [hu] at h; cases h
  | string h => rw [hu] at h; cases h
  | slice h => rw [hu] at h; cases h
  | array h => rw [hu] at h; cases h
  | struct h parts hp =>
    rw [hu] at h; injection h with h; injection h with h; subst h
    obtain ⟨x0, e0, p0⟩ := tv_u32 (hp 0 _ rfl)
    obtain ⟨x1, e1, p1⟩ := tv_str (hp 1 _ rfl)
    refine ⟨⟨x0, x1⟩, ?_, trivial⟩
    show parts 0 ++ (parts 1 ++ []) = _
    rw [e0, e1]; rfl
theorem tv_pts {cs : List AV} (h : TyV Try.prog 56 cs) : ∃ l : List Pt, cs = [.sl 2 (l.map ptL) false] ∧ l.length ≤ 9223372036854775807 ∧ ∀ x ∈ l, (fun (_ : Pt) => True) x :=
  tv_slice (f := ptL) (p := (fun (_ : Pt) => True)) Try.underlying56 (by kernel_rfl) (fun row hr => tv_pt hr) h
theorem tv_gs {cs : List AV} (h : TyV Try.prog 161 cs) : ∃ x : Gs, cs = gsL x ∧ True := by
  have hu := Try.underlying161
  cases h with
  | bool h => rw [hu] at h; cases h
  | int h => rw [hu] at h; cases h
  | string h => rw [hu] at h; cases h
  | slice h => rw [hu] at h; cases h
  | array h => rw [hu] at h; cases h
  | struct h parts hp =>
    rw [hu] at h; injection h with h; injection h with h; subst h
    obtain ⟨x0, e0, p0⟩ := tv_u32 (hp 0 _ rfl)
    obtain ⟨x1, e1, p1⟩ := tv_u32 (hp 1 _ rfl)
    refine ⟨⟨x0, x1⟩, ?_, trivial⟩
    show parts 0 ++ (parts 1 ++ []) = _
    rw [e0, e1]; rfl
theorem tv_gss {cs : List AV} (h : TyV Try.prog 61 cs) : ∃ l : List Gs, cs = [.sl 2 (l.map gsL) false] ∧ l.length ≤ 9223372036854775807 ∧ ∀ x ∈ l, (fun (_ : Gs) => True) x :=
  tv_slice (f := gsL) (p := (fun (_ : Gs) => True)) Try.underlying61 (by kernel_rfl) (fun row hr => tv_gs hr) h
theorem tv_u32R (row : List AV) (h : TyV Try.prog 22 row) : ∃ n : Nat, row = rowU n ∧ n ≤ 4294967295 := tv_u32 h
theorem tv_intR (row : List AV) (h : TyV Try.prog 3 row) : ∃ n : Int, row = rowI n ∧ True := tv_int h
abbrev siC (i : SI) : List AV := [.v (.int .i64 i.op), .v (.int .i64 i.rd), .v (.int .i64 i.rs1), .v (.int .i64 i.rs2), .v (.int .u32 (i.imm : Int))]
theorem tv_u32s {cs : List AV} (h : TyV Try.prog 42 cs) : ∃ l : List Nat, cs = [.sl 1 (l.map rowU) false] ∧ l.length ≤ 9223372036854775807 ∧ ∀ x ∈ l, (fun n : Nat => n ≤ 4294967295) x :=
  tv_slice (f := rowU) (p := (fun n : Nat => n ≤ 4294967295)) Try.underlying42 (by kernel_rfl) (fun row hr => tv_u32R _ hr) h
theorem tv_ints {cs : List AV} (h : TyV Try.prog 52 cs) : ∃ l : List Int, cs = [.sl 1 (l.map rowI) false] ∧ l.length ≤ 9223372036854775807 ∧ ∀ x ∈ l, (fun (_ : Int) => True) x :=
  tv_slice (f := rowI) (p := (fun (_ : Int) => True)) Try.underlying52 (by kernel_rfl) (fun row hr => tv_intR _ hr) h
theorem tv_inst {cs : List AV} (h : TyV Try.prog 24 cs) : ∃ x : SI, cs = siC x ∧ True := by
  have hu := Try.underlying24
  cases h with
  | bool h => rw [hu] at h; cases h
  | int h => rw [hu] at h; cases h
  | string h => rw [hu] at h; cases h
  | slice h => rw [hu] at h; cases h
  | array h => rw [hu] at h; cases h
  | struct h parts hp =>
    rw [hu] at h; injection h with h; injection h with h; subst h
    obtain ⟨x0, e0, p0⟩ := tv_int (hp 0 _ rfl)
    obtain ⟨x1, e1, p1⟩ := tv_int (hp 1 _ rfl)
    obtain ⟨x2, e2, p2⟩ := tv_int (hp 2 _ rfl)
    obtain ⟨x3, e3, p3⟩ := tv_int (hp 3 _ rfl)
    obtain ⟨x4, e4, p4⟩ := tv_u32 (hp 4 _ rfl)
    refine ⟨⟨x0, x1, x2, x3, x4⟩, ?_, trivial⟩
    show parts 0 ++ (parts 1 ++ (parts 2 ++ (parts 3 ++ (parts 4 ++ [])))) = _
    rw [e0, e1, e2, e3, e4]; rfl
theorem tv_ent {cs : List AV} (h : TyV Try.prog 26 cs) : ∃ x : Ent, cs = enL x ∧ True := by
  have hu := Try.underlying26
  cases h with
  | bool h => rw [hu] at h; cases h
  | int h => rw [hu] at h; cases h
  | string h => rw [hu] at h; cases h
  | slice h => rw [hu] at h; cases h
  | array h => rw [hu] at h; cases h
  | struct h parts hp =>
    rw [hu] at h; injection h with h; injection h with h; subst h
    obtain ⟨x0, e0, p0⟩ := tv_int (hp 0 _ rfl)
    obtain ⟨x1, e1, p1⟩ := tv_u32 (hp 1 _ rfl)
    obtain ⟨x2, e2, p2⟩ := tv_inst (hp 2 _ rfl)
    obtain ⟨x3, e3, p3⟩ := tv_u32 (hp 3 _ rfl)
    obtain ⟨x4, e4, p4⟩ := tv_int (hp 4 _ rfl)
    obtain ⟨x5, e5, p5⟩ := tv_int (hp 5 _ rfl)
    obtain ⟨x6, e6, p6⟩ := tv_u32 (hp 6 _ rfl)
    obtain ⟨x7, e7, p7⟩ := tv_u32 (hp 7 _ rfl)
    obtain ⟨x8, e8, p8⟩ := tv_u32 (hp 8 _ rfl)
    obtain ⟨x9, e9, p9⟩ := tv_int (hp 9 _ rfl)
    obtain ⟨x10, e10, p10⟩ := tv_int (hp 10 _ rfl)
    obtain ⟨x11, e11, p11⟩ := tv_bool (hp 11 _ rfl)
    obtain ⟨x12, e12, p12⟩ := tv_bool (hp 12 _ rfl)
    refine ⟨⟨x0, x1, x2, x3, x4, x5, x6, x7, x8, x9, x10, x11, x12⟩, ?_, trivial⟩
    show parts 0 ++ (parts 1 ++ (parts 2 ++ (parts 3 ++ (parts 4 ++ (parts 5 ++ (parts 6 ++ (parts 7 ++ (parts 8 ++ (parts 9 ++ (parts 10 ++ (parts 11 ++ (parts 12 ++ [])))))))))))) = _
    rw [e0, e1, e2, e3, e4, e5, e6, e7, e8, e9, e10, e11, e12]; rfl
theorem tv_rob {cs : List AV} (h : TyV Try.prog 35 cs) : ∃ l : List Ent, cs = [.sl 17 (l.map enL) false] ∧ l.length ≤ 9223372036854775807 ∧ ∀ x ∈ l, (fun (_ : Ent) => True) x :=
  tv_slice (f := enL) (p := (fun (_ : Ent) => True)) Try.underlying35 (by kernel_rfl) (fun row hr => tv_ent hr) h
theorem tv_conf {cs : List AV} (h : TyV Try.prog 54 cs) : ∃ x : Cf, cs = cfL x false false ∧ True := by
  have hu := Try.underlying54
  cases h with
  | bool h => rw [hu] at h; cases h
  | int h => rw [hu] at h; cases h
  | string h => rw [hu] at h; cases h
  | slice h => rw [hu] at h; cases h
  | array h => rw [hu] at h; cases h
  | struct h parts hp =>
    rw [hu] at h; injection h with h; injection h with h; subst h
    obtain ⟨x0, e0, p0⟩ := tv_int (hp 0 _ rfl)
    obtain ⟨x1, e1, p1⟩ := tv_int (hp 1 _ rfl)
    obtain ⟨x2, e2, p2⟩ := tv_int (hp 2 _ rfl)
    obtain ⟨x3, e3, p3⟩ := tv_int (hp 3 _ rfl)
    obtain ⟨x4, e4, p4⟩ := tv_int (hp 4 _ rfl)
    obtain ⟨x5, e5, p5⟩ := tv_int (hp 5 _ rfl)
    obtain ⟨x6, e6, p6⟩ := tv_int (hp 6 _ rfl)
    obtain ⟨x7, e7, p7⟩ := tv_int (hp 7 _ rfl)
    obtain ⟨x8, e8, p8⟩ := tv_ints (hp 8 _ rfl)
    obtain ⟨x9, e9, p9⟩ := tv_bool (hp 9 _ rfl)
    obtain ⟨x10, e10, p10⟩ := tv_u32s (hp 10 _ rfl)
    refine ⟨⟨x0, x1, x2, x3, x4, x5, x6, x7, x8, x9, x10⟩, ?_, trivial⟩
    show parts 0 ++ (parts 1 ++ (parts 2 ++ (parts 3 ++ (parts 4 ++ (parts 5 ++ (parts 6 ++ (parts 7 ++ (parts 8 ++ (parts 9 ++ (parts 10 ++ [])))))))))) = _
    rw [e0, e1, e2, e3, e4, e5, e6, e7, e8, e9, e10]; rfl
theorem tv_guess {cs : List AV} (h : TyV Try.prog 63 cs) : ∃ x : Gu, cs = guL x ∧ True := by
  have hu := Try.underlying63
  cases h with
  | bool h => rw [hu] at h; cases h
  | int h => rw [hu] at h; cases h
  | string h => rw [hu] at h; cases h
  | slice h => rw [hu] at h; cases h
  | array h => rw [hu] at h; cases h
  | struct h parts hp =>
    rw [hu] at h; injection h with h; injection h with h; subst h
    obtain ⟨x0, e0, p0⟩ := tv_gss (hp 0 _ rfl)
    obtain ⟨x1, e1, p1⟩ := tv_u32 (hp 1 _ rfl)
    obtain ⟨x2, e2, p2⟩ := tv_u32s (hp 2 _ rfl)
    refine ⟨⟨x0, x1, x2⟩, ?_, trivial⟩
    show parts 0 ++ (parts 1 ++ (parts 2 ++ [])) = _
    rw [e0, e1, e2]; rfl
set_option maxRecDepth 100000 in
theorem tv_core {cs : List AV} (h : TyV Try.prog 66 cs) : ∃ x : Co, cs = coL x ∧ (∀ x1 ∈ x.bus, x1.line ≤ 4294967295) ∧ (∀ y ∈ x.retired, y.pc ≤ 4294967295) ∧ x.data.ok ∧ x.words.ok ∧ x.bus.length ≤ 9223372036854775807 ∧ x.retired.length ≤ 9223372036854775807 ∧ (∀ k, x.r k ≤ 4294967295) ∧ x.data.sets.length ≤ 5864062014805 ∧ (∀ s ∈ x.data.sets, s.length ≤ 5864062014805) := by
  have hu := Try.underlying66
  cases h with
  | bool h => rw [hu] at h; cases h
  | int h => rw [hu] at h; cases h
  | string h => rw [hu] at h; cases h
  | slice h => rw [hu] at h; cases h
  | array h => rw [hu] at h; cases h
  | struct h parts hp =>
    rw [hu] at h; injection h with h; injection h with h; subst h
    obtain ⟨x0, e0, p0⟩ := tv_conf (hp 0 _ rfl)
    obtain ⟨x1, e1, p1⟩ := tv_u32s (hp 1 _ rfl)
    obtain ⟨x2, e2, p2⟩ := tv_int (hp 2 _ rfl)
    obtain ⟨x3, e3, p3⟩ := tv_regs (hp 3 _ rfl)
    obtain ⟨x4, e4, p4⟩ := tv_u32 (hp 4 _ rfl)
    obtain ⟨x5, e5, p5⟩ := tv_bool (hp 5 _ rfl)
    obtain ⟨x6, e6, p6⟩ := tv_fts (hp 6 _ rfl)
    obtain ⟨x7, e7, p7⟩ := tv_rob (hp 7 _ rfl)
    obtain ⟨x8, e8, p8⟩ := tv_int (hp 8 _ rfl)
    obtain ⟨x9, e9, p9⟩ := tv_pts (hp 9 _ rfl)
    obtain ⟨x10, e10, p10⟩ := tv_cache (hp 10 _ rfl)
    obtain ⟨x11, e11, p11⟩ := tv_cache (hp 11 _ rfl)
    obtain ⟨x12, e12, p12⟩ := tv_bus (hp 12 _ rfl)
    obtain ⟨x13, e13, p13⟩ := tv_int (hp 13 _ rfl)
    obtain ⟨x14, e14, p14⟩ := tv_int (hp 14 _ rfl)
    obtain ⟨x15, e15, p15⟩ := tv_str (hp 15 _ rfl)
    obtain ⟨x16, e16, p16⟩ := tv_guess (hp 16 _ rfl)
    obtain ⟨x17, e17, p17⟩ := tv_int (hp 17 _ rfl)
    obtain ⟨x18, e18, p18⟩ := tv_ret (hp 18 _ rfl)
    refine ⟨⟨x0, x1, x2, x3, x4, x5, x6, x7, x8, x9, x10, x11, x12, x13, x14, x15, x16, x17, x18⟩, ?_, ⟨p12.2, p18.2, p10.1, p11.1, p12.1, p18.1, p3, p10.2.1, p10.2.2⟩⟩
    show parts 0 ++ (parts 1 ++ (parts 2 ++ (parts 3 ++ (parts 4 ++ (parts 5 ++ (parts 6 ++ (parts 7 ++ (parts 8 ++ (parts 9 ++ (parts 10 ++ (parts 11 ++ (parts 12 ++ (parts 13 ++ (parts 14 ++ (parts 15 ++ (parts 16 ++ (parts 17 ++ (parts 18 ++ [])))))))))))))))))) = _
    rw [e0, e1, e2, e3, e4, e5, e6, e7, e8, e9, e10, e11, e12, e13, e14, e15, e16, e17, e18]; rfl

set_option maxRecDepth 100000 in
theorem open_core {H : Type} {enc : TypeId × Value → H} {w : World} {base : Nat} {spare : Nat → Bool} {held : Bool} {r : Reach} {b0 : Nat} {v : Value} {d : DataW H} {p : List MemPlace}
    (hv : Value.okWide Try.prog w r b0 66 v) (h : DataW.Trod enc Try.prog w base spare held 66 v d p) (hB : ∀ n ∈ d.weights Try.prog 66, n ≤ reachBytes) :
    ∃ c : Co, Rep (· < w.heap.size) w noB (.agg (coL c)) v ∧ ((∀ x1 ∈ c.bus, x1.line ≤ 4294967295) ∧ (∀ y ∈ c.retired, y.pc ≤ 4294967295) ∧ c.data.ok ∧ c.words.ok ∧ c.bus.length ≤ 9223372036854775807 ∧ c.retired.length ≤ 9223372036854775807 ∧ (∀ k, c.r k ≤ 4294967295)) ∧ c.data.sets.length ≤ 5864062014805 ∧ (∀ s ∈ c.data.sets, s.length ≤ 5864062014805) := by
  obtain ⟨cs, rfl, hsz⟩ := okWide_struct Try.underlying66 hv
  obtain ⟨fuel, hf⟩ := h
  obtain ⟨cells, ho⟩ := trod_opened 8 fuel _ _ _ hf (by kernel_rfl) hB
  obtain ⟨c, rfl, h1, h2, h3, h4, h5, h6, h7, h8, h9⟩ := tv_core ho.ty
  refine ⟨c, .agg _ cs ?_ (fun i u hu => ho.one u ?_) (fun i a u h1 h2 => ho.rep.2 i a u h1 ?_), ⟨h1, h2, h3, h4, h5, h6, h7⟩, h8, h9⟩
  · exact ho.rep.1
  · exact Array.mem_toList_iff.2 (Array.mem_of_getElem? hu)
  · show cs.toList[i]? = some u
    rw [Array.getElem?_toList]; exact h2
theorem DCall.lawP {f : FuncId} {args : List AV} {vs : List Value} {w : World} (h : DCall C0 f args (.v (.bool true))) (ha : RepL (· < w.heap.size) w noB args vs) :
    Calls Try.prog f vs.toArray w fun e w' => e = .returned (.bool true) ∧ Below w.heap.size w w' :=
  (h.2 (· < w.heap.size) w vs (fun _ h => h) (g0Ok _ _) ha).mono fun e w' ⟨v, h1, h2, h3⟩ => ⟨by rw [h1, rep_v h3], h2⟩
end Go.Proofs.Ytckjihpdjefpgaa
