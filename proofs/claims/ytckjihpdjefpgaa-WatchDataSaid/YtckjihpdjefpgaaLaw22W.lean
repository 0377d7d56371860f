/- The laws of watch: alive, WatchSame: walks. -/
import Derived.Test.YtckjihpdjefpgaaWatchW
namespace Go.Proofs.Ytckjihpdjefpgaa
open Go.RowKit

theorem DCall.args {C : Ctx} {f : FuncId} {xs ys : List AV} {r : AV} (h : DCall C f ys r) (k : SubL xs ys) : DCall C f xs r :=
  ⟨h.1, fun S w vs hS hG hr => h.2 S w vs hS hG ⟨k.get.1 ▸ hr.1, fun i a u p q => by
    have hi : i < xs.length := by rw [k.get.1]; exact (List.getElem?_eq_some_iff.1 p).1
    exact k.get.2 i xs[i] a (List.getElem?_eq_getElem hi) p S w u (hr.2 i _ u (List.getElem?_eq_getElem hi) q)⟩⟩
theorem frz_all {b n : Nat} {R R' : List (List AV)} (h : R = R') (hn : n = R'.length) : LeZ (some (b, 1, R)) (.osl b 0 n false) (.sl 1 R' false) := by
  subst h; subst hn
  have := LeZ.frz (fz := some (b, 1, R)) b 1 0 R.length R false false rfl (by omega) (fun h => h)
  rwa [List.drop_zero, List.take_length] at this

/-! ### alive -/
def cf0 : Cf := ⟨0, 0, 0, 0, 0, 0, 0, 0, [], false, []⟩
theorem dNew0 : DCall C0 51 [.agg [.v (.int .i64 0), .v (.int .i64 0), .v (.int .i64 0), .v (.int .i64 0), .v (.int .i64 0), .v (.int .i64 0), .v (.int .i64 0), .v (.int .i64 0), .sl 0 [] true, .v (.bool false), .sl 0 [] true], .sl 0 [] true, .v (.string ⟨#[]⟩)] (.agg (coL (newCo cf0 [] ⟨#[]⟩))) :=
  (dNewCo cf0 [] ⟨#[]⟩ ⟨by simp [cf0], by simp [cf0], fun x hx => by cases hx⟩ (by simp)).args ⟨Sub.agg ⟨Sub.refl _, Sub.refl _, Sub.refl _, Sub.refl _, Sub.refl _, Sub.refl _, Sub.refl _, Sub.refl _, sub_nil 1 false, Sub.refl _, sub_nil 1 false, trivial⟩, sub_nil 1 false, Sub.refl _, trivial⟩

set_option maxRecDepth 100000 in
set_option maxHeartbeats 4000000 in
theorem dAlive0 (co : Co) (s0 : Seen) (hnew : DCall C0 51 [.agg [.v (.int .i64 0), .v (.int .i64 0), .v (.int .i64 0), .v (.int .i64 0), .v (.int .i64 0), .v (.int .i64 0), .v (.int .i64 0), .v (.int .i64 0), .sl 0 [] true, .v (.bool false), .sl 0 [] true], .sl 0 [] true, .v (.string ⟨#[]⟩)] (.agg (coL co))) (hsee : DCall C0 23 [.agg (coL co), .v (.int .i64 0)] (.agg (seL s0))) (hk : s0.ok) (hd : s0.data.length = 1) (hw : s0.words.length = 1) (hs : sameSe s0 s0 = true) : DCall C0 22 [] (.v (.bool true)) := by
  refine DCall.intro c0Ok Try.func22 rfl rfl (by kernel_rfl) rfl ?_
  refine cSeq ?_
  refine cReg rfl ?_
  refine rOk (d := 0) (x := vB false) rfl rfl rfl ?_
  refine rEnd (n' := 1) rfl ?_
  refine cSeq ?_
  refine cReg rfl ?_
  refine rOk (d := 2) (x := .agg [vI 0, vI 0, vI 0, vI 0, vI 0, vI 0, vI 0, vI 0, .sl 0 ([]) true, vB false, .sl 0 ([]) true]) rfl rfl rfl ?_
  refine rCall (args := [.agg [vI 0, vI 0, vI 0, vI 0, vI 0, vI 0, vI 0, vI 0, .sl 0 ([]) true, vB false, .sl 0 ([]) true], .sl 0 ([]) true, .v (.string (⟨#[]⟩ : ByteArray))]) (d := 3) (x := .agg (coL co)) rfl rfl rfl rfl (.inl rfl) rfl (hnew) ?_
  refine rCall (args := [.agg (coL co), vI 0]) (d := 4) (x := .agg [.sl 1 (s0.data.map rowSet) false, .sl 1 (s0.words.map rowSet) false, .sl 4 (s0.bus.map rqL) false, .sl 1 (s0.pcs.map rowU) false]) rfl rfl rfl rfl (.inl rfl) rfl (hsee) ?_
  refine rFx (d := 1) (x := .ptr 4 0) (h' := upd _ 4 (some (.box [.sl 0 ([]) true, .sl 0 ([]) true, .sl 0 ([]) true, .sl 0 ([]) true]))) rfl rfl (rfl) (trivial) ?_
  refine rFx0 (h' := upd _ 4 (some (.box [.sl 1 (s0.data.map rowSet) false, .sl 1 (s0.words.map rowSet) false, .sl 4 (s0.bus.map rqL) false, .sl 1 (s0.pcs.map rowU) false]))) rfl rfl (rfl) (trivial) ?_
  refine rEnd (n' := 6) rfl ?_
  refine cSeq ?_
  refine cReg rfl ?_
  refine rOk (d := 5) (x := .ptr 4 0) rfl rfl rfl ?_
  refine rOk (d := 6) (x := .sl 1 (s0.data.map rowSet) false) rfl rfl rfl ?_
  refine rOk (d := 7) (x := vN s0.data.length) rfl rfl (lenMap rowSet s0.data) ?_
  refine rOk (d := 8) (x := vB (s0.data.length == 1)) rfl rfl (okB (eqN _ _)) ?_
  refine rOk (d := 9) (x := vB (s0.data.length == 1)) rfl rfl rfl ?_
  refine gOk (d := 10) (x := .ptr 4 1) (g := s0.data.length == 1) rfl rfl rfl rfl rfl rfl ?_
  refine gOkS (d := 11) (x := .sl 1 (s0.words.map rowSet) false) (g := s0.data.length == 1) rfl rfl rfl rfl (fun h => h) rfl rfl ?_
  refine gOkS (d := 12) (x := vN s0.words.length) (g := s0.data.length == 1) rfl rfl rfl rfl (fun h => h) rfl (lenMap rowSet s0.words) ?_
  refine gOkS (d := 13) (x := vB (s0.words.length == 1)) (g := s0.data.length == 1) rfl rfl rfl rfl (fun h => h) rfl (okB (eqN _ _)) ?_
  refine rNeed (d := 14) (x := vB (cond2 (s0.data.length == 1) (s0.words.length == 1) false)) rfl rfl rfl (fun h => h) ?_
  refine rOk (d := 15) (x := vB (cond2 (s0.data.length == 1) (s0.words.length == 1) false)) rfl rfl rfl ?_
  refine gOk (d := 16) (x := .agg [.sl 1 (s0.data.map rowSet) false, .sl 1 (s0.words.map rowSet) false, .sl 4 (s0.bus.map rqL) false, .sl 1 (s0.pcs.map rowU) false]) (g := cond2 (s0.data.length == 1) (s0.words.length == 1) false) rfl rfl rfl rfl rfl rfl ?_
  refine gOk (d := 17) (x := .agg [.sl 1 (s0.data.map rowSet) false, .sl 1 (s0.words.map rowSet) false, .sl 4 (s0.bus.map rqL) false, .sl 1 (s0.pcs.map rowU) false]) (g := cond2 (s0.data.length == 1) (s0.words.length == 1) false) rfl rfl rfl rfl rfl rfl ?_
  refine gCallS (args := [.agg [.sl 1 (s0.data.map rowSet) false, .sl 1 (s0.words.map rowSet) false, .sl 4 (s0.bus.map rqL) false, .sl 1 (s0.pcs.map rowU) false], .agg [.sl 1 (s0.data.map rowSet) false, .sl 1 (s0.words.map rowSet) false, .sl 4 (s0.bus.map rqL) false, .sl 1 (s0.pcs.map rowU) false]]) (d := 18) (x := vB (sameSe s0 s0)) (g := cond2 (s0.data.length == 1) (s0.words.length == 1) false) rfl rfl rfl rfl (fun h => by first | (simp_all; done) | exact (Bool.and_eq_true_iff.1 h).1 | exact Bool.and_eq_true_iff.2 ⟨h, h⟩) rfl rfl rfl (.inl rfl) rfl (fun hg => dSame s0 s0 hk hk) ?_
  refine rNeed (d := 19) (x := vB (cond2 (cond2 (s0.data.length == 1) (s0.words.length == 1) false) (sameSe s0 s0) false)) rfl rfl rfl (fun h => h) ?_
  refine rOk (d := 0) (x := vB (cond2 (cond2 (s0.data.length == 1) (s0.words.length == 1) false) (sameSe s0 s0) false)) rfl rfl rfl ?_
  refine rEnd (n' := 22) rfl ?_
  refine cRet ?_
  exact finTA rfl trivial rfl (congrArg (fun z => AV.v (.bool z)) (by rw [hd, hw, hs]; rfl))

/-! ### WatchSame -/
def seeOk (c : Co) (x : Seen) : Prop := c.bus.length ≤ 50 → c.retired.length ≤ 200 → x.ok ∧ DCall C0 23 [.agg (coL c), .v (.int .i64 0)] (.agg (seL x))


/-! ### plain laws of sights -/
theorem rowE_refl {α : Type} {e : α → α → Bool} (h : ∀ x, e x x = true) : ∀ a : List α, rowE e a a = true
  | [] => rfl
  | x :: a => by simp only [rowE, h x, rowE_refl h a, Bool.and_self]
theorem rowE_symm {α : Type} {e : α → α → Bool} (h : ∀ x y, e x y = e y x) : ∀ a b : List α, rowE e a b = rowE e b a
  | [], [] => rfl
  | [], _ :: _ => rfl
  | _ :: _, [] => rfl
  | x :: a, y :: b => by simp only [rowE, h x y, rowE_symm h a b]
theorem rowE_lenEq {α : Type} {e : α → α → Bool} {a b : List α} (h : rowE e a b = true) : a.length = b.length := by
  by_cases hl : a.length = b.length
  · exact hl
  · rw [rowE_len hl] at h; cases h
theorem by_refl (a : ByteArray) : (a == a) = true := by
  show (a.data == a.data) = true
  simp
theorem by_symm (a b : ByteArray) : (a == b) = (b == a) := by
  show (a.data == b.data) = (b.data == a.data)
  rw [Bool.eq_iff_iff]; simp only [beq_iff_eq]; exact eq_comm
theorem beq_symm {α : Type} [BEq α] [LawfulBEq α] (a b : α) : (a == b) = (b == a) := by rw [Bool.eq_iff_iff]; simp only [beq_iff_eq]; exact eq_comm
theorem eqWy_refl (x : Wy) : eqWy x x = true := by unfold eqWy; simp [by_refl]
theorem eqWy_symm (x y : Wy) : eqWy x y = eqWy y x := by unfold eqWy; rw [beq_symm (x.line : Int), beq_symm x.dirty, by_symm x.data]
theorem eqRq_refl (x : Req) : eqRq x x = true := by unfold eqRq; simp [by_refl]
theorem eqRq_symm (x y : Req) : eqRq x y = eqRq y x := by unfold eqRq; rw [beq_symm (x.line : Int), beq_symm x.kind, beq_symm x.left, by_symm x.data]
theorem eqU_refl (x : Nat) : eqU x x = true := by unfold eqU; simp
theorem eqU_symm (x y : Nat) : eqU x y = eqU y x := by unfold eqU; rw [beq_symm x]
theorem sameSe_refl (x : Seen) : sameSe x x = true := by
  unfold sameSe
  rw [rowE_refl (rowE_refl eqWy_refl), rowE_refl (rowE_refl eqWy_refl), rowE_refl eqRq_refl, rowE_refl eqU_refl]; rfl
theorem sameSe_symm (x y : Seen) : sameSe x y = sameSe y x := by
  unfold sameSe
  rw [rowE_symm (rowE_symm eqWy_symm) x.data, rowE_symm (rowE_symm eqWy_symm) x.words, rowE_symm eqRq_symm x.bus, rowE_symm eqU_symm x.pcs]
theorem sameSe_len {x y : Seen} (h : sameSe x y = true) : x.pcs.length = y.pcs.length := by
  unfold sameSe at h
  simp only [Bool.and_eq_true] at h
  exact rowE_lenEq h.2.2.2
theorem sameSe_no {x y : Seen} (h : x.pcs.length ≠ y.pcs.length) : sameSe x y = false := by
  by_cases k : sameSe x y = true
  · exact absurd (sameSe_len k) h
  · simpa using k
theorem same_law (x y m : Seen) (h : m.pcs.length = x.pcs.length + 1) : cond2 (cond2 (cond2 (cond2 true (sameSe x x) false) ((sameSe x y) == (sameSe y x)) false) (!(sameSe x m)) false) (cond2 (!(sameSe x y)) true (!(sameSe y m))) false = true := by
  rw [sameSe_refl, sameSe_symm y x, sameSe_no (x := x) (y := m) (by omega)]
  by_cases k : sameSe x y = true
  · rw [k, sameSe_no (x := y) (y := m) (by have := sameSe_len k; omega)]; rfl
  · rw [Bool.not_eq_true] at k
    rw [k]; rfl
theorem guard4 {p q r s : Nat} (h : cond2 (cond2 (cond2 (decide (p > 200)) true (decide (q > 200))) true (decide (r > 50))) true (decide (s > 50)) = false) : p ≤ 200 ∧ q ≤ 200 ∧ r ≤ 50 ∧ s ≤ 50 := by
  by_cases h1 : p > 200 <;> by_cases h2 : q > 200 <;> by_cases h3 : r > 50 <;> by_cases h4 : s > 50 <;> simp [cond2, h1, h2, h3, h4] at h ⊢ <;> omega
structure Co.okT (c : Co) : Prop where
  data : c.data.ok
  words : c.words.ok
  busr : ∀ x ∈ c.bus, x.line ≤ 4294967295
  retr : ∀ x ∈ c.retired, x.pc ≤ 4294967295
  bus : c.bus.length ≤ 9223372036854775807
  ret : c.retired.length ≤ 9223372036854775807
theorem tags_ok (c : Ca) : (tagsCa c).length ≤ 4 ∧ ∀ s ∈ tagsCa c, s.length ≤ 2 := by
  unfold tagsCa
  split
  · rename_i h
    obtain ⟨⟨h1, h2⟩, h3⟩ := (rightCa_iff c).1 h
    refine ⟨by rw [List.length_map]; omega, fun s hs => ?_⟩
    obtain ⟨s0, hs0, rfl⟩ := List.mem_map.1 hs
    obtain ⟨k, hk⟩ := List.getElem?_of_mem hs0
    have := ((rightSet_iff c k s0).1 (h3 k s0 hk)).1
    rw [List.length_map]; omega
  · exact ⟨Nat.zero_le _, fun s hs => by cases hs⟩
theorem see_ok (c : Co) (b : Int) (hb : c.bus.length ≤ 50) (hr : c.retired.length ≤ 200) : (seeP c b).ok := by
  refine ⟨?_, fun s hs => ?_, ?_, fun s hs => ?_, ?_, ?_⟩
  · have := (tags_ok c.data).1; show (tagsCa c.data).length ≤ _; omega
  · have := (tags_ok c.data).2 s hs; omega
  · have := (tags_ok c.words).1; show (tagsCa c.words).length ≤ _; omega
  · have := (tags_ok c.words).2 s hs; omega
  · show (c.bus.map seeR).length ≤ _; rw [List.length_map]; omega
  · show ((c.retired.drop (maxI b).toNat).map (·.pc)).length ≤ _; rw [List.length_map, List.length_drop]; omega
theorem Co.okT.w {c : Co} (h : c.okT) (hb : c.bus.length ≤ 50) (hr : c.retired.length ≤ 200) : c.okW := ⟨h.data, h.words, by omega, h.busr, by omega, h.retr⟩
def co0 : Co := newCo cf0 [] ⟨#[]⟩
theorem ca0 : newCa (cleanCf cf0).sets (cleanCf cf0).ways = ⟨1, [[]]⟩ := rfl
theorem co0d : co0.data = ⟨1, [[]]⟩ := ca0
theorem co0w : co0.words = ⟨1, [[]]⟩ := ca0
theorem ca0_ok : (⟨1, [[]]⟩ : Ca).ok := ⟨by simp, fun s hs => by simp at hs; subst hs; exact ⟨by simp, fun x hx => by cases hx⟩⟩
theorem co0_ok : co0.okW := ⟨co0d ▸ ca0_ok, co0w ▸ ca0_ok, by show ([] : List Req).length ≤ _; simp, fun x hx => (List.not_mem_nil hx).elim, by show ([] : List Sp).length ≤ _; simp, fun x hx => (List.not_mem_nil hx).elim⟩
theorem tags0 : tagsCa ⟨1, [[]]⟩ = [[]] := rfl
theorem dAlive : DCall C0 22 [] (.v (.bool true)) :=
  dAlive0 co0 (seeP co0 0) dNew0 (dSee co0 0 co0_ok) (see_ok co0 0 (by show ([] : List Req).length ≤ _; simp) (by show ([] : List Sp).length ≤ _; simp)) (by show (tagsCa co0.data).length = 1; rw [co0d, tags0]; rfl) (by show (tagsCa co0.words).length = 1; rw [co0w, tags0]; rfl) (sameSe_refl _)

set_option maxRecDepth 100000 in
set_option maxHeartbeats 4000000 in
theorem dSameN (a b : Co) (pc : Nat) (xd xw : List (List Wy)) (xb : List Req) (y : Seen) (hba : a.bus.length ≤ 9223372036854775807) (hra : a.retired.length ≤ 9223372036854775807) (hbb : b.bus.length ≤ 9223372036854775807) (hrb : b.retired.length ≤ 9223372036854775807) (hal : DCall C0 22 [] (.v (.bool true))) (hx : seeOk a (Seen.mk xd xw xb [])) (hxp : a.bus.length ≤ 50 → a.retired.length ≤ 200 → (([] : List Nat)).length ≤ 200) (hy : seeOk b y) : DCall C0 7 [.agg (coL a), .agg (coL b), .v (.int .u32 (pc : Int))] (.v (.bool true)) := by
  refine DCall.intro c0Ok Try.func7 rfl rfl (by kernel_rfl) rfl ?_
  refine cSeq ?_
  refine cReg rfl ?_
  refine rFx (d := 3) (x := .ptr 0 0) (h' := upd _ 0 (some (.box [vI a.conf.mode, vI a.conf.width, vI a.conf.rob, vI a.conf.queue, vI a.conf.stores, vI a.conf.slots, vI a.conf.sets, vI a.conf.ways, .sl 1 (a.conf.lat.map rowI) false, vB a.conf.tables, .sl 1 (a.conf.tape.map rowU) false, .sl 1 (a.prog.map rowU) false, vI a.cycle, vU (a.r 0), vU (a.r 1), vU (a.r 2), vU (a.r 3), vU (a.r 4), vU (a.r 5), vU (a.r 6), vU (a.r 7), vU (a.r 8), vU (a.r 9), vU (a.r 10), vU (a.r 11), vU (a.r 12), vU (a.r 13), vU (a.r 14), vU (a.r 15), vU (a.r 16), vU (a.r 17), vU (a.r 18), vU (a.r 19), vU (a.r 20), vU (a.r 21), vU (a.r 22), vU (a.r 23), vU (a.r 24), vU (a.r 25), vU (a.r 26), vU (a.r 27), vU (a.r 28), vU (a.r 29), vU (a.r 30), vU (a.r 31), vU a.fetch, vB a.stop, .sl 2 (a.fetched.map ftL) false, .sl 17 (a.rob.map enL) false, vI a.next, .sl 2 (a.stores.map ptL) false, vI a.data.ways, .sl 1 (a.data.sets.map rowSet) false, vI a.words.ways, .sl 1 (a.words.sets.map rowSet) false, .sl 4 (a.bus.map rqL) false, vI a.asked, vI a.guessed, .v (.string a.mem), .sl 2 (a.guess.slots.map gsL) false, vU a.guess.hist, .sl 1 (a.guess.rets.map rowU) false, vI a.halt, .sl 9 (a.retired.map spL) false]))) rfl rfl (rfl) (trivial) ?_
  refine rFx (d := 4) (x := .ptr 1 0) (h' := upd _ 1 (some (.box [vI b.conf.mode, vI b.conf.width, vI b.conf.rob, vI b.conf.queue, vI b.conf.stores, vI b.conf.slots, vI b.conf.sets, vI b.conf.ways, .sl 1 (b.conf.lat.map rowI) false, vB b.conf.tables, .sl 1 (b.conf.tape.map rowU) false, .sl 1 (b.prog.map rowU) false, vI b.cycle, vU (b.r 0), vU (b.r 1), vU (b.r 2), vU (b.r 3), vU (b.r 4), vU (b.r 5), vU (b.r 6), vU (b.r 7), vU (b.r 8), vU (b.r 9), vU (b.r 10), vU (b.r 11), vU (b.r 12), vU (b.r 13), vU (b.r 14), vU (b.r 15), vU (b.r 16), vU (b.r 17), vU (b.r 18), vU (b.r 19), vU (b.r 20), vU (b.r 21), vU (b.r 22), vU (b.r 23), vU (b.r 24), vU (b.r 25), vU (b.r 26), vU (b.r 27), vU (b.r 28), vU (b.r 29), vU (b.r 30), vU (b.r 31), vU b.fetch, vB b.stop, .sl 2 (b.fetched.map ftL) false, .sl 17 (b.rob.map enL) false, vI b.next, .sl 2 (b.stores.map ptL) false, vI b.data.ways, .sl 1 (b.data.sets.map rowSet) false, vI b.words.ways, .sl 1 (b.words.sets.map rowSet) false, .sl 4 (b.bus.map rqL) false, vI b.asked, vI b.guessed, .v (.string b.mem), .sl 2 (b.guess.slots.map gsL) false, vU b.guess.hist, .sl 1 (b.guess.rets.map rowU) false, vI b.halt, .sl 9 (b.retired.map spL) false]))) rfl rfl (rfl) (trivial) ?_
  refine rOk (d := 6) (x := vB false) rfl rfl rfl ?_
  refine rEnd (n' := 3) rfl ?_
  refine cSeq ?_
  refine cSeq ?_
  refine cReg rfl ?_
  refine rOk (d := 10) (x := .ptr 0 63) rfl rfl rfl ?_
  refine rOk (d := 11) (x := .sl 9 (a.retired.map spL) false) rfl rfl rfl ?_
  refine rOk (d := 12) (x := vN a.retired.length) rfl rfl (lenMap spL a.retired) ?_
  refine rOk (d := 13) (x := vB (decide (a.retired.length > 200))) rfl rfl (okB (gtN _ _)) ?_
  refine rOk (d := 14) (x := vB (decide (a.retired.length > 200))) rfl rfl rfl ?_
  refine gOk (d := 15) (x := .ptr 1 63) (g := !(decide (a.retired.length > 200))) rfl rfl rfl rfl rfl rfl ?_
  refine gOkS (d := 16) (x := .sl 9 (b.retired.map spL) false) (g := !(decide (a.retired.length > 200))) rfl rfl rfl rfl (fun h => h) rfl rfl ?_
  refine gOkS (d := 17) (x := vN b.retired.length) (g := !(decide (a.retired.length > 200))) rfl rfl rfl rfl (fun h => h) rfl (lenMap spL b.retired) ?_
  refine gOkS (d := 18) (x := vB (decide (b.retired.length > 200))) (g := !(decide (a.retired.length > 200))) rfl rfl rfl rfl (fun h => h) rfl (okB (gtN _ _)) ?_
  refine rNeed (d := 19) (x := vB (cond2 (decide (a.retired.length > 200)) true (decide (b.retired.length > 200)))) rfl rfl rfl (by simp) ?_
  refine rOk (d := 20) (x := vB (cond2 (decide (a.retired.length > 200)) true (decide (b.retired.length > 200)))) rfl rfl rfl ?_
  refine gOk (d := 21) (x := .ptr 0 55) (g := !(cond2 (decide (a.retired.length > 200)) true (decide (b.retired.length > 200)))) rfl rfl rfl rfl rfl rfl ?_
  refine gOkS (d := 22) (x := .sl 4 (a.bus.map rqL) false) (g := !(cond2 (decide (a.retired.length > 200)) true (decide (b.retired.length > 200)))) rfl rfl rfl rfl (fun h => h) rfl rfl ?_
  refine gOkS (d := 23) (x := vN a.bus.length) (g := !(cond2 (decide (a.retired.length > 200)) true (decide (b.retired.length > 200)))) rfl rfl rfl rfl (fun h => h) rfl (lenMap rqL a.bus) ?_
  refine gOkS (d := 24) (x := vB (decide (a.bus.length > 50))) (g := !(cond2 (decide (a.retired.length > 200)) true (decide (b.retired.length > 200)))) rfl rfl rfl rfl (fun h => h) rfl (okB (gtN _ _)) ?_
  refine rNeed (d := 25) (x := vB (cond2 (cond2 (decide (a.retired.length > 200)) true (decide (b.retired.length > 200))) true (decide (a.bus.length > 50)))) rfl rfl rfl (by simp) ?_
  refine rOk (d := 26) (x := vB (cond2 (cond2 (decide (a.retired.length > 200)) true (decide (b.retired.length > 200))) true (decide (a.bus.length > 50)))) rfl rfl rfl ?_
  refine gOk (d := 27) (x := .ptr 1 55) (g := !(cond2 (cond2 (decide (a.retired.length > 200)) true (decide (b.retired.length > 200))) true (decide (a.bus.length > 50)))) rfl rfl rfl rfl rfl rfl ?_
  refine gOkS (d := 28) (x := .sl 4 (b.bus.map rqL) false) (g := !(cond2 (cond2 (decide (a.retired.length > 200)) true (decide (b.retired.length > 200))) true (decide (a.bus.length > 50)))) rfl rfl rfl rfl (fun h => h) rfl rfl ?_
  refine gOkS (d := 29) (x := vN b.bus.length) (g := !(cond2 (cond2 (decide (a.retired.length > 200)) true (decide (b.retired.length > 200))) true (decide (a.bus.length > 50)))) rfl rfl rfl rfl (fun h => h) rfl (lenMap rqL b.bus) ?_
  refine gOkS (d := 30) (x := vB (decide (b.bus.length > 50))) (g := !(cond2 (cond2 (decide (a.retired.length > 200)) true (decide (b.retired.length > 200))) true (decide (a.bus.length > 50)))) rfl rfl rfl rfl (fun h => h) rfl (okB (gtN _ _)) ?_
  refine rNeed (d := 31) (x := vB (cond2 (cond2 (cond2 (decide (a.retired.length > 200)) true (decide (b.retired.length > 200))) true (decide (a.bus.length > 50))) true (decide (b.bus.length > 50)))) rfl rfl rfl (by simp) ?_
  refine rEnd (n' := 25) rfl ?_
  refine cCond (v := cond2 (cond2 (cond2 (decide (a.retired.length > 200)) true (decide (b.retired.length > 200))) true (decide (a.bus.length > 50))) true (decide (b.bus.length > 50))) rfl (fun h1 => ?_) (fun h1 => ?_)
  · skip
    refine cSeq ?_
    refine cReg rfl ?_
    refine rCall (args := []) (d := 32) (x := vB true) rfl rfl rfl rfl (.inl rfl) rfl (hal) ?_
    refine rOk (d := 6) (x := vB true) rfl rfl rfl ?_
    refine rEnd (n' := 27) rfl ?_
    refine cRet ?_
    exact finTA rfl trivial rfl rfl
  · skip
    refine cSkip ?_
    refine cSeq ?_
    refine cReg rfl ?_
    obtain ⟨g1, g2, g3, g4⟩ := guard4 h1
    obtain ⟨hx1, hx2⟩ := hx g3 g1
    obtain ⟨hy1, hy2⟩ := hy g4 g2
    have hm1 : ((Seen.mk xd xw xb (([] : List Nat) ++ [pc]))).ok := ⟨hx1.data, hx1.dat, hx1.words, hx1.word, hx1.bus, by have := hxp g3 g1; show (([] : List Nat) ++ [pc]).length ≤ 2000000; rw [List.length_append, List.length_singleton]; omega⟩
    refine rOk (d := 33) (x := .agg [vI a.conf.mode, vI a.conf.width, vI a.conf.rob, vI a.conf.queue, vI a.conf.stores, vI a.conf.slots, vI a.conf.sets, vI a.conf.ways, .sl 1 (a.conf.lat.map rowI) false, vB a.conf.tables, .sl 1 (a.conf.tape.map rowU) false, .sl 1 (a.prog.map rowU) false, vI a.cycle, vU (a.r 0), vU (a.r 1), vU (a.r 2), vU (a.r 3), vU (a.r 4), vU (a.r 5), vU (a.r 6), vU (a.r 7), vU (a.r 8), vU (a.r 9), vU (a.r 10), vU (a.r 11), vU (a.r 12), vU (a.r 13), vU (a.r 14), vU (a.r 15), vU (a.r 16), vU (a.r 17), vU (a.r 18), vU (a.r 19), vU (a.r 20), vU (a.r 21), vU (a.r 22), vU (a.r 23), vU (a.r 24), vU (a.r 25), vU (a.r 26), vU (a.r 27), vU (a.r 28), vU (a.r 29), vU (a.r 30), vU (a.r 31), vU a.fetch, vB a.stop, .sl 2 (a.fetched.map ftL) false, .sl 17 (a.rob.map enL) false, vI a.next, .sl 2 (a.stores.map ptL) false, vI a.data.ways, .sl 1 (a.data.sets.map rowSet) false, vI a.words.ways, .sl 1 (a.words.sets.map rowSet) false, .sl 4 (a.bus.map rqL) false, vI a.asked, vI a.guessed, .v (.string a.mem), .sl 2 (a.guess.slots.map gsL) false, vU a.guess.hist, .sl 1 (a.guess.rets.map rowU) false, vI a.halt, .sl 9 (a.retired.map spL) false]) rfl rfl rfl ?_
    refine rCall (args := [.agg [vI a.conf.mode, vI a.conf.width, vI a.conf.rob, vI a.conf.queue, vI a.conf.stores, vI a.conf.slots, vI a.conf.sets, vI a.conf.ways, .sl 1 (a.conf.lat.map rowI) false, vB a.conf.tables, .sl 1 (a.conf.tape.map rowU) false, .sl 1 (a.prog.map rowU) false, vI a.cycle, vU (a.r 0), vU (a.r 1), vU (a.r 2), vU (a.r 3), vU (a.r 4), vU (a.r 5), vU (a.r 6), vU (a.r 7), vU (a.r 8), vU (a.r 9), vU (a.r 10), vU (a.r 11), vU (a.r 12), vU (a.r 13), vU (a.r 14), vU (a.r 15), vU (a.r 16), vU (a.r 17), vU (a.r 18), vU (a.r 19), vU (a.r 20), vU (a.r 21), vU (a.r 22), vU (a.r 23), vU (a.r 24), vU (a.r 25), vU (a.r 26), vU (a.r 27), vU (a.r 28), vU (a.r 29), vU (a.r 30), vU (a.r 31), vU a.fetch, vB a.stop, .sl 2 (a.fetched.map ftL) false, .sl 17 (a.rob.map enL) false, vI a.next, .sl 2 (a.stores.map ptL) false, vI a.data.ways, .sl 1 (a.data.sets.map rowSet) false, vI a.words.ways, .sl 1 (a.words.sets.map rowSet) false, .sl 4 (a.bus.map rqL) false, vI a.asked, vI a.guessed, .v (.string a.mem), .sl 2 (a.guess.slots.map gsL) false, vU a.guess.hist, .sl 1 (a.guess.rets.map rowU) false, vI a.halt, .sl 9 (a.retired.map spL) false], vI 0]) (d := 34) (x := .agg [.sl 1 ((Seen.mk xd xw xb []).data.map rowSet) false, .sl 1 ((Seen.mk xd xw xb []).words.map rowSet) false, .sl 4 ((Seen.mk xd xw xb []).bus.map rqL) false, .sl 1 ([]) false]) rfl rfl rfl rfl (.inl rfl) rfl (hx2) ?_
    refine rOk (d := 35) (x := .agg [vI b.conf.mode, vI b.conf.width, vI b.conf.rob, vI b.conf.queue, vI b.conf.stores, vI b.conf.slots, vI b.conf.sets, vI b.conf.ways, .sl 1 (b.conf.lat.map rowI) false, vB b.conf.tables, .sl 1 (b.conf.tape.map rowU) false, .sl 1 (b.prog.map rowU) false, vI b.cycle, vU (b.r 0), vU (b.r 1), vU (b.r 2), vU (b.r 3), vU (b.r 4), vU (b.r 5), vU (b.r 6), vU (b.r 7), vU (b.r 8), vU (b.r 9), vU (b.r 10), vU (b.r 11), vU (b.r 12), vU (b.r 13), vU (b.r 14), vU (b.r 15), vU (b.r 16), vU (b.r 17), vU (b.r 18), vU (b.r 19), vU (b.r 20), vU (b.r 21), vU (b.r 22), vU (b.r 23), vU (b.r 24), vU (b.r 25), vU (b.r 26), vU (b.r 27), vU (b.r 28), vU (b.r 29), vU (b.r 30), vU (b.r 31), vU b.fetch, vB b.stop, .sl 2 (b.fetched.map ftL) false, .sl 17 (b.rob.map enL) false, vI b.next, .sl 2 (b.stores.map ptL) false, vI b.data.ways, .sl 1 (b.data.sets.map rowSet) false, vI b.words.ways, .sl 1 (b.words.sets.map rowSet) false, .sl 4 (b.bus.map rqL) false, vI b.asked, vI b.guessed, .v (.string b.mem), .sl 2 (b.guess.slots.map gsL) false, vU b.guess.hist, .sl 1 (b.guess.rets.map rowU) false, vI b.halt, .sl 9 (b.retired.map spL) false]) rfl rfl rfl ?_
    refine rCall (args := [.agg [vI b.conf.mode, vI b.conf.width, vI b.conf.rob, vI b.conf.queue, vI b.conf.stores, vI b.conf.slots, vI b.conf.sets, vI b.conf.ways, .sl 1 (b.conf.lat.map rowI) false, vB b.conf.tables, .sl 1 (b.conf.tape.map rowU) false, .sl 1 (b.prog.map rowU) false, vI b.cycle, vU (b.r 0), vU (b.r 1), vU (b.r 2), vU (b.r 3), vU (b.r 4), vU (b.r 5), vU (b.r 6), vU (b.r 7), vU (b.r 8), vU (b.r 9), vU (b.r 10), vU (b.r 11), vU (b.r 12), vU (b.r 13), vU (b.r 14), vU (b.r 15), vU (b.r 16), vU (b.r 17), vU (b.r 18), vU (b.r 19), vU (b.r 20), vU (b.r 21), vU (b.r 22), vU (b.r 23), vU (b.r 24), vU (b.r 25), vU (b.r 26), vU (b.r 27), vU (b.r 28), vU (b.r 29), vU (b.r 30), vU (b.r 31), vU b.fetch, vB b.stop, .sl 2 (b.fetched.map ftL) false, .sl 17 (b.rob.map enL) false, vI b.next, .sl 2 (b.stores.map ptL) false, vI b.data.ways, .sl 1 (b.data.sets.map rowSet) false, vI b.words.ways, .sl 1 (b.words.sets.map rowSet) false, .sl 4 (b.bus.map rqL) false, vI b.asked, vI b.guessed, .v (.string b.mem), .sl 2 (b.guess.slots.map gsL) false, vU b.guess.hist, .sl 1 (b.guess.rets.map rowU) false, vI b.halt, .sl 9 (b.retired.map spL) false], vI 0]) (d := 36) (x := .agg [.sl 1 (y.data.map rowSet) false, .sl 1 (y.words.map rowSet) false, .sl 4 (y.bus.map rqL) false, .sl 1 (y.pcs.map rowU) false]) rfl rfl rfl rfl (.inl rfl) rfl (hy2) ?_
    refine rFx (d := 7) (x := .ptr 29 0) (h' := upd _ 29 (some (.box [.sl 0 ([]) true, .sl 0 ([]) true, .sl 0 ([]) true, .sl 0 ([]) true]))) rfl rfl (rfl) (trivial) ?_
    refine rFx (d := 8) (x := .ptr 30 0) (h' := upd _ 30 (some (.box [.sl 0 ([]) true, .sl 0 ([]) true, .sl 0 ([]) true, .sl 0 ([]) true]))) rfl rfl (rfl) (trivial) ?_
    refine rFx0 (h' := upd _ 29 (some (.box [.sl 1 ((Seen.mk xd xw xb []).data.map rowSet) false, .sl 1 ((Seen.mk xd xw xb []).words.map rowSet) false, .sl 4 ((Seen.mk xd xw xb []).bus.map rqL) false, .sl 1 ([]) false]))) rfl rfl (rfl) (trivial) ?_
    refine rFx0 (h' := upd _ 30 (some (.box [.sl 1 (y.data.map rowSet) false, .sl 1 (y.words.map rowSet) false, .sl 4 (y.bus.map rqL) false, .sl 1 (y.pcs.map rowU) false]))) rfl rfl (rfl) (trivial) ?_
    refine rEnd (n' := 33) rfl ?_
    refine cSeq ?_
    refine cReg rfl ?_
    refine rOk (d := 37) (x := .agg [.sl 1 ((Seen.mk xd xw xb []).data.map rowSet) false, .sl 1 ((Seen.mk xd xw xb []).words.map rowSet) false, .sl 4 ((Seen.mk xd xw xb []).bus.map rqL) false, .sl 1 ([]) false]) rfl rfl rfl ?_
    refine rFx (d := 9) (x := .ptr 34 0) (h' := upd _ 34 (some (.box [.sl 0 ([]) true, .sl 0 ([]) true, .sl 0 ([]) true, .sl 0 ([]) true]))) rfl rfl (rfl) (trivial) ?_
    refine rFx0 (h' := upd _ 34 (some (.box [.sl 1 ((Seen.mk xd xw xb []).data.map rowSet) false, .sl 1 ((Seen.mk xd xw xb []).words.map rowSet) false, .sl 4 ((Seen.mk xd xw xb []).bus.map rqL) false, .sl 1 ([]) false]))) rfl rfl (rfl) (trivial) ?_
    refine rEnd (n' := 36) rfl ?_
    refine cSeqG ?_
    refine cReg rfl ?_
    refine rOk (d := 38) (x := .sl 1 ([]) true) rfl rfl rfl ?_
    refine rOk (d := 39) (x := .ptr 29 3) rfl rfl rfl ?_
    refine rOk (d := 40) (x := .sl 1 ([]) false) rfl rfl rfl ?_
    refine rNeed (d := 41) (x := .sl 1 ([]) true) rfl rfl rfl (⟨trivial, trivial⟩) ?_
    refine rOk (d := 42) (x := vU pc) rfl rfl rfl ?_
    refine rOk (d := 43) (x := .sl 1 ([[vU pc]]) true) rfl rfl rfl ?_
    refine rFx (d := 44) (x := .osl 42 0 1 false) (h' := upd _ 42 (some (.arr (([]) ++ ([[vU pc]])) 1))) rfl rfl (rfl) (⟨by first | (simp [capMax]; done) | (have := hxp g3 g1; simp [capMax] at this ⊢; omega), by first | (simp [capMax]; done) | (have := hxp g3 g1; simp [capMax] at this ⊢; omega), trivial, trivial⟩) ?_
    refine rOk (d := 45) (x := .ptr 34 3) rfl rfl rfl ?_
    refine rFx0 (h' := upd _ 34 (some (.box [.sl 1 ((Seen.mk xd xw xb []).data.map rowSet) false, .sl 1 ((Seen.mk xd xw xb []).words.map rowSet) false, .sl 4 ((Seen.mk xd xw xb []).bus.map rqL) false, .osl 42 0 1 false]))) rfl rfl (rfl) (trivial) ?_
    refine rEnd (n' := 45) rfl ?_
    refine .mk _ (.step (some (42, 1, ([]) ++ ([[vU pc]]))) (Ghost.of_lists (l := [(6, vB false), (7, .ptr 29 0), (8, .ptr 30 0), (9, .ptr 34 0)]) (hp := [(29, .box [.sl 1 ((Seen.mk xd xw xb []).data.map rowSet) false, .sl 1 ((Seen.mk xd xw xb []).words.map rowSet) false, .sl 4 ((Seen.mk xd xw xb []).bus.map rqL) false, .sl 1 ([]) false]), (30, .box [.sl 1 (y.data.map rowSet) false, .sl 1 (y.words.map rowSet) false, .sl 4 (y.bus.map rqL) false, .sl 1 (y.pcs.map rowU) false]), (34, .box [.sl 1 ((Seen.mk xd xw xb []).data.map rowSet) false, .sl 1 ((Seen.mk xd xw xb []).words.map rowSet) false, .sl 4 ((Seen.mk xd xw xb []).bus.map rqL) false, .sl 1 ((([] : List Nat) ++ [pc]).map rowU) false])]) rfl ⟨.refl _, .refl _, .refl _, .refl _, trivial⟩ ⟨⟨rfl, _, rfl, .refl _⟩, ⟨rfl, _, rfl, .refl _⟩, ⟨rfl, _, rfl, (LeB.boxL ⟨.refl _, .refl _, .refl _, frz_all (by simp) (by simp), trivial⟩)⟩, trivial⟩) (.refl _)) ?_
    refine cSeq ?_
    refine cReg rfl ?_
    refine rCall (args := []) (d := 46) (x := vB true) rfl rfl rfl rfl (.inl rfl) rfl (hal) ?_
    refine rOk (d := 47) (x := vB true) rfl rfl rfl ?_
    refine gOk (d := 48) (x := .agg [.sl 1 ((Seen.mk xd xw xb []).data.map rowSet) false, .sl 1 ((Seen.mk xd xw xb []).words.map rowSet) false, .sl 4 ((Seen.mk xd xw xb []).bus.map rqL) false, .sl 1 ([]) false]) (g := true) rfl rfl rfl rfl rfl rfl ?_
    refine gOk (d := 49) (x := .agg [.sl 1 ((Seen.mk xd xw xb []).data.map rowSet) false, .sl 1 ((Seen.mk xd xw xb []).words.map rowSet) false, .sl 4 ((Seen.mk xd xw xb []).bus.map rqL) false, .sl 1 ([]) false]) (g := true) rfl rfl rfl rfl rfl rfl ?_
    refine gCallS (args := [.agg [.sl 1 ((Seen.mk xd xw xb []).data.map rowSet) false, .sl 1 ((Seen.mk xd xw xb []).words.map rowSet) false, .sl 4 ((Seen.mk xd xw xb []).bus.map rqL) false, .sl 1 ([]) false], .agg [.sl 1 ((Seen.mk xd xw xb []).data.map rowSet) false, .sl 1 ((Seen.mk xd xw xb []).words.map rowSet) false, .sl 4 ((Seen.mk xd xw xb []).bus.map rqL) false, .sl 1 ([]) false]]) (d := 50) (x := vB (sameSe (Seen.mk xd xw xb []) (Seen.mk xd xw xb []))) (g := true) rfl rfl rfl rfl (fun h => by first | (simp_all; done) | exact (Bool.and_eq_true_iff.1 h).1 | exact Bool.and_eq_true_iff.2 ⟨h, h⟩) rfl rfl rfl (.inl rfl) rfl (fun hg => dSame (Seen.mk xd xw xb []) (Seen.mk xd xw xb []) hx1 hx1) ?_
    refine rNeed (d := 51) (x := vB (cond2 true (sameSe (Seen.mk xd xw xb []) (Seen.mk xd xw xb [])) false)) rfl rfl rfl (fun h => h) ?_
    refine rOk (d := 52) (x := vB (cond2 true (sameSe (Seen.mk xd xw xb []) (Seen.mk xd xw xb [])) false)) rfl rfl rfl ?_
    refine gOk (d := 53) (x := .agg [.sl 1 ((Seen.mk xd xw xb []).data.map rowSet) false, .sl 1 ((Seen.mk xd xw xb []).words.map rowSet) false, .sl 4 ((Seen.mk xd xw xb []).bus.map rqL) false, .sl 1 ([]) false]) (g := cond2 true (sameSe (Seen.mk xd xw xb []) (Seen.mk xd xw xb [])) false) rfl rfl rfl rfl rfl rfl ?_
    refine gOk (d := 54) (x := .agg [.sl 1 (y.data.map rowSet) false, .sl 1 (y.words.map rowSet) false, .sl 4 (y.bus.map rqL) false, .sl 1 (y.pcs.map rowU) false]) (g := cond2 true (sameSe (Seen.mk xd xw xb []) (Seen.mk xd xw xb [])) false) rfl rfl rfl rfl rfl rfl ?_
    refine gCallS (args := [.agg [.sl 1 ((Seen.mk xd xw xb []).data.map rowSet) false, .sl 1 ((Seen.mk xd xw xb []).words.map rowSet) false, .sl 4 ((Seen.mk xd xw xb []).bus.map rqL) false, .sl 1 ([]) false], .agg [.sl 1 (y.data.map rowSet) false, .sl 1 (y.words.map rowSet) false, .sl 4 (y.bus.map rqL) false, .sl 1 (y.pcs.map rowU) false]]) (d := 55) (x := vB (sameSe (Seen.mk xd xw xb []) y)) (g := cond2 true (sameSe (Seen.mk xd xw xb []) (Seen.mk xd xw xb [])) false) rfl rfl rfl rfl (fun h => by first | (simp_all; done) | exact (Bool.and_eq_true_iff.1 h).1 | exact Bool.and_eq_true_iff.2 ⟨h, h⟩) rfl rfl rfl (.inl rfl) rfl (fun hg => dSame (Seen.mk xd xw xb []) y hx1 hy1) ?_
    refine gOk (d := 56) (x := .agg [.sl 1 (y.data.map rowSet) false, .sl 1 (y.words.map rowSet) false, .sl 4 (y.bus.map rqL) false, .sl 1 (y.pcs.map rowU) false]) (g := cond2 true (sameSe (Seen.mk xd xw xb []) (Seen.mk xd xw xb [])) false) rfl rfl rfl rfl rfl rfl ?_
    refine gOk (d := 57) (x := .agg [.sl 1 ((Seen.mk xd xw xb []).data.map rowSet) false, .sl 1 ((Seen.mk xd xw xb []).words.map rowSet) false, .sl 4 ((Seen.mk xd xw xb []).bus.map rqL) false, .sl 1 ([]) false]) (g := cond2 true (sameSe (Seen.mk xd xw xb []) (Seen.mk xd xw xb [])) false) rfl rfl rfl rfl rfl rfl ?_
    refine gCallS (args := [.agg [.sl 1 (y.data.map rowSet) false, .sl 1 (y.words.map rowSet) false, .sl 4 (y.bus.map rqL) false, .sl 1 (y.pcs.map rowU) false], .agg [.sl 1 ((Seen.mk xd xw xb []).data.map rowSet) false, .sl 1 ((Seen.mk xd xw xb []).words.map rowSet) false, .sl 4 ((Seen.mk xd xw xb []).bus.map rqL) false, .sl 1 ([]) false]]) (d := 58) (x := vB (sameSe y (Seen.mk xd xw xb []))) (g := cond2 true (sameSe (Seen.mk xd xw xb []) (Seen.mk xd xw xb [])) false) rfl rfl rfl rfl (fun h => by first | (simp_all; done) | exact (Bool.and_eq_true_iff.1 h).1 | exact Bool.and_eq_true_iff.2 ⟨h, h⟩) rfl rfl rfl (.inl rfl) rfl (fun hg => dSame y (Seen.mk xd xw xb []) hy1 hx1) ?_
    refine gOkS (d := 59) (x := vB ((sameSe (Seen.mk xd xw xb []) y) == (sameSe y (Seen.mk xd xw xb [])))) (g := cond2 true (sameSe (Seen.mk xd xw xb []) (Seen.mk xd xw xb [])) false) rfl rfl rfl rfl (fun h => by first | (simp_all; done) | exact (Bool.and_eq_true_iff.1 h).1 | exact Bool.and_eq_true_iff.2 ⟨h, h⟩) rfl rfl ?_
    refine rNeed (d := 60) (x := vB (cond2 (cond2 true (sameSe (Seen.mk xd xw xb []) (Seen.mk xd xw xb [])) false) ((sameSe (Seen.mk xd xw xb []) y) == (sameSe y (Seen.mk xd xw xb []))) false)) rfl rfl rfl (fun h => h) ?_
    refine rOk (d := 61) (x := vB (cond2 (cond2 true (sameSe (Seen.mk xd xw xb []) (Seen.mk xd xw xb [])) false) ((sameSe (Seen.mk xd xw xb []) y) == (sameSe y (Seen.mk xd xw xb []))) false)) rfl rfl rfl ?_
    refine gOk (d := 62) (x := .agg [.sl 1 ((Seen.mk xd xw xb []).data.map rowSet) false, .sl 1 ((Seen.mk xd xw xb []).words.map rowSet) false, .sl 4 ((Seen.mk xd xw xb []).bus.map rqL) false, .sl 1 ([]) false]) (g := cond2 (cond2 true (sameSe (Seen.mk xd xw xb []) (Seen.mk xd xw xb [])) false) ((sameSe (Seen.mk xd xw xb []) y) == (sameSe y (Seen.mk xd xw xb []))) false) rfl rfl rfl rfl rfl rfl ?_
    refine gOk (d := 63) (x := .agg [.sl 1 ((Seen.mk xd xw xb []).data.map rowSet) false, .sl 1 ((Seen.mk xd xw xb []).words.map rowSet) false, .sl 4 ((Seen.mk xd xw xb []).bus.map rqL) false, .sl 1 ((([] : List Nat) ++ [pc]).map rowU) false]) (g := cond2 (cond2 true (sameSe (Seen.mk xd xw xb []) (Seen.mk xd xw xb [])) false) ((sameSe (Seen.mk xd xw xb []) y) == (sameSe y (Seen.mk xd xw xb []))) false) rfl rfl rfl rfl rfl rfl ?_
    refine gCallS (args := [.agg [.sl 1 ((Seen.mk xd xw xb []).data.map rowSet) false, .sl 1 ((Seen.mk xd xw xb []).words.map rowSet) false, .sl 4 ((Seen.mk xd xw xb []).bus.map rqL) false, .sl 1 ([]) false], .agg [.sl 1 ((Seen.mk xd xw xb []).data.map rowSet) false, .sl 1 ((Seen.mk xd xw xb []).words.map rowSet) false, .sl 4 ((Seen.mk xd xw xb []).bus.map rqL) false, .sl 1 ((([] : List Nat) ++ [pc]).map rowU) false]]) (d := 64) (x := vB (sameSe (Seen.mk xd xw xb []) (Seen.mk xd xw xb (([] : List Nat) ++ [pc])))) (g := cond2 (cond2 true (sameSe (Seen.mk xd xw xb []) (Seen.mk xd xw xb [])) false) ((sameSe (Seen.mk xd xw xb []) y) == (sameSe y (Seen.mk xd xw xb []))) false) rfl rfl rfl rfl (fun h => by first | (simp_all; done) | exact (Bool.and_eq_true_iff.1 h).1 | exact Bool.and_eq_true_iff.2 ⟨h, h⟩) rfl rfl rfl (.inl rfl) rfl (fun hg => dSame (Seen.mk xd xw xb []) (Seen.mk xd xw xb (([] : List Nat) ++ [pc])) hx1 hm1) ?_
    refine gOkS (d := 65) (x := vB (!(sameSe (Seen.mk xd xw xb []) (Seen.mk xd xw xb (([] : List Nat) ++ [pc]))))) (g := cond2 (cond2 true (sameSe (Seen.mk xd xw xb []) (Seen.mk xd xw xb [])) false) ((sameSe (Seen.mk xd xw xb []) y) == (sameSe y (Seen.mk xd xw xb []))) false) rfl rfl rfl rfl (fun h => h) rfl rfl ?_
    refine rNeed (d := 66) (x := vB (cond2 (cond2 (cond2 true (sameSe (Seen.mk xd xw xb []) (Seen.mk xd xw xb [])) false) ((sameSe (Seen.mk xd xw xb []) y) == (sameSe y (Seen.mk xd xw xb []))) false) (!(sameSe (Seen.mk xd xw xb []) (Seen.mk xd xw xb (([] : List Nat) ++ [pc])))) false)) rfl rfl rfl (fun h => h) ?_
    refine rOk (d := 67) (x := vB (cond2 (cond2 (cond2 true (sameSe (Seen.mk xd xw xb []) (Seen.mk xd xw xb [])) false) ((sameSe (Seen.mk xd xw xb []) y) == (sameSe y (Seen.mk xd xw xb []))) false) (!(sameSe (Seen.mk xd xw xb []) (Seen.mk xd xw xb (([] : List Nat) ++ [pc])))) false)) rfl rfl rfl ?_
    refine gOk (d := 68) (x := .agg [.sl 1 ((Seen.mk xd xw xb []).data.map rowSet) false, .sl 1 ((Seen.mk xd xw xb []).words.map rowSet) false, .sl 4 ((Seen.mk xd xw xb []).bus.map rqL) false, .sl 1 ([]) false]) (g := cond2 (cond2 (cond2 true (sameSe (Seen.mk xd xw xb []) (Seen.mk xd xw xb [])) false) ((sameSe (Seen.mk xd xw xb []) y) == (sameSe y (Seen.mk xd xw xb []))) false) (!(sameSe (Seen.mk xd xw xb []) (Seen.mk xd xw xb (([] : List Nat) ++ [pc])))) false) rfl rfl rfl rfl rfl rfl ?_
    refine gOk (d := 69) (x := .agg [.sl 1 (y.data.map rowSet) false, .sl 1 (y.words.map rowSet) false, .sl 4 (y.bus.map rqL) false, .sl 1 (y.pcs.map rowU) false]) (g := cond2 (cond2 (cond2 true (sameSe (Seen.mk xd xw xb []) (Seen.mk xd xw xb [])) false) ((sameSe (Seen.mk xd xw xb []) y) == (sameSe y (Seen.mk xd xw xb []))) false) (!(sameSe (Seen.mk xd xw xb []) (Seen.mk xd xw xb (([] : List Nat) ++ [pc])))) false) rfl rfl rfl rfl rfl rfl ?_
    refine gCallS (args := [.agg [.sl 1 ((Seen.mk xd xw xb []).data.map rowSet) false, .sl 1 ((Seen.mk xd xw xb []).words.map rowSet) false, .sl 4 ((Seen.mk xd xw xb []).bus.map rqL) false, .sl 1 ([]) false], .agg [.sl 1 (y.data.map rowSet) false, .sl 1 (y.words.map rowSet) false, .sl 4 (y.bus.map rqL) false, .sl 1 (y.pcs.map rowU) false]]) (d := 70) (x := vB (sameSe (Seen.mk xd xw xb []) y)) (g := cond2 (cond2 (cond2 true (sameSe (Seen.mk xd xw xb []) (Seen.mk xd xw xb [])) false) ((sameSe (Seen.mk xd xw xb []) y) == (sameSe y (Seen.mk xd xw xb []))) false) (!(sameSe (Seen.mk xd xw xb []) (Seen.mk xd xw xb (([] : List Nat) ++ [pc])))) false) rfl rfl rfl rfl (fun h => by first | (simp_all; done) | exact (Bool.and_eq_true_iff.1 h).1 | exact Bool.and_eq_true_iff.2 ⟨h, h⟩) rfl rfl rfl (.inl rfl) rfl (fun hg => dSame (Seen.mk xd xw xb []) y hx1 hy1) ?_
    refine gOkS (d := 71) (x := vB (!(sameSe (Seen.mk xd xw xb []) y))) (g := cond2 (cond2 (cond2 true (sameSe (Seen.mk xd xw xb []) (Seen.mk xd xw xb [])) false) ((sameSe (Seen.mk xd xw xb []) y) == (sameSe y (Seen.mk xd xw xb []))) false) (!(sameSe (Seen.mk xd xw xb []) (Seen.mk xd xw xb (([] : List Nat) ++ [pc])))) false) rfl rfl rfl rfl (fun h => h) rfl rfl ?_
    refine gOkS (d := 72) (x := vB (!(sameSe (Seen.mk xd xw xb []) y))) (g := cond2 (cond2 (cond2 true (sameSe (Seen.mk xd xw xb []) (Seen.mk xd xw xb [])) false) ((sameSe (Seen.mk xd xw xb []) y) == (sameSe y (Seen.mk xd xw xb []))) false) (!(sameSe (Seen.mk xd xw xb []) (Seen.mk xd xw xb (([] : List Nat) ++ [pc])))) false) rfl rfl rfl rfl (fun h => h) rfl rfl ?_
    refine gOk (d := 73) (x := .agg [.sl 1 (y.data.map rowSet) false, .sl 1 (y.words.map rowSet) false, .sl 4 (y.bus.map rqL) false, .sl 1 (y.pcs.map rowU) false]) (g := (cond2 (cond2 (cond2 true (sameSe (Seen.mk xd xw xb []) (Seen.mk xd xw xb [])) false) ((sameSe (Seen.mk xd xw xb []) y) == (sameSe y (Seen.mk xd xw xb []))) false) (!(sameSe (Seen.mk xd xw xb []) (Seen.mk xd xw xb (([] : List Nat) ++ [pc])))) false) && (!(!(sameSe (Seen.mk xd xw xb []) y)))) rfl rfl rfl rfl rfl rfl ?_
    refine gOk (d := 74) (x := .agg [.sl 1 ((Seen.mk xd xw xb []).data.map rowSet) false, .sl 1 ((Seen.mk xd xw xb []).words.map rowSet) false, .sl 4 ((Seen.mk xd xw xb []).bus.map rqL) false, .sl 1 ((([] : List Nat) ++ [pc]).map rowU) false]) (g := (cond2 (cond2 (cond2 true (sameSe (Seen.mk xd xw xb []) (Seen.mk xd xw xb [])) false) ((sameSe (Seen.mk xd xw xb []) y) == (sameSe y (Seen.mk xd xw xb []))) false) (!(sameSe (Seen.mk xd xw xb []) (Seen.mk xd xw xb (([] : List Nat) ++ [pc])))) false) && (!(!(sameSe (Seen.mk xd xw xb []) y)))) rfl rfl rfl rfl rfl rfl ?_
    refine gCallS (args := [.agg [.sl 1 (y.data.map rowSet) false, .sl 1 (y.words.map rowSet) false, .sl 4 (y.bus.map rqL) false, .sl 1 (y.pcs.map rowU) false], .agg [.sl 1 ((Seen.mk xd xw xb []).data.map rowSet) false, .sl 1 ((Seen.mk xd xw xb []).words.map rowSet) false, .sl 4 ((Seen.mk xd xw xb []).bus.map rqL) false, .sl 1 ((([] : List Nat) ++ [pc]).map rowU) false]]) (d := 75) (x := vB (sameSe y (Seen.mk xd xw xb (([] : List Nat) ++ [pc])))) (g := (cond2 (cond2 (cond2 true (sameSe (Seen.mk xd xw xb []) (Seen.mk xd xw xb [])) false) ((sameSe (Seen.mk xd xw xb []) y) == (sameSe y (Seen.mk xd xw xb []))) false) (!(sameSe (Seen.mk xd xw xb []) (Seen.mk xd xw xb (([] : List Nat) ++ [pc])))) false) && (!(!(sameSe (Seen.mk xd xw xb []) y)))) rfl rfl rfl rfl (fun h => by first | (simp_all; done) | exact (Bool.and_eq_true_iff.1 h).1 | exact Bool.and_eq_true_iff.2 ⟨h, h⟩) rfl rfl rfl (.inl rfl) rfl (fun hg => dSame y (Seen.mk xd xw xb (([] : List Nat) ++ [pc])) hy1 hm1) ?_
    refine gOkS (d := 76) (x := vB (!(sameSe y (Seen.mk xd xw xb (([] : List Nat) ++ [pc]))))) (g := (cond2 (cond2 (cond2 true (sameSe (Seen.mk xd xw xb []) (Seen.mk xd xw xb [])) false) ((sameSe (Seen.mk xd xw xb []) y) == (sameSe y (Seen.mk xd xw xb []))) false) (!(sameSe (Seen.mk xd xw xb []) (Seen.mk xd xw xb (([] : List Nat) ++ [pc])))) false) && (!(!(sameSe (Seen.mk xd xw xb []) y)))) rfl rfl rfl rfl (fun h => h) rfl rfl ?_
    refine gNeedS (d := 77) (x := vB (cond2 (!(sameSe (Seen.mk xd xw xb []) y)) true (!(sameSe y (Seen.mk xd xw xb (([] : List Nat) ++ [pc])))))) (g := cond2 (cond2 (cond2 true (sameSe (Seen.mk xd xw xb []) (Seen.mk xd xw xb [])) false) ((sameSe (Seen.mk xd xw xb []) y) == (sameSe y (Seen.mk xd xw xb []))) false) (!(sameSe (Seen.mk xd xw xb []) (Seen.mk xd xw xb (([] : List Nat) ++ [pc])))) false) rfl rfl rfl rfl (fun h => h) rfl rfl (fun hg hc => by first | (rw [hg, hc]; rfl) | simp_all) ?_
    refine rNeed (d := 78) (x := vB (cond2 (cond2 (cond2 (cond2 true (sameSe (Seen.mk xd xw xb []) (Seen.mk xd xw xb [])) false) ((sameSe (Seen.mk xd xw xb []) y) == (sameSe y (Seen.mk xd xw xb []))) false) (!(sameSe (Seen.mk xd xw xb []) (Seen.mk xd xw xb (([] : List Nat) ++ [pc])))) false) (cond2 (!(sameSe (Seen.mk xd xw xb []) y)) true (!(sameSe y (Seen.mk xd xw xb (([] : List Nat) ++ [pc]))))) false)) rfl rfl rfl (fun h => h) ?_
    refine rOk (d := 6) (x := vB (cond2 (cond2 (cond2 (cond2 true (sameSe (Seen.mk xd xw xb []) (Seen.mk xd xw xb [])) false) ((sameSe (Seen.mk xd xw xb []) y) == (sameSe y (Seen.mk xd xw xb []))) false) (!(sameSe (Seen.mk xd xw xb []) (Seen.mk xd xw xb (([] : List Nat) ++ [pc])))) false) (cond2 (!(sameSe (Seen.mk xd xw xb []) y)) true (!(sameSe y (Seen.mk xd xw xb (([] : List Nat) ++ [pc]))))) false)) rfl rfl rfl ?_
    refine rEnd (n' := 79) rfl ?_
    refine cRet ?_
    exact finTA rfl trivial rfl (congrArg (fun z => AV.v (.bool z)) (same_law (Seen.mk xd xw xb []) y (Seen.mk xd xw xb (([] : List Nat) ++ [pc])) (by simp)))
set_option maxRecDepth 100000 in
set_option maxHeartbeats 4000000 in
theorem dSameC (a b : Co) (pc : Nat) (xd xw : List (List Wy)) (xb : List Req) (p : Nat) (ps : List Nat) (y : Seen) (hba : a.bus.length ≤ 9223372036854775807) (hra : a.retired.length ≤ 9223372036854775807) (hbb : b.bus.length ≤ 9223372036854775807) (hrb : b.retired.length ≤ 9223372036854775807) (hal : DCall C0 22 [] (.v (.bool true))) (hx : seeOk a (Seen.mk xd xw xb (p :: ps))) (hxp : a.bus.length ≤ 50 → a.retired.length ≤ 200 → ((p :: ps)).length ≤ 200) (hy : seeOk b y) : DCall C0 7 [.agg (coL a), .agg (coL b), .v (.int .u32 (pc : Int))] (.v (.bool true)) := by
  refine DCall.intro c0Ok Try.func7 rfl rfl (by kernel_rfl) rfl ?_
  refine cSeq ?_
  refine cReg rfl ?_
  refine rFx (d := 3) (x := .ptr 0 0) (h' := upd _ 0 (some (.box [vI a.conf.mode, vI a.conf.width, vI a.conf.rob, vI a.conf.queue, vI a.conf.stores, vI a.conf.slots, vI a.conf.sets, vI a.conf.ways, .sl 1 (a.conf.lat.map rowI) false, vB a.conf.tables, .sl 1 (a.conf.tape.map rowU) false, .sl 1 (a.prog.map rowU) false, vI a.cycle, vU (a.r 0), vU (a.r 1), vU (a.r 2), vU (a.r 3), vU (a.r 4), vU (a.r 5), vU (a.r 6), vU (a.r 7), vU (a.r 8), vU (a.r 9), vU (a.r 10), vU (a.r 11), vU (a.r 12), vU (a.r 13), vU (a.r 14), vU (a.r 15), vU (a.r 16), vU (a.r 17), vU (a.r 18), vU (a.r 19), vU (a.r 20), vU (a.r 21), vU (a.r 22), vU (a.r 23), vU (a.r 24), vU (a.r 25), vU (a.r 26), vU (a.r 27), vU (a.r 28), vU (a.r 29), vU (a.r 30), vU (a.r 31), vU a.fetch, vB a.stop, .sl 2 (a.fetched.map ftL) false, .sl 17 (a.rob.map enL) false, vI a.next, .sl 2 (a.stores.map ptL) false, vI a.data.ways, .sl 1 (a.data.sets.map rowSet) false, vI a.words.ways, .sl 1 (a.words.sets.map rowSet) false, .sl 4 (a.bus.map rqL) false, vI a.asked, vI a.guessed, .v (.string a.mem), .sl 2 (a.guess.slots.map gsL) false, vU a.guess.hist, .sl 1 (a.guess.rets.map rowU) false, vI a.halt, .sl 9 (a.retired.map spL) false]))) rfl rfl (rfl) (trivial) ?_
  refine rFx (d := 4) (x := .ptr 1 0) (h' := upd _ 1 (some (.box [vI b.conf.mode, vI b.conf.width, vI b.conf.rob, vI b.conf.queue, vI b.conf.stores, vI b.conf.slots, vI b.conf.sets, vI b.conf.ways, .sl 1 (b.conf.lat.map rowI) false, vB b.conf.tables, .sl 1 (b.conf.tape.map rowU) false, .sl 1 (b.prog.map rowU) false, vI b.cycle, vU (b.r 0), vU (b.r 1), vU (b.r 2), vU (b.r 3), vU (b.r 4), vU (b.r 5), vU (b.r 6), vU (b.r 7), vU (b.r 8), vU (b.r 9), vU (b.r 10), vU (b.r 11), vU (b.r 12), vU (b.r 13), vU (b.r 14), vU (b.r 15), vU (b.r 16), vU (b.r 17), vU (b.r 18), vU (b.r 19), vU (b.r 20), vU (b.r 21), vU (b.r 22), vU (b.r 23), vU (b.r 24), vU (b.r 25), vU (b.r 26), vU (b.r 27), vU (b.r 28), vU (b.r 29), vU (b.r 30), vU (b.r 31), vU b.fetch, vB b.stop, .sl 2 (b.fetched.map ftL) false, .sl 17 (b.rob.map enL) false, vI b.next, .sl 2 (b.stores.map ptL) false, vI b.data.ways, .sl 1 (b.data.sets.map rowSet) false, vI b.words.ways, .sl 1 (b.words.sets.map rowSet) false, .sl 4 (b.bus.map rqL) false, vI b.asked, vI b.guessed, .v (.string b.mem), .sl 2 (b.guess.slots.map gsL) false, vU b.guess.hist, .sl 1 (b.guess.rets.map rowU) false, vI b.halt, .sl 9 (b.retired.map spL) false]))) rfl rfl (rfl) (trivial) ?_
  refine rOk (d := 6) (x := vB false) rfl rfl rfl ?_
  refine rEnd (n' := 3) rfl ?_
  refine cSeq ?_
  refine cSeq ?_
  refine cReg rfl ?_
  refine rOk (d := 10) (x := .ptr 0 63) rfl rfl rfl ?_
  refine rOk (d := 11) (x := .sl 9 (a.retired.map spL) false) rfl rfl rfl ?_
  refine rOk (d := 12) (x := vN a.retired.length) rfl rfl (lenMap spL a.retired) ?_
  refine rOk (d := 13) (x := vB (decide (a.retired.length > 200))) rfl rfl (okB (gtN _ _)) ?_
  refine rOk (d := 14) (x := vB (decide (a.retired.length > 200))) rfl rfl rfl ?_
  refine gOk (d := 15) (x := .ptr 1 63) (g := !(decide (a.retired.length > 200))) rfl rfl rfl rfl rfl rfl ?_
  refine gOkS (d := 16) (x := .sl 9 (b.retired.map spL) false) (g := !(decide (a.retired.length > 200))) rfl rfl rfl rfl (fun h => h) rfl rfl ?_
  refine gOkS (d := 17) (x := vN b.retired.length) (g := !(decide (a.retired.length > 200))) rfl rfl rfl rfl (fun h => h) rfl (lenMap spL b.retired) ?_
  refine gOkS (d := 18) (x := vB (decide (b.retired.length > 200))) (g := !(decide (a.retired.length > 200))) rfl rfl rfl rfl (fun h => h) rfl (okB (gtN _ _)) ?_
  refine rNeed (d := 19) (x := vB (cond2 (decide (a.retired.length > 200)) true (decide (b.retired.length > 200)))) rfl rfl rfl (by simp) ?_
  refine rOk (d := 20) (x := vB (cond2 (decide (a.retired.length > 200)) true (decide (b.retired.length > 200)))) rfl rfl rfl ?_
  refine gOk (d := 21) (x := .ptr 0 55) (g := !(cond2 (decide (a.retired.length > 200)) true (decide (b.retired.length > 200)))) rfl rfl rfl rfl rfl rfl ?_
  refine gOkS (d := 22) (x := .sl 4 (a.bus.map rqL) false) (g := !(cond2 (decide (a.retired.length > 200)) true (decide (b.retired.length > 200)))) rfl rfl rfl rfl (fun h => h) rfl rfl ?_
  refine gOkS (d := 23) (x := vN a.bus.length) (g := !(cond2 (decide (a.retired.length > 200)) true (decide (b.retired.length > 200)))) rfl rfl rfl rfl (fun h => h) rfl (lenMap rqL a.bus) ?_
  refine gOkS (d := 24) (x := vB (decide (a.bus.length > 50))) (g := !(cond2 (decide (a.retired.length > 200)) true (decide (b.retired.length > 200)))) rfl rfl rfl rfl (fun h => h) rfl (okB (gtN _ _)) ?_
  refine rNeed (d := 25) (x := vB (cond2 (cond2 (decide (a.retired.length > 200)) true (decide (b.retired.length > 200))) true (decide (a.bus.length > 50)))) rfl rfl rfl (by simp) ?_
  refine rOk (d := 26) (x := vB (cond2 (cond2 (decide (a.retired.length > 200)) true (decide (b.retired.length > 200))) true (decide (a.bus.length > 50)))) rfl rfl rfl ?_
  refine gOk (d := 27) (x := .ptr 1 55) (g := !(cond2 (cond2 (decide (a.retired.length > 200)) true (decide (b.retired.length > 200))) true (decide (a.bus.length > 50)))) rfl rfl rfl rfl rfl rfl ?_
  refine gOkS (d := 28) (x := .sl 4 (b.bus.map rqL) false) (g := !(cond2 (cond2 (decide (a.retired.length > 200)) true (decide (b.retired.length > 200))) true (decide (a.bus.length > 50)))) rfl rfl rfl rfl (fun h => h) rfl rfl ?_
  refine gOkS (d := 29) (x := vN b.bus.length) (g := !(cond2 (cond2 (decide (a.retired.length > 200)) true (decide (b.retired.length > 200))) true (decide (a.bus.length > 50)))) rfl rfl rfl rfl (fun h => h) rfl (lenMap rqL b.bus) ?_
  refine gOkS (d := 30) (x := vB (decide (b.bus.length > 50))) (g := !(cond2 (cond2 (decide (a.retired.length > 200)) true (decide (b.retired.length > 200))) true (decide (a.bus.length > 50)))) rfl rfl rfl rfl (fun h => h) rfl (okB (gtN _ _)) ?_
  refine rNeed (d := 31) (x := vB (cond2 (cond2 (cond2 (decide (a.retired.length > 200)) true (decide (b.retired.length > 200))) true (decide (a.bus.length > 50))) true (decide (b.bus.length > 50)))) rfl rfl rfl (by simp) ?_
  refine rEnd (n' := 25) rfl ?_
  refine cCond (v := cond2 (cond2 (cond2 (decide (a.retired.length > 200)) true (decide (b.retired.length > 200))) true (decide (a.bus.length > 50))) true (decide (b.bus.length > 50))) rfl (fun h1 => ?_) (fun h1 => ?_)
  · skip
    refine cSeq ?_
    refine cReg rfl ?_
    refine rCall (args := []) (d := 32) (x := vB true) rfl rfl rfl rfl (.inl rfl) rfl (hal) ?_
    refine rOk (d := 6) (x := vB true) rfl rfl rfl ?_
    refine rEnd (n' := 27) rfl ?_
    refine cRet ?_
    exact finTA rfl trivial rfl rfl
  · skip
    refine cSkip ?_
    refine cSeq ?_
    refine cReg rfl ?_
    obtain ⟨g1, g2, g3, g4⟩ := guard4 h1
    obtain ⟨hx1, hx2⟩ := hx g3 g1
    obtain ⟨hy1, hy2⟩ := hy g4 g2
    have hm1 : ((Seen.mk xd xw xb ((p :: ps) ++ [pc]))).ok := ⟨hx1.data, hx1.dat, hx1.words, hx1.word, hx1.bus, by have := hxp g3 g1; show ((p :: ps) ++ [pc]).length ≤ 2000000; rw [List.length_append, List.length_singleton]; omega⟩
    refine rOk (d := 33) (x := .agg [vI a.conf.mode, vI a.conf.width, vI a.conf.rob, vI a.conf.queue, vI a.conf.stores, vI a.conf.slots, vI a.conf.sets, vI a.conf.ways, .sl 1 (a.conf.lat.map rowI) false, vB a.conf.tables, .sl 1 (a.conf.tape.map rowU) false, .sl 1 (a.prog.map rowU) false, vI a.cycle, vU (a.r 0), vU (a.r 1), vU (a.r 2), vU (a.r 3), vU (a.r 4), vU (a.r 5), vU (a.r 6), vU (a.r 7), vU (a.r 8), vU (a.r 9), vU (a.r 10), vU (a.r 11), vU (a.r 12), vU (a.r 13), vU (a.r 14), vU (a.r 15), vU (a.r 16), vU (a.r 17), vU (a.r 18), vU (a.r 19), vU (a.r 20), vU (a.r 21), vU (a.r 22), vU (a.r 23), vU (a.r 24), vU (a.r 25), vU (a.r 26), vU (a.r 27), vU (a.r 28), vU (a.r 29), vU (a.r 30), vU (a.r 31), vU a.fetch, vB a.stop, .sl 2 (a.fetched.map ftL) false, .sl 17 (a.rob.map enL) false, vI a.next, .sl 2 (a.stores.map ptL) false, vI a.data.ways, .sl 1 (a.data.sets.map rowSet) false, vI a.words.ways, .sl 1 (a.words.sets.map rowSet) false, .sl 4 (a.bus.map rqL) false, vI a.asked, vI a.guessed, .v (.string a.mem), .sl 2 (a.guess.slots.map gsL) false, vU a.guess.hist, .sl 1 (a.guess.rets.map rowU) false, vI a.halt, .sl 9 (a.retired.map spL) false]) rfl rfl rfl ?_
    refine rCall (args := [.agg [vI a.conf.mode, vI a.conf.width, vI a.conf.rob, vI a.conf.queue, vI a.conf.stores, vI a.conf.slots, vI a.conf.sets, vI a.conf.ways, .sl 1 (a.conf.lat.map rowI) false, vB a.conf.tables, .sl 1 (a.conf.tape.map rowU) false, .sl 1 (a.prog.map rowU) false, vI a.cycle, vU (a.r 0), vU (a.r 1), vU (a.r 2), vU (a.r 3), vU (a.r 4), vU (a.r 5), vU (a.r 6), vU (a.r 7), vU (a.r 8), vU (a.r 9), vU (a.r 10), vU (a.r 11), vU (a.r 12), vU (a.r 13), vU (a.r 14), vU (a.r 15), vU (a.r 16), vU (a.r 17), vU (a.r 18), vU (a.r 19), vU (a.r 20), vU (a.r 21), vU (a.r 22), vU (a.r 23), vU (a.r 24), vU (a.r 25), vU (a.r 26), vU (a.r 27), vU (a.r 28), vU (a.r 29), vU (a.r 30), vU (a.r 31), vU a.fetch, vB a.stop, .sl 2 (a.fetched.map ftL) false, .sl 17 (a.rob.map enL) false, vI a.next, .sl 2 (a.stores.map ptL) false, vI a.data.ways, .sl 1 (a.data.sets.map rowSet) false, vI a.words.ways, .sl 1 (a.words.sets.map rowSet) false, .sl 4 (a.bus.map rqL) false, vI a.asked, vI a.guessed, .v (.string a.mem), .sl 2 (a.guess.slots.map gsL) false, vU a.guess.hist, .sl 1 (a.guess.rets.map rowU) false, vI a.halt, .sl 9 (a.retired.map spL) false], vI 0]) (d := 34) (x := .agg [.sl 1 ((Seen.mk xd xw xb (p :: ps)).data.map rowSet) false, .sl 1 ((Seen.mk xd xw xb (p :: ps)).words.map rowSet) false, .sl 4 ((Seen.mk xd xw xb (p :: ps)).bus.map rqL) false, .sl 1 ((p :: ps).map rowU) false]) rfl rfl rfl rfl (.inl rfl) rfl (hx2) ?_
    refine rOk (d := 35) (x := .agg [vI b.conf.mode, vI b.conf.width, vI b.conf.rob, vI b.conf.queue, vI b.conf.stores, vI b.conf.slots, vI b.conf.sets, vI b.conf.ways, .sl 1 (b.conf.lat.map rowI) false, vB b.conf.tables, .sl 1 (b.conf.tape.map rowU) false, .sl 1 (b.prog.map rowU) false, vI b.cycle, vU (b.r 0), vU (b.r 1), vU (b.r 2), vU (b.r 3), vU (b.r 4), vU (b.r 5), vU (b.r 6), vU (b.r 7), vU (b.r 8), vU (b.r 9), vU (b.r 10), vU (b.r 11), vU (b.r 12), vU (b.r 13), vU (b.r 14), vU (b.r 15), vU (b.r 16), vU (b.r 17), vU (b.r 18), vU (b.r 19), vU (b.r 20), vU (b.r 21), vU (b.r 22), vU (b.r 23), vU (b.r 24), vU (b.r 25), vU (b.r 26), vU (b.r 27), vU (b.r 28), vU (b.r 29), vU (b.r 30), vU (b.r 31), vU b.fetch, vB b.stop, .sl 2 (b.fetched.map ftL) false, .sl 17 (b.rob.map enL) false, vI b.next, .sl 2 (b.stores.map ptL) false, vI b.data.ways, .sl 1 (b.data.sets.map rowSet) false, vI b.words.ways, .sl 1 (b.words.sets.map rowSet) false, .sl 4 (b.bus.map rqL) false, vI b.asked, vI b.guessed, .v (.string b.mem), .sl 2 (b.guess.slots.map gsL) false, vU b.guess.hist, .sl 1 (b.guess.rets.map rowU) false, vI b.halt, .sl 9 (b.retired.map spL) false]) rfl rfl rfl ?_
    refine rCall (args := [.agg [vI b.conf.mode, vI b.conf.width, vI b.conf.rob, vI b.conf.queue, vI b.conf.stores, vI b.conf.slots, vI b.conf.sets, vI b.conf.ways, .sl 1 (b.conf.lat.map rowI) false, vB b.conf.tables, .sl 1 (b.conf.tape.map rowU) false, .sl 1 (b.prog.map rowU) false, vI b.cycle, vU (b.r 0), vU (b.r 1), vU (b.r 2), vU (b.r 3), vU (b.r 4), vU (b.r 5), vU (b.r 6), vU (b.r 7), vU (b.r 8), vU (b.r 9), vU (b.r 10), vU (b.r 11), vU (b.r 12), vU (b.r 13), vU (b.r 14), vU (b.r 15), vU (b.r 16), vU (b.r 17), vU (b.r 18), vU (b.r 19), vU (b.r 20), vU (b.r 21), vU (b.r 22), vU (b.r 23), vU (b.r 24), vU (b.r 25), vU (b.r 26), vU (b.r 27), vU (b.r 28), vU (b.r 29), vU (b.r 30), vU (b.r 31), vU b.fetch, vB b.stop, .sl 2 (b.fetched.map ftL) false, .sl 17 (b.rob.map enL) false, vI b.next, .sl 2 (b.stores.map ptL) false, vI b.data.ways, .sl 1 (b.data.sets.map rowSet) false, vI b.words.ways, .sl 1 (b.words.sets.map rowSet) false, .sl 4 (b.bus.map rqL) false, vI b.asked, vI b.guessed, .v (.string b.mem), .sl 2 (b.guess.slots.map gsL) false, vU b.guess.hist, .sl 1 (b.guess.rets.map rowU) false, vI b.halt, .sl 9 (b.retired.map spL) false], vI 0]) (d := 36) (x := .agg [.sl 1 (y.data.map rowSet) false, .sl 1 (y.words.map rowSet) false, .sl 4 (y.bus.map rqL) false, .sl 1 (y.pcs.map rowU) false]) rfl rfl rfl rfl (.inl rfl) rfl (hy2) ?_
    refine rFx (d := 7) (x := .ptr 29 0) (h' := upd _ 29 (some (.box [.sl 0 ([]) true, .sl 0 ([]) true, .sl 0 ([]) true, .sl 0 ([]) true]))) rfl rfl (rfl) (trivial) ?_
    refine rFx (d := 8) (x := .ptr 30 0) (h' := upd _ 30 (some (.box [.sl 0 ([]) true, .sl 0 ([]) true, .sl 0 ([]) true, .sl 0 ([]) true]))) rfl rfl (rfl) (trivial) ?_
    refine rFx0 (h' := upd _ 29 (some (.box [.sl 1 ((Seen.mk xd xw xb (p :: ps)).data.map rowSet) false, .sl 1 ((Seen.mk xd xw xb (p :: ps)).words.map rowSet) false, .sl 4 ((Seen.mk xd xw xb (p :: ps)).bus.map rqL) false, .sl 1 ((p :: ps).map rowU) false]))) rfl rfl (rfl) (trivial) ?_
    refine rFx0 (h' := upd _ 30 (some (.box [.sl 1 (y.data.map rowSet) false, .sl 1 (y.words.map rowSet) false, .sl 4 (y.bus.map rqL) false, .sl 1 (y.pcs.map rowU) false]))) rfl rfl (rfl) (trivial) ?_
    refine rEnd (n' := 33) rfl ?_
    refine cSeq ?_
    refine cReg rfl ?_
    refine rOk (d := 37) (x := .agg [.sl 1 ((Seen.mk xd xw xb (p :: ps)).data.map rowSet) false, .sl 1 ((Seen.mk xd xw xb (p :: ps)).words.map rowSet) false, .sl 4 ((Seen.mk xd xw xb (p :: ps)).bus.map rqL) false, .sl 1 ((p :: ps).map rowU) false]) rfl rfl rfl ?_
    refine rFx (d := 9) (x := .ptr 34 0) (h' := upd _ 34 (some (.box [.sl 0 ([]) true, .sl 0 ([]) true, .sl 0 ([]) true, .sl 0 ([]) true]))) rfl rfl (rfl) (trivial) ?_
    refine rFx0 (h' := upd _ 34 (some (.box [.sl 1 ((Seen.mk xd xw xb (p :: ps)).data.map rowSet) false, .sl 1 ((Seen.mk xd xw xb (p :: ps)).words.map rowSet) false, .sl 4 ((Seen.mk xd xw xb (p :: ps)).bus.map rqL) false, .sl 1 ((p :: ps).map rowU) false]))) rfl rfl (rfl) (trivial) ?_
    refine rEnd (n' := 36) rfl ?_
    refine cSeqG ?_
    refine cReg rfl ?_
    refine rOk (d := 38) (x := .sl 1 ([]) true) rfl rfl rfl ?_
    refine rOk (d := 39) (x := .ptr 29 3) rfl rfl rfl ?_
    refine rOk (d := 40) (x := .sl 1 ((p :: ps).map rowU) false) rfl rfl rfl ?_
    refine rFx (d := 41) (x := .osl 39 0 (0 + ((p :: ps).map rowU).length) false) (h' := upd _ 39 (some (.arr (([]) ++ ((p :: ps).map rowU)) 1))) rfl rfl (rfl) (⟨by first | (simp [capMax]; done) | (have := hxp g3 g1; simp [capMax] at this ⊢; omega), by first | (simp [capMax]; done) | (have := hxp g3 g1; simp [capMax] at this ⊢; omega), trivial, trivial⟩) ?_
    refine rOk (d := 42) (x := vU pc) rfl rfl rfl ?_
    refine rOk (d := 43) (x := .sl 1 ([[vU pc]]) true) rfl rfl rfl ?_
    refine rFx (d := 44) (x := .osl 42 0 (((p :: ps).map rowU).length + 1) false) (h' := upd (upd _ 39 none) 42 (some (.arr (((p :: ps) ++ [pc]).map rowU) 1))) rfl rfl (app_eq (m := ((p :: ps).map rowU).length) (r := ((p :: ps) ++ [pc]).map rowU) (by simp) (by simp; exact List.take_of_length_le (by simp))) (⟨by have := hxp g3 g1; simp [capMax] at this ⊢; omega, by simp, trivial⟩) ?_
    refine rOk (d := 45) (x := .ptr 34 3) rfl rfl rfl ?_
    refine rFx0 (h' := upd _ 34 (some (.box [.sl 1 ((Seen.mk xd xw xb (p :: ps)).data.map rowSet) false, .sl 1 ((Seen.mk xd xw xb (p :: ps)).words.map rowSet) false, .sl 4 ((Seen.mk xd xw xb (p :: ps)).bus.map rqL) false, .osl 42 0 (((p :: ps).map rowU).length + 1) false]))) rfl rfl (rfl) (trivial) ?_
    refine rEnd (n' := 45) rfl ?_
    refine .mk _ (.step (some (42, 1, ((p :: ps) ++ [pc]).map rowU)) (Ghost.of_lists (l := [(6, vB false), (7, .ptr 29 0), (8, .ptr 30 0), (9, .ptr 34 0)]) (hp := [(29, .box [.sl 1 ((Seen.mk xd xw xb (p :: ps)).data.map rowSet) false, .sl 1 ((Seen.mk xd xw xb (p :: ps)).words.map rowSet) false, .sl 4 ((Seen.mk xd xw xb (p :: ps)).bus.map rqL) false, .sl 1 ((p :: ps).map rowU) false]), (30, .box [.sl 1 (y.data.map rowSet) false, .sl 1 (y.words.map rowSet) false, .sl 4 (y.bus.map rqL) false, .sl 1 (y.pcs.map rowU) false]), (34, .box [.sl 1 ((Seen.mk xd xw xb (p :: ps)).data.map rowSet) false, .sl 1 ((Seen.mk xd xw xb (p :: ps)).words.map rowSet) false, .sl 4 ((Seen.mk xd xw xb (p :: ps)).bus.map rqL) false, .sl 1 (((p :: ps) ++ [pc]).map rowU) false])]) rfl ⟨.refl _, .refl _, .refl _, .refl _, trivial⟩ ⟨⟨rfl, _, rfl, .refl _⟩, ⟨rfl, _, rfl, .refl _⟩, ⟨rfl, _, rfl, (LeB.boxL ⟨.refl _, .refl _, .refl _, frz_all (by simp) (by simp), trivial⟩)⟩, trivial⟩) (.refl _)) ?_
    refine cSeq ?_
    refine cReg rfl ?_
    refine rCall (args := []) (d := 46) (x := vB true) rfl rfl rfl rfl (.inl rfl) rfl (hal) ?_
    refine rOk (d := 47) (x := vB true) rfl rfl rfl ?_
    refine gOk (d := 48) (x := .agg [.sl 1 ((Seen.mk xd xw xb (p :: ps)).data.map rowSet) false, .sl 1 ((Seen.mk xd xw xb (p :: ps)).words.map rowSet) false, .sl 4 ((Seen.mk xd xw xb (p :: ps)).bus.map rqL) false, .sl 1 ((p :: ps).map rowU) false]) (g := true) rfl rfl rfl rfl rfl rfl ?_
    refine gOk (d := 49) (x := .agg [.sl 1 ((Seen.mk xd xw xb (p :: ps)).data.map rowSet) false, .sl 1 ((Seen.mk xd xw xb (p :: ps)).words.map rowSet) false, .sl 4 ((Seen.mk xd xw xb (p :: ps)).bus.map rqL) false, .sl 1 ((p :: ps).map rowU) false]) (g := true) rfl rfl rfl rfl rfl rfl ?_
    refine gCallS (args := [.agg [.sl 1 ((Seen.mk xd xw xb (p :: ps)).data.map rowSet) false, .sl 1 ((Seen.mk xd xw xb (p :: ps)).words.map rowSet) false, .sl 4 ((Seen.mk xd xw xb (p :: ps)).bus.map rqL) false, .sl 1 ((p :: ps).map rowU) false], .agg [.sl 1 ((Seen.mk xd xw xb (p :: ps)).data.map rowSet) false, .sl 1 ((Seen.mk xd xw xb (p :: ps)).words.map rowSet) false, .sl 4 ((Seen.mk xd xw xb (p :: ps)).bus.map rqL) false, .sl 1 ((p :: ps).map rowU) false]]) (d := 50) (x := vB (sameSe (Seen.mk xd xw xb (p :: ps)) (Seen.mk xd xw xb (p :: ps)))) (g := true) rfl rfl rfl rfl (fun h => by first | (simp_all; done) | exact (Bool.and_eq_true_iff.1 h).1 | exact Bool.and_eq_true_iff.2 ⟨h, h⟩) rfl rfl rfl (.inl rfl) rfl (fun hg => dSame (Seen.mk xd xw xb (p :: ps)) (Seen.mk xd xw xb (p :: ps)) hx1 hx1) ?_
    refine rNeed (d := 51) (x := vB (cond2 true (sameSe (Seen.mk xd xw xb (p :: ps)) (Seen.mk xd xw xb (p :: ps))) false)) rfl rfl rfl (fun h => h) ?_
    refine rOk (d := 52) (x := vB (cond2 true (sameSe (Seen.mk xd xw xb (p :: ps)) (Seen.mk xd xw xb (p :: ps))) false)) rfl rfl rfl ?_
    refine gOk (d := 53) (x := .agg [.sl 1 ((Seen.mk xd xw xb (p :: ps)).data.map rowSet) false, .sl 1 ((Seen.mk xd xw xb (p :: ps)).words.map rowSet) false, .sl 4 ((Seen.mk xd xw xb (p :: ps)).bus.map rqL) false, .sl 1 ((p :: ps).map rowU) false]) (g := cond2 true (sameSe (Seen.mk xd xw xb (p :: ps)) (Seen.mk xd xw xb (p :: ps))) false) rfl rfl rfl rfl rfl rfl ?_
    refine gOk (d := 54) (x := .agg [.sl 1 (y.data.map rowSet) false, .sl 1 (y.words.map rowSet) false, .sl 4 (y.bus.map rqL) false, .sl 1 (y.pcs.map rowU) false]) (g := cond2 true (sameSe (Seen.mk xd xw xb (p :: ps)) (Seen.mk xd xw xb (p :: ps))) false) rfl rfl rfl rfl rfl rfl ?_
    refine gCallS (args := [.agg [.sl 1 ((Seen.mk xd xw xb (p :: ps)).data.map rowSet) false, .sl 1 ((Seen.mk xd xw xb (p :: ps)).words.map rowSet) false, .sl 4 ((Seen.mk xd xw xb (p :: ps)).bus.map rqL) false, .sl 1 ((p :: ps).map rowU) false], .agg [.sl 1 (y.data.map rowSet) false, .sl 1 (y.words.map rowSet) false, .sl 4 (y.bus.map rqL) false, .sl 1 (y.pcs.map rowU) false]]) (d := 55) (x := vB (sameSe (Seen.mk xd xw xb (p :: ps)) y)) (g := cond2 true (sameSe (Seen.mk xd xw xb (p :: ps)) (Seen.mk xd xw xb (p :: ps))) false) rfl rfl rfl rfl (fun h => by first | (simp_all; done) | exact (Bool.and_eq_true_iff.1 h).1 | exact Bool.and_eq_true_iff.2 ⟨h, h⟩) rfl rfl rfl (.inl rfl) rfl (fun hg => dSame (Seen.mk xd xw xb (p :: ps)) y hx1 hy1) ?_
    refine gOk (d := 56) (x := .agg [.sl 1 (y.data.map rowSet) false, .sl 1 (y.words.map rowSet) false, .sl 4 (y.bus.map rqL) false, .sl 1 (y.pcs.map rowU) false]) (g := cond2 true (sameSe (Seen.mk xd xw xb (p :: ps)) (Seen.mk xd xw xb (p :: ps))) false) rfl rfl rfl rfl rfl rfl ?_
    refine gOk (d := 57) (x := .agg [.sl 1 ((Seen.mk xd xw xb (p :: ps)).data.map rowSet) false, .sl 1 ((Seen.mk xd xw xb (p :: ps)).words.map rowSet) false, .sl 4 ((Seen.mk xd xw xb (p :: ps)).bus.map rqL) false, .sl 1 ((p :: ps).map rowU) false]) (g := cond2 true (sameSe (Seen.mk xd xw xb (p :: ps)) (Seen.mk xd xw xb (p :: ps))) false) rfl rfl rfl rfl rfl rfl ?_
    refine gCallS (args := [.agg [.sl 1 (y.data.map rowSet) false, .sl 1 (y.words.map rowSet) false, .sl 4 (y.bus.map rqL) false, .sl 1 (y.pcs.map rowU) false], .agg [.sl 1 ((Seen.mk xd xw xb (p :: ps)).data.map rowSet) false, .sl 1 ((Seen.mk xd xw xb (p :: ps)).words.map rowSet) false, .sl 4 ((Seen.mk xd xw xb (p :: ps)).bus.map rqL) false, .sl 1 ((p :: ps).map rowU) false]]) (d := 58) (x := vB (sameSe y (Seen.mk xd xw xb (p :: ps)))) (g := cond2 true (sameSe (Seen.mk xd xw xb (p :: ps)) (Seen.mk xd xw xb (p :: ps))) false) rfl rfl rfl rfl (fun h => by first | (simp_all; done) | exact (Bool.and_eq_true_iff.1 h).1 | exact Bool.and_eq_true_iff.2 ⟨h, h⟩) rfl rfl rfl (.inl rfl) rfl (fun hg => dSame y (Seen.mk xd xw xb (p :: ps)) hy1 hx1) ?_
    refine gOkS (d := 59) (x := vB ((sameSe (Seen.mk xd xw xb (p :: ps)) y) == (sameSe y (Seen.mk xd xw xb (p :: ps))))) (g := cond2 true (sameSe (Seen.mk xd xw xb (p :: ps)) (Seen.mk xd xw xb (p :: ps))) false) rfl rfl rfl rfl (fun h => by first | (simp_all; done) | exact (Bool.and_eq_true_iff.1 h).1 | exact Bool.and_eq_true_iff.2 ⟨h, h⟩) rfl rfl ?_
    refine rNeed (d := 60) (x := vB (cond2 (cond2 true (sameSe (Seen.mk xd xw xb (p :: ps)) (Seen.mk xd xw xb (p :: ps))) false) ((sameSe (Seen.mk xd xw xb (p :: ps)) y) == (sameSe y (Seen.mk xd xw xb (p :: ps)))) false)) rfl rfl rfl (fun h => h) ?_
    refine rOk (d := 61) (x := vB (cond2 (cond2 true (sameSe (Seen.mk xd xw xb (p :: ps)) (Seen.mk xd xw xb (p :: ps))) false) ((sameSe (Seen.mk xd xw xb (p :: ps)) y) == (sameSe y (Seen.mk xd xw xb (p :: ps)))) false)) rfl rfl rfl ?_
    refine gOk (d := 62) (x := .agg [.sl 1 ((Seen.mk xd xw xb (p :: ps)).data.map rowSet) false, .sl 1 ((Seen.mk xd xw xb (p :: ps)).words.map rowSet) false, .sl 4 ((Seen.mk xd xw xb (p :: ps)).bus.map rqL) false, .sl 1 ((p :: ps).map rowU) false]) (g := cond2 (cond2 true (sameSe (Seen.mk xd xw xb (p :: ps)) (Seen.mk xd xw xb (p :: ps))) false) ((sameSe (Seen.mk xd xw xb (p :: ps)) y) == (sameSe y (Seen.mk xd xw xb (p :: ps)))) false) rfl rfl rfl rfl rfl rfl ?_
    refine gOk (d := 63) (x := .agg [.sl 1 ((Seen.mk xd xw xb (p :: ps)).data.map rowSet) false, .sl 1 ((Seen.mk xd xw xb (p :: ps)).words.map rowSet) false, .sl 4 ((Seen.mk xd xw xb (p :: ps)).bus.map rqL) false, .sl 1 (((p :: ps) ++ [pc]).map rowU) false]) (g := cond2 (cond2 true (sameSe (Seen.mk xd xw xb (p :: ps)) (Seen.mk xd xw xb (p :: ps))) false) ((sameSe (Seen.mk xd xw xb (p :: ps)) y) == (sameSe y (Seen.mk xd xw xb (p :: ps)))) false) rfl rfl rfl rfl rfl rfl ?_
    refine gCallS (args := [.agg [.sl 1 ((Seen.mk xd xw xb (p :: ps)).data.map rowSet) false, .sl 1 ((Seen.mk xd xw xb (p :: ps)).words.map rowSet) false, .sl 4 ((Seen.mk xd xw xb (p :: ps)).bus.map rqL) false, .sl 1 ((p :: ps).map rowU) false], .agg [.sl 1 ((Seen.mk xd xw xb (p :: ps)).data.map rowSet) false, .sl 1 ((Seen.mk xd xw xb (p :: ps)).words.map rowSet) false, .sl 4 ((Seen.mk xd xw xb (p :: ps)).bus.map rqL) false, .sl 1 (((p :: ps) ++ [pc]).map rowU) false]]) (d := 64) (x := vB (sameSe (Seen.mk xd xw xb (p :: ps)) (Seen.mk xd xw xb ((p :: ps) ++ [pc])))) (g := cond2 (cond2 true (sameSe (Seen.mk xd xw xb (p :: ps)) (Seen.mk xd xw xb (p :: ps))) false) ((sameSe (Seen.mk xd xw xb (p :: ps)) y) == (sameSe y (Seen.mk xd xw xb (p :: ps)))) false) rfl rfl rfl rfl (fun h => by first | (simp_all; done) | exact (Bool.and_eq_true_iff.1 h).1 | exact Bool.and_eq_true_iff.2 ⟨h, h⟩) rfl rfl rfl (.inl rfl) rfl (fun hg => dSame (Seen.mk xd xw xb (p :: ps)) (Seen.mk xd xw xb ((p :: ps) ++ [pc])) hx1 hm1) ?_
    refine gOkS (d := 65) (x := vB (!(sameSe (Seen.mk xd xw xb (p :: ps)) (Seen.mk xd xw xb ((p :: ps) ++ [pc]))))) (g := cond2 (cond2 true (sameSe (Seen.mk xd xw xb (p :: ps)) (Seen.mk xd xw xb (p :: ps))) false) ((sameSe (Seen.mk xd xw xb (p :: ps)) y) == (sameSe y (Seen.mk xd xw xb (p :: ps)))) false) rfl rfl rfl rfl (fun h => h) rfl rfl ?_
    refine rNeed (d := 66) (x := vB (cond2 (cond2 (cond2 true (sameSe (Seen.mk xd xw xb (p :: ps)) (Seen.mk xd xw xb (p :: ps))) false) ((sameSe (Seen.mk xd xw xb (p :: ps)) y) == (sameSe y (Seen.mk xd xw xb (p :: ps)))) false) (!(sameSe (Seen.mk xd xw xb (p :: ps)) (Seen.mk xd xw xb ((p :: ps) ++ [pc])))) false)) rfl rfl rfl (fun h => h) ?_
    refine rOk (d := 67) (x := vB (cond2 (cond2 (cond2 true (sameSe (Seen.mk xd xw xb (p :: ps)) (Seen.mk xd xw xb (p :: ps))) false) ((sameSe (Seen.mk xd xw xb (p :: ps)) y) == (sameSe y (Seen.mk xd xw xb (p :: ps)))) false) (!(sameSe (Seen.mk xd xw xb (p :: ps)) (Seen.mk xd xw xb ((p :: ps) ++ [pc])))) false)) rfl rfl rfl ?_
    refine gOk (d := 68) (x := .agg [.sl 1 ((Seen.mk xd xw xb (p :: ps)).data.map rowSet) false, .sl 1 ((Seen.mk xd xw xb (p :: ps)).words.map rowSet) false, .sl 4 ((Seen.mk xd xw xb (p :: ps)).bus.map rqL) false, .sl 1 ((p :: ps).map rowU) false]) (g := cond2 (cond2 (cond2 true (sameSe (Seen.mk xd xw xb (p :: ps)) (Seen.mk xd xw xb (p :: ps))) false) ((sameSe (Seen.mk xd xw xb (p :: ps)) y) == (sameSe y (Seen.mk xd xw xb (p :: ps)))) false) (!(sameSe (Seen.mk xd xw xb (p :: ps)) (Seen.mk xd xw xb ((p :: ps) ++ [pc])))) false) rfl rfl rfl rfl rfl rfl ?_
    refine gOk (d := 69) (x := .agg [.sl 1 (y.data.map rowSet) false, .sl 1 (y.words.map rowSet) false, .sl 4 (y.bus.map rqL) false, .sl 1 (y.pcs.map rowU) false]) (g := cond2 (cond2 (cond2 true (sameSe (Seen.mk xd xw xb (p :: ps)) (Seen.mk xd xw xb (p :: ps))) false) ((sameSe (Seen.mk xd xw xb (p :: ps)) y) == (sameSe y (Seen.mk xd xw xb (p :: ps)))) false) (!(sameSe (Seen.mk xd xw xb (p :: ps)) (Seen.mk xd xw xb ((p :: ps) ++ [pc])))) false) rfl rfl rfl rfl rfl rfl ?_
    refine gCallS (args := [.agg [.sl 1 ((Seen.mk xd xw xb (p :: ps)).data.map rowSet) false, .sl 1 ((Seen.mk xd xw xb (p :: ps)).words.map rowSet) false, .sl 4 ((Seen.mk xd xw xb (p :: ps)).bus.map rqL) false, .sl 1 ((p :: ps).map rowU) false], .agg [.sl 1 (y.data.map rowSet) false, .sl 1 (y.words.map rowSet) false, .sl 4 (y.bus.map rqL) false, .sl 1 (y.pcs.map rowU) false]]) (d := 70) (x := vB (sameSe (Seen.mk xd xw xb (p :: ps)) y)) (g := cond2 (cond2 (cond2 true (sameSe (Seen.mk xd xw xb (p :: ps)) (Seen.mk xd xw xb (p :: ps))) false) ((sameSe (Seen.mk xd xw xb (p :: ps)) y) == (sameSe y (Seen.mk xd xw xb (p :: ps)))) false) (!(sameSe (Seen.mk xd xw xb (p :: ps)) (Seen.mk xd xw xb ((p :: ps) ++ [pc])))) false) rfl rfl rfl rfl (fun h => by first | (simp_all; done) | exact (Bool.and_eq_true_iff.1 h).1 | exact Bool.and_eq_true_iff.2 ⟨h, h⟩) rfl rfl rfl (.inl rfl) rfl (fun hg => dSame (Seen.mk xd xw xb (p :: ps)) y hx1 hy1) ?_
    refine gOkS (d := 71) (x := vB (!(sameSe (Seen.mk xd xw xb (p :: ps)) y))) (g := cond2 (cond2 (cond2 true (sameSe (Seen.mk xd xw xb (p :: ps)) (Seen.mk xd xw xb (p :: ps))) false) ((sameSe (Seen.mk xd xw xb (p :: ps)) y) == (sameSe y (Seen.mk xd xw xb (p :: ps)))) false) (!(sameSe (Seen.mk xd xw xb (p :: ps)) (Seen.mk xd xw xb ((p :: ps) ++ [pc])))) false) rfl rfl rfl rfl (fun h => h) rfl rfl ?_
    refine gOkS (d := 72) (x := vB (!(sameSe (Seen.mk xd xw xb (p :: ps)) y))) (g := cond2 (cond2 (cond2 true (sameSe (Seen.mk xd xw xb (p :: ps)) (Seen.mk xd xw xb (p :: ps))) false) ((sameSe (Seen.mk xd xw xb (p :: ps)) y) == (sameSe y (Seen.mk xd xw xb (p :: ps)))) false) (!(sameSe (Seen.mk xd xw xb (p :: ps)) (Seen.mk xd xw xb ((p :: ps) ++ [pc])))) false) rfl rfl rfl rfl (fun h => h) rfl rfl ?_
    refine gOk (d := 73) (x := .agg [.sl 1 (y.data.map rowSet) false, .sl 1 (y.words.map rowSet) false, .sl 4 (y.bus.map rqL) false, .sl 1 (y.pcs.map rowU) false]) (g := (cond2 (cond2 (cond2 true (sameSe (Seen.mk xd xw xb (p :: ps)) (Seen.mk xd xw xb (p :: ps))) false) ((sameSe (Seen.mk xd xw xb (p :: ps)) y) == (sameSe y (Seen.mk xd xw xb (p :: ps)))) false) (!(sameSe (Seen.mk xd xw xb (p :: ps)) (Seen.mk xd xw xb ((p :: ps) ++ [pc])))) false) && (!(!(sameSe (Seen.mk xd xw xb (p :: ps)) y)))) rfl rfl rfl rfl rfl rfl ?_
    refine gOk (d := 74) (x := .agg [.sl 1 ((Seen.mk xd xw xb (p :: ps)).data.map rowSet) false, .sl 1 ((Seen.mk xd xw xb (p :: ps)).words.map rowSet) false, .sl 4 ((Seen.mk xd xw xb (p :: ps)).bus.map rqL) false, .sl 1 (((p :: ps) ++ [pc]).map rowU) false]) (g := (cond2 (cond2 (cond2 true (sameSe (Seen.mk xd xw xb (p :: ps)) (Seen.mk xd xw xb (p :: ps))) false) ((sameSe (Seen.mk xd xw xb (p :: ps)) y) == (sameSe y (Seen.mk xd xw xb (p :: ps)))) false) (!(sameSe (Seen.mk xd xw xb (p :: ps)) (Seen.mk xd xw xb ((p :: ps) ++ [pc])))) false) && (!(!(sameSe (Seen.mk xd xw xb (p :: ps)) y)))) rfl rfl rfl rfl rfl rfl ?_
    refine gCallS (args := [.agg [.sl 1 (y.data.map rowSet) false, .sl 1 (y.words.map rowSet) false, .sl 4 (y.bus.map rqL) false, .sl 1 (y.pcs.map rowU) false], .agg [.sl 1 ((Seen.mk xd xw xb (p :: ps)).data.map rowSet) false, .sl 1 ((Seen.mk xd xw xb (p :: ps)).words.map rowSet) false, .sl 4 ((Seen.mk xd xw xb (p :: ps)).bus.map rqL) false, .sl 1 (((p :: ps) ++ [pc]).map rowU) false]]) (d := 75) (x := vB (sameSe y (Seen.mk xd xw xb ((p :: ps) ++ [pc])))) (g := (cond2 (cond2 (cond2 true (sameSe (Seen.mk xd xw xb (p :: ps)) (Seen.mk xd xw xb (p :: ps))) false) ((sameSe (Seen.mk xd xw xb (p :: ps)) y) == (sameSe y (Seen.mk xd xw xb (p :: ps)))) false) (!(sameSe (Seen.mk xd xw xb (p :: ps)) (Seen.mk xd xw xb ((p :: ps) ++ [pc])))) false) && (!(!(sameSe (Seen.mk xd xw xb (p :: ps)) y)))) rfl rfl rfl rfl (fun h => by first | (simp_all; done) | exact (Bool.and_eq_true_iff.1 h).1 | exact Bool.and_eq_true_iff.2 ⟨h, h⟩) rfl rfl rfl (.inl rfl) rfl (fun hg => dSame y (Seen.mk xd xw xb ((p :: ps) ++ [pc])) hy1 hm1) ?_
    refine gOkS (d := 76) (x := vB (!(sameSe y (Seen.mk xd xw xb ((p :: ps) ++ [pc]))))) (g := (cond2 (cond2 (cond2 true (sameSe (Seen.mk xd xw xb (p :: ps)) (Seen.mk xd xw xb (p :: ps))) false) ((sameSe (Seen.mk xd xw xb (p :: ps)) y) == (sameSe y (Seen.mk xd xw xb (p :: ps)))) false) (!(sameSe (Seen.mk xd xw xb (p :: ps)) (Seen.mk xd xw xb ((p :: ps) ++ [pc])))) false) && (!(!(sameSe (Seen.mk xd xw xb (p :: ps)) y)))) rfl rfl rfl rfl (fun h => h) rfl rfl ?_
    refine gNeedS (d := 77) (x := vB (cond2 (!(sameSe (Seen.mk xd xw xb (p :: ps)) y)) true (!(sameSe y (Seen.mk xd xw xb ((p :: ps) ++ [pc])))))) (g := cond2 (cond2 (cond2 true (sameSe (Seen.mk xd xw xb (p :: ps)) (Seen.mk xd xw xb (p :: ps))) false) ((sameSe (Seen.mk xd xw xb (p :: ps)) y) == (sameSe y (Seen.mk xd xw xb (p :: ps)))) false) (!(sameSe (Seen.mk xd xw xb (p :: ps)) (Seen.mk xd xw xb ((p :: ps) ++ [pc])))) false) rfl rfl rfl rfl (fun h => h) rfl rfl (fun hg hc => by first | (rw [hg, hc]; rfl) | simp_all) ?_
    refine rNeed (d := 78) (x := vB (cond2 (cond2 (cond2 (cond2 true (sameSe (Seen.mk xd xw xb (p :: ps)) (Seen.mk xd xw xb (p :: ps))) false) ((sameSe (Seen.mk xd xw xb (p :: ps)) y) == (sameSe y (Seen.mk xd xw xb (p :: ps)))) false) (!(sameSe (Seen.mk xd xw xb (p :: ps)) (Seen.mk xd xw xb ((p :: ps) ++ [pc])))) false) (cond2 (!(sameSe (Seen.mk xd xw xb (p :: ps)) y)) true (!(sameSe y (Seen.mk xd xw xb ((p :: ps) ++ [pc]))))) false)) rfl rfl rfl (fun h => h) ?_
    refine rOk (d := 6) (x := vB (cond2 (cond2 (cond2 (cond2 true (sameSe (Seen.mk xd xw xb (p :: ps)) (Seen.mk xd xw xb (p :: ps))) false) ((sameSe (Seen.mk xd xw xb (p :: ps)) y) == (sameSe y (Seen.mk xd xw xb (p :: ps)))) false) (!(sameSe (Seen.mk xd xw xb (p :: ps)) (Seen.mk xd xw xb ((p :: ps) ++ [pc])))) false) (cond2 (!(sameSe (Seen.mk xd xw xb (p :: ps)) y)) true (!(sameSe y (Seen.mk xd xw xb ((p :: ps) ++ [pc]))))) false)) rfl rfl rfl ?_
    refine rEnd (n' := 79) rfl ?_
    refine cRet ?_
    exact finTA rfl trivial rfl (congrArg (fun z => AV.v (.bool z)) (same_law (Seen.mk xd xw xb (p :: ps)) y (Seen.mk xd xw xb ((p :: ps) ++ [pc])) (by simp)))

theorem dWatchSame (a b : Co) (pc : Nat) (ha : a.okT) (hb : b.okT) : DCall C0 7 [.agg (coL a), .agg (coL b), .v (.int .u32 (pc : Int))] (.v (.bool true)) := by
  have sa : seeOk a (seeP a 0) := fun h1 h2 => ⟨see_ok a 0 h1 h2, dSee a 0 (ha.w h1 h2)⟩
  have sb : seeOk b (seeP b 0) := fun h1 h2 => ⟨see_ok b 0 h1 h2, dSee b 0 (hb.w h1 h2)⟩
  have hp : a.bus.length ≤ 50 → a.retired.length ≤ 200 → (seeP a 0).pcs.length ≤ 200 := fun _ h2 => by show ((a.retired.drop (maxI 0).toNat).map (·.pc)).length ≤ _; rw [List.length_map, List.length_drop]; omega
  obtain ⟨x, hx⟩ : ∃ x, seeP a 0 = x := ⟨_, rfl⟩
  rw [hx] at sa hp
  obtain ⟨xd, xw, xb, xp⟩ := x
  match xp, sa, hp with
  | [], sa, hp => exact dSameN a b pc xd xw xb (seeP b 0) ha.bus ha.ret hb.bus hb.ret dAlive sa hp sb
  | p :: ps, sa, hp => exact dSameC a b pc xd xw xb p ps (seeP b 0) ha.bus ha.ret hb.bus hb.ret dAlive sa hp sb

end Go.Proofs.Ytckjihpdjefpgaa
