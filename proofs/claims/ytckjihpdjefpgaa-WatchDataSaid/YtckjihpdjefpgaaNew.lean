/- cache.New, guess.New: walks on the second machine. -/
import Derived.Test.YtckjihpdjefpgaaCache
namespace Go.Proofs.Ytckjihpdjefpgaa
open Go.RowKit

theorem Sub.sl {rs : Nat} {rows rows' : List (List AV)} {clip : Bool} (hl : rows.length = rows'.length) (hw : ∀ (i : Nat) row row', rows[i]? = some row → rows'[i]? = some row' → row.length = row'.length ∧ ∀ (j : Nat) a b, row[j]? = some a → row'[j]? = some b → Sub a b) : Sub (.sl rs rows clip) (.sl rs rows' clip) := fun S w v h => by
  cases h with
  | sl _ _ _ A c b o u hc hm hcl hrs hA hv h1 hr =>
    rw [hl]
    have back : ∀ (i : Nat) row', rows'[i]? = some row' → ∃ row, rows[i]? = some row := fun i row' h => ⟨_, List.getElem?_eq_getElem (by rw [hl]; exact (List.getElem?_eq_some_iff.1 h).1)⟩
    have back2 : ∀ (i : Nat) row row' (j : Nat) b, rows[i]? = some row → rows'[i]? = some row' → row'[j]? = some b → ∃ a, row[j]? = some a := fun i row row' j b h h' hj => ⟨_, List.getElem?_eq_getElem (by rw [(hw i row row' h h').1]; exact (List.getElem?_eq_some_iff.1 hj).1)⟩
    refine .sl rs rows' clip A c b o u (hl ▸ hc) hm (fun e => (hcl e).trans hl) (fun row' hr' => ?_) (fun h0 => hA (by omega)) (fun i row' j a hi hj => ?_) h1 fun i row' j a hi hj => ?_
    · obtain ⟨i, hi, rfl⟩ := List.getElem_of_mem hr'
      obtain ⟨row, hrow⟩ := back i _ (List.getElem?_eq_getElem hi)
      rw [← (hw i row _ hrow (List.getElem?_eq_getElem hi)).1]
      exact hrs row (List.mem_of_getElem? hrow)
    · obtain ⟨row, hrow⟩ := back i row' hi
      obtain ⟨x, hx⟩ := back2 i row row' j a hrow hi hj
      exact hv i row j x hrow hx
    · obtain ⟨row, hrow⟩ := back i row' hi
      obtain ⟨x, hx⟩ := back2 i row row' j a hrow hi hj
      exact (hw i row row' hrow hi).2 j x a hx hj S w _ (hr i row j x hrow hx)
def SubL : List AV → List AV → Prop
  | [], [] => True
  | a :: xs, b :: ys => Sub a b ∧ SubL xs ys
  | _, _ => False
theorem SubL.get : ∀ {xs ys : List AV}, SubL xs ys → xs.length = ys.length ∧ ∀ (i : Nat) a b, xs[i]? = some a → ys[i]? = some b → Sub a b
  | [], [], _ => ⟨rfl, fun i a b h => by simp at h⟩
  | x :: xs, y :: ys, h => by
    obtain ⟨h1, h2⟩ := SubL.get h.2
    refine ⟨by simp [h1], fun i a b ha hb => ?_⟩
    cases i with
    | zero => simp at ha hb; subst ha; subst hb; exact h.1
    | succ i => exact h2 i a b (by simpa using ha) (by simpa using hb)
  | [], _ :: _, h => h.elim
  | _ :: _, [], h => h.elim
theorem Sub.agg {xs ys : List AV} (h : SubL xs ys) : Sub (.agg xs) (.agg ys) := fun S w v hv => by
  cases hv with
  | agg _ vs hl h1 hr =>
    refine .agg ys vs (h.get.1 ▸ hl) h1 fun i b u p q => ?_
    have hi : i < xs.length := by rw [h.get.1]; exact (List.getElem?_eq_some_iff.1 p).1
    exact h.get.2 i xs[i] b (List.getElem?_eq_getElem hi) p S w u (hr i _ u (List.getElem?_eq_getElem hi) q)
theorem Sub.tup {xs ys : List AV} (h : SubL xs ys) : Sub (.tup xs) (.tup ys) := fun S w v hv => by
  cases hv with
  | tup _ vs hl hr =>
    refine .tup ys vs (h.get.1 ▸ hl) fun i b u p q => ?_
    have hi : i < xs.length := by rw [h.get.1]; exact (List.getElem?_eq_some_iff.1 p).1
    exact h.get.2 i xs[i] b (List.getElem?_eq_getElem hi) p S w u (hr i _ u (List.getElem?_eq_getElem hi) q)
theorem Sub.clip (rs : Nat) (rows : List (List AV)) (c : Bool) : Sub (.sl rs rows c) (.sl rs rows false) := fun S w v h => by
  cases h with
  | sl _ _ _ A c0 b o u hc hm hcl hrs hA hw h1 hr => exact .sl rs rows false A c0 b o u hc hm (fun h => by cases h) hrs hA hw h1 hr
theorem sub_sets (n : Nat) : Sub (.sl 1 (List.replicate n [nilS]) false) (.sl 1 (List.replicate n (rowSet [])) false) := by
  refine Sub.sl (by simp) fun i row row' h h' => ?_
  have e1 := List.eq_of_mem_replicate (List.mem_of_getElem? h)
  have e2 := List.eq_of_mem_replicate (List.mem_of_getElem? h')
  subst e1; subst e2
  refine ⟨rfl, fun j a b ha hb => ?_⟩
  cases j with
  | zero => injection ha with ha; injection hb with hb; subst ha; subst hb; exact sub_nil 3 false
  | succ j => simp at ha
abbrev gsL (x : Gs) : List AV := [.v (.int .u32 (x.pc : Int)), .v (.int .u32 (x.next : Int))]
abbrev guL (g : Gu) : List AV := [.sl 2 (g.slots.map gsL) false, .v (.int .u32 (g.hist : Int)), .sl 1 (g.rets.map rowU) false]

set_option maxRecDepth 100000 in
set_option maxHeartbeats 4000000 in
theorem dNewCa (sets ways : Int) : DCall C0 87 [vI sets, vI ways] (.agg (caL (newCa sets ways) false)) := by
  refine DCall.intro c0Ok Try.func87 rfl rfl (by kernel_rfl) rfl ?_
  obtain ⟨L, hLe, hL, hL1⟩ : ∃ L : Nat, clampI sets 1 4 = (L : Int) ∧ L ≤ 4 ∧ 1 ≤ L := ⟨(clampI sets 1 4).toNat, by unfold clampI; (repeat' split) <;> omega, by unfold clampI; (repeat' split) <;> omega, by unfold clampI; (repeat' split) <;> omega⟩
  refine cSeq ?_
  refine cReg rfl ?_
  refine rFx (d := 4) (x := .ptr 0 0) (h' := upd _ 0 (some (.box [vI 0, .sl 0 ([]) true]))) rfl rfl (rfl) (trivial) ?_
  refine rEnd (n' := 1) rfl ?_
  refine cSeq ?_
  refine cReg rfl ?_
  refine rOk (d := 5) (x := vI sets) rfl rfl rfl ?_
  refine rOk (d := 6) (x := vI (if 1 > sets then 1 else sets)) rfl rfl rfl ?_
  refine rOk (d := 7) (x := vN L) rfl rfl (congrArg (fun z : Int => Res.ok (.v (.int .i64 z))) hLe) ?_
  refine rOk (d := 0) (x := vN L) rfl rfl rfl ?_
  refine rEnd (n' := 5) rfl ?_
  refine cSeq ?_
  refine cSeq ?_
  refine cReg rfl ?_
  refine rOk (d := 8) (x := vN L) rfl rfl rfl ?_
  refine rOk (d := 9) (x := vB (L == 3)) rfl rfl (okB (eqN _ _)) ?_
  refine rEnd (n' := 7) rfl ?_
  refine cCond (v := L == 3) rfl (fun h1 => ?_) (fun h1 => ?_)
  · skip
    refine cReg rfl ?_
    refine rOk (d := 0) (x := vI 2) rfl rfl rfl ?_
    refine rEnd (n' := 8) rfl ?_
    refine cSeq ?_
    refine cReg rfl ?_
    refine rOk (d := 10) (x := vI ways) rfl rfl rfl ?_
    refine rOk (d := 11) (x := vI (if 1 > ways then 1 else ways)) rfl rfl rfl ?_
    refine rOk (d := 12) (x := vI (if 2 < (if 1 > ways then 1 else ways) then 2 else (if 1 > ways then 1 else ways))) rfl rfl rfl ?_
    refine rOk (d := 13) (x := vI 2) rfl rfl rfl ?_
    refine rFx (d := 14) (x := .osl 12 0 2 false) (h' := upd _ 12 (some (.arr (List.replicate 2 [.sl 0 ([]) true]) 1))) rfl rfl (rfl) (⟨by decide, by decide, by decide⟩) ?_
    refine rOk (d := 15) (x := .agg [vI (if 2 < (if 1 > ways then 1 else ways) then 2 else (if 1 > ways then 1 else ways)), .osl 12 0 2 false]) rfl rfl rfl ?_
    refine rFx0 (h' := upd _ 0 (some (.box [vI (if 2 < (if 1 > ways then 1 else ways) then 2 else (if 1 > ways then 1 else ways)), .osl 12 0 2 false]))) rfl rfl (rfl) (trivial) ?_
    refine rEnd (n' := 15) rfl ?_
    refine cRet ?_
    have e : (newCa sets ways).sets = List.replicate 2 [] := by show List.replicate (if clampI sets 1 4 = 3 then 2 else clampI sets 1 4).toNat [] = _; rw [hLe]; rw [if_pos (by have : L = 3 := (by simpa using h1); omega)]; rfl
    refine ⟨_, rfl, ⟨trivial, by show 0 + 2 ≤ (List.replicate 2 [nilS]).length; rw [List.length_replicate]; omega, trivial⟩, rfl, Sub.agg ⟨Sub.refl _, ?_, trivial⟩⟩
    show Sub (.sl 1 (List.take 2 (List.drop 0 (List.replicate 2 [nilS]))) false) (.sl 1 ((newCa sets ways).sets.map rowSet) false)
    rw [e, List.drop_zero, List.take_of_length_le (by rw [List.length_replicate]; exact Nat.le_refl _), List.map_replicate]
    exact sub_sets 2
  · skip
    refine cSkip ?_
    refine cSeq ?_
    refine cReg rfl ?_
    refine rOk (d := 10) (x := vI ways) rfl rfl rfl ?_
    refine rOk (d := 11) (x := vI (if 1 > ways then 1 else ways)) rfl rfl rfl ?_
    refine rOk (d := 12) (x := vI (if 2 < (if 1 > ways then 1 else ways) then 2 else (if 1 > ways then 1 else ways))) rfl rfl rfl ?_
    refine rOk (d := 13) (x := vN L) rfl rfl rfl ?_
    refine rFx (d := 14) (x := .osl 11 0 L false) (h' := upd _ 11 (some (.arr (List.replicate L [.sl 0 ([]) true]) 1))) rfl rfl (rfl) (⟨Int.natCast_nonneg _, Int.le_refl _, by (first | show ((L : Nat) : Int) ≤ 2000000 | refine .inl (show ((L : Nat) : Int) ≤ 2000000 from ?_)); have := hL; omega⟩) ?_
    refine rOk (d := 15) (x := .agg [vI (if 2 < (if 1 > ways then 1 else ways) then 2 else (if 1 > ways then 1 else ways)), .osl 11 0 L false]) rfl rfl rfl ?_
    refine rFx0 (h' := upd _ 0 (some (.box [vI (if 2 < (if 1 > ways then 1 else ways) then 2 else (if 1 > ways then 1 else ways)), .osl 11 0 L false]))) rfl rfl (rfl) (trivial) ?_
    refine rEnd (n' := 14) rfl ?_
    refine cRet ?_
    have e : (newCa sets ways).sets = List.replicate L [] := by show List.replicate (if clampI sets 1 4 = 3 then 2 else clampI sets 1 4).toNat [] = _; rw [hLe]; rw [if_neg (by have : ¬ L = 3 := (by simpa using h1); omega)]; rfl
    refine ⟨_, rfl, ⟨trivial, by show 0 + L ≤ (List.replicate L [nilS]).length; rw [List.length_replicate]; omega, trivial⟩, rfl, Sub.agg ⟨Sub.refl _, ?_, trivial⟩⟩
    show Sub (.sl 1 (List.take L (List.drop 0 (List.replicate L [nilS]))) false) (.sl 1 ((newCa sets ways).sets.map rowSet) false)
    rw [e, List.drop_zero, List.take_of_length_le (by rw [List.length_replicate]; exact Nat.le_refl _), List.map_replicate]
    exact sub_sets L
set_option maxRecDepth 100000 in
set_option maxHeartbeats 4000000 in
theorem dNewGu  : DCall C0 89 [] (.agg (guL newGu)) := by
  refine DCall.intro c0Ok Try.func89 rfl rfl (by kernel_rfl) rfl ?_
  refine cSeq ?_
  refine cReg rfl ?_
  refine rFx (d := 0) (x := .ptr 0 0) (h' := upd _ 0 (some (.box [.sl 0 ([]) true, .v (.int .u32 0), .sl 0 ([]) true]))) rfl rfl (rfl) (trivial) ?_
  refine rEnd (n' := 1) rfl ?_
  refine cSeq ?_
  refine cReg rfl ?_
  refine rFx (d := 1) (x := .osl 1 0 8 false) (h' := upd _ 1 (some (.arr (List.replicate 8 [.v (.int .u32 0), .v (.int .u32 0)]) 2))) rfl rfl (rfl) (⟨by decide, by decide, by decide⟩) ?_
  refine rOk (d := 2) (x := .agg [.osl 1 0 8 false, .v (.int .u32 0), .sl 0 ([]) true]) rfl rfl rfl ?_
  refine rFx0 (h' := upd _ 0 (some (.box [.osl 1 0 8 false, .v (.int .u32 0), .sl 0 ([]) true]))) rfl rfl (rfl) (trivial) ?_
  refine rEnd (n' := 4) rfl ?_
  refine cRet ?_
  refine ⟨_, rfl, ⟨by show 0 + 8 ≤ _; decide, trivial, trivial, trivial⟩, rfl, Sub.agg ⟨Sub.refl _, Sub.refl _, sub_nil 1 false, trivial⟩⟩
abbrev ftL (x : Ft) : List AV := [.v (.int .u32 (x.pc : Int)), .v (.int .u32 (x.guess : Int))]
abbrev ptL (x : Pt) : List AV := [.v (.int .u32 (x.addr : Int)), .v (.string x.data)]
abbrev enL (e : Ent) : List AV := [.v (.int .i64 e.no), .v (.int .u32 (e.pc : Int)), .v (.int .i64 e.i.op), .v (.int .i64 e.i.rd), .v (.int .i64 e.i.rs1), .v (.int .i64 e.i.rs2), .v (.int .u32 (e.i.imm : Int)), .v (.int .u32 (e.guess : Int)), .v (.int .i64 e.is), .v (.int .i64 e.left), .v (.int .u32 (e.value : Int)), .v (.int .u32 (e.next : Int)), .v (.int .u32 (e.addr : Int)), .v (.int .i64 e.halt), .v (.int .i64 e.took), .v (.bool e.known), .v (.bool e.filled)]
abbrev coL (c : Co) : List AV := [.v (.int .i64 c.conf.mode), .v (.int .i64 c.conf.width), .v (.int .i64 c.conf.rob), .v (.int .i64 c.conf.queue), .v (.int .i64 c.conf.stores), .v (.int .i64 c.conf.slots), .v (.int .i64 c.conf.sets), .v (.int .i64 c.conf.ways), .sl 1 (c.conf.lat.map rowI) false, .v (.bool c.conf.tables), .sl 1 (c.conf.tape.map rowU) false, .sl 1 (c.prog.map rowU) false, .v (.int .i64 c.cycle), .v (.int .u32 (c.r 0 : Int)), .v (.int .u32 (c.r 1 : Int)), .v (.int .u32 (c.r 2 : Int)), .v (.int .u32 (c.r 3 : Int)), .v (.int .u32 (c.r 4 : Int)), .v (.int .u32 (c.r 5 : Int)), .v (.int .u32 (c.r 6 : Int)), .v (.int .u32 (c.r 7 : Int)), .v (.int .u32 (c.r 8 : Int)), .v (.int .u32 (c.r 9 : Int)), .v (.int .u32 (c.r 10 : Int)), .v (.int .u32 (c.r 11 : Int)), .v (.int .u32 (c.r 12 : Int)), .v (.int .u32 (c.r 13 : Int)), .v (.int .u32 (c.r 14 : Int)), .v (.int .u32 (c.r 15 : Int)), .v (.int .u32 (c.r 16 : Int)), .v (.int .u32 (c.r 17 : Int)), .v (.int .u32 (c.r 18 : Int)), .v (.int .u32 (c.r 19 : Int)), .v (.int .u32 (c.r 20 : Int)), .v (.int .u32 (c.r 21 : Int)), .v (.int .u32 (c.r 22 : Int)), .v (.int .u32 (c.r 23 : Int)), .v (.int .u32 (c.r 24 : Int)), .v (.int .u32 (c.r 25 : Int)), .v (.int .u32 (c.r 26 : Int)), .v (.int .u32 (c.r 27 : Int)), .v (.int .u32 (c.r 28 : Int)), .v (.int .u32 (c.r 29 : Int)), .v (.int .u32 (c.r 30 : Int)), .v (.int .u32 (c.r 31 : Int)), .v (.int .u32 (c.fetch : Int)), .v (.bool c.stop), .sl 2 (c.fetched.map ftL) false, .sl 17 (c.rob.map enL) false, .v (.int .i64 c.next), .sl 2 (c.stores.map ptL) false, .v (.int .i64 c.data.ways), .sl 1 (c.data.sets.map rowSet) false, .v (.int .i64 c.words.ways), .sl 1 (c.words.sets.map rowSet) false, .sl 4 (c.bus.map rqL) false, .v (.int .i64 c.asked), .v (.int .i64 c.guessed), .v (.string c.mem), .sl 2 (c.guess.slots.map gsL) false, .v (.int .u32 (c.guess.hist : Int)), .sl 1 (c.guess.rets.map rowU) false, .v (.int .i64 c.halt), .sl 9 (c.retired.map spL) false]
theorem DCall.sub {C : Ctx} {f : FuncId} {args : List AV} {r r' : AV} (h : DCall C f args r) (k : Sub r r') : DCall C f args r' := ⟨h.1, fun S w vs a b c => (h.2 S w vs a b c).mono fun e w' ⟨v, p, q, s⟩ => ⟨v, p, q, k _ _ _ s⟩⟩
set_option maxRecDepth 100000 in
set_option maxHeartbeats 4000000 in
theorem dCloneN (k : Nat) : DCall C0 86 [.v (.slice none 0 k)] (.sl 0 [] true) := by
  refine DCall.intro c0Ok Try.func86 rfl rfl (by kernel_rfl) rfl ?_
  refine cSeq ?_
  refine cReg rfl ?_
  refine rOk (d := 2) (x := .sl 0 ([]) true) rfl rfl rfl ?_
  refine rEnd (n' := 1) rfl ?_
  refine cSeq ?_
  refine cSeq ?_
  refine cReg rfl ?_
  refine rOk (d := 3) (x := .v (.slice none 0 k)) rfl rfl rfl ?_
  refine rOk (d := 4) (x := vB true) rfl rfl rfl ?_
  refine rEnd (n' := 3) rfl ?_
  refine cCond (v := true) rfl (fun _ => ?_) (fun h => by cases h)
  refine cSeq ?_
  refine cReg rfl ?_
  refine rOk (d := 2) (x := .sl 0 ([]) true) rfl rfl rfl ?_
  refine rEnd (n' := 4) rfl ?_
  refine cRet ?_
  exact finTA rfl trivial rfl rfl
theorem run_append_emp {P : Program} {w : World} (t ty e : TypeId) (i : TypeInfo) (ht : P.underlying t = some (.slice e)) (hi : P.info? e = some i) (A0 : Option Addr) (c0 : Nat) (a : Addr) (k : Nat) :
    (Builtin.append_ #[t, t] ty #[.slice A0 0 c0, .slice (some a) 0 k]).run P w = .ok (.slice A0 0 c0) w := by
  have hl : (loadCells a 0).run P w = .ok #[] w := rfl
  cases A0 <;> simp [Builtin.append_, run_underlying ht, sizeOf, typeInfo, hi, Builtin.lenOf, Builtin.firstCells, storeCells, hl]
theorem wpList_append_emp {P : Program} {w : World} {ops : Array Oper} {rest : List Oper} {o : Oper} {a : Act} {Q : Exit → Act → World → Prop} (hgd : o.guard = none) (s x : Operand) (t : TypeId)
    (ho : o.op = .call { callee := .builtin .append, args := #[s, x], argTypes := #[t, t] }) (e : TypeId) (i : TypeInfo) (ht : P.underlying t = some (.slice e)) (hi : P.info? e = some i)
    (A0 : Option Addr) (c0 : Nat) (b : Addr) (k : Nat) (hs : a.eval s = .slice A0 0 c0) (hx : a.eval x = .slice (some b) 0 k)
    (h : wpList P ops Q rest (a.put o.dst (.slice A0 0 c0)) w) : wpList P ops Q (o :: rest) a w := by
  refine wpList_plain hgd fun K hK => ?_
  have hrun := run_append_emp (P := P) (w := w) t o.type e i ht hi A0 c0 b k
  unfold Oper.wp
  simp [execOp, ho, resolve, invoke, builtin, hs, hx, hrun, Result.andThen]
  exact hK _ _ h
set_option maxRecDepth 100000 in
theorem clone0 (a : Addr) (k : Nat) (w : World) : Calls Try.prog 86 #[.slice (some a) 0 k] w fun e w' => ∃ v, e = .returned v ∧ Below w.heap.size w w' ∧ ∃ A c, v = .slice A 0 c ∧ c ≤ maxLen := by
  obtain ⟨i0, z0, hi, -⟩ := (c0Ok.ty 22 _ rfl).info
  go_enter Try.func86, Try.ntmps86
  have hb : Sem.run Try.prog (binOp .eql 42 (.slice (some a) 0 k) (.slice none 0 0)) w = .ok (.bool false) w := by
    have e1 : (Op.equal 42 (.slice (some a) 0 k) (.slice none 0 0)).run Try.prog w = .ok (some a).isNone w := equalIn_nil Try.prog w 9999 _ 22 (c0Ok.ty 42 _ rfl).kd _ _ _
    simp only [binOp, Sem.run_bind, e1, Result.andThen_ok]; rfl
  go_wp2_with (first | (rw [hb]; simp only [Result.andThen_ok, Oper.upon]) | (at_builtin; refine wpList_append_emp rfl (.tmp 5) (.tmp 6) 42 rfl 22 i0 (c0Ok.ty 42 _ rfl).kd hi _ _ _ _ rfl rfl ?_))
  go_ret
  exact ⟨_, rfl, (Below.refl _ _).alloc (Nat.le_refl _) _, _, _, rfl, Nat.zero_le _⟩
set_option maxRecDepth 100000 in
set_option maxHeartbeats 4000000 in
theorem dClone1 (x : List AV) (xs : List (List AV)) (ck : Bool) (hl : (x :: xs).length ≤ 2000000) : DCall C0 86 [.sl 1 (x :: xs) ck] (.sl 1 (x :: xs) false) := by
  refine DCall.intro c0Ok Try.func86 rfl rfl (by kernel_rfl) rfl ?_
  refine cSeq ?_
  refine cReg rfl ?_
  refine rOk (d := 2) (x := .sl 0 ([]) true) rfl rfl rfl ?_
  refine rEnd (n' := 1) rfl ?_
  refine cSeq ?_
  refine cSeq ?_
  refine cReg rfl ?_
  refine rOk (d := 3) (x := .sl 1 (x :: xs) ck) rfl rfl rfl ?_
  refine rOk (d := 4) (x := vB false) rfl rfl rfl ?_
  refine rEnd (n' := 3) rfl ?_
  refine cCond (v := false) rfl (fun h => by cases h) (fun _ => ?_)
  refine cSkip ?_
  refine cSeq ?_
  refine cReg rfl ?_
  refine rOk (d := 5) (x := .sl 1 ([]) true) rfl rfl rfl ?_
  refine rOk (d := 6) (x := .sl 1 (x :: xs) ck) rfl rfl rfl ?_
  refine rFx (d := 7) (x := .osl 5 0 (0 + (x :: xs).length) false) (h' := upd _ 5 (some (.arr (([]) ++ (x :: xs)) 1))) rfl rfl (rfl) (⟨by first | (exact Nat.succ_pos _) | (simp only [List.length_nil, Nat.zero_add]; exact hl) | (simp only [List.length_nil, Nat.zero_add]; exact .inl hl), by first | (exact Nat.succ_pos _) | (simp only [List.length_nil, Nat.zero_add]; exact hl), trivial, trivial⟩) ?_
  refine rOk (d := 2) (x := .osl 5 0 (0 + (x :: xs).length) false) rfl rfl rfl ?_
  refine rEnd (n' := 7) rfl ?_
  refine cRet ?_
  refine ⟨_, rfl, (by show 0 + (0 + (x :: xs).length) ≤ (x :: xs).length; omega), rfl, ?_⟩
  show Sub (.sl 1 (List.take (0 + (x :: xs).length) (List.drop 0 ([] ++ (x :: xs)))) false) _
  rw [List.drop_zero, List.nil_append, Nat.zero_add, List.take_of_length_le (Nat.le_refl _)]
  exact Sub.refl _
theorem dClone (rows : List (List AV)) (ck : Bool) (hl : rows.length ≤ 2000000) : DCall C0 86 [.sl 1 rows ck] (.sl 1 rows false) := by
  match rows, hl with
  | x :: xs, hl => exact dClone1 x xs ck hl
  | [], _ =>
    refine ⟨(dCloneN 0).1, fun S w vs hS hG hr => ?_⟩
    match vs, hr with
    | [], hr => simp [RepL] at hr
    | _ :: _ :: _, hr => simp [RepL] at hr
    | [v], hr =>
      have h0 := hr.2 0 _ v rfl rfl
      cases h0 with
      | sl _ _ _ A c b o u hc hm hcl hrs hA hw h1 h' =>
        cases A with
        | none => exact ((dCloneN c).sub (sub_nil 1 false)).2 S w _ hS hG (RepL.cons (.v _) (RepL.nil _ _ _))
        | some a => 
          exact (clone0 a c w).mono fun e w' ⟨v, h1, h2, A, c', h3, h4⟩ => ⟨v, h1, h2, h3 ▸ .sl 1 [] false A c' 0 0 (fun _ _ => .bool false) (Nat.zero_le _) h4 (fun h => by cases h) (fun _ h => by cases h) (fun h => absurd h (Nat.lt_irrefl 0)) (fun i row j a h => by simp at h) (fun _ _ => rfl) fun i row j a h => by simp at h⟩
def newCo (c : Cf) (prog : List Nat) (m : ByteArray) : Co :=
  { conf := cleanCf c, prog := prog.take (min prog.length 64), cycle := 0, r := fun _ => 0, fetch := 0, stop := false, fetched := [], rob := [], next := 1, stores := [], data := newCa (cleanCf c).sets (cleanCf c).ways, words := newCa (cleanCf c).sets (cleanCf c).ways, bus := [], asked := 0, guessed := 0, mem := cleanP m, guess := newGu, halt := 0, retired := [] }
set_option maxRecDepth 100000 in
set_option maxHeartbeats 4000000 in
theorem dNewCo (c : Cf) (prog : List Nat) (m : ByteArray) (hok : c.ok) (hl : prog.length ≤ 2000000) : DCall C0 51 [.agg (cfL c false false), .sl 1 (prog.map rowU) false, .v (.string m)] (.agg (coL (newCo c prog m))) := by
  refine DCall.intro c0Ok Try.func51 rfl rfl (by kernel_rfl) rfl ?_
  refine cSeq ?_
  refine cReg rfl ?_
  refine rFx (d := 3) (x := .ptr 0 0) (h' := upd _ 0 (some (.box [vI c.mode, vI c.width, vI c.rob, vI c.queue, vI c.stores, vI c.slots, vI c.sets, vI c.ways, .sl 1 (c.lat.map rowI) false, vB c.tables, .sl 1 (c.tape.map rowU) false]))) rfl rfl (rfl) (trivial) ?_
  refine rFx (d := 6) (x := .ptr 1 0) (h' := upd _ 1 (some (.box [vI 0, vI 0, vI 0, vI 0, vI 0, vI 0, vI 0, vI 0, .sl 0 ([]) true, vB false, .sl 0 ([]) true, .sl 0 ([]) true, vI 0, .v (.int .u32 0), .v (.int .u32 0), .v (.int .u32 0), .v (.int .u32 0), .v (.int .u32 0), .v (.int .u32 0), .v (.int .u32 0), .v (.int .u32 0), .v (.int .u32 0), .v (.int .u32 0), .v (.int .u32 0), .v (.int .u32 0), .v (.int .u32 0), .v (.int .u32 0), .v (.int .u32 0), .v (.int .u32 0), .v (.int .u32 0), .v (.int .u32 0), .v (.int .u32 0), .v (.int .u32 0), .v (.int .u32 0), .v (.int .u32 0), .v (.int .u32 0), .v (.int .u32 0), .v (.int .u32 0), .v (.int .u32 0), .v (.int .u32 0), .v (.int .u32 0), .v (.int .u32 0), .v (.int .u32 0), .v (.int .u32 0), .v (.int .u32 0), .v (.int .u32 0), vB false, .sl 0 ([]) true, .sl 0 ([]) true, vI 0, .sl 0 ([]) true, vI 0, .sl 0 ([]) true, vI 0, .sl 0 ([]) true, .sl 0 ([]) true, vI 0, vI 0, .v (.string (⟨#[]⟩ : ByteArray)), .sl 0 ([]) true, .v (.int .u32 0), .sl 0 ([]) true, vI 0, .sl 0 ([]) true]))) rfl rfl (rfl) (trivial) ?_
  refine rEnd (n' := 2) rfl ?_
  refine cSeq ?_
  refine cReg rfl ?_
  refine rOk (d := 7) (x := .agg [vI c.mode, vI c.width, vI c.rob, vI c.queue, vI c.stores, vI c.slots, vI c.sets, vI c.ways, .sl 1 (c.lat.map rowI) false, vB c.tables, .sl 1 (c.tape.map rowU) false]) rfl rfl rfl ?_
  refine rCall (args := [.agg [vI c.mode, vI c.width, vI c.rob, vI c.queue, vI c.stores, vI c.slots, vI c.sets, vI c.ways, .sl 1 (c.lat.map rowI) false, vB c.tables, .sl 1 (c.tape.map rowU) false]]) (d := 8) (x := .agg [vI ((cleanCf c).mode), vI ((cleanCf c).width), vI ((cleanCf c).rob), vI ((cleanCf c).queue), vI ((cleanCf c).stores), vI ((cleanCf c).slots), vI ((cleanCf c).sets), vI ((cleanCf c).ways), .sl 1 ((cleanCf c).lat.map rowI) false, vB ((cleanCf c).tables), .sl 1 ((cleanCf c).tape.map rowU) false]) rfl rfl rfl rfl (.inl rfl) rfl (dCleanCf c false false hok) ?_
  refine rFx0 (h' := upd _ 0 (some (.box [vI ((cleanCf c).mode), vI ((cleanCf c).width), vI ((cleanCf c).rob), vI ((cleanCf c).queue), vI ((cleanCf c).stores), vI ((cleanCf c).slots), vI ((cleanCf c).sets), vI ((cleanCf c).ways), .sl 1 ((cleanCf c).lat.map rowI) false, vB ((cleanCf c).tables), .sl 1 ((cleanCf c).tape.map rowU) false]))) rfl rfl (rfl) (trivial) ?_
  refine rEnd (n' := 5) rfl ?_
  refine cSeq ?_
  refine cReg rfl ?_
  refine rOk (d := 9) (x := .agg [vI ((cleanCf c).mode), vI ((cleanCf c).width), vI ((cleanCf c).rob), vI ((cleanCf c).queue), vI ((cleanCf c).stores), vI ((cleanCf c).slots), vI ((cleanCf c).sets), vI ((cleanCf c).ways), .sl 1 ((cleanCf c).lat.map rowI) false, vB ((cleanCf c).tables), .sl 1 ((cleanCf c).tape.map rowU) false]) rfl rfl rfl ?_
  refine rOk (d := 10) (x := .sl 1 (prog.map rowU) false) rfl rfl rfl ?_
  refine rOk (d := 11) (x := .sl 1 (prog.map rowU) false) rfl rfl rfl ?_
  refine rOk (d := 12) (x := vN prog.length) rfl rfl (lenMap rowU prog) ?_
  refine rOk (d := 13) (x := vN (min prog.length 64)) rfl rfl (minN64 prog.length 64) ?_
  refine rNeed (d := 14) (x := .sl 1 (List.drop 0 (List.take (min prog.length 64) (prog.map rowU))) false) rfl rfl rfl (⟨Int.le_refl _, by show (0 : Int) ≤ ((min prog.length 64 : Nat) : Int); omega, by show ((min prog.length 64 : Nat) : Int) ≤ (((prog.map rowU).length : Nat) : Int); rw [List.length_map]; omega⟩) ?_
  refine rCall (args := [.sl 1 (List.drop 0 (List.take (min prog.length 64) (prog.map rowU))) false]) (d := 15) (x := .sl 1 (List.drop 0 (List.take (min prog.length 64) (prog.map rowU))) false) rfl rfl rfl rfl (.inl rfl) rfl (dClone (List.drop 0 (List.take (min prog.length 64) (prog.map rowU))) _ (by rw [List.length_drop, List.length_take, List.length_map]; omega)) ?_
  refine rOk (d := 16) (x := .ptr 0 6) rfl rfl rfl ?_
  refine rOk (d := 17) (x := vI ((cleanCf c).sets)) rfl rfl rfl ?_
  refine rOk (d := 18) (x := .ptr 0 7) rfl rfl rfl ?_
  refine rOk (d := 19) (x := vI ((cleanCf c).ways)) rfl rfl rfl ?_
  refine rCall (args := [vI ((cleanCf c).sets), vI ((cleanCf c).ways)]) (d := 20) (x := .agg [vI ((newCa (cleanCf c).sets (cleanCf c).ways).ways), .sl 1 ((newCa (cleanCf c).sets (cleanCf c).ways).sets.map rowSet) false]) rfl rfl rfl rfl (.inl rfl) rfl (dNewCa (cleanCf c).sets (cleanCf c).ways) ?_
  refine rOk (d := 21) (x := .ptr 0 6) rfl rfl rfl ?_
  refine rOk (d := 22) (x := vI ((cleanCf c).sets)) rfl rfl rfl ?_
  refine rOk (d := 23) (x := .ptr 0 7) rfl rfl rfl ?_
  refine rOk (d := 24) (x := vI ((cleanCf c).ways)) rfl rfl rfl ?_
  refine rCall (args := [vI ((cleanCf c).sets), vI ((cleanCf c).ways)]) (d := 25) (x := .agg [vI ((newCa (cleanCf c).sets (cleanCf c).ways).ways), .sl 1 ((newCa (cleanCf c).sets (cleanCf c).ways).sets.map rowSet) false]) rfl rfl rfl rfl (.inl rfl) rfl (dNewCa (cleanCf c).sets (cleanCf c).ways) ?_
  refine rOk (d := 26) (x := .v (.string m)) rfl rfl rfl ?_
  refine rCall (args := [.v (.string m)]) (d := 27) (x := .v (.string (cleanP m))) rfl rfl rfl rfl (.inl rfl) rfl (dClean m) ?_
  refine rCall (args := []) (d := 28) (x := .agg [.sl 2 (newGu.slots.map gsL) false, vU newGu.hist, .sl 1 (newGu.rets.map rowU) false]) rfl rfl rfl rfl (.inl rfl) rfl (dNewGu) ?_
  refine rOk (d := 29) (x := .agg [vI ((cleanCf c).mode), vI ((cleanCf c).width), vI ((cleanCf c).rob), vI ((cleanCf c).queue), vI ((cleanCf c).stores), vI ((cleanCf c).slots), vI ((cleanCf c).sets), vI ((cleanCf c).ways), .sl 1 ((cleanCf c).lat.map rowI) false, vB ((cleanCf c).tables), .sl 1 ((cleanCf c).tape.map rowU) false, .sl 1 (List.drop 0 (List.take (min prog.length 64) (prog.map rowU))) false, vI 0, .v (.int .u32 0), .v (.int .u32 0), .v (.int .u32 0), .v (.int .u32 0), .v (.int .u32 0), .v (.int .u32 0), .v (.int .u32 0), .v (.int .u32 0), .v (.int .u32 0), .v (.int .u32 0), .v (.int .u32 0), .v (.int .u32 0), .v (.int .u32 0), .v (.int .u32 0), .v (.int .u32 0), .v (.int .u32 0), .v (.int .u32 0), .v (.int .u32 0), .v (.int .u32 0), .v (.int .u32 0), .v (.int .u32 0), .v (.int .u32 0), .v (.int .u32 0), .v (.int .u32 0), .v (.int .u32 0), .v (.int .u32 0), .v (.int .u32 0), .v (.int .u32 0), .v (.int .u32 0), .v (.int .u32 0), .v (.int .u32 0), .v (.int .u32 0), .v (.int .u32 0), vB false, .sl 0 ([]) true, .sl 0 ([]) true, vI 1, .sl 0 ([]) true, vI ((newCa (cleanCf c).sets (cleanCf c).ways).ways), .sl 1 ((newCa (cleanCf c).sets (cleanCf c).ways).sets.map rowSet) false, vI ((newCa (cleanCf c).sets (cleanCf c).ways).ways), .sl 1 ((newCa (cleanCf c).sets (cleanCf c).ways).sets.map rowSet) false, .sl 0 ([]) true, vI 0, vI 0, .v (.string (cleanP m)), .sl 2 (newGu.slots.map gsL) false, vU newGu.hist, .sl 1 (newGu.rets.map rowU) false, vI 0, .sl 0 ([]) true]) rfl rfl rfl ?_
  refine rFx0 (h' := upd _ 1 (some (.box [vI ((cleanCf c).mode), vI ((cleanCf c).width), vI ((cleanCf c).rob), vI ((cleanCf c).queue), vI ((cleanCf c).stores), vI ((cleanCf c).slots), vI ((cleanCf c).sets), vI ((cleanCf c).ways), .sl 1 ((cleanCf c).lat.map rowI) false, vB ((cleanCf c).tables), .sl 1 ((cleanCf c).tape.map rowU) false, .sl 1 (List.drop 0 (List.take (min prog.length 64) (prog.map rowU))) false, vI 0, .v (.int .u32 0), .v (.int .u32 0), .v (.int .u32 0), .v (.int .u32 0), .v (.int .u32 0), .v (.int .u32 0), .v (.int .u32 0), .v (.int .u32 0), .v (.int .u32 0), .v (.int .u32 0), .v (.int .u32 0), .v (.int .u32 0), .v (.int .u32 0), .v (.int .u32 0), .v (.int .u32 0), .v (.int .u32 0), .v (.int .u32 0), .v (.int .u32 0), .v (.int .u32 0), .v (.int .u32 0), .v (.int .u32 0), .v (.int .u32 0), .v (.int .u32 0), .v (.int .u32 0), .v (.int .u32 0), .v (.int .u32 0), .v (.int .u32 0), .v (.int .u32 0), .v (.int .u32 0), .v (.int .u32 0), .v (.int .u32 0), .v (.int .u32 0), .v (.int .u32 0), vB false, .sl 0 ([]) true, .sl 0 ([]) true, vI 1, .sl 0 ([]) true, vI ((newCa (cleanCf c).sets (cleanCf c).ways).ways), .sl 1 ((newCa (cleanCf c).sets (cleanCf c).ways).sets.map rowSet) false, vI ((newCa (cleanCf c).sets (cleanCf c).ways).ways), .sl 1 ((newCa (cleanCf c).sets (cleanCf c).ways).sets.map rowSet) false, .sl 0 ([]) true, vI 0, vI 0, .v (.string (cleanP m)), .sl 2 (newGu.slots.map gsL) false, vU newGu.hist, .sl 1 (newGu.rets.map rowU) false, vI 0, .sl 0 ([]) true]))) rfl rfl (rfl) (trivial) ?_
  refine rEnd (n' := 27) rfl ?_
  refine cRet ?_
  exact ⟨_, rfl, ⟨trivial, trivial, trivial, trivial, trivial, trivial, trivial, trivial, trivial, trivial, trivial, trivial, trivial, trivial, trivial, trivial, trivial, trivial, trivial, trivial, trivial, trivial, trivial, trivial, trivial, trivial, trivial, trivial, trivial, trivial, trivial, trivial, trivial, trivial, trivial, trivial, trivial, trivial, trivial, trivial, trivial, trivial, trivial, trivial, trivial, trivial, trivial, trivial, trivial, trivial, trivial, trivial, trivial, trivial, trivial, trivial, trivial, trivial, trivial, trivial, trivial, trivial, trivial, trivial, trivial⟩, rfl, Sub.agg ⟨Sub.refl _, Sub.refl _, Sub.refl _, Sub.refl _, Sub.refl _, Sub.refl _, Sub.refl _, Sub.refl _, Sub.refl _, Sub.refl _, Sub.refl _, (by show Sub (.sl 1 (List.drop 0 (List.take (min prog.length 64) (prog.map rowU))) false) (.sl 1 ((prog.take (min prog.length 64)).map rowU) false); rw [List.drop_zero, ← List.map_take]; exact Sub.refl _), Sub.refl _, Sub.refl _, Sub.refl _, Sub.refl _, Sub.refl _, Sub.refl _, Sub.refl _, Sub.refl _, Sub.refl _, Sub.refl _, Sub.refl _, Sub.refl _, Sub.refl _, Sub.refl _, Sub.refl _, Sub.refl _, Sub.refl _, Sub.refl _, Sub.refl _, Sub.refl _, Sub.refl _, Sub.refl _, Sub.refl _, Sub.refl _, Sub.refl _, Sub.refl _, Sub.refl _, Sub.refl _, Sub.refl _, Sub.refl _, Sub.refl _, Sub.refl _, Sub.refl _, Sub.refl _, Sub.refl _, sub_nil 2 false, sub_nil 17 false, Sub.refl _, sub_nil 2 false, Sub.refl _, Sub.refl _, Sub.refl _, Sub.refl _, sub_nil 4 false, Sub.refl _, Sub.refl _, Sub.refl _, Sub.refl _, Sub.refl _, Sub.refl _, Sub.refl _, sub_nil 9 false, trivial⟩⟩
end Go.Proofs.Ytckjihpdjefpgaa
