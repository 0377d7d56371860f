/- Package watch: walks on the second machine. -/
import Derived.Test.YtckjihpdjefpgaaNew
namespace Go.Proofs.Ytckjihpdjefpgaa
open Go.RowKit

structure Seen where
  data : List (List Wy)
  words : List (List Wy)
  bus : List Req
  pcs : List Nat
abbrev seL (s : Seen) : List AV := [.sl 1 (s.data.map rowSet) false, .sl 1 (s.words.map rowSet) false, .sl 4 (s.bus.map rqL) false, .sl 1 (s.pcs.map rowU) false]
def seeR (x : Req) : Req := ⟨x.kind, x.line, 0, noB0⟩
abbrev seeQ (x : Req) : List AV := [.v (.int .i64 x.kind), .v (.int .u32 (x.line : Int)), .v (.int .i64 0), .v (.string noB0)]
abbrev pcL (x : Sp) : List AV := [.v (.int .u32 (x.pc : Int))]
def maxI (b : Int) : Int := if 0 > b then 0 else b
/-- What is seen of a core. -/
def seeP (c : Co) (before : Int) : Seen := ⟨tagsCa c.data, tagsCa c.words, c.bus.map seeR, (c.retired.drop (maxI before).toNat).map (·.pc)⟩
structure Co.okW (c : Co) : Prop where
  data : c.data.ok
  words : c.words.ok
  bus : c.bus.length ≤ 2000000
  busr : ∀ x ∈ c.bus, x.line ≤ 4294967295
  ret : c.retired.length ≤ 2000000
  retr : ∀ x ∈ c.retired, x.pc ≤ 4294967295
theorem ownLen {α : Type} (f : α → List AV) (l : List α) {j : Nat} (h : j < l.length) : (List.take j (List.drop 0 ((l.take j).map f))).length = j := by simp; omega
theorem ownR0 {α : Type} (f : α → List AV) (l : List α) {x : α} (hx : l[0]? = some x) : [f x] = (l.take 1).map f := by
  cases l with
  | nil => cases hx
  | cons y l => injection hx with hx; subst hx; rfl
theorem ownR {α : Type} (f : α → List AV) (l : List α) {x : α} {j : Nat} (hx : l[j]? = some x) : List.take j (List.drop 0 ((l.take j).map f)) ++ [f x] = (l.take (j + 1)).map f := by
  obtain ⟨hj, hx'⟩ := List.getElem?_eq_some_iff.1 hx
  rw [List.drop_zero, List.take_of_length_le (by simp; omega), List.take_add_one, hx]
  simp
theorem ownEnd {α : Type} (f : α → List AV) (l : List α) {j : Nat} (h : j = l.length) : List.take j (List.drop 0 ((l.take j).map f)) = l.map f := by
  subst h
  rw [List.drop_zero, List.take_length, List.take_of_length_le (by simp)]

set_option maxRecDepth 100000 in
set_option maxHeartbeats 4000000 in
theorem dSee (c : Co) (before : Int) (hok : c.okW) : DCall C0 23 [.agg (coL c), .v (.int .i64 before)] (.agg (seL (seeP c before))) := by
  refine DCall.intro c0Ok Try.func23 rfl rfl (by kernel_rfl) rfl ?_
  obtain ⟨B, hB⟩ : ∃ B : Nat, (if 0 > before then 0 else before) = (B : Int) := ⟨(maxI before).toNat, by unfold maxI; split <;> omega⟩
  refine cSeq ?_
  refine cReg rfl ?_
  refine rFx (d := 2) (x := .ptr 0 0) (h' := upd _ 0 (some (.box [vI c.conf.mode, vI c.conf.width, vI c.conf.rob, vI c.conf.queue, vI c.conf.stores, vI c.conf.slots, vI c.conf.sets, vI c.conf.ways, .sl 1 (c.conf.lat.map rowI) false, vB c.conf.tables, .sl 1 (c.conf.tape.map rowU) false, .sl 1 (c.prog.map rowU) false, vI c.cycle, vU (c.r 0), vU (c.r 1), vU (c.r 2), vU (c.r 3), vU (c.r 4), vU (c.r 5), vU (c.r 6), vU (c.r 7), vU (c.r 8), vU (c.r 9), vU (c.r 10), vU (c.r 11), vU (c.r 12), vU (c.r 13), vU (c.r 14), vU (c.r 15), vU (c.r 16), vU (c.r 17), vU (c.r 18), vU (c.r 19), vU (c.r 20), vU (c.r 21), vU (c.r 22), vU (c.r 23), vU (c.r 24), vU (c.r 25), vU (c.r 26), vU (c.r 27), vU (c.r 28), vU (c.r 29), vU (c.r 30), vU (c.r 31), vU c.fetch, vB c.stop, .sl 2 (c.fetched.map ftL) false, .sl 17 (c.rob.map enL) false, vI c.next, .sl 2 (c.stores.map ptL) false, vI c.data.ways, .sl 1 (c.data.sets.map rowSet) false, vI c.words.ways, .sl 1 (c.words.sets.map rowSet) false, .sl 4 (c.bus.map rqL) false, vI c.asked, vI c.guessed, .v (.string c.mem), .sl 2 (c.guess.slots.map gsL) false, vU c.guess.hist, .sl 1 (c.guess.rets.map rowU) false, vI c.halt, .sl 9 (c.retired.map spL) false]))) rfl rfl (rfl) (trivial) ?_
  refine rFx (d := 4) (x := .ptr 1 0) (h' := upd _ 1 (some (.box [.sl 0 ([]) true, .sl 0 ([]) true, .sl 0 ([]) true, .sl 0 ([]) true]))) rfl rfl (rfl) (trivial) ?_
  refine rEnd (n' := 2) rfl ?_
  refine cSeq ?_
  refine cReg rfl ?_
  refine rOk (d := 9) (x := .ptr 0 51) rfl rfl rfl ?_
  refine rOk (d := 10) (x := .agg [vI c.data.ways, .sl 1 (c.data.sets.map rowSet) false]) rfl rfl rfl ?_
  refine rCall (args := [.agg [vI c.data.ways, .sl 1 (c.data.sets.map rowSet) false]]) (d := 11) (x := .sl 1 ((tagsCa c.data).map rowSet) false) rfl rfl rfl rfl (.inl rfl) rfl (dTags c.data false hok.data) ?_
  refine rOk (d := 12) (x := .ptr 0 53) rfl rfl rfl ?_
  refine rOk (d := 13) (x := .agg [vI c.words.ways, .sl 1 (c.words.sets.map rowSet) false]) rfl rfl rfl ?_
  refine rCall (args := [.agg [vI c.words.ways, .sl 1 (c.words.sets.map rowSet) false]]) (d := 14) (x := .sl 1 ((tagsCa c.words).map rowSet) false) rfl rfl rfl rfl (.inl rfl) rfl (dTags c.words false hok.words) ?_
  refine rOk (d := 15) (x := .agg [.sl 1 ((tagsCa c.data).map rowSet) false, .sl 1 ((tagsCa c.words).map rowSet) false, .sl 0 ([]) true, .sl 0 ([]) true]) rfl rfl rfl ?_
  refine rFx (d := 5) (x := .ptr 9 0) (h' := upd _ 9 (some (.box [.sl 0 ([]) true, .sl 0 ([]) true, .sl 0 ([]) true, .sl 0 ([]) true]))) rfl rfl (rfl) (trivial) ?_
  refine rFx0 (h' := upd _ 9 (some (.box [.sl 1 ((tagsCa c.data).map rowSet) false, .sl 1 ((tagsCa c.words).map rowSet) false, .sl 0 ([]) true, .sl 0 ([]) true]))) rfl rfl (rfl) (trivial) ?_
  refine rEnd (n' := 11) rfl ?_
  refine cSeq ?_
  refine cSeq ?_
  refine cReg rfl ?_
  refine rOk (d := 16) (x := .ptr 0 55) rfl rfl rfl ?_
  refine rOk (d := 17) (x := .sl 4 (c.bus.map rqL) false) rfl rfl rfl ?_
  refine rOk (d := 18) (x := vN c.bus.length) rfl rfl (lenMap rqL c.bus) ?_
  refine rOk (d := 19) (x := vI 0) rfl rfl rfl ?_
  refine rEnd (n' := 15) rfl ?_
  refine cBlock ?_
  refine cLoop (κ := Nat) (fun j => match j with | 0 => ⟨slotsF [(1, vI before), (2, .ptr 0 0), (4, .ptr 1 0), (5, .ptr 9 0), (17, .sl 4 (c.bus.map rqL) false), (18, vN c.bus.length), (19, vN 0)], heapF [(0, .box [vI c.conf.mode, vI c.conf.width, vI c.conf.rob, vI c.conf.queue, vI c.conf.stores, vI c.conf.slots, vI c.conf.sets, vI c.conf.ways, .sl 1 (c.conf.lat.map rowI) false, vB c.conf.tables, .sl 1 (c.conf.tape.map rowU) false, .sl 1 (c.prog.map rowU) false, vI c.cycle, vU (c.r 0), vU (c.r 1), vU (c.r 2), vU (c.r 3), vU (c.r 4), vU (c.r 5), vU (c.r 6), vU (c.r 7), vU (c.r 8), vU (c.r 9), vU (c.r 10), vU (c.r 11), vU (c.r 12), vU (c.r 13), vU (c.r 14), vU (c.r 15), vU (c.r 16), vU (c.r 17), vU (c.r 18), vU (c.r 19), vU (c.r 20), vU (c.r 21), vU (c.r 22), vU (c.r 23), vU (c.r 24), vU (c.r 25), vU (c.r 26), vU (c.r 27), vU (c.r 28), vU (c.r 29), vU (c.r 30), vU (c.r 31), vU c.fetch, vB c.stop, .sl 2 (c.fetched.map ftL) false, .sl 17 (c.rob.map enL) false, vI c.next, .sl 2 (c.stores.map ptL) false, vI c.data.ways, .sl 1 (c.data.sets.map rowSet) false, vI c.words.ways, .sl 1 (c.words.sets.map rowSet) false, .sl 4 (c.bus.map rqL) false, vI c.asked, vI c.guessed, .v (.string c.mem), .sl 2 (c.guess.slots.map gsL) false, vU c.guess.hist, .sl 1 (c.guess.rets.map rowU) false, vI c.halt, .sl 9 (c.retired.map spL) false]), (1, .box [.sl 0 ([]) true, .sl 0 ([]) true, .sl 0 ([]) true, .sl 0 ([]) true]), (9, .box [.sl 1 ((tagsCa c.data).map rowSet) false, .sl 1 ((tagsCa c.words).map rowSet) false, .sl 0 ([]) true, .sl 0 ([]) true])], 61⟩ | j + 1 => ⟨slotsF [(1, vI before), (2, .ptr 0 0), (4, .ptr 1 0), (5, .ptr 9 0), (17, .sl 4 (c.bus.map rqL) false), (18, vN c.bus.length), (19, vN (j + 1))], heapF [(0, .box [vI c.conf.mode, vI c.conf.width, vI c.conf.rob, vI c.conf.queue, vI c.conf.stores, vI c.conf.slots, vI c.conf.sets, vI c.conf.ways, .sl 1 (c.conf.lat.map rowI) false, vB c.conf.tables, .sl 1 (c.conf.tape.map rowU) false, .sl 1 (c.prog.map rowU) false, vI c.cycle, vU (c.r 0), vU (c.r 1), vU (c.r 2), vU (c.r 3), vU (c.r 4), vU (c.r 5), vU (c.r 6), vU (c.r 7), vU (c.r 8), vU (c.r 9), vU (c.r 10), vU (c.r 11), vU (c.r 12), vU (c.r 13), vU (c.r 14), vU (c.r 15), vU (c.r 16), vU (c.r 17), vU (c.r 18), vU (c.r 19), vU (c.r 20), vU (c.r 21), vU (c.r 22), vU (c.r 23), vU (c.r 24), vU (c.r 25), vU (c.r 26), vU (c.r 27), vU (c.r 28), vU (c.r 29), vU (c.r 30), vU (c.r 31), vU c.fetch, vB c.stop, .sl 2 (c.fetched.map ftL) false, .sl 17 (c.rob.map enL) false, vI c.next, .sl 2 (c.stores.map ptL) false, vI c.data.ways, .sl 1 (c.data.sets.map rowSet) false, vI c.words.ways, .sl 1 (c.words.sets.map rowSet) false, .sl 4 (c.bus.map rqL) false, vI c.asked, vI c.guessed, .v (.string c.mem), .sl 2 (c.guess.slots.map gsL) false, vU c.guess.hist, .sl 1 (c.guess.rets.map rowU) false, vI c.halt, .sl 9 (c.retired.map spL) false]), (1, .box [.sl 0 ([]) true, .sl 0 ([]) true, .sl 0 ([]) true, .sl 0 ([]) true]), (9, .box [.sl 1 ((tagsCa c.data).map rowSet) false, .sl 1 ((tagsCa c.words).map rowSet) false, .osl 60 0 (j + 1) false, .sl 0 ([]) true]), (60, .arr ((c.bus.take (j + 1)).map seeQ) 4)], 61⟩) (fun j => j ≤ c.bus.length) (fun j => c.bus.length - j) 0 (fun s => s) (Weak.of_lists (fun s => s) ⟨⟨rfl, rfl⟩, ⟨rfl, rfl⟩, ⟨rfl, rfl⟩, ⟨rfl, rfl⟩, ⟨rfl, rfl⟩, ⟨rfl, rfl⟩, ⟨rfl, rfl⟩, trivial⟩ ⟨⟨rfl, rfl, rfl⟩, ⟨rfl, rfl, rfl⟩, ⟨rfl, rfl, rfl⟩, trivial⟩ rfl) (Nat.zero_le _) ?_
  intro j hj
  rcases j with _ | j
  · skip
    refine cSeq ?_
    refine cReg rfl ?_
    refine rOk (d := 20) (x := vB (decide (0 < c.bus.length))) rfl rfl (okB (ltN _ _)) ?_
    refine rEnd (n' := 62) rfl ?_
    refine cSeq ?_
    refine cCond (v := decide (0 < c.bus.length)) rfl (fun h1 => ?_) (fun h1 => ?_)
    · skip
      refine cSkip ?_
      refine cSeq ?_
      refine cBlock ?_
      refine cSeq ?_
      refine cReg rfl ?_
      obtain ⟨x, hx⟩ : ∃ x, c.bus[0]? = some x := ⟨_, List.getElem?_eq_getElem (of_decide_eq_true h1)⟩
      have hxo := hok.busr x (List.mem_of_getElem? hx)
      refine rIdx (rqL x) (d := 21) (x := .dp 4 0 (rqL x)) rfl rfl rfl (⟨Int.natCast_nonneg _, getM hx⟩) rfl ?_
      refine rOk (d := 22) (x := .agg (rqL x)) rfl rfl rfl ?_
      refine rFx (d := 7) (x := .ptr 64 0) (h' := upd _ 64 (some (.box [vI 0, .v (.int .u32 0), vI 0, .v (.string (⟨#[]⟩ : ByteArray))]))) rfl rfl (rfl) (trivial) ?_
      refine rFx0 (h' := upd _ 64 (some (.box [vI x.kind, vU x.line, vI x.left, .v (.string x.data)]))) rfl rfl (rfl) (trivial) ?_
      refine rEnd (n' := 66) rfl ?_
      refine cReg rfl ?_
      refine rOk (d := 23) (x := .ptr 9 2) rfl rfl rfl ?_
      refine rOk (d := 24) (x := .sl 0 ([]) true) rfl rfl rfl ?_
      refine rOk (d := 25) (x := .ptr 64 0) rfl rfl rfl ?_
      refine rOk (d := 26) (x := vI x.kind) rfl rfl rfl ?_
      refine rOk (d := 27) (x := .ptr 64 1) rfl rfl rfl ?_
      refine rOk (d := 28) (x := vU x.line) rfl rfl rfl ?_
      refine rOk (d := 29) (x := .agg [vI x.kind, vU x.line, vI 0, .v (.string (⟨#[]⟩ : ByteArray))]) rfl rfl rfl ?_
      refine rOk (d := 30) (x := .sl 4 ([[vI x.kind, vU x.line, vI 0, .v (.string (⟨#[]⟩ : ByteArray))]]) true) rfl rfl rfl ?_
      refine rFx (d := 31) (x := .osl 74 0 1 false) (h' := upd _ 74 (some (.arr ([[vI x.kind, vU x.line, vI 0, .v (.string (⟨#[]⟩ : ByteArray))]]) 4))) rfl rfl (rfl) (⟨rfl, by simp [capMax], by simp [capMax], trivial⟩) ?_
      refine rOk (d := 32) (x := .ptr 9 2) rfl rfl rfl ?_
      refine rFx0 (h' := upd _ 9 (some (.box [.sl 1 ((tagsCa c.data).map rowSet) false, .sl 1 ((tagsCa c.words).map rowSet) false, .osl 74 0 1 false, .sl 0 ([]) true]))) rfl rfl (rfl) (trivial) ?_
      refine rEnd (n' := 77) rfl ?_
      refine cReg rfl ?_
      have b1 : 0 + 1 ≤ 1 := Nat.add_le_add (Nat.le_refl 0) (Nat.le_refl 1)
      refine rOk (d := 33) (x := vN (0 + 1)) rfl rfl (okI (wrapI64 b1 rfl)) ?_
      refine rOk (d := 19) (x := vN (0 + 1)) rfl rfl rfl ?_
      refine rEnd (n' := 79) rfl ?_
      refine ⟨1, fun s => match s with | 60 => 74 | s => s, Weak.of_lists (fun s => match s with | 60 => 74 | s => s) ⟨⟨rfl, rfl⟩, ⟨rfl, rfl⟩, ⟨rfl, rfl⟩, ⟨rfl, rfl⟩, ⟨rfl, rfl⟩, ⟨rfl, rfl⟩, ⟨rfl, rfl⟩, trivial⟩ ⟨⟨rfl, rfl, rfl⟩, ⟨rfl, rfl, rfl⟩, ⟨rfl, rfl, rfl⟩, ⟨rfl, (congrArg (fun z => some (Blk.arr z 4)) (ownR0 seeQ c.bus hx)), rfl⟩, trivial⟩ rfl, of_decide_eq_true h1, by have := of_decide_eq_true h1; show c.bus.length - (1) < c.bus.length - (0); omega⟩
    · skip
      refine cExit ?_
      refine cSeq ?_
      refine cSeq ?_
      refine cReg rfl ?_
      refine rOk (d := 34) (x := vI before) rfl rfl rfl ?_
      refine rOk (d := 35) (x := vI (if 0 > before then 0 else before)) rfl rfl rfl ?_
      refine rOk (d := 8) (x := vI (if 0 > before then 0 else before)) rfl rfl rfl ?_
      refine rEnd (n' := 65) rfl ?_
      refine cBlock ?_
      refine cLoop (κ := Nat) (fun k => match k with | 0 => ⟨slotsF [(2, .ptr 0 0), (4, .ptr 1 0), (5, .ptr 9 0), (8, vN B)], heapF [(0, .box [vI c.conf.mode, vI c.conf.width, vI c.conf.rob, vI c.conf.queue, vI c.conf.stores, vI c.conf.slots, vI c.conf.sets, vI c.conf.ways, .sl 1 (c.conf.lat.map rowI) false, vB c.conf.tables, .sl 1 (c.conf.tape.map rowU) false, .sl 1 (c.prog.map rowU) false, vI c.cycle, vU (c.r 0), vU (c.r 1), vU (c.r 2), vU (c.r 3), vU (c.r 4), vU (c.r 5), vU (c.r 6), vU (c.r 7), vU (c.r 8), vU (c.r 9), vU (c.r 10), vU (c.r 11), vU (c.r 12), vU (c.r 13), vU (c.r 14), vU (c.r 15), vU (c.r 16), vU (c.r 17), vU (c.r 18), vU (c.r 19), vU (c.r 20), vU (c.r 21), vU (c.r 22), vU (c.r 23), vU (c.r 24), vU (c.r 25), vU (c.r 26), vU (c.r 27), vU (c.r 28), vU (c.r 29), vU (c.r 30), vU (c.r 31), vU c.fetch, vB c.stop, .sl 2 (c.fetched.map ftL) false, .sl 17 (c.rob.map enL) false, vI c.next, .sl 2 (c.stores.map ptL) false, vI c.data.ways, .sl 1 (c.data.sets.map rowSet) false, vI c.words.ways, .sl 1 (c.words.sets.map rowSet) false, .sl 4 (c.bus.map rqL) false, vI c.asked, vI c.guessed, .v (.string c.mem), .sl 2 (c.guess.slots.map gsL) false, vU c.guess.hist, .sl 1 (c.guess.rets.map rowU) false, vI c.halt, .sl 9 (c.retired.map spL) false]), (1, .box [.sl 0 ([]) true, .sl 0 ([]) true, .sl 0 ([]) true, .sl 0 ([]) true]), (9, .box [.sl 1 ((tagsCa c.data).map rowSet) false, .sl 1 ((tagsCa c.words).map rowSet) false, .sl 0 ([]) true, .sl 0 ([]) true])], 71⟩ | k + 1 => ⟨slotsF [(2, .ptr 0 0), (4, .ptr 1 0), (5, .ptr 9 0), (8, vN (B + (k + 1)))], heapF [(0, .box [vI c.conf.mode, vI c.conf.width, vI c.conf.rob, vI c.conf.queue, vI c.conf.stores, vI c.conf.slots, vI c.conf.sets, vI c.conf.ways, .sl 1 (c.conf.lat.map rowI) false, vB c.conf.tables, .sl 1 (c.conf.tape.map rowU) false, .sl 1 (c.prog.map rowU) false, vI c.cycle, vU (c.r 0), vU (c.r 1), vU (c.r 2), vU (c.r 3), vU (c.r 4), vU (c.r 5), vU (c.r 6), vU (c.r 7), vU (c.r 8), vU (c.r 9), vU (c.r 10), vU (c.r 11), vU (c.r 12), vU (c.r 13), vU (c.r 14), vU (c.r 15), vU (c.r 16), vU (c.r 17), vU (c.r 18), vU (c.r 19), vU (c.r 20), vU (c.r 21), vU (c.r 22), vU (c.r 23), vU (c.r 24), vU (c.r 25), vU (c.r 26), vU (c.r 27), vU (c.r 28), vU (c.r 29), vU (c.r 30), vU (c.r 31), vU c.fetch, vB c.stop, .sl 2 (c.fetched.map ftL) false, .sl 17 (c.rob.map enL) false, vI c.next, .sl 2 (c.stores.map ptL) false, vI c.data.ways, .sl 1 (c.data.sets.map rowSet) false, vI c.words.ways, .sl 1 (c.words.sets.map rowSet) false, .sl 4 (c.bus.map rqL) false, vI c.asked, vI c.guessed, .v (.string c.mem), .sl 2 (c.guess.slots.map gsL) false, vU c.guess.hist, .sl 1 (c.guess.rets.map rowU) false, vI c.halt, .sl 9 (c.retired.map spL) false]), (1, .box [.sl 0 ([]) true, .sl 0 ([]) true, .sl 0 ([]) true, .sl 0 ([]) true]), (9, .box [.sl 1 ((tagsCa c.data).map rowSet) false, .sl 1 ((tagsCa c.words).map rowSet) false, .sl 0 ([]) true, .osl 70 0 (k + 1) false]), (70, .arr (((c.retired.drop B).take (k + 1)).map pcL) 1)], 71⟩) (fun k => k = 0 ∨ B + k ≤ c.retired.length) (fun k => c.retired.length - B - k) 0 (fun s => s) (Weak.of_lists (fun s => s) ⟨⟨rfl, rfl⟩, ⟨rfl, rfl⟩, ⟨rfl, rfl⟩, ⟨(congrArg (fun z : Int => AV.v (.int .i64 z)) hB), rfl⟩, trivial⟩ ⟨⟨rfl, rfl, rfl⟩, ⟨rfl, rfl, rfl⟩, ⟨rfl, rfl, rfl⟩, trivial⟩ rfl) (.inl rfl) ?_
      intro k hk
      rcases k with _ | k
      · skip
        refine cSeq ?_
        refine cSeq ?_
        refine cReg rfl ?_
        refine rOk (d := 36) (x := vN B) rfl rfl rfl ?_
        refine rOk (d := 37) (x := .ptr 0 63) rfl rfl rfl ?_
        refine rOk (d := 38) (x := .sl 9 (c.retired.map spL) false) rfl rfl rfl ?_
        refine rOk (d := 39) (x := vN c.retired.length) rfl rfl (lenMap spL c.retired) ?_
        refine rOk (d := 40) (x := vB (decide (B < c.retired.length))) rfl rfl (okB (ltN _ _)) ?_
        refine rEnd (n' := 76) rfl ?_
        refine cCond (v := decide (B < c.retired.length)) rfl (fun h2 => ?_) (fun h2 => ?_)
        · skip
          refine cSkip ?_
          refine cSeq ?_
          refine cBlock ?_
          refine cReg rfl ?_
          obtain ⟨y, hy⟩ : ∃ y, c.retired[B]? = some y := ⟨_, List.getElem?_eq_getElem (of_decide_eq_true h2)⟩
          have hyo := hok.retr y (List.mem_of_getElem? hy)
          have hy0 : (c.retired.drop B)[0]? = some y := by rw [List.getElem?_drop]; exact hy
          refine rOk (d := 43) (x := .ptr 9 3) rfl rfl rfl ?_
          refine rOk (d := 44) (x := .sl 0 ([]) true) rfl rfl rfl ?_
          refine rOk (d := 45) (x := .ptr 0 63) rfl rfl rfl ?_
          refine rOk (d := 46) (x := .sl 9 (c.retired.map spL) false) rfl rfl rfl ?_
          refine rOk (d := 47) (x := vN B) rfl rfl rfl ?_
          refine rIdx (spL y) (d := 48) (x := .dp 9 0 (spL y)) rfl rfl rfl (⟨Int.natCast_nonneg _, getM hy⟩) rfl ?_
          refine rOk (d := 49) (x := .dp 9 0 (spL y)) rfl rfl rfl ?_
          refine rOk (d := 50) (x := vU y.pc) rfl rfl rfl ?_
          refine rOk (d := 51) (x := .sl 1 ([[vU y.pc]]) true) rfl rfl rfl ?_
          refine rFx (d := 52) (x := .osl 85 0 1 false) (h' := upd _ 85 (some (.arr ([[vU y.pc]]) 1))) rfl rfl (rfl) (⟨rfl, by simp [capMax], by simp [capMax], trivial⟩) ?_
          refine rOk (d := 53) (x := .ptr 9 3) rfl rfl rfl ?_
          refine rFx0 (h' := upd _ 9 (some (.box [.sl 1 ((tagsCa c.data).map rowSet) false, .sl 1 ((tagsCa c.words).map rowSet) false, .sl 0 ([]) true, .osl 85 0 1 false]))) rfl rfl (rfl) (trivial) ?_
          refine rEnd (n' := 88) rfl ?_
          refine cReg rfl ?_
          refine rOk (d := 41) (x := vN B) rfl rfl rfl ?_
          have b2 : B + 1 ≤ 2000000 := by have := of_decide_eq_true h2; have := hok.ret; omega
          refine rOk (d := 42) (x := vN (B + 1)) rfl rfl (okI (wrapI64 b2 rfl)) ?_
          refine rOk (d := 8) (x := vN (B + 1)) rfl rfl rfl ?_
          refine rEnd (n' := 91) rfl ?_
          refine ⟨1, fun s => match s with | 70 => 85 | s => s, Weak.of_lists (fun s => match s with | 70 => 85 | s => s) ⟨⟨rfl, rfl⟩, ⟨rfl, rfl⟩, ⟨rfl, rfl⟩, ⟨rfl, rfl⟩, trivial⟩ ⟨⟨rfl, rfl, rfl⟩, ⟨rfl, rfl, rfl⟩, ⟨rfl, rfl, rfl⟩, ⟨rfl, (congrArg (fun z => some (Blk.arr z 1)) (ownR0 pcL (c.retired.drop B) hy0)), rfl⟩, trivial⟩ rfl, Or.inr (by have := of_decide_eq_true h2; omega), by have := of_decide_eq_true h2; show c.retired.length - B - (1) < c.retired.length - B - (0); omega⟩
        · skip
          refine cExit ?_
          refine cSeq ?_
          refine cReg rfl ?_
          refine rOk (d := 54) (x := .agg [.sl 1 ((tagsCa c.data).map rowSet) false, .sl 1 ((tagsCa c.words).map rowSet) false, .sl 0 ([]) true, .sl 0 ([]) true]) rfl rfl rfl ?_
          refine rFx0 (h' := upd _ 1 (some (.box [.sl 1 ((tagsCa c.data).map rowSet) false, .sl 1 ((tagsCa c.words).map rowSet) false, .sl 0 ([]) true, .sl 0 ([]) true]))) rfl rfl (rfl) (trivial) ?_
          refine rEnd (n' := 78) rfl ?_
          refine cRet ?_
          have hB2 : (maxI before).toNat = B := by have : maxI before = (B : Int) := hB; rw [this]; rfl
          have hb0 : c.bus = [] := List.eq_nil_of_length_eq_zero (by have := of_decide_eq_false h1; omega)
          have hr0 : (c.retired.drop B) = [] := List.drop_of_length_le (by have := of_decide_eq_false h2; omega)
          exact ⟨_, rfl, ⟨trivial, trivial, trivial, trivial, trivial⟩, rfl, Sub.agg ⟨Sub.refl _, Sub.refl _, (by show Sub (.sl 0 [] true) (.sl 4 ((c.bus.map seeR).map rqL) false); rw [hb0]; exact sub_nil 4 false), (by show Sub (.sl 0 [] true) (.sl 1 (((c.retired.drop (maxI before).toNat).map (·.pc)).map rowU) false); rw [hB2, hr0]; exact sub_nil 1 false), trivial⟩⟩
      · skip
        have hkl : B + (k + 1) ≤ c.retired.length := by omega
        have hkB : B + (k + 1) ≤ 2000000 := by have := hok.ret; omega
        refine cSeq ?_
        refine cSeq ?_
        refine cReg rfl ?_
        refine rOk (d := 36) (x := vN (B + (k + 1))) rfl rfl rfl ?_
        refine rOk (d := 37) (x := .ptr 0 63) rfl rfl rfl ?_
        refine rOk (d := 38) (x := .sl 9 (c.retired.map spL) false) rfl rfl rfl ?_
        refine rOk (d := 39) (x := vN c.retired.length) rfl rfl (lenMap spL c.retired) ?_
        refine rOk (d := 40) (x := vB (decide ((B + (k + 1)) < c.retired.length))) rfl rfl (okB (ltN _ _)) ?_
        refine rEnd (n' := 76) rfl ?_
        refine cCond (v := decide ((B + (k + 1)) < c.retired.length)) rfl (fun h3 => ?_) (fun h3 => ?_)
        · skip
          refine cSkip ?_
          refine cSeq ?_
          refine cBlock ?_
          refine cReg rfl ?_
          obtain ⟨y, hy⟩ : ∃ y, c.retired[B + (k + 1)]? = some y := ⟨_, List.getElem?_eq_getElem (of_decide_eq_true h3)⟩
          have hyo := hok.retr y (List.mem_of_getElem? hy)
          have hy0 : (c.retired.drop B)[k + 1]? = some y := by rw [List.getElem?_drop]; exact hy
          refine rOk (d := 43) (x := .ptr 9 3) rfl rfl rfl ?_
          refine rOk (d := 44) (x := .osl 70 0 (k + 1) false) rfl rfl rfl ?_
          refine rOk (d := 45) (x := .ptr 0 63) rfl rfl rfl ?_
          refine rOk (d := 46) (x := .sl 9 (c.retired.map spL) false) rfl rfl rfl ?_
          refine rOk (d := 47) (x := vN (B + (k + 1))) rfl rfl rfl ?_
          refine rIdx (spL y) (d := 48) (x := .dp 9 0 (spL y)) rfl rfl rfl (⟨Int.natCast_nonneg _, getM hy⟩) rfl ?_
          refine rOk (d := 49) (x := .dp 9 0 (spL y)) rfl rfl rfl ?_
          refine rOk (d := 50) (x := vU y.pc) rfl rfl rfl ?_
          refine rOk (d := 51) (x := .sl 1 ([[vU y.pc]]) true) rfl rfl rfl ?_
          refine rFx (d := 52) (x := .osl 85 0 (k + 1 + 1) false) (h' := upd (upd _ 70 none) 85 (some (.arr (((c.retired.drop B).take (k + 1 + 1)).map pcL) 1))) rfl rfl (app_eq (ownLen _ _ (show k + 1 < (c.retired.drop B).length from by rw [List.length_drop]; have := of_decide_eq_true h3; omega)) (ownR pcL (c.retired.drop B) hy0)) (⟨by rw [ownLen _ _ (show k + 1 < (c.retired.drop B).length from by rw [List.length_drop]; have := of_decide_eq_true h3; omega)]; have := hok.ret; (first | show k + 1 + 1 ≤ 2000000 | refine .inl (show k + 1 + 1 ≤ 2000000 from ?_)); have := of_decide_eq_true h3; omega, by rw [Nat.zero_add]; simp; have := of_decide_eq_true h3; omega, trivial⟩) ?_
          refine rOk (d := 53) (x := .ptr 9 3) rfl rfl rfl ?_
          refine rFx0 (h' := upd _ 9 (some (.box [.sl 1 ((tagsCa c.data).map rowSet) false, .sl 1 ((tagsCa c.words).map rowSet) false, .sl 0 ([]) true, .osl 85 0 (k + 1 + 1) false]))) rfl rfl (rfl) (trivial) ?_
          refine rEnd (n' := 88) rfl ?_
          refine cReg rfl ?_
          refine rOk (d := 41) (x := vN (B + (k + 1))) rfl rfl rfl ?_
          have b3 : B + (k + 1) + 1 ≤ 2000000 := by have := of_decide_eq_true h3; have := hok.ret; omega
          refine rOk (d := 42) (x := vN (B + (k + 1) + 1)) rfl rfl (okI (wrapI64 b3 rfl)) ?_
          refine rOk (d := 8) (x := vN (B + (k + 1) + 1)) rfl rfl rfl ?_
          refine rEnd (n' := 91) rfl ?_
          refine ⟨(k + 1) + 1, fun s => match s with | 70 => 85 | s => s, Weak.of_lists (fun s => match s with | 70 => 85 | s => s) ⟨⟨rfl, rfl⟩, ⟨rfl, rfl⟩, ⟨rfl, rfl⟩, ⟨rfl, rfl⟩, trivial⟩ ⟨⟨rfl, rfl, rfl⟩, ⟨rfl, rfl, rfl⟩, ⟨rfl, rfl, rfl⟩, ⟨rfl, rfl, rfl⟩, trivial⟩ rfl, Or.inr (by have := of_decide_eq_true h3; omega), by have := of_decide_eq_true h3; show c.retired.length - B - ((k + 1) + 1) < c.retired.length - B - (k + 1); omega⟩
        · skip
          refine cExit ?_
          refine cSeq ?_
          refine cReg rfl ?_
          refine rOk (d := 54) (x := .agg [.sl 1 ((tagsCa c.data).map rowSet) false, .sl 1 ((tagsCa c.words).map rowSet) false, .sl 0 ([]) true, .osl 70 0 (k + 1) false]) rfl rfl rfl ?_
          refine rFx0 (h' := upd _ 1 (some (.box [.sl 1 ((tagsCa c.data).map rowSet) false, .sl 1 ((tagsCa c.words).map rowSet) false, .sl 0 ([]) true, .osl 70 0 (k + 1) false]))) rfl rfl (rfl) (trivial) ?_
          refine rEnd (n' := 78) rfl ?_
          refine cRet ?_
          have hB2 : (maxI before).toNat = B := by have : maxI before = (B : Int) := hB; rw [this]; rfl
          have hb0 : c.bus = [] := List.eq_nil_of_length_eq_zero (by have := of_decide_eq_false h1; omega)
          have hk2 : k + 1 = (c.retired.drop B).length := by rw [List.length_drop]; have := of_decide_eq_false h3; omega
          exact ⟨_, rfl, ⟨trivial, trivial, trivial, (by show 0 + (k + 1) ≤ (((c.retired.drop B).take (k + 1)).map pcL).length; rw [List.length_map, List.length_take]; omega), trivial⟩, rfl, Sub.agg ⟨Sub.refl _, Sub.refl _, (by show Sub (.sl 0 [] true) (.sl 4 ((c.bus.map seeR).map rqL) false); rw [hb0]; exact sub_nil 4 false), (by show Sub (.sl 1 (List.take (k + 1) (List.drop 0 (((c.retired.drop B).take (k + 1)).map pcL))) false) (.sl 1 (((c.retired.drop (maxI before).toNat).map (·.pc)).map rowU) false); rw [hB2, ownEnd pcL (c.retired.drop B) hk2, List.map_map]; exact Sub.refl _), trivial⟩⟩
  · skip
    have hjB : j + 1 ≤ 2000000 := by have := hok.bus; omega
    refine cSeq ?_
    refine cReg rfl ?_
    refine rOk (d := 20) (x := vB (decide ((j + 1) < c.bus.length))) rfl rfl (okB (ltN _ _)) ?_
    refine rEnd (n' := 62) rfl ?_
    refine cSeq ?_
    refine cCond (v := decide ((j + 1) < c.bus.length)) rfl (fun h4 => ?_) (fun h4 => ?_)
    · skip
      refine cSkip ?_
      refine cSeq ?_
      refine cBlock ?_
      refine cSeq ?_
      refine cReg rfl ?_
      obtain ⟨x, hx⟩ : ∃ x, c.bus[(j + 1)]? = some x := ⟨_, List.getElem?_eq_getElem (of_decide_eq_true h4)⟩
      have hxo := hok.busr x (List.mem_of_getElem? hx)
      refine rIdx (rqL x) (d := 21) (x := .dp 4 0 (rqL x)) rfl rfl rfl (⟨Int.natCast_nonneg _, getM hx⟩) rfl ?_
      refine rOk (d := 22) (x := .agg (rqL x)) rfl rfl rfl ?_
      refine rFx (d := 7) (x := .ptr 64 0) (h' := upd _ 64 (some (.box [vI 0, .v (.int .u32 0), vI 0, .v (.string (⟨#[]⟩ : ByteArray))]))) rfl rfl (rfl) (trivial) ?_
      refine rFx0 (h' := upd _ 64 (some (.box [vI x.kind, vU x.line, vI x.left, .v (.string x.data)]))) rfl rfl (rfl) (trivial) ?_
      refine rEnd (n' := 66) rfl ?_
      refine cReg rfl ?_
      refine rOk (d := 23) (x := .ptr 9 2) rfl rfl rfl ?_
      refine rOk (d := 24) (x := .osl 60 0 (j + 1) false) rfl rfl rfl ?_
      refine rOk (d := 25) (x := .ptr 64 0) rfl rfl rfl ?_
      refine rOk (d := 26) (x := vI x.kind) rfl rfl rfl ?_
      refine rOk (d := 27) (x := .ptr 64 1) rfl rfl rfl ?_
      refine rOk (d := 28) (x := vU x.line) rfl rfl rfl ?_
      refine rOk (d := 29) (x := .agg [vI x.kind, vU x.line, vI 0, .v (.string (⟨#[]⟩ : ByteArray))]) rfl rfl rfl ?_
      refine rOk (d := 30) (x := .sl 4 ([[vI x.kind, vU x.line, vI 0, .v (.string (⟨#[]⟩ : ByteArray))]]) true) rfl rfl rfl ?_
      refine rFx (d := 31) (x := .osl 74 0 (j + 1 + 1) false) (h' := upd (upd _ 60 none) 74 (some (.arr ((c.bus.take (j + 1 + 1)).map seeQ) 4))) rfl rfl (app_eq (ownLen _ _ (of_decide_eq_true h4)) (ownR seeQ c.bus hx)) (⟨by rw [ownLen _ _ (of_decide_eq_true h4)]; have := hok.bus; (first | show j + 1 + 1 ≤ 2000000 | refine .inl (show j + 1 + 1 ≤ 2000000 from ?_)); have := of_decide_eq_true h4; omega, by rw [Nat.zero_add]; simp; have := of_decide_eq_true h4; omega, trivial⟩) ?_
      refine rOk (d := 32) (x := .ptr 9 2) rfl rfl rfl ?_
      refine rFx0 (h' := upd _ 9 (some (.box [.sl 1 ((tagsCa c.data).map rowSet) false, .sl 1 ((tagsCa c.words).map rowSet) false, .osl 74 0 (j + 1 + 1) false, .sl 0 ([]) true]))) rfl rfl (rfl) (trivial) ?_
      refine rEnd (n' := 77) rfl ?_
      refine cReg rfl ?_
      have b4 : (j + 1) + 1 ≤ 2000001 := Nat.add_le_add hjB (Nat.le_refl 1)
      refine rOk (d := 33) (x := vN ((j + 1) + 1)) rfl rfl (okI (wrapI64 b4 rfl)) ?_
      refine rOk (d := 19) (x := vN ((j + 1) + 1)) rfl rfl rfl ?_
      refine rEnd (n' := 79) rfl ?_
      refine ⟨(j + 1) + 1, fun s => match s with | 60 => 74 | s => s, Weak.of_lists (fun s => match s with | 60 => 74 | s => s) ⟨⟨rfl, rfl⟩, ⟨rfl, rfl⟩, ⟨rfl, rfl⟩, ⟨rfl, rfl⟩, ⟨rfl, rfl⟩, ⟨rfl, rfl⟩, ⟨rfl, rfl⟩, trivial⟩ ⟨⟨rfl, rfl, rfl⟩, ⟨rfl, rfl, rfl⟩, ⟨rfl, rfl, rfl⟩, ⟨rfl, rfl, rfl⟩, trivial⟩ rfl, of_decide_eq_true h4, by have := of_decide_eq_true h4; show c.bus.length - ((j + 1) + 1) < c.bus.length - (j + 1); omega⟩
    · skip
      refine cExit ?_
      refine cSeq ?_
      refine cSeq ?_
      refine cReg rfl ?_
      refine rOk (d := 34) (x := vI before) rfl rfl rfl ?_
      refine rOk (d := 35) (x := vI (if 0 > before then 0 else before)) rfl rfl rfl ?_
      refine rOk (d := 8) (x := vI (if 0 > before then 0 else before)) rfl rfl rfl ?_
      refine rEnd (n' := 65) rfl ?_
      refine cBlock ?_
      refine cLoop (κ := Nat) (fun k => match k with | 0 => ⟨slotsF [(2, .ptr 0 0), (4, .ptr 1 0), (5, .ptr 9 0), (8, vN B)], heapF [(0, .box [vI c.conf.mode, vI c.conf.width, vI c.conf.rob, vI c.conf.queue, vI c.conf.stores, vI c.conf.slots, vI c.conf.sets, vI c.conf.ways, .sl 1 (c.conf.lat.map rowI) false, vB c.conf.tables, .sl 1 (c.conf.tape.map rowU) false, .sl 1 (c.prog.map rowU) false, vI c.cycle, vU (c.r 0), vU (c.r 1), vU (c.r 2), vU (c.r 3), vU (c.r 4), vU (c.r 5), vU (c.r 6), vU (c.r 7), vU (c.r 8), vU (c.r 9), vU (c.r 10), vU (c.r 11), vU (c.r 12), vU (c.r 13), vU (c.r 14), vU (c.r 15), vU (c.r 16), vU (c.r 17), vU (c.r 18), vU (c.r 19), vU (c.r 20), vU (c.r 21), vU (c.r 22), vU (c.r 23), vU (c.r 24), vU (c.r 25), vU (c.r 26), vU (c.r 27), vU (c.r 28), vU (c.r 29), vU (c.r 30), vU (c.r 31), vU c.fetch, vB c.stop, .sl 2 (c.fetched.map ftL) false, .sl 17 (c.rob.map enL) false, vI c.next, .sl 2 (c.stores.map ptL) false, vI c.data.ways, .sl 1 (c.data.sets.map rowSet) false, vI c.words.ways, .sl 1 (c.words.sets.map rowSet) false, .sl 4 (c.bus.map rqL) false, vI c.asked, vI c.guessed, .v (.string c.mem), .sl 2 (c.guess.slots.map gsL) false, vU c.guess.hist, .sl 1 (c.guess.rets.map rowU) false, vI c.halt, .sl 9 (c.retired.map spL) false]), (1, .box [.sl 0 ([]) true, .sl 0 ([]) true, .sl 0 ([]) true, .sl 0 ([]) true]), (9, .box [.sl 1 ((tagsCa c.data).map rowSet) false, .sl 1 ((tagsCa c.words).map rowSet) false, .osl 60 0 (j + 1) false, .sl 0 ([]) true]), (60, .arr ((c.bus.take (j + 1)).map seeQ) 4)], 71⟩ | k + 1 => ⟨slotsF [(2, .ptr 0 0), (4, .ptr 1 0), (5, .ptr 9 0), (8, vN (B + (k + 1)))], heapF [(0, .box [vI c.conf.mode, vI c.conf.width, vI c.conf.rob, vI c.conf.queue, vI c.conf.stores, vI c.conf.slots, vI c.conf.sets, vI c.conf.ways, .sl 1 (c.conf.lat.map rowI) false, vB c.conf.tables, .sl 1 (c.conf.tape.map rowU) false, .sl 1 (c.prog.map rowU) false, vI c.cycle, vU (c.r 0), vU (c.r 1), vU (c.r 2), vU (c.r 3), vU (c.r 4), vU (c.r 5), vU (c.r 6), vU (c.r 7), vU (c.r 8), vU (c.r 9), vU (c.r 10), vU (c.r 11), vU (c.r 12), vU (c.r 13), vU (c.r 14), vU (c.r 15), vU (c.r 16), vU (c.r 17), vU (c.r 18), vU (c.r 19), vU (c.r 20), vU (c.r 21), vU (c.r 22), vU (c.r 23), vU (c.r 24), vU (c.r 25), vU (c.r 26), vU (c.r 27), vU (c.r 28), vU (c.r 29), vU (c.r 30), vU (c.r 31), vU c.fetch, vB c.stop, .sl 2 (c.fetched.map ftL) false, .sl 17 (c.rob.map enL) false, vI c.next, .sl 2 (c.stores.map ptL) false, vI c.data.ways, .sl 1 (c.data.sets.map rowSet) false, vI c.words.ways, .sl 1 (c.words.sets.map rowSet) false, .sl 4 (c.bus.map rqL) false, vI c.asked, vI c.guessed, .v (.string c.mem), .sl 2 (c.guess.slots.map gsL) false, vU c.guess.hist, .sl 1 (c.guess.rets.map rowU) false, vI c.halt, .sl 9 (c.retired.map spL) false]), (1, .box [.sl 0 ([]) true, .sl 0 ([]) true, .sl 0 ([]) true, .sl 0 ([]) true]), (9, .box [.sl 1 ((tagsCa c.data).map rowSet) false, .sl 1 ((tagsCa c.words).map rowSet) false, .osl 60 0 (j + 1) false, .osl 70 0 (k + 1) false]), (60, .arr ((c.bus.take (j + 1)).map seeQ) 4), (70, .arr (((c.retired.drop B).take (k + 1)).map pcL) 1)], 71⟩) (fun k => k = 0 ∨ B + k ≤ c.retired.length) (fun k => c.retired.length - B - k) 0 (fun s => s) (Weak.of_lists (fun s => s) ⟨⟨rfl, rfl⟩, ⟨rfl, rfl⟩, ⟨rfl, rfl⟩, ⟨(congrArg (fun z : Int => AV.v (.int .i64 z)) hB), rfl⟩, trivial⟩ ⟨⟨rfl, rfl, rfl⟩, ⟨rfl, rfl, rfl⟩, ⟨rfl, rfl, rfl⟩, ⟨rfl, rfl, rfl⟩, trivial⟩ rfl) (.inl rfl) ?_
      intro k hk
      rcases k with _ | k
      · skip
        refine cSeq ?_
        refine cSeq ?_
        refine cReg rfl ?_
        refine rOk (d := 36) (x := vN B) rfl rfl rfl ?_
        refine rOk (d := 37) (x := .ptr 0 63) rfl rfl rfl ?_
        refine rOk (d := 38) (x := .sl 9 (c.retired.map spL) false) rfl rfl rfl ?_
        refine rOk (d := 39) (x := vN c.retired.length) rfl rfl (lenMap spL c.retired) ?_
        refine rOk (d := 40) (x := vB (decide (B < c.retired.length))) rfl rfl (okB (ltN _ _)) ?_
        refine rEnd (n' := 76) rfl ?_
        refine cCond (v := decide (B < c.retired.length)) rfl (fun h5 => ?_) (fun h5 => ?_)
        · skip
          refine cSkip ?_
          refine cSeq ?_
          refine cBlock ?_
          refine cReg rfl ?_
          obtain ⟨y, hy⟩ : ∃ y, c.retired[B]? = some y := ⟨_, List.getElem?_eq_getElem (of_decide_eq_true h5)⟩
          have hyo := hok.retr y (List.mem_of_getElem? hy)
          have hy0 : (c.retired.drop B)[0]? = some y := by rw [List.getElem?_drop]; exact hy
          refine rOk (d := 43) (x := .ptr 9 3) rfl rfl rfl ?_
          refine rOk (d := 44) (x := .sl 0 ([]) true) rfl rfl rfl ?_
          refine rOk (d := 45) (x := .ptr 0 63) rfl rfl rfl ?_
          refine rOk (d := 46) (x := .sl 9 (c.retired.map spL) false) rfl rfl rfl ?_
          refine rOk (d := 47) (x := vN B) rfl rfl rfl ?_
          refine rIdx (spL y) (d := 48) (x := .dp 9 0 (spL y)) rfl rfl rfl (⟨Int.natCast_nonneg _, getM hy⟩) rfl ?_
          refine rOk (d := 49) (x := .dp 9 0 (spL y)) rfl rfl rfl ?_
          refine rOk (d := 50) (x := vU y.pc) rfl rfl rfl ?_
          refine rOk (d := 51) (x := .sl 1 ([[vU y.pc]]) true) rfl rfl rfl ?_
          refine rFx (d := 52) (x := .osl 85 0 1 false) (h' := upd _ 85 (some (.arr ([[vU y.pc]]) 1))) rfl rfl (rfl) (⟨rfl, by simp [capMax], by simp [capMax], trivial⟩) ?_
          refine rOk (d := 53) (x := .ptr 9 3) rfl rfl rfl ?_
          refine rFx0 (h' := upd _ 9 (some (.box [.sl 1 ((tagsCa c.data).map rowSet) false, .sl 1 ((tagsCa c.words).map rowSet) false, .osl 60 0 (j + 1) false, .osl 85 0 1 false]))) rfl rfl (rfl) (trivial) ?_
          refine rEnd (n' := 88) rfl ?_
          refine cReg rfl ?_
          refine rOk (d := 41) (x := vN B) rfl rfl rfl ?_
          have b5 : B + 1 ≤ 2000000 := by have := of_decide_eq_true h5; have := hok.ret; omega
          refine rOk (d := 42) (x := vN (B + 1)) rfl rfl (okI (wrapI64 b5 rfl)) ?_
          refine rOk (d := 8) (x := vN (B + 1)) rfl rfl rfl ?_
          refine rEnd (n' := 91) rfl ?_
          refine ⟨1, fun s => match s with | 70 => 85 | s => s, Weak.of_lists (fun s => match s with | 70 => 85 | s => s) ⟨⟨rfl, rfl⟩, ⟨rfl, rfl⟩, ⟨rfl, rfl⟩, ⟨rfl, rfl⟩, trivial⟩ ⟨⟨rfl, rfl, rfl⟩, ⟨rfl, rfl, rfl⟩, ⟨rfl, rfl, rfl⟩, ⟨rfl, rfl, rfl⟩, ⟨rfl, (congrArg (fun z => some (Blk.arr z 1)) (ownR0 pcL (c.retired.drop B) hy0)), rfl⟩, trivial⟩ rfl, Or.inr (by have := of_decide_eq_true h5; omega), by have := of_decide_eq_true h5; show c.retired.length - B - (1) < c.retired.length - B - (0); omega⟩
        · skip
          refine cExit ?_
          refine cSeq ?_
          refine cReg rfl ?_
          refine rOk (d := 54) (x := .agg [.sl 1 ((tagsCa c.data).map rowSet) false, .sl 1 ((tagsCa c.words).map rowSet) false, .osl 60 0 (j + 1) false, .sl 0 ([]) true]) rfl rfl rfl ?_
          refine rFx0 (h' := upd _ 1 (some (.box [.sl 1 ((tagsCa c.data).map rowSet) false, .sl 1 ((tagsCa c.words).map rowSet) false, .osl 60 0 (j + 1) false, .sl 0 ([]) true]))) rfl rfl (rfl) (trivial) ?_
          refine rEnd (n' := 78) rfl ?_
          refine cRet ?_
          have hB2 : (maxI before).toNat = B := by have : maxI before = (B : Int) := hB; rw [this]; rfl
          have hj2 : j + 1 = c.bus.length := by have := of_decide_eq_false h4; omega
          have hr0 : (c.retired.drop B) = [] := List.drop_of_length_le (by have := of_decide_eq_false h5; omega)
          exact ⟨_, rfl, ⟨trivial, trivial, (by show 0 + (j + 1) ≤ ((c.bus.take (j + 1)).map seeQ).length; rw [List.length_map, List.length_take]; omega), trivial, trivial⟩, rfl, Sub.agg ⟨Sub.refl _, Sub.refl _, (by show Sub (.sl 4 (List.take (j + 1) (List.drop 0 ((c.bus.take (j + 1)).map seeQ))) false) (.sl 4 ((c.bus.map seeR).map rqL) false); rw [ownEnd seeQ c.bus hj2, List.map_map]; exact Sub.refl _), (by show Sub (.sl 0 [] true) (.sl 1 (((c.retired.drop (maxI before).toNat).map (·.pc)).map rowU) false); rw [hB2, hr0]; exact sub_nil 1 false), trivial⟩⟩
      · skip
        have hkl : B + (k + 1) ≤ c.retired.length := by omega
        have hkB : B + (k + 1) ≤ 2000000 := by have := hok.ret; omega
        refine cSeq ?_
        refine cSeq ?_
        refine cReg rfl ?_
        refine rOk (d := 36) (x := vN (B + (k + 1))) rfl rfl rfl ?_
        refine rOk (d := 37) (x := .ptr 0 63) rfl rfl rfl ?_
        refine rOk (d := 38) (x := .sl 9 (c.retired.map spL) false) rfl rfl rfl ?_
        refine rOk (d := 39) (x := vN c.retired.length) rfl rfl (lenMap spL c.retired) ?_
        refine rOk (d := 40) (x := vB (decide ((B + (k + 1)) < c.retired.length))) rfl rfl (okB (ltN _ _)) ?_
        refine rEnd (n' := 76) rfl ?_
        refine cCond (v := decide ((B + (k + 1)) < c.retired.length)) rfl (fun h6 => ?_) (fun h6 => ?_)
        · skip
          refine cSkip ?_
          refine cSeq ?_
          refine cBlock ?_
          refine cReg rfl ?_
          obtain ⟨y, hy⟩ : ∃ y, c.retired[B + (k + 1)]? = some y := ⟨_, List.getElem?_eq_getElem (of_decide_eq_true h6)⟩
          have hyo := hok.retr y (List.mem_of_getElem? hy)
          have hy0 : (c.retired.drop B)[k + 1]? = some y := by rw [List.getElem?_drop]; exact hy
          refine rOk (d := 43) (x := .ptr 9 3) rfl rfl rfl ?_
          refine rOk (d := 44) (x := .osl 70 0 (k + 1) false) rfl rfl rfl ?_
          refine rOk (d := 45) (x := .ptr 0 63) rfl rfl rfl ?_
          refine rOk (d := 46) (x := .sl 9 (c.retired.map spL) false) rfl rfl rfl ?_
          refine rOk (d := 47) (x := vN (B + (k + 1))) rfl rfl rfl ?_
          refine rIdx (spL y) (d := 48) (x := .dp 9 0 (spL y)) rfl rfl rfl (⟨Int.natCast_nonneg _, getM hy⟩) rfl ?_
          refine rOk (d := 49) (x := .dp 9 0 (spL y)) rfl rfl rfl ?_
          refine rOk (d := 50) (x := vU y.pc) rfl rfl rfl ?_
          refine rOk (d := 51) (x := .sl 1 ([[vU y.pc]]) true) rfl rfl rfl ?_
          refine rFx (d := 52) (x := .osl 85 0 (k + 1 + 1) false) (h' := upd (upd _ 70 none) 85 (some (.arr (((c.retired.drop B).take (k + 1 + 1)).map pcL) 1))) rfl rfl (app_eq (ownLen _ _ (show k + 1 < (c.retired.drop B).length from by rw [List.length_drop]; have := of_decide_eq_true h6; omega)) (ownR pcL (c.retired.drop B) hy0)) (⟨by rw [ownLen _ _ (show k + 1 < (c.retired.drop B).length from by rw [List.length_drop]; have := of_decide_eq_true h6; omega)]; have := hok.ret; (first | show k + 1 + 1 ≤ 2000000 | refine .inl (show k + 1 + 1 ≤ 2000000 from ?_)); have := of_decide_eq_true h6; omega, by rw [Nat.zero_add]; simp; have := of_decide_eq_true h6; omega, trivial⟩) ?_
          refine rOk (d := 53) (x := .ptr 9 3) rfl rfl rfl ?_
          refine rFx0 (h' := upd _ 9 (some (.box [.sl 1 ((tagsCa c.data).map rowSet) false, .sl 1 ((tagsCa c.words).map rowSet) false, .osl 60 0 (j + 1) false, .osl 85 0 (k + 1 + 1) false]))) rfl rfl (rfl) (trivial) ?_
          refine rEnd (n' := 88) rfl ?_
          refine cReg rfl ?_
          refine rOk (d := 41) (x := vN (B + (k + 1))) rfl rfl rfl ?_
          have b6 : B + (k + 1) + 1 ≤ 2000000 := by have := of_decide_eq_true h6; have := hok.ret; omega
          refine rOk (d := 42) (x := vN (B + (k + 1) + 1)) rfl rfl (okI (wrapI64 b6 rfl)) ?_
          refine rOk (d := 8) (x := vN (B + (k + 1) + 1)) rfl rfl rfl ?_
          refine rEnd (n' := 91) rfl ?_
          refine ⟨(k + 1) + 1, fun s => match s with | 70 => 85 | s => s, Weak.of_lists (fun s => match s with | 70 => 85 | s => s) ⟨⟨rfl, rfl⟩, ⟨rfl, rfl⟩, ⟨rfl, rfl⟩, ⟨rfl, rfl⟩, trivial⟩ ⟨⟨rfl, rfl, rfl⟩, ⟨rfl, rfl, rfl⟩, ⟨rfl, rfl, rfl⟩, ⟨rfl, rfl, rfl⟩, ⟨rfl, rfl, rfl⟩, trivial⟩ rfl, Or.inr (by have := of_decide_eq_true h6; omega), by have := of_decide_eq_true h6; show c.retired.length - B - ((k + 1) + 1) < c.retired.length - B - (k + 1); omega⟩
        · skip
          refine cExit ?_
          refine cSeq ?_
          refine cReg rfl ?_
          refine rOk (d := 54) (x := .agg [.sl 1 ((tagsCa c.data).map rowSet) false, .sl 1 ((tagsCa c.words).map rowSet) false, .osl 60 0 (j + 1) false, .osl 70 0 (k + 1) false]) rfl rfl rfl ?_
          refine rFx0 (h' := upd _ 1 (some (.box [.sl 1 ((tagsCa c.data).map rowSet) false, .sl 1 ((tagsCa c.words).map rowSet) false, .osl 60 0 (j + 1) false, .osl 70 0 (k + 1) false]))) rfl rfl (rfl) (trivial) ?_
          refine rEnd (n' := 78) rfl ?_
          refine cRet ?_
          have hB2 : (maxI before).toNat = B := by have : maxI before = (B : Int) := hB; rw [this]; rfl
          have hj2 : j + 1 = c.bus.length := by have := of_decide_eq_false h4; omega
          have hk2 : k + 1 = (c.retired.drop B).length := by rw [List.length_drop]; have := of_decide_eq_false h6; omega
          exact ⟨_, rfl, ⟨trivial, trivial, (by show 0 + (j + 1) ≤ ((c.bus.take (j + 1)).map seeQ).length; rw [List.length_map, List.length_take]; omega), (by show 0 + (k + 1) ≤ (((c.retired.drop B).take (k + 1)).map pcL).length; rw [List.length_map, List.length_take]; omega), trivial⟩, rfl, Sub.agg ⟨Sub.refl _, Sub.refl _, (by show Sub (.sl 4 (List.take (j + 1) (List.drop 0 ((c.bus.take (j + 1)).map seeQ))) false) (.sl 4 ((c.bus.map seeR).map rqL) false); rw [ownEnd seeQ c.bus hj2, List.map_map]; exact Sub.refl _), (by show Sub (.sl 1 (List.take (k + 1) (List.drop 0 (((c.retired.drop B).take (k + 1)).map pcL))) false) (.sl 1 (((c.retired.drop (maxI before).toNat).map (·.pc)).map rowU) false); rw [hB2, ownEnd pcL (c.retired.drop B) hk2, List.map_map]; exact Sub.refl _), trivial⟩⟩

def rowE {α : Type} (e : α → α → Bool) : List α → List α → Bool
  | [], [] => true
  | x :: a, y :: b => e x y && rowE e a b
  | _, _ => false
theorem rowE_next {α : Type} {e : α → α → Bool} {a b : List α} {j : Nat} {x y : α} (hx : a[j]? = some x) (hy : b[j]? = some y) (he : e x y = true) (h : rowE e a b = rowE e (a.drop j) (b.drop j)) : rowE e a b = rowE e (a.drop (j + 1)) (b.drop (j + 1)) := by
  obtain ⟨h1, h1'⟩ := List.getElem?_eq_some_iff.1 hx
  obtain ⟨h2, h2'⟩ := List.getElem?_eq_some_iff.1 hy
  rw [h, List.drop_eq_getElem_cons h1, List.drop_eq_getElem_cons h2, h1', h2']
  simp only [rowE, he, Bool.true_and]
theorem rowE_no {α : Type} {e : α → α → Bool} {a b : List α} {j : Nat} {x y : α} (hx : a[j]? = some x) (hy : b[j]? = some y) (he : e x y = false) (h : rowE e a b = rowE e (a.drop j) (b.drop j)) : rowE e a b = false := by
  obtain ⟨h1, h1'⟩ := List.getElem?_eq_some_iff.1 hx
  obtain ⟨h2, h2'⟩ := List.getElem?_eq_some_iff.1 hy
  rw [h, List.drop_eq_getElem_cons h1, List.drop_eq_getElem_cons h2, h1', h2']
  simp only [rowE, he, Bool.false_and]
theorem rowE_end {α : Type} {e : α → α → Bool} {a b : List α} {j : Nat} (ha : a.length ≤ j) (hb : b.length ≤ j) (h : rowE e a b = rowE e (a.drop j) (b.drop j)) : rowE e a b = true := by
  rw [h, List.drop_of_length_le ha, List.drop_of_length_le hb]; rfl
theorem rowE_len {α : Type} {e : α → α → Bool} : ∀ {a b : List α}, a.length ≠ b.length → rowE e a b = false
  | [], [], h => absurd rfl h
  | [], _ :: _, _ => rfl
  | _ :: _, [], _ => rfl
  | x :: a, y :: b, h => by simp only [rowE, rowE_len (a := a) (b := b) (fun k => h (by simp [k])), Bool.and_false]
def eqU (x y : Nat) : Bool := x == y
def eqWy (x y : Wy) : Bool := (((x.line : Int) == (y.line : Int)) && ((x.dirty == y.dirty) && ((x.data == y.data) && true)))
def eqRq (x y : Req) : Bool := ((x.kind == y.kind) && (((x.line : Int) == (y.line : Int)) && ((x.left == y.left) && ((x.data == y.data) && true))))
def sameSe (x y : Seen) : Bool := rowE (rowE eqWy) x.data y.data && (rowE (rowE eqWy) x.words y.words && (rowE eqRq x.bus y.bus && rowE eqU x.pcs y.pcs))

set_option maxRecDepth 100000 in
set_option maxHeartbeats 4000000 in
theorem dEqU (x y : Nat) : DCall C0 60 [vU x, vU y] (.v (.bool (eqU x y))) := by
  refine DCall.intro c0Ok Try.func60 rfl rfl (by kernel_rfl) rfl ?_
  refine cSeq ?_
  refine cReg rfl ?_
  refine rOk (d := 4) (x := vB false) rfl rfl rfl ?_
  refine rEnd (n' := 1) rfl ?_
  refine cSeq ?_
  refine cReg rfl ?_
  refine rOk (d := 5) (x := vU x) rfl rfl rfl ?_
  refine rOk (d := 6) (x := vU y) rfl rfl rfl ?_
  refine rOk (d := 7) (x := vB (x == y)) rfl rfl (okB (eqN _ _)) ?_
  refine rOk (d := 4) (x := vB (x == y)) rfl rfl rfl ?_
  refine rEnd (n' := 5) rfl ?_
  refine cRet ?_
  exact finTA rfl trivial rfl rfl
set_option maxRecDepth 100000 in
set_option maxHeartbeats 4000000 in
theorem dEqW (x y : Wy) : DCall C0 93 [.agg (wyL x), .agg (wyL y)] (.v (.bool (eqWy x y))) := by
  refine DCall.intro c0Ok Try.func93 rfl rfl (by kernel_rfl) rfl ?_
  refine cSeq ?_
  refine cReg rfl ?_
  refine rFx (d := 2) (x := .ptr 0 0) (h' := upd _ 0 (some (.box [vU x.line, vB x.dirty, .v (.string x.data)]))) rfl rfl (rfl) (trivial) ?_
  refine rFx (d := 3) (x := .ptr 1 0) (h' := upd _ 1 (some (.box [vU y.line, vB y.dirty, .v (.string y.data)]))) rfl rfl (rfl) (trivial) ?_
  refine rOk (d := 4) (x := vB false) rfl rfl rfl ?_
  refine rEnd (n' := 3) rfl ?_
  refine cSeq ?_
  refine cReg rfl ?_
  refine rOk (d := 5) (x := .agg [vU x.line, vB x.dirty, .v (.string x.data)]) rfl rfl rfl ?_
  refine rOk (d := 6) (x := .agg [vU y.line, vB y.dirty, .v (.string y.data)]) rfl rfl rfl ?_
  refine rOk (d := 7) (x := vB ((((x.line : Nat) : Int) == ((y.line : Nat) : Int)) && ((x.dirty == y.dirty) && ((x.data == y.data) && true)))) rfl rfl rfl ?_
  refine rOk (d := 4) (x := vB ((((x.line : Nat) : Int) == ((y.line : Nat) : Int)) && ((x.dirty == y.dirty) && ((x.data == y.data) && true)))) rfl rfl rfl ?_
  refine rEnd (n' := 7) rfl ?_
  refine cRet ?_
  exact finTA rfl trivial rfl rfl
set_option maxRecDepth 100000 in
set_option maxHeartbeats 4000000 in
theorem dEqR (x y : Req) : DCall C0 58 [.agg (rqL x), .agg (rqL y)] (.v (.bool (eqRq x y))) := by
  refine DCall.intro c0Ok Try.func58 rfl rfl (by kernel_rfl) rfl ?_
  refine cSeq ?_
  refine cReg rfl ?_
  refine rFx (d := 2) (x := .ptr 0 0) (h' := upd _ 0 (some (.box [vI x.kind, vU x.line, vI x.left, .v (.string x.data)]))) rfl rfl (rfl) (trivial) ?_
  refine rFx (d := 3) (x := .ptr 1 0) (h' := upd _ 1 (some (.box [vI y.kind, vU y.line, vI y.left, .v (.string y.data)]))) rfl rfl (rfl) (trivial) ?_
  refine rOk (d := 4) (x := vB false) rfl rfl rfl ?_
  refine rEnd (n' := 3) rfl ?_
  refine cSeq ?_
  refine cReg rfl ?_
  refine rOk (d := 5) (x := .agg [vI x.kind, vU x.line, vI x.left, .v (.string x.data)]) rfl rfl rfl ?_
  refine rOk (d := 6) (x := .agg [vI y.kind, vU y.line, vI y.left, .v (.string y.data)]) rfl rfl rfl ?_
  refine rOk (d := 7) (x := vB ((x.kind == y.kind) && ((((x.line : Nat) : Int) == ((y.line : Nat) : Int)) && ((x.left == y.left) && ((x.data == y.data) && true))))) rfl rfl rfl ?_
  refine rOk (d := 4) (x := vB ((x.kind == y.kind) && ((((x.line : Nat) : Int) == ((y.line : Nat) : Int)) && ((x.left == y.left) && ((x.data == y.data) && true))))) rfl rfl rfl ?_
  refine rEnd (n' := 7) rfl ?_
  refine cRet ?_
  exact finTA rfl trivial rfl rfl
set_option maxRecDepth 100000 in
set_option maxHeartbeats 4000000 in
theorem dRowW (a b : List Wy) (ha : a.length ≤ 2000000) (hb : b.length ≤ 2000000) : DCall C0 92 [.sl 3 (a.map wyL) false, .sl 3 (b.map wyL) false, .clo 93 [] []] (.v (.bool (rowE eqWy a b))) := by
  refine DCall.intro c0Ok Try.func92 rfl rfl (by kernel_rfl) rfl ?_
  refine cSeq ?_
  refine cReg rfl ?_
  refine rOk (d := 6) (x := vB false) rfl rfl rfl ?_
  refine rEnd (n' := 1) rfl ?_
  refine cSeq ?_
  refine cSeq ?_
  refine cReg rfl ?_
  refine rOk (d := 8) (x := .sl 3 (a.map wyL) false) rfl rfl rfl ?_
  refine rOk (d := 9) (x := vN a.length) rfl rfl (lenMap wyL a) ?_
  refine rOk (d := 10) (x := .sl 3 (b.map wyL) false) rfl rfl rfl ?_
  refine rOk (d := 11) (x := vN b.length) rfl rfl (lenMap wyL b) ?_
  refine rOk (d := 12) (x := vB (a.length != b.length)) rfl rfl (okB (neN _ _)) ?_
  refine rEnd (n' := 6) rfl ?_
  refine cCond (v := a.length != b.length) rfl (fun h1 => ?_) (fun h1 => ?_)
  · skip
    refine cSeq ?_
    refine cReg rfl ?_
    refine rOk (d := 6) (x := vB false) rfl rfl rfl ?_
    refine rEnd (n' := 7) rfl ?_
    refine cRet ?_
    exact finTA rfl trivial rfl (congrArg (fun z => AV.v (.bool z)) (rowE_len (by simpa using h1)).symm)
  · skip
    refine cSkip ?_
    refine cSeq ?_
    refine cSeq ?_
    refine cReg rfl ?_
    refine rOk (d := 13) (x := .sl 3 (a.map wyL) false) rfl rfl rfl ?_
    refine rOk (d := 14) (x := vN a.length) rfl rfl (lenMap wyL a) ?_
    refine rOk (d := 15) (x := vI 0) rfl rfl rfl ?_
    refine rEnd (n' := 9) rfl ?_
    refine cBlock ?_
    refine cLoop (κ := Nat) (fun j => ⟨slotsF [(0, .sl 3 (a.map wyL) false), (1, .sl 3 (b.map wyL) false), (2, .clo 93 [] []), (14, vN a.length), (15, vN j)], heapF [], 9⟩) (fun j => j ≤ a.length ∧ rowE eqWy a b = rowE eqWy (a.drop j) (b.drop j)) (fun j => a.length - j) 0 (fun s => s) (Weak.of_lists (fun s => s) ⟨⟨rfl, rfl⟩, ⟨rfl, rfl⟩, ⟨rfl, rfl⟩, ⟨rfl, rfl⟩, ⟨rfl, rfl⟩, trivial⟩ trivial rfl) (⟨Nat.zero_le _, rfl⟩) ?_
    intro j hj
    have hjB : j ≤ 2000000 := by have := hj.1; omega
    refine cSeq ?_
    refine cReg rfl ?_
    refine rOk (d := 16) (x := vB (decide (j < a.length))) rfl rfl (okB (ltN _ _)) ?_
    refine rEnd (n' := 10) rfl ?_
    refine cSeq ?_
    refine cCond (v := decide (j < a.length)) rfl (fun h2 => ?_) (fun h2 => ?_)
    · skip
      refine cSkip ?_
      refine cSeq ?_
      refine cBlock ?_
      refine cSeq ?_
      refine cReg rfl ?_
      refine rOk (d := 17) (x := vN j) rfl rfl rfl ?_
      refine rOk (d := 7) (x := vN j) rfl rfl rfl ?_
      refine rEnd (n' := 12) rfl ?_
      refine cSeq ?_
      refine cReg rfl ?_
      refine rOk (d := 18) (x := .clo 93 [] []) rfl rfl rfl ?_
      refine rOk (d := 19) (x := .sl 3 (a.map wyL) false) rfl rfl rfl ?_
      refine rOk (d := 20) (x := vN j) rfl rfl rfl ?_
      have hjl := of_decide_eq_true h2
      obtain ⟨x, hx⟩ : ∃ x, a[j]? = some x := ⟨_, List.getElem?_eq_getElem hjl⟩
      obtain ⟨y, hy⟩ : ∃ y, b[j]? = some y := ⟨_, List.getElem?_eq_getElem (by have : a.length = b.length := (by simpa using h1); omega)⟩
      refine rIdx (wyL x) (d := 21) (x := .dp 3 0 (wyL x)) rfl rfl rfl (⟨Int.natCast_nonneg _, getM hx⟩) rfl ?_
      refine rOk (d := 22) (x := .agg (wyL x)) rfl rfl rfl ?_
      refine rOk (d := 23) (x := .sl 3 (b.map wyL) false) rfl rfl rfl ?_
      refine rOk (d := 24) (x := vN j) rfl rfl rfl ?_
      refine rIdx (wyL y) (d := 25) (x := .dp 3 0 (wyL y)) rfl rfl rfl (⟨Int.natCast_nonneg _, getM hy⟩) rfl ?_
      refine rOk (d := 26) (x := .agg (wyL y)) rfl rfl rfl ?_
      refine rCall (args := [.agg (wyL x), .agg (wyL y)]) (d := 27) (x := vB (eqWy x y)) rfl rfl rfl rfl (.inl rfl) rfl (dEqW x y) ?_
      refine rOk (d := 28) (x := vB (!(eqWy x y))) rfl rfl rfl ?_
      refine rEnd (n' := 23) rfl ?_
      refine cCond (v := !(eqWy x y)) rfl (fun h3 => ?_) (fun h3 => ?_)
      · skip
        refine cSeq ?_
        refine cReg rfl ?_
        refine rOk (d := 6) (x := vB false) rfl rfl rfl ?_
        refine rEnd (n' := 24) rfl ?_
        refine cRet ?_
        exact finTA rfl trivial rfl (congrArg (fun z => AV.v (.bool z)) (rowE_no hx hy (by simpa using h3) hj.2).symm)
      · skip
        refine cSkip ?_
        refine cReg rfl ?_
        have b1 : j + 1 ≤ 2000001 := Nat.add_le_add hjB (Nat.le_refl 1)
        refine rOk (d := 29) (x := vN (j + 1)) rfl rfl (okI (wrapI64 b1 rfl)) ?_
        refine rOk (d := 15) (x := vN (j + 1)) rfl rfl rfl ?_
        refine rEnd (n' := 25) rfl ?_
        refine ⟨j + 1, fun s => s, Weak.of_lists (fun s => s) ⟨⟨rfl, rfl⟩, ⟨rfl, rfl⟩, ⟨rfl, rfl⟩, ⟨rfl, rfl⟩, ⟨rfl, rfl⟩, trivial⟩ trivial rfl, ⟨hjl, rowE_next hx hy (by simpa using h3) hj.2⟩, by show a.length - (j + 1) < a.length - j; omega⟩
    · skip
      refine cExit ?_
      refine cSeq ?_
      refine cReg rfl ?_
      refine rOk (d := 6) (x := vB true) rfl rfl rfl ?_
      refine rEnd (n' := 11) rfl ?_
      refine cRet ?_
      have hab : a.length = b.length := (by simpa using h1)
      have hje := of_decide_eq_false h2
      exact finTA rfl trivial rfl (congrArg (fun z => AV.v (.bool z)) (rowE_end (by omega) (by omega) hj.2).symm)
set_option maxRecDepth 100000 in
set_option maxHeartbeats 4000000 in
theorem dRowR (a b : List Req) (ha : a.length ≤ 2000000) (hb : b.length ≤ 2000000) : DCall C0 57 [.sl 4 (a.map rqL) false, .sl 4 (b.map rqL) false, .clo 58 [] []] (.v (.bool (rowE eqRq a b))) := by
  refine DCall.intro c0Ok Try.func57 rfl rfl (by kernel_rfl) rfl ?_
  refine cSeq ?_
  refine cReg rfl ?_
  refine rOk (d := 6) (x := vB false) rfl rfl rfl ?_
  refine rEnd (n' := 1) rfl ?_
  refine cSeq ?_
  refine cSeq ?_
  refine cReg rfl ?_
  refine rOk (d := 8) (x := .sl 4 (a.map rqL) false) rfl rfl rfl ?_
  refine rOk (d := 9) (x := vN a.length) rfl rfl (lenMap rqL a) ?_
  refine rOk (d := 10) (x := .sl 4 (b.map rqL) false) rfl rfl rfl ?_
  refine rOk (d := 11) (x := vN b.length) rfl rfl (lenMap rqL b) ?_
  refine rOk (d := 12) (x := vB (a.length != b.length)) rfl rfl (okB (neN _ _)) ?_
  refine rEnd (n' := 6) rfl ?_
  refine cCond (v := a.length != b.length) rfl (fun h1 => ?_) (fun h1 => ?_)
  · skip
    refine cSeq ?_
    refine cReg rfl ?_
    refine rOk (d := 6) (x := vB false) rfl rfl rfl ?_
    refine rEnd (n' := 7) rfl ?_
    refine cRet ?_
    exact finTA rfl trivial rfl (congrArg (fun z => AV.v (.bool z)) (rowE_len (by simpa using h1)).symm)
  · skip
    refine cSkip ?_
    refine cSeq ?_
    refine cSeq ?_
    refine cReg rfl ?_
    refine rOk (d := 13) (x := .sl 4 (a.map rqL) false) rfl rfl rfl ?_
    refine rOk (d := 14) (x := vN a.length) rfl rfl (lenMap rqL a) ?_
    refine rOk (d := 15) (x := vI 0) rfl rfl rfl ?_
    refine rEnd (n' := 9) rfl ?_
    refine cBlock ?_
    refine cLoop (κ := Nat) (fun j => ⟨slotsF [(0, .sl 4 (a.map rqL) false), (1, .sl 4 (b.map rqL) false), (2, .clo 58 [] []), (14, vN a.length), (15, vN j)], heapF [], 9⟩) (fun j => j ≤ a.length ∧ rowE eqRq a b = rowE eqRq (a.drop j) (b.drop j)) (fun j => a.length - j) 0 (fun s => s) (Weak.of_lists (fun s => s) ⟨⟨rfl, rfl⟩, ⟨rfl, rfl⟩, ⟨rfl, rfl⟩, ⟨rfl, rfl⟩, ⟨rfl, rfl⟩, trivial⟩ trivial rfl) (⟨Nat.zero_le _, rfl⟩) ?_
    intro j hj
    have hjB : j ≤ 2000000 := by have := hj.1; omega
    refine cSeq ?_
    refine cReg rfl ?_
    refine rOk (d := 16) (x := vB (decide (j < a.length))) rfl rfl (okB (ltN _ _)) ?_
    refine rEnd (n' := 10) rfl ?_
    refine cSeq ?_
    refine cCond (v := decide (j < a.length)) rfl (fun h2 => ?_) (fun h2 => ?_)
    · skip
      refine cSkip ?_
      refine cSeq ?_
      refine cBlock ?_
      refine cSeq ?_
      refine cReg rfl ?_
      refine rOk (d := 17) (x := vN j) rfl rfl rfl ?_
      refine rOk (d := 7) (x := vN j) rfl rfl rfl ?_
      refine rEnd (n' := 12) rfl ?_
      refine cSeq ?_
      refine cReg rfl ?_
      refine rOk (d := 18) (x := .clo 58 [] []) rfl rfl rfl ?_
      refine rOk (d := 19) (x := .sl 4 (a.map rqL) false) rfl rfl rfl ?_
      refine rOk (d := 20) (x := vN j) rfl rfl rfl ?_
      have hjl := of_decide_eq_true h2
      obtain ⟨x, hx⟩ : ∃ x, a[j]? = some x := ⟨_, List.getElem?_eq_getElem hjl⟩
      obtain ⟨y, hy⟩ : ∃ y, b[j]? = some y := ⟨_, List.getElem?_eq_getElem (by have : a.length = b.length := (by simpa using h1); omega)⟩
      refine rIdx (rqL x) (d := 21) (x := .dp 4 0 (rqL x)) rfl rfl rfl (⟨Int.natCast_nonneg _, getM hx⟩) rfl ?_
      refine rOk (d := 22) (x := .agg (rqL x)) rfl rfl rfl ?_
      refine rOk (d := 23) (x := .sl 4 (b.map rqL) false) rfl rfl rfl ?_
      refine rOk (d := 24) (x := vN j) rfl rfl rfl ?_
      refine rIdx (rqL y) (d := 25) (x := .dp 4 0 (rqL y)) rfl rfl rfl (⟨Int.natCast_nonneg _, getM hy⟩) rfl ?_
      refine rOk (d := 26) (x := .agg (rqL y)) rfl rfl rfl ?_
      refine rCall (args := [.agg (rqL x), .agg (rqL y)]) (d := 27) (x := vB (eqRq x y)) rfl rfl rfl rfl (.inl rfl) rfl (dEqR x y) ?_
      refine rOk (d := 28) (x := vB (!(eqRq x y))) rfl rfl rfl ?_
      refine rEnd (n' := 23) rfl ?_
      refine cCond (v := !(eqRq x y)) rfl (fun h3 => ?_) (fun h3 => ?_)
      · skip
        refine cSeq ?_
        refine cReg rfl ?_
        refine rOk (d := 6) (x := vB false) rfl rfl rfl ?_
        refine rEnd (n' := 24) rfl ?_
        refine cRet ?_
        exact finTA rfl trivial rfl (congrArg (fun z => AV.v (.bool z)) (rowE_no hx hy (by simpa using h3) hj.2).symm)
      · skip
        refine cSkip ?_
        refine cReg rfl ?_
        have b1 : j + 1 ≤ 2000001 := Nat.add_le_add hjB (Nat.le_refl 1)
        refine rOk (d := 29) (x := vN (j + 1)) rfl rfl (okI (wrapI64 b1 rfl)) ?_
        refine rOk (d := 15) (x := vN (j + 1)) rfl rfl rfl ?_
        refine rEnd (n' := 25) rfl ?_
        refine ⟨j + 1, fun s => s, Weak.of_lists (fun s => s) ⟨⟨rfl, rfl⟩, ⟨rfl, rfl⟩, ⟨rfl, rfl⟩, ⟨rfl, rfl⟩, ⟨rfl, rfl⟩, trivial⟩ trivial rfl, ⟨hjl, rowE_next hx hy (by simpa using h3) hj.2⟩, by show a.length - (j + 1) < a.length - j; omega⟩
    · skip
      refine cExit ?_
      refine cSeq ?_
      refine cReg rfl ?_
      refine rOk (d := 6) (x := vB true) rfl rfl rfl ?_
      refine rEnd (n' := 11) rfl ?_
      refine cRet ?_
      have hab : a.length = b.length := (by simpa using h1)
      have hje := of_decide_eq_false h2
      exact finTA rfl trivial rfl (congrArg (fun z => AV.v (.bool z)) (rowE_end (by omega) (by omega) hj.2).symm)
set_option maxRecDepth 100000 in
set_option maxHeartbeats 4000000 in
theorem dRowU (a b : List Nat) (ha : a.length ≤ 2000000) (hb : b.length ≤ 2000000) : DCall C0 59 [.sl 1 (a.map rowU) false, .sl 1 (b.map rowU) false, .clo 60 [] []] (.v (.bool (rowE eqU a b))) := by
  refine DCall.intro c0Ok Try.func59 rfl rfl (by kernel_rfl) rfl ?_
  refine cSeq ?_
  refine cReg rfl ?_
  refine rOk (d := 6) (x := vB false) rfl rfl rfl ?_
  refine rEnd (n' := 1) rfl ?_
  refine cSeq ?_
  refine cSeq ?_
  refine cReg rfl ?_
  refine rOk (d := 8) (x := .sl 1 (a.map rowU) false) rfl rfl rfl ?_
  refine rOk (d := 9) (x := vN a.length) rfl rfl (lenMap rowU a) ?_
  refine rOk (d := 10) (x := .sl 1 (b.map rowU) false) rfl rfl rfl ?_
  refine rOk (d := 11) (x := vN b.length) rfl rfl (lenMap rowU b) ?_
  refine rOk (d := 12) (x := vB (a.length != b.length)) rfl rfl (okB (neN _ _)) ?_
  refine rEnd (n' := 6) rfl ?_
  refine cCond (v := a.length != b.length) rfl (fun h1 => ?_) (fun h1 => ?_)
  · skip
    refine cSeq ?_
    refine cReg rfl ?_
    refine rOk (d := 6) (x := vB false) rfl rfl rfl ?_
    refine rEnd (n' := 7) rfl ?_
    refine cRet ?_
    exact finTA rfl trivial rfl (congrArg (fun z => AV.v (.bool z)) (rowE_len (by simpa using h1)).symm)
  · skip
    refine cSkip ?_
    refine cSeq ?_
    refine cSeq ?_
    refine cReg rfl ?_
    refine rOk (d := 13) (x := .sl 1 (a.map rowU) false) rfl rfl rfl ?_
    refine rOk (d := 14) (x := vN a.length) rfl rfl (lenMap rowU a) ?_
    refine rOk (d := 15) (x := vI 0) rfl rfl rfl ?_
    refine rEnd (n' := 9) rfl ?_
    refine cBlock ?_
    refine cLoop (κ := Nat) (fun j => ⟨slotsF [(0, .sl 1 (a.map rowU) false), (1, .sl 1 (b.map rowU) false), (2, .clo 60 [] []), (14, vN a.length), (15, vN j)], heapF [], 9⟩) (fun j => j ≤ a.length ∧ rowE eqU a b = rowE eqU (a.drop j) (b.drop j)) (fun j => a.length - j) 0 (fun s => s) (Weak.of_lists (fun s => s) ⟨⟨rfl, rfl⟩, ⟨rfl, rfl⟩, ⟨rfl, rfl⟩, ⟨rfl, rfl⟩, ⟨rfl, rfl⟩, trivial⟩ trivial rfl) (⟨Nat.zero_le _, rfl⟩) ?_
    intro j hj
    have hjB : j ≤ 2000000 := by have := hj.1; omega
    refine cSeq ?_
    refine cReg rfl ?_
    refine rOk (d := 16) (x := vB (decide (j < a.length))) rfl rfl (okB (ltN _ _)) ?_
    refine rEnd (n' := 10) rfl ?_
    refine cSeq ?_
    refine cCond (v := decide (j < a.length)) rfl (fun h2 => ?_) (fun h2 => ?_)
    · skip
      refine cSkip ?_
      refine cSeq ?_
      refine cBlock ?_
      refine cSeq ?_
      refine cReg rfl ?_
      refine rOk (d := 17) (x := vN j) rfl rfl rfl ?_
      refine rOk (d := 7) (x := vN j) rfl rfl rfl ?_
      refine rEnd (n' := 12) rfl ?_
      refine cSeq ?_
      refine cReg rfl ?_
      refine rOk (d := 18) (x := .clo 60 [] []) rfl rfl rfl ?_
      refine rOk (d := 19) (x := .sl 1 (a.map rowU) false) rfl rfl rfl ?_
      refine rOk (d := 20) (x := vN j) rfl rfl rfl ?_
      have hjl := of_decide_eq_true h2
      obtain ⟨x, hx⟩ : ∃ x, a[j]? = some x := ⟨_, List.getElem?_eq_getElem hjl⟩
      obtain ⟨y, hy⟩ : ∃ y, b[j]? = some y := ⟨_, List.getElem?_eq_getElem (by have : a.length = b.length := (by simpa using h1); omega)⟩
      refine rIdx (rowU x) (d := 21) (x := .dp 1 0 (rowU x)) rfl rfl rfl (⟨Int.natCast_nonneg _, getM hx⟩) rfl ?_
      refine rOk (d := 22) (x := vU x) rfl rfl rfl ?_
      refine rOk (d := 23) (x := .sl 1 (b.map rowU) false) rfl rfl rfl ?_
      refine rOk (d := 24) (x := vN j) rfl rfl rfl ?_
      refine rIdx (rowU y) (d := 25) (x := .dp 1 0 (rowU y)) rfl rfl rfl (⟨Int.natCast_nonneg _, getM hy⟩) rfl ?_
      refine rOk (d := 26) (x := vU y) rfl rfl rfl ?_
      refine rCall (args := [vU x, vU y]) (d := 27) (x := vB (eqU x y)) rfl rfl rfl rfl (.inl rfl) rfl (dEqU x y) ?_
      refine rOk (d := 28) (x := vB (!(eqU x y))) rfl rfl rfl ?_
      refine rEnd (n' := 23) rfl ?_
      refine cCond (v := !(eqU x y)) rfl (fun h3 => ?_) (fun h3 => ?_)
      · skip
        refine cSeq ?_
        refine cReg rfl ?_
        refine rOk (d := 6) (x := vB false) rfl rfl rfl ?_
        refine rEnd (n' := 24) rfl ?_
        refine cRet ?_
        exact finTA rfl trivial rfl (congrArg (fun z => AV.v (.bool z)) (rowE_no hx hy (by simpa using h3) hj.2).symm)
      · skip
        refine cSkip ?_
        refine cReg rfl ?_
        have b1 : j + 1 ≤ 2000001 := Nat.add_le_add hjB (Nat.le_refl 1)
        refine rOk (d := 29) (x := vN (j + 1)) rfl rfl (okI (wrapI64 b1 rfl)) ?_
        refine rOk (d := 15) (x := vN (j + 1)) rfl rfl rfl ?_
        refine rEnd (n' := 25) rfl ?_
        refine ⟨j + 1, fun s => s, Weak.of_lists (fun s => s) ⟨⟨rfl, rfl⟩, ⟨rfl, rfl⟩, ⟨rfl, rfl⟩, ⟨rfl, rfl⟩, ⟨rfl, rfl⟩, trivial⟩ trivial rfl, ⟨hjl, rowE_next hx hy (by simpa using h3) hj.2⟩, by show a.length - (j + 1) < a.length - j; omega⟩
    · skip
      refine cExit ?_
      refine cSeq ?_
      refine cReg rfl ?_
      refine rOk (d := 6) (x := vB true) rfl rfl rfl ?_
      refine rEnd (n' := 11) rfl ?_
      refine cRet ?_
      have hab : a.length = b.length := (by simpa using h1)
      have hje := of_decide_eq_false h2
      exact finTA rfl trivial rfl (congrArg (fun z => AV.v (.bool z)) (rowE_end (by omega) (by omega) hj.2).symm)
set_option maxRecDepth 100000 in
set_option maxHeartbeats 4000000 in
theorem dWays (a b : List Wy) (ha : a.length ≤ 2000000) (hb : b.length ≤ 2000000) : DCall C0 56 [.sl 3 (a.map wyL) false, .sl 3 (b.map wyL) false] (.v (.bool (rowE eqWy a b))) := by
  refine DCall.intro c0Ok Try.func56 rfl rfl (by kernel_rfl) rfl ?_
  refine cSeq ?_
  refine cReg rfl ?_
  refine rOk (d := 4) (x := vB false) rfl rfl rfl ?_
  refine rEnd (n' := 1) rfl ?_
  refine cSeq ?_
  refine cReg rfl ?_
  refine rOk (d := 5) (x := .sl 3 (a.map wyL) false) rfl rfl rfl ?_
  refine rOk (d := 6) (x := .sl 3 (b.map wyL) false) rfl rfl rfl ?_
  refine rCall (args := [.sl 3 (a.map wyL) false, .sl 3 (b.map wyL) false, .clo 93 [] []]) (d := 7) (x := vB (rowE eqWy a b)) rfl rfl rfl rfl (.inl rfl) rfl (dRowW a b ha hb) ?_
  refine rOk (d := 4) (x := vB (rowE eqWy a b)) rfl rfl rfl ?_
  refine rEnd (n' := 5) rfl ?_
  refine cRet ?_
  exact finTA rfl trivial rfl rfl
set_option maxRecDepth 100000 in
set_option maxHeartbeats 4000000 in
theorem dRowS (a b : List (List Wy)) (ha : a.length ≤ 2000000) (hb : b.length ≤ 2000000) (hsa : ∀ s ∈ a, s.length ≤ 2000000) (hsb : ∀ s ∈ b, s.length ≤ 2000000) : DCall C0 55 [.sl 1 (a.map rowSet) false, .sl 1 (b.map rowSet) false, .clo 56 [] []] (.v (.bool (rowE (rowE eqWy) a b))) := by
  refine DCall.intro c0Ok Try.func55 rfl rfl (by kernel_rfl) rfl ?_
  refine cSeq ?_
  refine cReg rfl ?_
  refine rOk (d := 6) (x := vB false) rfl rfl rfl ?_
  refine rEnd (n' := 1) rfl ?_
  refine cSeq ?_
  refine cSeq ?_
  refine cReg rfl ?_
  refine rOk (d := 8) (x := .sl 1 (a.map rowSet) false) rfl rfl rfl ?_
  refine rOk (d := 9) (x := vN a.length) rfl rfl (lenMap rowSet a) ?_
  refine rOk (d := 10) (x := .sl 1 (b.map rowSet) false) rfl rfl rfl ?_
  refine rOk (d := 11) (x := vN b.length) rfl rfl (lenMap rowSet b) ?_
  refine rOk (d := 12) (x := vB (a.length != b.length)) rfl rfl (okB (neN _ _)) ?_
  refine rEnd (n' := 6) rfl ?_
  refine cCond (v := a.length != b.length) rfl (fun h1 => ?_) (fun h1 => ?_)
  · skip
    refine cSeq ?_
    refine cReg rfl ?_
    refine rOk (d := 6) (x := vB false) rfl rfl rfl ?_
    refine rEnd (n' := 7) rfl ?_
    refine cRet ?_
    exact finTA rfl trivial rfl (congrArg (fun z => AV.v (.bool z)) (rowE_len (by simpa using h1)).symm)
  · skip
    refine cSkip ?_
    refine cSeq ?_
    refine cSeq ?_
    refine cReg rfl ?_
    refine rOk (d := 13) (x := .sl 1 (a.map rowSet) false) rfl rfl rfl ?_
    refine rOk (d := 14) (x := vN a.length) rfl rfl (lenMap rowSet a) ?_
    refine rOk (d := 15) (x := vI 0) rfl rfl rfl ?_
    refine rEnd (n' := 9) rfl ?_
    refine cBlock ?_
    refine cLoop (κ := Nat) (fun j => ⟨slotsF [(0, .sl 1 (a.map rowSet) false), (1, .sl 1 (b.map rowSet) false), (2, .clo 56 [] []), (14, vN a.length), (15, vN j)], heapF [], 9⟩) (fun j => j ≤ a.length ∧ rowE (rowE eqWy) a b = rowE (rowE eqWy) (a.drop j) (b.drop j)) (fun j => a.length - j) 0 (fun s => s) (Weak.of_lists (fun s => s) ⟨⟨rfl, rfl⟩, ⟨rfl, rfl⟩, ⟨rfl, rfl⟩, ⟨rfl, rfl⟩, ⟨rfl, rfl⟩, trivial⟩ trivial rfl) (⟨Nat.zero_le _, rfl⟩) ?_
    intro j hj
    have hjB : j ≤ 2000000 := by have := hj.1; omega
    refine cSeq ?_
    refine cReg rfl ?_
    refine rOk (d := 16) (x := vB (decide (j < a.length))) rfl rfl (okB (ltN _ _)) ?_
    refine rEnd (n' := 10) rfl ?_
    refine cSeq ?_
    refine cCond (v := decide (j < a.length)) rfl (fun h2 => ?_) (fun h2 => ?_)
    · skip
      refine cSkip ?_
      refine cSeq ?_
      refine cBlock ?_
      refine cSeq ?_
      refine cReg rfl ?_
      refine rOk (d := 17) (x := vN j) rfl rfl rfl ?_
      refine rOk (d := 7) (x := vN j) rfl rfl rfl ?_
      refine rEnd (n' := 12) rfl ?_
      refine cSeq ?_
      refine cReg rfl ?_
      refine rOk (d := 18) (x := .clo 56 [] []) rfl rfl rfl ?_
      refine rOk (d := 19) (x := .sl 1 (a.map rowSet) false) rfl rfl rfl ?_
      refine rOk (d := 20) (x := vN j) rfl rfl rfl ?_
      have hjl := of_decide_eq_true h2
      obtain ⟨x, hx⟩ : ∃ x, a[j]? = some x := ⟨_, List.getElem?_eq_getElem hjl⟩
      obtain ⟨y, hy⟩ : ∃ y, b[j]? = some y := ⟨_, List.getElem?_eq_getElem (by have : a.length = b.length := (by simpa using h1); omega)⟩
      refine rIdx (rowSet x) (d := 21) (x := .dp 1 0 (rowSet x)) rfl rfl rfl (⟨Int.natCast_nonneg _, getM hx⟩) rfl ?_
      refine rOk (d := 22) (x := .sl 3 (x.map wyL) false) rfl rfl rfl ?_
      refine rOk (d := 23) (x := .sl 1 (b.map rowSet) false) rfl rfl rfl ?_
      refine rOk (d := 24) (x := vN j) rfl rfl rfl ?_
      refine rIdx (rowSet y) (d := 25) (x := .dp 1 0 (rowSet y)) rfl rfl rfl (⟨Int.natCast_nonneg _, getM hy⟩) rfl ?_
      refine rOk (d := 26) (x := .sl 3 (y.map wyL) false) rfl rfl rfl ?_
      refine rCall (args := [.sl 3 (x.map wyL) false, .sl 3 (y.map wyL) false]) (d := 27) (x := vB ((rowE eqWy) x y)) rfl rfl rfl rfl (.inl rfl) rfl (dWays x y (hsa x (List.mem_of_getElem? hx)) (hsb y (List.mem_of_getElem? hy))) ?_
      refine rOk (d := 28) (x := vB (!((rowE eqWy) x y))) rfl rfl rfl ?_
      refine rEnd (n' := 23) rfl ?_
      refine cCond (v := !((rowE eqWy) x y)) rfl (fun h3 => ?_) (fun h3 => ?_)
      · skip
        refine cSeq ?_
        refine cReg rfl ?_
        refine rOk (d := 6) (x := vB false) rfl rfl rfl ?_
        refine rEnd (n' := 24) rfl ?_
        refine cRet ?_
        exact finTA rfl trivial rfl (congrArg (fun z => AV.v (.bool z)) (rowE_no hx hy (by simpa using h3) hj.2).symm)
      · skip
        refine cSkip ?_
        refine cReg rfl ?_
        have b1 : j + 1 ≤ 2000001 := Nat.add_le_add hjB (Nat.le_refl 1)
        refine rOk (d := 29) (x := vN (j + 1)) rfl rfl (okI (wrapI64 b1 rfl)) ?_
        refine rOk (d := 15) (x := vN (j + 1)) rfl rfl rfl ?_
        refine rEnd (n' := 25) rfl ?_
        refine ⟨j + 1, fun s => s, Weak.of_lists (fun s => s) ⟨⟨rfl, rfl⟩, ⟨rfl, rfl⟩, ⟨rfl, rfl⟩, ⟨rfl, rfl⟩, ⟨rfl, rfl⟩, trivial⟩ trivial rfl, ⟨hjl, rowE_next hx hy (by simpa using h3) hj.2⟩, by show a.length - (j + 1) < a.length - j; omega⟩
    · skip
      refine cExit ?_
      refine cSeq ?_
      refine cReg rfl ?_
      refine rOk (d := 6) (x := vB true) rfl rfl rfl ?_
      refine rEnd (n' := 11) rfl ?_
      refine cRet ?_
      have hab : a.length = b.length := (by simpa using h1)
      have hje := of_decide_eq_false h2
      exact finTA rfl trivial rfl (congrArg (fun z => AV.v (.bool z)) (rowE_end (by omega) (by omega) hj.2).symm)

structure Seen.ok (s : Seen) : Prop where
  data : s.data.length ≤ 2000000
  dat : ∀ x ∈ s.data, x.length ≤ 2000000
  words : s.words.length ≤ 2000000
  word : ∀ x ∈ s.words, x.length ≤ 2000000
  bus : s.bus.length ≤ 2000000
  pcs : s.pcs.length ≤ 2000000

set_option maxRecDepth 100000 in
set_option maxHeartbeats 4000000 in
theorem dSame (x y : Seen) (hx : x.ok) (hy : y.ok) : DCall C0 26 [.agg (seL x), .agg (seL y)] (.v (.bool (sameSe x y))) := by
  refine DCall.intro c0Ok Try.func26 rfl rfl (by kernel_rfl) rfl ?_
  refine cSeq ?_
  refine cReg rfl ?_
  refine rFx (d := 2) (x := .ptr 0 0) (h' := upd _ 0 (some (.box [.sl 1 (x.data.map rowSet) false, .sl 1 (x.words.map rowSet) false, .sl 4 (x.bus.map rqL) false, .sl 1 (x.pcs.map rowU) false]))) rfl rfl (rfl) (trivial) ?_
  refine rFx (d := 3) (x := .ptr 1 0) (h' := upd _ 1 (some (.box [.sl 1 (y.data.map rowSet) false, .sl 1 (y.words.map rowSet) false, .sl 4 (y.bus.map rqL) false, .sl 1 (y.pcs.map rowU) false]))) rfl rfl (rfl) (trivial) ?_
  refine rOk (d := 4) (x := vB false) rfl rfl rfl ?_
  refine rEnd (n' := 3) rfl ?_
  refine cSeq ?_
  refine cReg rfl ?_
  refine rOk (d := 5) (x := .ptr 0 0) rfl rfl rfl ?_
  refine rOk (d := 6) (x := .sl 1 (x.data.map rowSet) false) rfl rfl rfl ?_
  refine rOk (d := 7) (x := .ptr 1 0) rfl rfl rfl ?_
  refine rOk (d := 8) (x := .sl 1 (y.data.map rowSet) false) rfl rfl rfl ?_
  refine rCall (args := [.sl 1 (x.data.map rowSet) false, .sl 1 (y.data.map rowSet) false, .clo 56 [] []]) (d := 9) (x := vB (rowE (rowE eqWy) x.data y.data)) rfl rfl rfl rfl (.inl rfl) rfl (dRowS x.data y.data hx.data hy.data hx.dat hy.dat) ?_
  refine rOk (d := 10) (x := vB (rowE (rowE eqWy) x.data y.data)) rfl rfl rfl ?_
  refine gOk (d := 11) (x := .ptr 0 1) (g := rowE (rowE eqWy) x.data y.data) rfl rfl rfl rfl rfl rfl ?_
  refine gOkS (d := 12) (x := .sl 1 (x.words.map rowSet) false) (g := rowE (rowE eqWy) x.data y.data) rfl rfl rfl rfl (fun h => h) rfl rfl ?_
  refine gOk (d := 13) (x := .ptr 1 1) (g := rowE (rowE eqWy) x.data y.data) rfl rfl rfl rfl rfl rfl ?_
  refine gOkS (d := 14) (x := .sl 1 (y.words.map rowSet) false) (g := rowE (rowE eqWy) x.data y.data) rfl rfl rfl rfl (fun h => h) rfl rfl ?_
  refine gCallS (args := [.sl 1 (x.words.map rowSet) false, .sl 1 (y.words.map rowSet) false, .clo 56 [] []]) (d := 15) (x := vB (rowE (rowE eqWy) x.words y.words)) (g := rowE (rowE eqWy) x.data y.data) rfl rfl rfl rfl (fun h => by first | (simp_all; done) | exact (Bool.and_eq_true_iff.1 h).1 | exact Bool.and_eq_true_iff.2 ⟨h, h⟩) rfl rfl rfl (.inl rfl) rfl (fun hg => dRowS x.words y.words hx.words hy.words hx.word hy.word) ?_
  refine rNeed (d := 16) (x := vB (cond2 (rowE (rowE eqWy) x.data y.data) (rowE (rowE eqWy) x.words y.words) false)) rfl rfl rfl (fun h => h) ?_
  refine rOk (d := 17) (x := vB (cond2 (rowE (rowE eqWy) x.data y.data) (rowE (rowE eqWy) x.words y.words) false)) rfl rfl rfl ?_
  refine gOk (d := 18) (x := .ptr 0 2) (g := cond2 (rowE (rowE eqWy) x.data y.data) (rowE (rowE eqWy) x.words y.words) false) rfl rfl rfl rfl rfl rfl ?_
  refine gOkS (d := 19) (x := .sl 4 (x.bus.map rqL) false) (g := cond2 (rowE (rowE eqWy) x.data y.data) (rowE (rowE eqWy) x.words y.words) false) rfl rfl rfl rfl (fun h => h) rfl rfl ?_
  refine gOk (d := 20) (x := .ptr 1 2) (g := cond2 (rowE (rowE eqWy) x.data y.data) (rowE (rowE eqWy) x.words y.words) false) rfl rfl rfl rfl rfl rfl ?_
  refine gOkS (d := 21) (x := .sl 4 (y.bus.map rqL) false) (g := cond2 (rowE (rowE eqWy) x.data y.data) (rowE (rowE eqWy) x.words y.words) false) rfl rfl rfl rfl (fun h => h) rfl rfl ?_
  refine gCallS (args := [.sl 4 (x.bus.map rqL) false, .sl 4 (y.bus.map rqL) false, .clo 58 [] []]) (d := 22) (x := vB (rowE eqRq x.bus y.bus)) (g := cond2 (rowE (rowE eqWy) x.data y.data) (rowE (rowE eqWy) x.words y.words) false) rfl rfl rfl rfl (fun h => by first | (simp_all; done) | exact (Bool.and_eq_true_iff.1 h).1 | exact Bool.and_eq_true_iff.2 ⟨h, h⟩) rfl rfl rfl (.inl rfl) rfl (fun hg => dRowR x.bus y.bus hx.bus hy.bus) ?_
  refine rNeed (d := 23) (x := vB (cond2 (cond2 (rowE (rowE eqWy) x.data y.data) (rowE (rowE eqWy) x.words y.words) false) (rowE eqRq x.bus y.bus) false)) rfl rfl rfl (fun h => h) ?_
  refine rOk (d := 24) (x := vB (cond2 (cond2 (rowE (rowE eqWy) x.data y.data) (rowE (rowE eqWy) x.words y.words) false) (rowE eqRq x.bus y.bus) false)) rfl rfl rfl ?_
  refine gOk (d := 25) (x := .ptr 0 3) (g := cond2 (cond2 (rowE (rowE eqWy) x.data y.data) (rowE (rowE eqWy) x.words y.words) false) (rowE eqRq x.bus y.bus) false) rfl rfl rfl rfl rfl rfl ?_
  refine gOkS (d := 26) (x := .sl 1 (x.pcs.map rowU) false) (g := cond2 (cond2 (rowE (rowE eqWy) x.data y.data) (rowE (rowE eqWy) x.words y.words) false) (rowE eqRq x.bus y.bus) false) rfl rfl rfl rfl (fun h => h) rfl rfl ?_
  refine gOk (d := 27) (x := .ptr 1 3) (g := cond2 (cond2 (rowE (rowE eqWy) x.data y.data) (rowE (rowE eqWy) x.words y.words) false) (rowE eqRq x.bus y.bus) false) rfl rfl rfl rfl rfl rfl ?_
  refine gOkS (d := 28) (x := .sl 1 (y.pcs.map rowU) false) (g := cond2 (cond2 (rowE (rowE eqWy) x.data y.data) (rowE (rowE eqWy) x.words y.words) false) (rowE eqRq x.bus y.bus) false) rfl rfl rfl rfl (fun h => h) rfl rfl ?_
  refine gCallS (args := [.sl 1 (x.pcs.map rowU) false, .sl 1 (y.pcs.map rowU) false, .clo 60 [] []]) (d := 29) (x := vB (rowE eqU x.pcs y.pcs)) (g := cond2 (cond2 (rowE (rowE eqWy) x.data y.data) (rowE (rowE eqWy) x.words y.words) false) (rowE eqRq x.bus y.bus) false) rfl rfl rfl rfl (fun h => by first | (simp_all; done) | exact (Bool.and_eq_true_iff.1 h).1 | exact Bool.and_eq_true_iff.2 ⟨h, h⟩) rfl rfl rfl (.inl rfl) rfl (fun hg => dRowU x.pcs y.pcs hx.pcs hy.pcs) ?_
  refine rNeed (d := 30) (x := vB (cond2 (cond2 (cond2 (rowE (rowE eqWy) x.data y.data) (rowE (rowE eqWy) x.words y.words) false) (rowE eqRq x.bus y.bus) false) (rowE eqU x.pcs y.pcs) false)) rfl rfl rfl (fun h => h) ?_
  refine rOk (d := 4) (x := vB (cond2 (cond2 (cond2 (rowE (rowE eqWy) x.data y.data) (rowE (rowE eqWy) x.words y.words) false) (rowE eqRq x.bus y.bus) false) (rowE eqU x.pcs y.pcs) false)) rfl rfl rfl ?_
  refine rEnd (n' := 30) rfl ?_
  refine cRet ?_
  exact finTA rfl trivial rfl (congrArg (fun z => AV.v (.bool z)) (by simp only [c2, sameSe, Bool.and_false, Bool.or_false, Bool.and_assoc]))
end Go.Proofs.Ytckjihpdjefpgaa
