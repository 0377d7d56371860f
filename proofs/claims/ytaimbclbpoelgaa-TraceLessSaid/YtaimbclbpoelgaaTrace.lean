/- The contracts of package trace and of its reference: what a step tells, and how many events two rows have in common. -/
import Derived.Test.YtaimbclbpoelgaaBase
import Derived.Test.YtaimbclbpoelgaaProg
namespace Go.Proofs.Ytaimbclbpoelgaa
open Go.RowKit

structure Stp where
  pc : Int
  nx : Int
  rd : Int
  va : Int
  ad : Int
  sz : Int
  st : Bool
  ha : Int
  to : Int
structure Ev where
  pc : Int
  ad : Int
  sz : Int
  to : Int
  lo : Int
  ha : Int
instance : DecidableEq Ev := fun a b =>
  if h : a.pc = b.pc ∧ a.ad = b.ad ∧ a.sz = b.sz ∧ a.to = b.to ∧ a.lo = b.lo ∧ a.ha = b.ha then isTrue (by cases a; cases b; simp_all) else isFalse (by intro e; subst e; simp at h)

def Stp.cells (s : Stp) : List Value := [.int .u32 s.pc, .int .u32 s.nx, .int .i64 s.rd, .int .u32 s.va, .int .u32 s.ad, .int .i64 s.sz, .bool s.st, .int .i64 s.ha, .int .i64 s.to]
def Ev.cells (s : Ev) : List Value := [.int .u32 s.pc, .int .u32 s.ad, .int .i64 s.sz, .int .i64 s.to, .int .u32 s.lo, .int .i64 s.ha]
def loads (lo : Bool) (s : Stp) : Bool := lo && (decide (0 < s.sz) && !s.st)
def evOf (lo : Bool) (s : Stp) : Ev := ⟨s.pc, s.ad, s.sz, s.to, if loads lo s then s.va else 0, s.ha⟩

theorem flat_length {α : Type} (f : α → List Value) (n : Nat) (h : ∀ a, (f a).length = n) (l : List α) : (l.flatMap f).length = l.length * n := by
  induction l with
  | nil => simp
  | cons a l ih => simp [ih, h, Nat.add_mul, Nat.add_comm]

theorem flat_get {α : Type} (f : α → List Value) (n : Nat) (h : ∀ a, (f a).length = n) : ∀ (l : List α) (k j : Nat) (a : α), l[k]? = some a → j < n → (l.flatMap f)[k * n + j]? = (f a)[j]?
  | [], k, j, a, hk, _ => by simp at hk
  | b :: l, 0, j, a, hk, hj => by
    simp at hk; subst hk
    simp only [List.flatMap_cons, Nat.zero_mul, Nat.zero_add]
    rw [List.getElem?_append_left (by rw [h]; exact hj)]
  | b :: l, k + 1, j, a, hk, hj => by
    simp at hk
    simp only [List.flatMap_cons]
    rw [List.getElem?_append_right (by rw [h, Nat.add_mul]; omega), h]
    have : (k + 1) * n + j - n = k * n + j := by rw [Nat.add_mul]; omega
    rw [this]
    exact flat_get f n h l k j a hk hj

/-- The cells of element k of a slice of flat things. -/
theorem Sl.get {α : Type} {B0 : Nat} {e : TypeId} {size : Nat} {w : World} {v : Value} {n : Nat} (f : α → List Value) (hf : ∀ a, (f a).length = size) {l : List α} (h : Sl B0 e size w v n (l.flatMap f)) {k : Nat} {a : α} (hk : l[k]? = some a) (hn : l.length = n) :
    ∃ b off c, v = .slice (some ⟨b, off, none⟩) n c ∧ (b < B0 ∨ elemOf w b = some e) ∧ ∀ j u, (f a)[j]? = some u → w.cell? ⟨b, off + k * size + j, none⟩ = some u := by
  obtain ⟨A, c, rfl, h1, h2, h3, h4⟩ := h
  have hkl : k < l.length := by
    rcases Nat.lt_or_ge k l.length with hlt | hge
    · exact hlt
    · rw [List.getElem?_eq_none hge] at hk; cases hk
  obtain ⟨b, off, rfl, hb, hc⟩ := h4 (by omega)
  refine ⟨b, off, c, rfl, hb, fun j u hu => ?_⟩
  rw [Nat.add_assoc]
  refine hc _ u ?_
  have hj : j < size := by
    rcases Nat.lt_or_ge j (f a).length with hlt | hge
    · rw [← hf a]; exact hlt
    · rw [List.getElem?_eq_none hge] at hu; cases hu
  rw [flat_get f size hf l k j a hk hj, hu]

/-- The cells of a step in a slice of steps, as the walk spells them. -/
theorem Sl.stp {B0 : Nat} {e : TypeId} {w wr : World} {A : Option Addr} {c : Nat} {l : List Stp} (h : Sl B0 e 9 w (.slice A l.length c) l.length (l.flatMap Stp.cells)) (hb : Below w.heap.size w wr) {k : Nat} (hk : k < l.length) :
    ∃ b off s, A = some ⟨b, off, none⟩ ∧ l[k]? = some s ∧ b < w.heap.size ∧ wr.cell? ⟨b, off + k * 9, none⟩ = some (.int .u32 s.pc) ∧ wr.cell? ⟨b, off + k * 9 + 1, none⟩ = some (.int .u32 s.nx) ∧ wr.cell? ⟨b, off + k * 9 + 2, none⟩ = some (.int .i64 s.rd) ∧
      wr.cell? ⟨b, off + k * 9 + 3, none⟩ = some (.int .u32 s.va) ∧ wr.cell? ⟨b, off + k * 9 + 4, none⟩ = some (.int .u32 s.ad) ∧ wr.cell? ⟨b, off + k * 9 + 5, none⟩ = some (.int .i64 s.sz) ∧ wr.cell? ⟨b, off + k * 9 + 6, none⟩ = some (.bool s.st) ∧
      wr.cell? ⟨b, off + k * 9 + 7, none⟩ = some (.int .i64 s.ha) ∧ wr.cell? ⟨b, off + k * 9 + 8, none⟩ = some (.int .i64 s.to) := by
  obtain ⟨b, off, c', hv, -, hc⟩ := Sl.get Stp.cells (fun _ => rfl) h (List.getElem?_eq_getElem hk) rfl
  injection hv with hA
  have q : ∀ j u, (Stp.cells l[k])[j]? = some u → wr.cell? ⟨b, off + k * 9 + j, none⟩ = some u := fun j u hu => (hb.cell (lt_of_cell (hc j u hu))).trans (hc j u hu)
  exact ⟨b, off, l[k], hA, List.getElem?_eq_getElem hk, lt_of_cell (hc 0 _ rfl), q 0 _ rfl, q 1 _ rfl, q 2 _ rfl, q 3 _ rfl, q 4 _ rfl, q 5 _ rfl, q 6 _ rfl, q 7 _ rfl, q 8 _ rfl⟩

theorem Sl.ev {B0 : Nat} {e : TypeId} {w wr : World} {A : Option Addr} {c : Nat} {l : List Ev} (h : Sl B0 e 6 w (.slice A l.length c) l.length (l.flatMap Ev.cells)) (hb : Below w.heap.size w wr) {k : Nat} (hk : k < l.length) :
    ∃ b off s, A = some ⟨b, off, none⟩ ∧ l[k]? = some s ∧ b < w.heap.size ∧ wr.cell? ⟨b, off + k * 6, none⟩ = some (.int .u32 s.pc) ∧ wr.cell? ⟨b, off + k * 6 + 1, none⟩ = some (.int .u32 s.ad) ∧ wr.cell? ⟨b, off + k * 6 + 2, none⟩ = some (.int .i64 s.sz) ∧
      wr.cell? ⟨b, off + k * 6 + 3, none⟩ = some (.int .i64 s.to) ∧ wr.cell? ⟨b, off + k * 6 + 4, none⟩ = some (.int .u32 s.lo) ∧ wr.cell? ⟨b, off + k * 6 + 5, none⟩ = some (.int .i64 s.ha) := by
  obtain ⟨b, off, c', hv, -, hc⟩ := Sl.get Ev.cells (fun _ => rfl) h (List.getElem?_eq_getElem hk) rfl
  injection hv with hA
  have q : ∀ j u, (Ev.cells l[k])[j]? = some u → wr.cell? ⟨b, off + k * 6 + j, none⟩ = some u := fun j u hu => (hb.cell (lt_of_cell (hc j u hu))).trans (hc j u hu)
  exact ⟨b, off, l[k], hA, List.getElem?_eq_getElem hk, lt_of_cell (hc 0 _ rfl), q 0 _ rfl, q 1 _ rfl, q 2 _ rfl, q 3 _ rfl, q 4 _ rfl, q 5 _ rfl⟩

theorem ev_info : EInfo Try.prog 23 31 (.agg #[.int .u32 0, .int .u32 0, .int .i64 0, .int .i64 0, .int .u32 0, .int .i64 0]) 6 40 :=
  ⟨Try.underlying23, by kernel_rfl, rfl, by omega, by omega⟩

set_option maxHeartbeats 1000000 in
theorem trace_of_any (st : List Stp) (lo : Bool) (B0 : Nat) (v : Value) (w : World) (hs : Sl B0 44 9 w v st.length (st.flatMap Stp.cells)) (hlen : st.length ≤ 20000) :
    Calls Try.prog 8 #[v, .bool lo] w fun e w' => ∃ v', e = .returned v' ∧ w'.ownsRow w.heap.size 31 6 v' st.length (st.flatMap fun s => (evOf lo s).cells) ∧ Below w.heap.size w w' := by
  obtain ⟨A, c, rfl, h1, h2, h3, h4⟩ := id hs
  clear h4
  go_enter Try.func8, Try.ntmps8
  go_wp2_with (first
    | (refine wpList_mk0 ev_info rfl (.const (.int .i64 0)) (.tmp 10) rfl st.length (by omega) .i64 .i64 rfl _ rfl rfl ?_
       intro w1 hown1 hb1))
  go_loopw [5, 14] (fun v i wr => ∃ (k g cap : Nat), k ≤ st.length ∧ i = .int .i64 k ∧ v = .slice (some ⟨g, 0, none⟩) k cap ∧ wr.ownsRow w.heap.size 31 6 (.slice (some ⟨g, 0, none⟩) k cap) k ((st.take k).flatMap fun s => (evOf lo s).cells) ∧ Below w.heap.size w wr)
    (fun _ i _ => st.length - (intOf i).toNat)
  case atStart => exact ⟨0, w.heap.size, st.length, Nat.zero_le _, rfl, rfl, by simpa using hown1, hb1⟩
  case round =>
    obtain ⟨k, g, cap, hk, rfl, rfl, hown, hb⟩ := hrel
    by_cases hlt : k < st.length
    · obtain ⟨b, off, s, rfl, hsk, hbw, q0, q1, q2, q3, q4, q5, q6, q7, q8⟩ := hs.stp hb hlt
      have hbr : b < wr.heap.size := Nat.lt_of_lt_of_le hbw hb.size
      have hst : ∀ x : Bool, x = true ∨ x = false := fun x => by cases x <;> simp
      have KEY : Hid (((st.take k).flatMap fun s => (evOf lo s).cells) ++ (evOf lo s).cells = (st.take (k + 1)).flatMap fun s => (evOf lo s).cells) := by
        show _ = _
        rw [List.take_add_one, hsk]
        simp
      have hcase : (lo = false) ∨ (lo = true ∧ s.sz ≤ 0) ∨ (lo = true ∧ 0 < s.sz ∧ s.st = true) ∨ (lo = true ∧ 0 < s.sz ∧ s.st = false) := by
        rcases hst lo with h | h <;> rcases hst s.st with h' | h' <;> rcases Int.lt_or_le 0 s.sz with h'' | h'' <;> simp [h, h', h'']
      have hws := hb.size
      obtain ⟨spc, snx, srd, sva, sad, ssz, sst, sha, sto⟩ := s
      dsimp only at hcase q0 q1 q2 q3 q4 q5 q6 q7 q8
      rcases hcase with rfl | ⟨rfl, hz⟩ | ⟨rfl, hz, rfl⟩ | ⟨rfl, hz, rfl⟩
      all_goals
        go_wp2_with (first
          | (at_builtin
             (refine wpList_app1 ev_info rfl (.tmp 43) (.tmp 45) rfl w.heap.size (.slice (some ⟨g, 0, none⟩) k cap) k _ rfl ((hown.alloc _).alloc _) (by omega) (by simp; omega) (wr.heap.size + 1 + 1) (by simp) rfl rfl rfl ?_)
             intro g' cap' w3 hown3 hb3'
             have hb3 : Below w.heap.size w w3 := (((hb.alloc hws _).alloc (by simp; omega) _).alloc (by simp; omega) _).trans hb3'
             clear hb3'))
        go_roundw
        case rel => exact ⟨k + 1, g', cap', by omega, by go_num, rfl, by rw [← KEY.out]; simpa [evOf, Ev.cells, loads, *] using hown3, hb3⟩
        case measure => simp [intOf]; omega
    · go_wp2_with fail
      go_ret
      have : k = st.length := by omega
      subst this
      exact ⟨_, rfl, by simpa using hown, hb⟩

end Go.Proofs.Ytaimbclbpoelgaa
