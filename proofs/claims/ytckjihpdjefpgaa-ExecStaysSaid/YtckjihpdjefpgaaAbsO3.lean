/- The second machine and the model: pieces, places, lengths, composites. -/
import Derived.Test.YtckjihpdjefpgaaAbsO2
namespace Go.Proofs.Ytckjihpdjefpgaa
open Go.RowKit
section
variable {C : Ctx} {S : Nat → Prop} {w : World} {β : Bt} {B : Nat} {h : AH}

/-! ### lengths -/
theorem len_ok (hC : CtxOk C) (t ty : TypeId) {a : AV} {v : Value} (ha : Rep S w β a v) : ResOk C.P S w β (Builtin.len_ #[t] ty #[v]) (lenB C t a) := by
  unfold lenB
  split
  · rename_i ht
    cases rep_v ha
    have hu := (hC.ty t _ ht).kd
    exact ⟨_, by simp [Builtin.len_, run_underlying hu, goInt], .v _⟩
  · rename_i ht
    have hu := (hC.ty t _ ht).kd
    cases ha with
    | sl => exact ⟨_, by simp [Builtin.len_, run_underlying hu, goInt], .v _⟩
  · rename_i ht
    have hu := (hC.ty t _ ht).kd
    cases ha with
    | osl => exact ⟨_, by simp [Builtin.len_, run_underlying hu, goInt], .v _⟩
  · rename_i ht
    have hu := (hC.ty t _ ht).kd
    exact ⟨_, by simp [Builtin.len_, run_underlying hu, goInt], .v _⟩
  · trivial

/-! ### places -/
theorem run_size (hC : CtxOk C) {e : TypeId} {ei : TI} (he : C.ty e = some ei) (w : World) : (sizeOf e).run C.P w = .ok ei.sz w := by
  obtain ⟨inf, z, hi, hsz, _⟩ := (hC.ty e _ he).info
  simp only [sizeOf, typeInfo, program, Sem.run_bind, Sem.run, hi, Sem.run_pure, Result.andThen_ok, hsz]

theorem indexAddr_ok (hC : CtxOk C) (H : SimH B S w β h) (t : TypeId) {a i : AV} {v u : Value} (ha : Rep S w β a v) (hi : Rep S w β i u) :
    ResOk C.P S w β (Instr.indexAt t v u)
      (indexAddrA C h t a i) := by
  unfold indexAddrA indexAddrV
  split
  · rename_i e sz ag z by_ eq k n ht
    cases rep_v hi
    have hu := (hC.ty t _ ht).kd
    have key : ∀ (ei : TI) (A : Addr) (len c : Nat), C.ty e = some ei → 0 ≤ n → n < (len : Int) → (Instr.indexAt t (.slice (some A) len c) (.int k n)).run C.P w = .ok (.pointer (some (A.add (n.toNat * ei.sz)))) w := by
      intro ei A len c he h0 h1
      simp [Instr.indexAt, asIntOf, run_underlying hu, h0, h1, run_size hC he]
    split
    · rename_i ei rs rows clip he
      split
      · rename_i hrs'
        have hrs' := Nat.eq_of_beq_eq_true hrs'
        intro row x h0 hrow hx
        injection hx with hx; subst hx
        cases ha with
        | sl _ _ _ A c b o u hc hm hcl hrs hA hw h1 hr =>
        have hlt : n.toNat < rows.length := (List.getElem?_eq_some_iff.1 hrow).1
        obtain ⟨hA1, hA2⟩ := hA (by omega)
        subst hA1
        refine ⟨_, key ei _ _ _ he h0 (by omega), ?_⟩
        rw [Addr.add_mid, ← hrs']
        exact .dp rs 0 row b (o + n.toNat * rs) (fun j => u n.toNat j) (hrs row (List.mem_of_getElem? hrow)) hA2 (fun j a hj => hw _ _ _ _ hrow hj) (fun j => h1 _ _) fun j a hj => hr _ _ _ _ hrow hj
      · trivial
    · rename_i ei b lo len clip he
      split
      · rename_i rows rs hb
        split
        · rename_i hrs'
          have hrs' := Nat.eq_of_beq_eq_true hrs'
          rintro ⟨h0, h1⟩
          obtain ⟨l, cs, e', fr, k1, k2, k3, k4, k5⟩ := own_arr H (s := b) hb
          cases ha with
          | osl _ _ _ _ l' A c hl hc hm hcl hA ds e'' fr' hb' room =>
          obtain rfl : l' = l := by rw [hl] at k1; exact Option.some.inj k1
          have hA1 := hA (by omega)
          subst hA1
          refine ⟨_, key ei _ _ _ he h0 h1, ?_⟩
          rw [Addr.add_mid, ← hrs', ← k3, Nat.add_assoc, ← Nat.add_mul]
          exact .ptr2 b (lo + n.toNat) 0 l' hl
        · trivial
      · trivial
    · trivial
  · rename_i len e sz ag z by_ eq k n ht
    cases rep_v hi
    have hu := (hC.ty t _ ht).kd
    have key : ∀ (ei : TI) (A : Addr), C.ty e = some ei → 0 ≤ n → n < (len : Int) → (Instr.indexAt t (.pointer (some A)) (.int k n)).run C.P w = .ok (.pointer (some (A.add (n.toNat * ei.sz)))) w := by
      intro ei A he h0 h1
      simp [Instr.indexAt, asIntOf, run_underlying hu, h0, h1, run_size hC he, Instr.sureAddr]
    split
    · rename_i ei b c he
      rintro ⟨h0, h1⟩
      cases ha with
      | ptr _ _ l hl => exact ⟨_, key ei _ he h0 h1, by rw [Addr.add_mid, Nat.add_assoc]; exact .ptr b _ l hl⟩
    · rename_i ei b r c he
      rintro ⟨h0, h1⟩
      cases ha with
      | ptr2 _ _ _ l hl => exact ⟨_, key ei _ he h0 h1, by rw [Addr.add_mid, Nat.add_assoc]; exact .ptr2 b r _ l hl⟩
    · rename_i ei rs c row he
      rintro ⟨h0, h1⟩
      cases ha with
      | dp _ _ _ b o u hrs hb hw h1' hr => exact ⟨_, key ei _ he h0 h1, by rw [Addr.add_mid, Nat.add_assoc]; exact .dp rs _ row b o u hrs hb hw h1' hr⟩
    · trivial
  · trivial

theorem index_ok (hC : CtxOk C) (t : TypeId) {a i : AV} {v u : Value} (ha : Rep S w β a v) (hi : Rep S w β i u) :
    ResOk C.P S w β (Instr.index t v u)
      (indexA C t a i) := by
  unfold indexA
  split
  · rename_i sz ag z by_ eq s k n ht
    cases rep_v ha; cases rep_v hi
    have hu := (hC.ty t _ ht).kd
    rintro ⟨h0, h1⟩
    have hlt : n.toNat < s.size := by omega
    refine ⟨_, ?_, .v _⟩
    have e1 : s[n.toNat]? = some (s.data.toList.getD n.toNat 0) := by
      have hl : n.toNat < s.data.toList.length := by simpa using hlt
      rw [getElem?_pos s n.toNat hlt]
      congr 1
      rw [List.getD_eq_getElem?_getD, List.getElem?_eq_getElem hl, Option.getD_some]
      rfl
    simp only [Instr.index, asIntOf, Sem.run_bind, Sem.run_pure, Result.andThen_ok, run_underlying hu, if_pos h0, e1]
  · rename_i len e sz ag z by_ eq cs k n ht
    cases rep_v hi
    have hu := (hC.ty t _ ht).kd
    split
    · rename_i ei he
      split
      · rename_i x hx
        rintro ⟨h0, h1⟩
        cases ha with
        | agg _ vs hl h1' hr =>
        obtain ⟨r, p1, p2⟩ := part_ok hC hl h1' hr hx
        exact ⟨r, by simp only [Instr.index, asIntOf, Sem.run_bind, Sem.run_pure, Result.andThen_ok, run_underlying hu, if_pos (And.intro h0 h1), run_size hC he, p1], p2⟩
      · trivial
    · trivial
  · trivial

theorem extract_ok {P : Program} (i : Nat) {a : AV} {v : Value} (ha : Rep S w β a v) :
    ResOk P S w β (Instr.extract v i) (extractA i a) := by
  unfold extractA
  split
  · rename_i vs
    cases ha with
    | tup _ us hl hr =>
    refine okO_ok fun y hy => ?_
    rw [nthO_eq] at hy
    have hlt : i < us.size := by rw [← hl]; exact (List.getElem?_eq_some_iff.1 hy).1
    exact ⟨us[i], by simp only [Instr.extract, Array.getElem?_eq_getElem hlt, Sem.run_pure], hr i y _ hy (Array.getElem?_eq_getElem hlt)⟩
  · trivial

/-! ### pieces -/
theorem intO_rep {x : Option AV} {v : Option Value} {r : Option Int} (hx : ∀ a, x = some a → ∃ u, v = some u ∧ Rep S w β a u) (hn : x = none → v = none) (hr : intO x = some r) :
    (r = none ∧ v = none) ∨ ∃ k n, r = some n ∧ v = some (.int k n) := by
  unfold intO at hr
  split at hr
  · injection hr with hr; exact .inl ⟨hr.symm, hn rfl⟩
  · obtain ⟨u, h1, h2⟩ := hx _ rfl
    injection hr with hr
    cases rep_v h2
    exact .inr ⟨_, _, hr.symm, h1⟩
  · cases hr

theorem run_bounds {P : Program} (isS : Bool) (len cap : Nat) (lo hi mx : Option Value) (l h : Int) (m : Nat) (hl : (lo = none ∧ l = 0) ∨ ∃ k, lo = some (.int k l))
    (hh : (hi = none ∧ mx = none ∧ h = len) ∨ ∃ k, hi = some (.int k h)) (hm : (mx = none ∧ m = cap) ∨ ∃ k, mx = some (.int k (m : Int))) (h0 : 0 ≤ l) (h1 : l ≤ h) (h2 : h ≤ m) (h3 : m ≤ cap) :
    (Instr.sliceBounds isS len cap lo hi mx).run P w = .ok (l.toNat, h.toNat, m) w := by
  have bd : ∀ (k : IntKind) (i : Int) (y : Nat) (code : BoundsCode), 0 ≤ i → i ≤ y → (Instr.sliceBound (.int k i) y code).run P w = .ok i.toNat w := fun k i y code p q => by
    simp only [Instr.sliceBound, asIntOf, Sem.run_bind, Sem.run_pure, Result.andThen_ok, if_pos (And.intro p q)]
  have eh : ((h.toNat : Nat) : Int) = h := Int.toNat_of_nonneg (by omega)
  rcases hm with ⟨rfl, rfl⟩ | ⟨km, rfl⟩
  · rcases hh with ⟨rfl, _, rfl⟩ | ⟨kh, rfl⟩
    · rcases hl with ⟨rfl, rfl⟩ | ⟨kl, rfl⟩
      · simp [Instr.sliceBounds]
      · simp [Instr.sliceBounds, bd kl l _ _ h0 h1]
    · rcases hl with ⟨rfl, rfl⟩ | ⟨kl, rfl⟩
      · simp [Instr.sliceBounds, bd kh h _ _ (by omega) h2]
      · simp [Instr.sliceBounds, bd kh h _ _ (by omega) h2, bd kl l _ _ h0 (by omega : l ≤ (h.toNat : Int))]
  · rcases hh with ⟨_, h', _⟩ | ⟨kh, rfl⟩
    · cases h'
    · rcases hl with ⟨rfl, rfl⟩ | ⟨kl, rfl⟩
      · simp [Instr.sliceBounds, bd km (m : Int) cap _ (by omega) (by omega), bd kh h m _ (by omega) h2]
      · simp [Instr.sliceBounds, bd km (m : Int) cap _ (by omega) (by omega), bd kh h m _ (by omega) h2, bd kl l _ _ h0 (by omega : l ≤ (h.toNat : Int))]

theorem slice_ok (hC : CtxOk C) (H : SimH B S w β h) (t : TypeId) {a : AV} {v : Value} {lo hi mx : Option AV} {vlo vhi vmx : Option Value} (ha : Rep S w β a v)
    (hlo : ∀ a, lo = some a → ∃ u, vlo = some u ∧ Rep S w β a u) (hlo' : lo = none → vlo = none) (hhi : ∀ a, hi = some a → ∃ u, vhi = some u ∧ Rep S w β a u) (hhi' : hi = none → vhi = none)
    (hmx : ∀ a, mx = some a → ∃ u, vmx = some u ∧ Rep S w β a u) (hmx' : mx = none → vmx = none) :
    ResOk C.P S w β (Instr.sliceAt t v vlo vhi vmx) (sliceA C h t a lo hi mx) := by
  unfold sliceA sliceV
  split
  · rename_i len l0 h0 m0 hlen hl0 hh0 hm0
    have L := intO_rep hlo hlo' hl0
    have U := intO_rep hhi hhi' hh0
    have M := intO_rep hmx hmx' hm0
    clear hlo hlo' hhi hhi' hmx hmx' hl0 hh0 hm0
    have hL : (vlo = none ∧ l0.getD 0 = 0) ∨ ∃ k, vlo = some (.int k (l0.getD 0)) := by
      rcases L with ⟨rfl, rfl⟩ | ⟨k, n, rfl, rfl⟩
      · exact .inl ⟨rfl, rfl⟩
      · exact .inr ⟨k, rfl⟩
    have hU : ∀ vm, vm = none → (vhi = none ∧ vm = (none : Option Value) ∧ h0.getD (len : Int) = len) ∨ ∃ k, vhi = some (.int k (h0.getD len)) := by
      intro vm hvm
      rcases U with ⟨rfl, rfl⟩ | ⟨k, n, rfl, rfl⟩
      · exact .inl ⟨rfl, hvm, rfl⟩
      · exact .inr ⟨k, rfl⟩
    split
    · rename_i ht
      have hu := (hC.ty t _ ht).kd
      split
      · rename_i s
        cases rep_v ha
        have hl : s.size = len := by simpa [lenA] using hlen
        have hM : vmx = none := by rcases M with ⟨_, h⟩ | ⟨_, _, h, _⟩ <;> first | exact h | cases h
        subst hM
        rintro ⟨p0, p1, p2⟩
        have hb := run_bounds (P := C.P) (w := w) false len len vlo vhi none _ _ len hL (hU none rfl) (.inl ⟨rfl, rfl⟩) p0 p1 p2 (Nat.le_refl _)
        refine ⟨_, ?_, .v _⟩
        simp only [Instr.sliceAt, Sem.run_bind, run_underlying hu, Result.andThen_ok, Instr.slice, hl, Option.isSome_none, Bool.false_eq_true, if_false, Sem.run_pure, hb]
      · trivial
    · rename_i e sz ag z by_ eq ht
      have hu := (hC.ty t _ ht).kd
      split
      · rename_i ei he
        have run : ∀ (A : Option Addr) (n c m : Nat) (vhi vmx : Option Value) (l h : Int), (Instr.sliceBounds true n c vlo vhi vmx).run C.P w = .ok (l.toNat, h.toNat, m) w →
            (Instr.sliceAt t (.slice A n c) vlo vhi vmx).run C.P w = .ok (.slice (if m = l.toNat then A else A.map (·.add (l.toNat * ei.sz))) (h.toNat - l.toNat) (m - l.toNat)) w := by
          intro A n c m vhi vmx l h hb
          simp only [Instr.sliceAt, Sem.run_bind, run_underlying hu, Result.andThen_ok, Instr.slice, hb, run_size hC he, Sem.run_pure]
        -- a slice that is known
        have known : ∀ (rs : Nat) (rows : List (List AV)) (clip clip' : Bool) (v : Value) (l hh : Int) (m' : Option Nat) (vhi vmx : Option Value), Rep S w β (.sl rs rows clip) v → rs = ei.sz → 0 ≤ l → l ≤ hh → hh ≤ (rows.length : Int) →
            ((vlo = none ∧ l = 0) ∨ ∃ k, vlo = some (.int k l)) → ((vhi = none ∧ vmx = none ∧ hh = (rows.length : Int)) ∨ ∃ k, vhi = some (.int k hh)) →
            ((m' = none ∧ vmx = none) ∨ (∃ k, m' = some hh.toNat ∧ vmx = some (.int k hh))) → (clip' = true → (m' = none → clip = true ∧ hh = (rows.length : Int))) →
            Yld C.P S w β (.sl rs ((rows.take hh.toNat).drop l.toNat) clip') (Instr.sliceAt t v vlo vhi vmx) := by
          intro rs rows clip clip' v l hh m' vhi vmx hr hrs p0 p1 p2 hl hhi hm hcl'
          cases hr with
          | sl _ _ _ A c b o u hc hmx hcl hrs' hA hw h1 hr' =>
          have hlen : ((rows.take hh.toNat).drop l.toNat).length = hh.toNat - l.toNat := by
            rw [List.length_drop, List.length_take]; omega
          have fin : ∀ m : Nat, hh ≤ (m : Int) → m ≤ c → (clip' = true → (m : Int) = hh) → (Instr.sliceBounds true rows.length c vlo vhi vmx).run C.P w = .ok (l.toNat, hh.toNat, m) w →
              Yld C.P S w β (.sl rs ((rows.take hh.toNat).drop l.toNat) clip') (Instr.sliceAt t (.slice A rows.length c) vlo vhi vmx) := by
            intro m q1 q2 q3 hb
            refine ⟨_, run A _ c m vhi vmx l hh hb, ?_⟩
            rw [← hlen]
            refine .sl rs _ clip' _ (m - l.toNat) b (o + l.toNat * rs) (fun i j => u (i + l.toNat) j) (by rw [hlen]; omega) (by omega) (fun q => by have := q3 q; rw [hlen]; omega) (fun row hrow => hrs' row (List.mem_of_mem_take (List.mem_of_mem_drop hrow)))
              (fun hpos => ?_) (fun i row j a hi hj => ?_) (fun i j => h1 _ _) fun i row j a hi hj => ?_
            · rw [hlen] at hpos
              obtain ⟨hA1, hA2⟩ := hA (by omega)
              refine ⟨?_, hA2⟩
              rw [if_neg (by omega), hA1, Option.map_some, Addr.add_mid, hrs]
            · rw [List.getElem?_drop, List.getElem?_take] at hi
              split at hi
              · have := hw _ _ _ _ hi hj
                rw [← Nat.add_comm i] at this
                rw [← this]; congr 2; rw [Nat.add_mul]; omega
              · cases hi
            · rw [List.getElem?_drop, List.getElem?_take] at hi
              split at hi
              · have := hr' _ _ _ _ hi hj
                rwa [← Nat.add_comm i] at this
              · cases hi
          rcases hm with ⟨rfl, rfl⟩ | ⟨k, rfl, rfl⟩
          · refine fin c (by omega) (Nat.le_refl _) (fun q => ?_) (run_bounds true _ c vlo vhi none l hh c hl hhi (.inl ⟨rfl, rfl⟩) p0 p1 (by omega) (Nat.le_refl _))
            obtain ⟨q1, q2⟩ := hcl' q rfl
            rw [hcl q1]; omega
          · have eh : ((hh.toNat : Nat) : Int) = hh := Int.toNat_of_nonneg (by omega)
            refine fin hh.toNat (by omega) (by omega) (fun _ => eh) (run_bounds true _ c vlo vhi _ l hh hh.toNat hl hhi (.inr ⟨k, by rw [eh]⟩) p0 p1 (by omega) (by omega))
        -- a slice of the call's own
        have own : ∀ (s lo len rs : Nat) (rows : List (List AV)) (clip clip' : Bool) (v : Value) (l hh : Int) (m' : Option Nat) (vhi vmx : Option Value), Rep S w β (.osl s lo len clip) v → h s = some (.arr rows rs) → rs = ei.sz → 0 ≤ l → l ≤ hh → hh ≤ (len : Int) →
            ((vlo = none ∧ l = 0) ∨ ∃ k, vlo = some (.int k l)) → ((vhi = none ∧ vmx = none ∧ hh = (len : Int)) ∨ ∃ k, vhi = some (.int k hh)) →
            ((m' = none ∧ vmx = none) ∨ (∃ k, m' = some hh.toNat ∧ vmx = some (.int k hh))) → (clip' = true → (m' = none → clip = true ∧ hh = (len : Int))) →
            Yld C.P S w β (.osl s (lo + l.toNat) (hh - l).toNat clip') (Instr.sliceAt t v vlo vhi vmx) := by
          intro s lo len rs rows clip clip' v l hh m' vhi vmx hr hs hrs p0 p1 p2 hl hhi hm hcl'
          obtain ⟨l', cs', e', fr', k1, k2, k3, k4, k5⟩ := own_arr H hs
          cases hr with
          | osl _ _ _ _ l1 A c hl1 hc hmx hcl hA cs e1 fr hb room =>
          obtain rfl : l1 = l' := by rw [hl1] at k1; exact Option.some.inj k1
          have fin : ∀ m : Nat, hh ≤ (m : Int) → m ≤ c → (clip' = true → (m : Int) = hh) → (Instr.sliceBounds true len c vlo vhi vmx).run C.P w = .ok (l.toNat, hh.toNat, m) w →
              Yld C.P S w β (.osl s (lo + l.toNat) (hh - l).toNat clip') (Instr.sliceAt t (.slice A len c) vlo vhi vmx) := by
            intro m q1 q2 q3 hb
            refine ⟨_, run A _ c m vhi vmx l hh hb, ?_⟩
            rw [show hh.toNat - l.toNat = (hh - l).toNat by omega]
            refine .osl s _ _ clip' l1 _ (m - l.toNat) hl1 (by omega) (by omega) (fun q => by have := q3 q; omega) (fun hpos => ?_) cs e1 fr (by assumption) ?_
            · rw [if_neg (by omega), hA (by omega), Option.map_some, Addr.add_mid, ← hrs, k3, Nat.add_assoc, ← Nat.add_mul]
            · refine Nat.le_trans (Nat.add_le_add_left (Nat.mul_le_mul_right _ ?_) _) room
              omega
          rcases hm with ⟨rfl, rfl⟩ | ⟨k, rfl, rfl⟩
          · refine fin c (by omega) (Nat.le_refl _) (fun q => ?_) (run_bounds true _ c vlo vhi none l hh c hl hhi (.inl ⟨rfl, rfl⟩) p0 p1 (by omega) (Nat.le_refl _))
            obtain ⟨q1, q2⟩ := hcl' q rfl
            rw [hcl q1]; omega
          · have eh : ((hh.toNat : Nat) : Int) = hh := Int.toNat_of_nonneg (by omega)
            refine fin hh.toNat (by omega) (by omega) (fun _ => eh) (run_bounds true _ c vlo vhi _ l hh hh.toNat hl hhi (.inr ⟨k, by rw [eh]⟩) p0 p1 (by omega) (by omega))
        split
        · rename_i rs rows clip
          split
          · rename_i hrs
            rintro ⟨p0, p1, p2⟩
            have hlen' : rows.length = len := by simpa [lenA] using hlen
            have hM : vmx = none := by rcases M with ⟨_, h⟩ | ⟨_, _, h, _⟩ <;> first | exact h | cases h
            subst hM
            refine known rs rows clip _ v _ _ none vhi none ha (Nat.eq_of_beq_eq_true hrs) p0 p1 (by rw [hlen']; exact p2) hL (by rw [hlen']; exact hU none rfl) (.inl ⟨rfl, rfl⟩) (fun q _ => ?_)
            simp only [Bool.and_eq_true, Option.isNone_iff_eq_none] at q
            rw [q.2, hlen']; exact ⟨q.1, rfl⟩
          · trivial
        · rename_i rs rows clip m hi
          split
          · rename_i hrs
            rintro ⟨p0, p1, p2, p3⟩
            subst p2
            have hlen' : rows.length = len := by simpa [lenA] using hlen
            rcases M with ⟨h, _⟩ | ⟨km, n, hm, hv⟩
            · cases h
            injection hm with hm; subst hm
            rcases U with ⟨h, _⟩ | ⟨kh, n', hn, hv'⟩
            · cases h
            injection hn with hn; subst hn
            exact known rs rows clip true v _ _ (some hi.toNat) vhi vmx ha (Nat.eq_of_beq_eq_true hrs) p0 p1 (by rw [hlen']; exact p3) hL (.inr ⟨kh, hv'⟩) (.inr ⟨km, rfl, hv⟩) (fun _ q => by cases q)
          · trivial
        · rename_i s o n clip
          split
          · rename_i rows rs hs
            split
            · rename_i hrs
              rintro ⟨p0, p1, p2⟩
              have hlen' : n = len := by simpa [lenA] using hlen
              have hM : vmx = none := by rcases M with ⟨_, h⟩ | ⟨_, _, h, _⟩ <;> first | exact h | cases h
              subst hM; subst hlen'
              refine own s o n rs rows clip _ v _ _ none vhi none ha hs (Nat.eq_of_beq_eq_true hrs) p0 p1 p2 hL (hU none rfl) (.inl ⟨rfl, rfl⟩) (fun q _ => ?_)
              simp only [Bool.and_eq_true, Option.isNone_iff_eq_none] at q
              rw [q.2]; exact ⟨q.1, rfl⟩
            · trivial
          · trivial
        · rename_i s o n clip m hi
          split
          · rename_i rows rs hs
            split
            · rename_i hrs
              rintro ⟨p0, p1, p2, p3⟩
              subst p2
              have hlen' : n = len := by simpa [lenA] using hlen
              subst hlen'
              rcases M with ⟨h, _⟩ | ⟨km, n', hm, hv⟩
              · cases h
              injection hm with hm; subst hm
              rcases U with ⟨h, _⟩ | ⟨kh, n'', hn, hv'⟩
              · cases h
              injection hn with hn; subst hn
              exact own s o n rs rows clip true v _ _ (some hi.toNat) vhi vmx ha hs (Nat.eq_of_beq_eq_true hrs) p0 p1 p3 hL (.inr ⟨kh, hv'⟩) (.inr ⟨km, rfl, hv⟩) (fun _ q => by cases q)
            · trivial
          · trivial
        · trivial
      · trivial
    · trivial
  · trivial
end
end Go.Proofs.Ytckjihpdjefpgaa
