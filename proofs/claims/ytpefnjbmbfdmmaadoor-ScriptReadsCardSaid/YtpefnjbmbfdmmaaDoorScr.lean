/- Plans and their texts, plainly: splitting, numbers, lines, reading and printing. -/
import Derived.Lib.ItoaNum
namespace Go.Proofs.YtpefnjbmbfdmmaaDoor
open Go.Lib
/-- A text at its first such byte. -/
def cutL (c : UInt8) : List UInt8 → List UInt8 × List UInt8 × Bool
  | [] => ([], [], false)
  | x :: s => if x = c then ([], s, true) else (x :: (cutL c s).1, (cutL c s).2.1, (cutL c s).2.2)
/-- A text at all such bytes. -/
def splitL (c : UInt8) : List UInt8 → List (List UInt8)
  | [] => [[]]
  | x :: s => if x = c then [] :: splitL c s else (x :: (splitL c s).headD []) :: (splitL c s).tail
def joinL (c : UInt8) : List (List UInt8) → List UInt8
  | [] => []
  | [w] => w
  | w :: v :: ws => w ++ c :: joinL c (v :: ws)
theorem split_ne (c : UInt8) : ∀ s, splitL c s ≠ []
  | [] => by simp [splitL]
  | x :: s => by unfold splitL; split <;> simp
theorem join_split (c : UInt8) : ∀ s, joinL c (splitL c s) = s
  | [] => rfl
  | x :: s => by
    have ih := join_split c s
    have hn := split_ne c s
    unfold splitL
    cases hs : splitL c s with
    | nil => exact absurd hs hn
    | cons w ws =>
      rw [hs] at ih
      split
      · rename_i e; show [] ++ c :: joinL c (w :: ws) = _; rw [ih, e]; rfl
      · show joinL c ((x :: w) :: ws) = _
        cases ws with
        | nil => show x :: w = _; rw [← ih]; rfl
        | cons v ws => show (x :: w) ++ c :: joinL c (v :: ws) = _; rw [← ih]; rfl
theorem split_one {c : UInt8} : ∀ {w : List UInt8}, c ∉ w → splitL c w = [w]
  | [], _ => rfl
  | x :: w, h => by
    have h1 : ¬ x = c := fun e => h (e ▸ List.mem_cons_self)
    have h2 := split_one (w := w) (fun q => h (List.mem_cons_of_mem _ q))
    unfold splitL; rw [if_neg h1, h2]; rfl
theorem split_app {c : UInt8} {s : List UInt8} : ∀ {w : List UInt8}, c ∉ w → splitL c (w ++ c :: s) = w :: splitL c s
  | [], _ => by show splitL c (c :: s) = _; unfold splitL; rw [if_pos rfl]; cases s <;> rfl
  | x :: w, h => by
    have h1 : ¬ x = c := fun e => h (e ▸ List.mem_cons_self)
    have h2 := split_app (s := s) (w := w) (fun q => h (List.mem_cons_of_mem _ q))
    show splitL c (x :: (w ++ c :: s)) = _
    rw [splitL, if_neg h1, h2]; rfl
theorem split_join {c : UInt8} : ∀ {l : List (List UInt8)}, l ≠ [] → (∀ w ∈ l, c ∉ w) → splitL c (joinL c l) = l
  | [], h, _ => absurd rfl h
  | [w], _, h => split_one (h w List.mem_cons_self)
  | w :: v :: ws, _, h => by
    show splitL c (w ++ c :: joinL c (v :: ws)) = _
    rw [split_app (h w List.mem_cons_self), split_join (by simp) (fun x hx => h x (List.mem_cons_of_mem _ hx))]
theorem split_mem {c : UInt8} : ∀ {s : List UInt8}, ∀ w ∈ splitL c s, c ∉ w
  | [], w, h => by simp [splitL] at h; subst h; simp
  | x :: s, w, h => by
    have ih := split_mem (c := c) (s := s)
    unfold splitL at h
    split at h
    · rcases List.mem_cons.1 h with e | e
      · subst e; simp
      · exact ih w e
    · rename_i hx
      cases hs : splitL c s with
      | nil => exact absurd hs (split_ne c s)
      | cons v ws =>
        rw [hs] at h ih
        rcases List.mem_cons.1 h with e | e
        · subst e
          intro q
          rcases List.mem_cons.1 q with q | q
          · exact hx q.symm
          · exact ih v List.mem_cons_self q
        · exact ih w (List.mem_cons_of_mem _ e)

/-! ### decimal numbers -/
def digB (x : UInt8) : Bool := decide (48 ≤ x.toNat) && decide (x.toNat ≤ 57)
def decV (w : List UInt8) : Nat := w.foldl (fun n x => 10 * n + (x.toNat - 48)) 0
def decOk (w : List UInt8) : Prop := w ≠ [] ∧ (∀ x ∈ w, digB x = true) ∧ (w.head? = some 48 → w = [48])
theorem decV_snoc (w : List UInt8) (x : UInt8) : decV (w ++ [x]) = 10 * decV w + (x.toNat - 48) := by unfold decV; rw [List.foldl_append]; rfl
theorem u8_of {x : UInt8} (h : digB x = true) : UInt8.ofNat (48 + (x.toNat - 48)) = x ∧ x.toNat - 48 ≤ 9 := by
  unfold digB at h
  simp only [Bool.and_eq_true, decide_eq_true_eq] at h
  refine ⟨?_, by omega⟩
  rw [show 48 + (x.toNat - 48) = x.toNat by omega]
  exact UInt8.ofNat_toNat
theorem dec_of (n : Nat) : ∀ w : List UInt8, w.length = n → decOk w → decDigits (decV w) = w ∧ (1 < w.length → 1 ≤ decV w) ∧ (w.head? ≠ some 48 → 1 ≤ decV w) := by
  induction n with
  | zero => intro w h ok; exact absurd (List.length_eq_zero_iff.1 h) ok.1
  | succ n ih =>
    intro w h ok
    obtain ⟨v, x, rfl⟩ : ∃ v x, w = v ++ [x] := ⟨w.dropLast, w.getLast ok.1, (List.dropLast_concat_getLast ok.1).symm⟩
    have hx := ok.2.1 x (by simp)
    obtain ⟨h1, h2⟩ := u8_of hx
    rw [decV_snoc]
    cases v with
    | nil =>
      show decDigits (10 * 0 + _) = [x] ∧ _
      rw [show 10 * 0 + (x.toNat - 48) = x.toNat - 48 by omega]
      refine ⟨?_, fun q => absurd q (by simp), fun q => ?_⟩
      · rw [decDigits, dif_pos (by omega), h1]
      · have hh : x ≠ 48 := fun e => q (by rw [e]; rfl)
        show 1 ≤ 10 * decV [] + (x.toNat - 48)
        have : x.toNat ≠ 48 := fun e => hh (UInt8.toNat_inj.1 e)
        unfold digB at hx
        simp only [Bool.and_eq_true, decide_eq_true_eq] at hx
        omega
    | cons y t =>
      have hy : (y :: t).head? ≠ some 48 := fun e => by
        have := ok.2.2 (by simpa using e)
        simp at this
      have okv : decOk (y :: t) := ⟨by simp, fun z hz => ok.2.1 z (by simp at hz ⊢; rcases hz with hz | hz; exact .inl hz; exact .inr (.inl hz)), fun e => absurd e hy⟩
      obtain ⟨g1, g2, g3⟩ := ih (y :: t) (by simpa using h) okv
      have g := g3 hy
      refine ⟨?_, fun _ => by omega, fun _ => by omega⟩
      rw [decDigits, dif_neg (by omega), show (10 * decV (y :: t) + (x.toNat - 48)) / 10 = decV (y :: t) by omega, show (10 * decV (y :: t) + (x.toNat - 48)) % 10 = x.toNat - 48 by omega, g1, h1]
theorem dec_digits (n : Nat) : ∀ u, u ≤ n → decOk (decDigits u) ∧ decV (decDigits u) = u ∧ (0 < u → (decDigits u).head? ≠ some 48) := by
  induction n with
  | zero =>
    intro u h
    obtain rfl : u = 0 := by omega
    rw [decDigits, dif_pos (by decide)]
    exact ⟨⟨by simp, fun x hx => by rw [List.mem_singleton.1 hx]; decide, fun _ => rfl⟩, by decide, fun h => absurd h (by decide)⟩
  | succ n ih =>
    intro u h
    by_cases hu : u < 10
    · rw [decDigits, dif_pos hu]
      have e : (UInt8.ofNat (48 + u)).toNat = 48 + u := by rw [UInt8.toNat_ofNat']; exact Nat.mod_eq_of_lt (by omega)
      refine ⟨⟨by simp, fun x hx => ?_, fun q => ?_⟩, ?_, fun q z => ?_⟩
      · rw [List.mem_singleton.1 hx]; unfold digB; rw [e]; simp; omega
      · have q2 : UInt8.ofNat (48 + u) = 48 := Option.some.inj q
        rw [q2]
      · show 10 * 0 + ((UInt8.ofNat (48 + u)).toNat - 48) = u; rw [e]; omega
      · have z1 : UInt8.ofNat (48 + u) = 48 := Option.some.inj z
        have := congrArg UInt8.toNat z1; rw [e] at this; have z2 : (48 : UInt8).toNat = 48 := rfl; omega
    · rw [decDigits, dif_neg hu]
      obtain ⟨g1, g2, g3⟩ := ih (u / 10) (by omega)
      have e : (UInt8.ofNat (48 + u % 10)).toNat = 48 + u % 10 := by rw [UInt8.toNat_ofNat']; exact Nat.mod_eq_of_lt (by omega)
      have hd := g3 (by omega)
      have hh : (decDigits (u / 10) ++ [UInt8.ofNat (48 + u % 10)]).head? = (decDigits (u / 10)).head? := by
        cases hq : decDigits (u / 10) with
        | nil => exact absurd hq g1.1
        | cons a t => rfl
      refine ⟨⟨by simp, fun x hx => ?_, fun q => absurd (hh ▸ q) hd⟩, ?_, fun _ => by rw [hh]; exact hd⟩
      · rcases List.mem_append.1 hx with hx | hx
        · exact g1.2.1 x hx
        · rw [List.mem_singleton.1 hx]; unfold digB; rw [e]; simp; omega
      · rw [decV_snoc, g2, e]; omega

/-! ### words of hex digits, bytes of two -/
def hexB (x : UInt8) : Bool := digB x || (decide (97 ≤ x.toNat) && decide (x.toNat ≤ 102))
def hexN (x : UInt8) : Nat := if x.toNat ≤ 57 then x.toNat - 48 else x.toNat - 87
def hexD (d : Nat) : UInt8 := if d < 10 then UInt8.ofNat (48 + d) else UInt8.ofNat (87 + d)
def digH (v : Nat) : Nat → List UInt8
  | 0 => []
  | m + 1 => digH (v / 16) m ++ [hexD (v % 16)]
def codV (w : List UInt8) : Nat := w.foldl (fun n x => 16 * n + hexN x) 0
theorem codV_snoc (w : List UInt8) (x : UInt8) : codV (w ++ [x]) = 16 * codV w + hexN x := by unfold codV; rw [List.foldl_append]; rfl
theorem hex_lt {x : UInt8} (h : hexB x = true) : hexN x < 16 ∧ hexD (hexN x) = x := by
  unfold hexB digB at h
  simp only [Bool.or_eq_true, Bool.and_eq_true, decide_eq_true_eq] at h
  unfold hexN hexD
  split
  · refine ⟨by omega, ?_⟩
    rw [if_pos (by omega), show 48 + (x.toNat - 48) = x.toNat by omega]; exact UInt8.ofNat_toNat
  · refine ⟨by omega, ?_⟩
    rw [if_neg (by omega), show 87 + (x.toNat - 87) = x.toNat by omega]; exact UInt8.ofNat_toNat
theorem hexD_ok {d : Nat} (h : d < 16) : hexB (hexD d) = true ∧ hexN (hexD d) = d := by
  have : ∀ i : Fin 16, hexB (hexD i.val) = true ∧ hexN (hexD i.val) = i.val := by decide +kernel
  exact this ⟨d, h⟩
theorem digH_len : ∀ (m v : Nat), (digH v m).length = m
  | 0, _ => rfl
  | m + 1, v => by show (digH (v / 16) m ++ _).length = _; rw [List.length_append, digH_len m]; rfl
theorem digH_of (n : Nat) : ∀ w : List UInt8, w.length = n → (∀ x ∈ w, hexB x = true) → digH (codV w) n = w := by
  induction n with
  | zero => intro w h _; rw [List.length_eq_zero_iff.1 h]; rfl
  | succ n ih =>
    intro w h ok
    have hne : w ≠ [] := fun e => by rw [e] at h; cases h
    obtain ⟨v, x, rfl⟩ : ∃ v x, w = v ++ [x] := ⟨w.dropLast, w.getLast hne, (List.dropLast_concat_getLast hne).symm⟩
    obtain ⟨h1, h2⟩ := hex_lt (ok x (by simp))
    rw [codV_snoc]
    show digH ((16 * codV v + hexN x) / 16) n ++ [hexD ((16 * codV v + hexN x) % 16)] = _
    rw [show (16 * codV v + hexN x) / 16 = codV v by omega, show (16 * codV v + hexN x) % 16 = hexN x by omega, h2, ih v (by simpa using h) (fun z hz => ok z (by simp [hz]))]
theorem digH_ok : ∀ (m v : Nat), (∀ x ∈ digH v m, hexB x = true) ∧ codV (digH v m) = v % 16 ^ m
  | 0, v => ⟨fun x hx => absurd hx List.not_mem_nil, by show 0 = v % 1; omega⟩
  | m + 1, v => by
    obtain ⟨g1, g2⟩ := digH_ok m (v / 16)
    have hd := hexD_ok (d := v % 16) (by omega)
    refine ⟨fun x hx => ?_, ?_⟩
    · rcases List.mem_append.1 hx with hx | hx
      · exact g1 x hx
      · rw [List.mem_singleton.1 hx]; exact hd.1
    · show codV (digH (v / 16) m ++ [hexD (v % 16)]) = _
      rw [codV_snoc, g2, hd.2, Nat.pow_succ, Nat.mul_comm (16 ^ m) 16, Nat.mod_mul]; omega
def hexL (b : List UInt8) : List UInt8 := b.flatMap fun x => [hexD (x.toNat / 16), hexD (x.toNat % 16)]
def pairL : List UInt8 → Option (List UInt8)
  | [] => some []
  | [_] => none
  | x :: y :: t => if hexB x = true ∧ hexB y = true then (pairL t).map fun l => UInt8.ofNat (16 * hexN x + hexN y) :: l else none
theorem pair_of : ∀ (w b : List UInt8), pairL w = some b → hexL b = w
  | [], b, h => by injection h with h; subst h; rfl
  | [_], b, h => by cases h
  | x :: y :: t, b, h => by
    unfold pairL at h
    split at h
    · rename_i q
      obtain ⟨l, hl, rfl⟩ := Option.map_eq_some_iff.1 h
      obtain ⟨a1, a2⟩ := hex_lt q.1
      obtain ⟨b1, b2⟩ := hex_lt q.2
      have e : (UInt8.ofNat (16 * hexN x + hexN y)).toNat = 16 * hexN x + hexN y := by rw [UInt8.toNat_ofNat']; exact Nat.mod_eq_of_lt (by omega)
      show [hexD ((UInt8.ofNat (16 * hexN x + hexN y)).toNat / 16), hexD ((UInt8.ofNat (16 * hexN x + hexN y)).toNat % 16)] ++ hexL l = _
      rw [e, show (16 * hexN x + hexN y) / 16 = hexN x by omega, show (16 * hexN x + hexN y) % 16 = hexN y by omega, a2, b2, pair_of t l hl]; rfl
    · cases h
theorem pair_hex : ∀ b : List UInt8, pairL (hexL b) = some b
  | [] => rfl
  | x :: b => by
    have hx := UInt8.toNat_lt x
    have h1 := hexD_ok (d := x.toNat / 16) (by omega)
    have h2 := hexD_ok (d := x.toNat % 16) (by omega)
    show pairL (hexD (x.toNat / 16) :: hexD (x.toNat % 16) :: hexL b) = _
    rw [pairL, if_pos ⟨h1.1, h2.1⟩, pair_hex b, h1.2, h2.2]
    show some (UInt8.ofNat (16 * (x.toNat / 16) + x.toNat % 16) :: b) = _
    rw [show 16 * (x.toNat / 16) + x.toNat % 16 = x.toNat by omega, UInt8.ofNat_toNat]
theorem hex_no {x : UInt8} (h : hexB x = true) : x ≠ 32 ∧ x ≠ 10 := by
  refine ⟨fun e => ?_, fun e => ?_⟩ <;> (subst e; revert h; decide)
theorem dig_no {x : UInt8} (h : digB x = true) : x ≠ 32 ∧ x ≠ 10 := hex_no (by unfold hexB; rw [h]; rfl)
theorem hexL_ok (b : List UInt8) : ∀ x ∈ hexL b, hexB x = true := fun x hx => by
  obtain ⟨y, _, hy⟩ := List.mem_flatMap.1 hx
  have h := UInt8.toNat_lt y
  rcases List.mem_cons.1 hy with e | e
  · rw [e]; exact (hexD_ok (by omega)).1
  · rw [List.mem_singleton.1 e]; exact (hexD_ok (by omega)).1
abbrev W := List UInt8
/-- The reference's digits: others count 0. -/
def refD (base : Nat) (x : UInt8) : Nat := if 48 ≤ x.toNat ∧ x.toNat ≤ 57 then x.toNat - 48 else if base = 16 ∧ 97 ≤ x.toNat ∧ x.toNat ≤ 102 then x.toNat - 97 + 10 else 0
def valV (base : Nat) (w : W) : Nat := (w.take 9).foldl (fun n x => base * n + refD base x) 0
instance (w : W) : Decidable (decOk w) := by unfold decOk; infer_instance
/-- What is read of a word agrees with what is written and with what the reference reads. -/
def Codec {σ α : Type} (ok : α → Prop) (rd : σ → Option α) (wr : α → σ) (rf : σ → α) : Prop :=
  ∀ a, ok a → (∀ s, rd s = some a ↔ s = wr a) ∧ rf (wr a) = a
theorem foldl_eq {β : Type} {f g : β → UInt8 → β} : ∀ {l : W} (b : β), (∀ x ∈ l, ∀ b, f b x = g b x) → l.foldl f b = l.foldl g b
  | [], _, _ => rfl
  | x :: l, b, h => by
    show l.foldl f (f b x) = l.foldl g (g b x)
    rw [h x List.mem_cons_self, foldl_eq _ (fun y hy => h y (List.mem_cons_of_mem _ hy))]
theorem val_dec {w : W} (h : ∀ x ∈ w, digB x = true) (hl : w.length ≤ 9) : valV 10 w = decV w := by
  unfold valV decV
  rw [List.take_of_length_le hl]
  refine foldl_eq _ fun x hx b => ?_
  have := h x hx
  unfold digB at this
  simp only [Bool.and_eq_true, decide_eq_true_eq] at this
  unfold refD; rw [if_pos this]
theorem val_hex {w : W} (h : ∀ x ∈ w, hexB x = true) (hl : w.length ≤ 9) : valV 16 w = codV w := by
  unfold valV codV
  rw [List.take_of_length_le hl]
  refine foldl_eq _ fun x hx b => ?_
  have := h x hx
  unfold hexB digB at this
  simp only [Bool.or_eq_true, Bool.and_eq_true, decide_eq_true_eq] at this
  unfold refD hexN
  by_cases q : x.toNat ≤ 57
  · rw [if_pos (by omega), if_pos q]
  · rw [if_neg (by omega), if_pos (by omega), if_neg q]; omega
/-! ### decimal numbers -/
def readD (w : W) : Option Int := if decOk w ∧ w.length ≤ 9 then some (decV w : Int) else none
theorem itoa_of {a : Int} (h : 0 ≤ a) : itoa a = decDigits a.toNat := by unfold itoa; rw [if_neg (by omega)]
theorem dig_len {n : Nat} (h : n ≤ 999999999) : (decDigits n).length ≤ 9 := by
  rw [decDigits_length]
  by_cases h1 : n < 10
  · rw [nDigits_small h1]; omega
  · have h2 : ∃ k, k ≤ 8 ∧ 10 ^ k ≤ n ∧ n < 10 ^ (k + 1) := by
      by_cases g1 : n < 10 ^ 2
      · exact ⟨1, by omega, by omega, g1⟩
      by_cases g2 : n < 10 ^ 3
      · exact ⟨2, by omega, by omega, g2⟩
      by_cases g3 : n < 10 ^ 4
      · exact ⟨3, by omega, by omega, g3⟩
      by_cases g4 : n < 10 ^ 5
      · exact ⟨4, by omega, by omega, g4⟩
      by_cases g5 : n < 10 ^ 6
      · exact ⟨5, by omega, by omega, g5⟩
      by_cases g6 : n < 10 ^ 7
      · exact ⟨6, by omega, by omega, g6⟩
      by_cases g7 : n < 10 ^ 8
      · exact ⟨7, by omega, by omega, g7⟩
      · exact ⟨8, by omega, by omega, by omega⟩
    obtain ⟨k, hk, a, b⟩ := h2
    rw [nDigits_unique k n a b]; omega
theorem cod_dec : Codec (fun a : Int => 0 ≤ a ∧ a ≤ 999999999) readD itoa (fun w => (valV 10 w : Int)) := fun a ok => by
  have e : itoa a = decDigits a.toNat := itoa_of ok.1
  obtain ⟨g1, g2, _⟩ := dec_digits a.toNat a.toNat (Nat.le_refl _)
  have gl := dig_len (n := a.toNat) (by omega)
  refine ⟨fun s => ⟨fun h => ?_, fun h => ?_⟩, ?_⟩
  · unfold readD at h
    split at h
    · rename_i q
      have h := Option.some.inj h
      rw [e, ← h, Int.toNat_natCast, (dec_of _ s rfl q.1).1]
    · cases h
  · rw [h, e]; unfold readD; rw [if_pos ⟨g1, gl⟩, g2]; congr 1; omega
  · show ((valV 10 (itoa a) : Nat) : Int) = a
    rw [e, val_dec g1.2.1 gl, g2]; omega
/-! ### words -/
def readC (w : W) : Option Nat := if w.length = 8 ∧ ∀ x ∈ w, hexB x = true then some (codV w) else none
theorem cod_word : Codec (fun a : Nat => a < 4294967296) readC (fun a => digH a 8) (fun w => valV 16 w % 4294967296) := fun a ok => by
  obtain ⟨g1, g2⟩ := digH_ok 8 a
  have gl := digH_len 8 a
  have g3 : codV (digH a 8) = a := by rw [g2]; exact Nat.mod_eq_of_lt ok
  refine ⟨fun s => ⟨fun h => ?_, fun h => ?_⟩, ?_⟩
  · unfold readC at h
    split at h
    · rename_i q
      have h := Option.some.inj h
      rw [← h]; exact (digH_of 8 s q.1 q.2).symm
    · cases h
  · rw [h]; unfold readC; rw [if_pos ⟨gl, g1⟩, g3]
  · show valV 16 (digH a 8) % _ = a
    rw [val_hex g1 (by omega), g3]; exact Nat.mod_eq_of_lt ok
/-! ### bytes -/
def refB : W → W
  | x :: y :: t => UInt8.ofNat (valV 16 [x, y]) :: refB t
  | _ => []
theorem refB_hex : ∀ b : W, refB (hexL b) = b
  | [] => rfl
  | x :: b => by
    have hx := UInt8.toNat_lt x
    have h1 := hexD_ok (d := x.toNat / 16) (by omega)
    have h2 := hexD_ok (d := x.toNat % 16) (by omega)
    show UInt8.ofNat (valV 16 [hexD (x.toNat / 16), hexD (x.toNat % 16)]) :: refB (hexL b) = _
    rw [refB_hex b, val_hex (by intro y hy; simp at hy; rcases hy with rfl | rfl; exact h1.1; exact h2.1) (by simp)]
    show UInt8.ofNat (16 * (16 * 0 + hexN (hexD (x.toNat / 16))) + hexN (hexD (x.toNat % 16))) :: b = _
    rw [h1.2, h2.2, show 16 * (16 * 0 + x.toNat / 16) + x.toNat % 16 = x.toNat by omega, UInt8.ofNat_toNat]
theorem cod_bytes : Codec (fun _ : W => True) pairL hexL refB := fun a _ => ⟨fun s => ⟨fun h => (pair_of s a h).symm, fun h => h ▸ pair_hex a⟩, refB_hex a⟩
/-! ### lists, one word alone -/
def partsL {α : Type} (rd : W → Option α) : List W → Option (List α)
  | [] => some []
  | w :: t => match rd w with
    | none => none
    | some a => (partsL rd t).map (a :: ·)
theorem cod_list {α : Type} {ok : α → Prop} {rd : W → Option α} {wr : α → W} {rf : W → α} (c : Codec ok rd wr rf) :
    Codec (fun l : List α => ∀ a ∈ l, ok a) (partsL rd) (List.map wr) (List.map rf) := by
  intro l
  induction l with
  | nil =>
    intro _
    refine ⟨fun s => ⟨fun h => ?_, fun h => h ▸ rfl⟩, rfl⟩
    cases s with
    | nil => rfl
    | cons w t =>
      unfold partsL at h
      split at h
      · cases h
      · cases hp : partsL rd t with
        | none => rw [hp] at h; cases h
        | some q => rw [hp] at h; cases h
  | cons a l ih =>
    intro ok
    obtain ⟨i1, i2⟩ := ih (fun b hb => ok b (List.mem_cons_of_mem _ hb))
    obtain ⟨c1, c2⟩ := c a (ok a List.mem_cons_self)
    refine ⟨fun s => ⟨fun h => ?_, fun h => ?_⟩, by show rf (wr a) :: List.map rf (List.map wr l) = _; rw [c2, i2]⟩
    · cases s with
      | nil => cases h
      | cons w t =>
        unfold partsL at h
        split at h
        · cases h
        · rename_i b hb
          obtain ⟨q, hq, e⟩ := Option.map_eq_some_iff.1 h
          injection e with e1 e2
          subst e1 e2
          show w :: t = wr b :: List.map wr q
          rw [(c1 w).1 hb, (i1 t).1 hq]
    · subst h
      show partsL rd (wr a :: List.map wr l) = _
      rw [partsL, (c1 _).2 rfl]
      show Option.map _ (partsL rd (List.map wr l)) = _
      rw [(i1 _).2 rfl]; rfl
def oneL {α : Type} (rd : W → Option α) : List W → Option α
  | [w] => rd w
  | _ => none
theorem cod_one {α : Type} {ok : α → Prop} {rd : W → Option α} {wr : α → W} {rf : W → α} (c : Codec ok rd wr rf) :
    Codec ok (oneL rd) (fun a => [wr a]) (fun s => rf (s.headD [])) := fun a h => by
  obtain ⟨c1, c2⟩ := c a h
  refine ⟨fun s => ⟨fun h => ?_, fun h => ?_⟩, c2⟩
  · match s, h with
    | [w], h => rw [(c1 w).1 h]
  · subst h; exact (c1 _).2 rfl

/-! ### modes and tables -/
def offW : W := [111, 102, 102]
def taintW : W := [116, 97, 105, 110, 116]
def strictW : W := [115, 116, 114, 105, 99, 116]
def tablesW : W := [116, 97, 98, 108, 101, 115]
def tapeW : W := [116, 97, 112, 101]
def modeW (a : Int) : W := if a = 1 then taintW else if a = 2 then strictW else offW
def readO (w : W) : Option Int := if w = offW then some 0 else if w = taintW then some 1 else if w = strictW then some 2 else none
def refO (w : W) : Int := if w = strictW then 2 else if w = taintW then 1 else 0
theorem cod_mode : Codec (fun a : Int => 0 ≤ a ∧ a ≤ 2) readO modeW refO := fun a ok => by
  have h : a = 0 ∨ a = 1 ∨ a = 2 := by omega
  refine ⟨fun s => ?_, by rcases h with rfl | rfl | rfl <;> decide⟩
  unfold readO
  rcases h with rfl | rfl | rfl
  · rw [show modeW 0 = offW from rfl]; constructor
    · intro q; split at q
      · assumption
      · split at q
        · injection q with q; cases q
        · split at q
          · injection q with q; cases q
          · cases q
    · intro q; rw [if_pos q]
  · rw [show modeW 1 = taintW from rfl]; constructor
    · intro q; split at q
      · injection q with q; cases q
      · split at q
        · assumption
        · split at q
          · injection q with q; cases q
          · cases q
    · intro q; subst q; decide
  · rw [show modeW 2 = strictW from rfl]; constructor
    · intro q; split at q
      · injection q with q; cases q
      · split at q
        · injection q with q; cases q
        · split at q
          · assumption
          · cases q
    · intro q; subst q; decide
def tableW (a : Bool) : W := if a = true then tablesW else tapeW
def readT (w : W) : Option Bool := if w = tablesW then some true else if w = tapeW then some false else none
def refT (w : W) : Bool := decide (w = tablesW)
theorem cod_table : Codec (fun _ : Bool => True) readT tableW refT := fun a _ => by
  refine ⟨fun s => ?_, by cases a <;> decide⟩
  unfold readT
  cases a
  · rw [show tableW false = tapeW from rfl]; constructor
    · intro q; split at q
      · injection q with q; cases q
      · split at q
        · assumption
        · cases q
    · intro q; subst q; decide
  · rw [show tableW true = tablesW from rfl]; constructor
    · intro q; split at q
      · assumption
      · split at q
        · injection q with q; cases q
        · cases q
    · intro q; rw [if_pos q]
/-! ### plans -/
structure ScPlan where
  mode : Int
  width : Int
  rob : Int
  queue : Int
  stores : Int
  slots : Int
  sets : Int
  ways : Int
  tables : Bool
  lat : List Int
  tape : List Nat
  prog : List Nat
  mem : List UInt8
  cycles : Int

def nameL : Nat → W
  | 0 => [109, 111, 100, 101]
  | 1 => [119, 105, 100, 116, 104]
  | 2 => [114, 111, 98]
  | 3 => [113, 117, 101, 117, 101]
  | 4 => [115, 116, 111, 114, 101, 115]
  | 5 => [115, 108, 111, 116, 115]
  | 6 => [115, 101, 116, 115]
  | 7 => [119, 97, 121, 115]
  | 8 => [103, 117, 101, 115, 115]
  | 9 => [108, 97, 116]
  | 10 => [116, 97, 112, 101]
  | 11 => [112, 114, 111, 103]
  | 12 => [109, 101, 109]
  | 13 => [99, 121, 99, 108, 101, 115]
  | _ => []
def writtenL (p : ScPlan) : Nat → List W
  | 0 => [modeW p.mode]
  | 1 => [itoa p.width]
  | 2 => [itoa p.rob]
  | 3 => [itoa p.queue]
  | 4 => [itoa p.stores]
  | 5 => [itoa p.slots]
  | 6 => [itoa p.sets]
  | 7 => [itoa p.ways]
  | 8 => [tableW p.tables]
  | 9 => p.lat.map itoa
  | 10 => p.tape.map fun a => digH a 8
  | 11 => p.prog.map fun a => digH a 8
  | 12 => [hexL p.mem]
  | 13 => [itoa p.cycles]
  | _ => []
def LineL (p : ScPlan) (k : Nat) : W := joinL 32 (nameL k :: writtenL p k)
def OkL (okM : W → Prop) (p : ScPlan) : Nat → Prop
  | 0 => 0 ≤ p.mode ∧ p.mode ≤ 2
  | 1 => 1 ≤ p.width ∧ p.width ≤ 2
  | 2 => 2 ≤ p.rob ∧ p.rob ≤ 8
  | 3 => 1 ≤ p.queue ∧ p.queue ≤ 4
  | 4 => 1 ≤ p.stores ∧ p.stores ≤ 4
  | 5 => 2 ≤ p.slots ∧ p.slots ≤ 6
  | 6 => 1 ≤ p.sets ∧ p.sets ≤ 4 ∧ p.sets ≠ 3
  | 7 => 1 ≤ p.ways ∧ p.ways ≤ 2
  | 8 => True
  | 9 => p.lat.length ≤ 64 ∧ ∀ a ∈ p.lat, 1 ≤ a ∧ a ≤ 8
  | 10 => p.tape.length ≤ 64 ∧ ∀ a ∈ p.tape, a < 4294967296
  | 11 => p.prog.length ≤ 64 ∧ ∀ a ∈ p.prog, a < 4294967296
  | 12 => okM p.mem
  | 13 => 0 ≤ p.cycles ∧ p.cycles ≤ 600
  | _ => True
def RightL (okM : W → Prop) (p : ScPlan) : Prop := ∀ k, OkL okM p k
/-- The one plan with a line's field of the other. -/
def setF (q p : ScPlan) : Nat → ScPlan
  | 0 => { p with mode := q.mode }
  | 1 => { p with width := q.width }
  | 2 => { p with rob := q.rob }
  | 3 => { p with queue := q.queue }
  | 4 => { p with stores := q.stores }
  | 5 => { p with slots := q.slots }
  | 6 => { p with sets := q.sets }
  | 7 => { p with ways := q.ways }
  | 8 => { p with tables := q.tables }
  | 9 => { p with lat := q.lat }
  | 10 => { p with tape := q.tape }
  | 11 => { p with prog := q.prog }
  | 12 => { p with mem := q.mem }
  | 13 => { p with cycles := q.cycles }
  | _ => p
def readM (p : ScPlan) (t : List W) : Nat → Option ScPlan
  | 0 => (oneL readO t).map fun x => { p with mode := x }
  | 1 => (oneL readD t).map fun x => { p with width := x }
  | 2 => (oneL readD t).map fun x => { p with rob := x }
  | 3 => (oneL readD t).map fun x => { p with queue := x }
  | 4 => (oneL readD t).map fun x => { p with stores := x }
  | 5 => (oneL readD t).map fun x => { p with slots := x }
  | 6 => (oneL readD t).map fun x => { p with sets := x }
  | 7 => (oneL readD t).map fun x => { p with ways := x }
  | 8 => (oneL readT t).map fun x => { p with tables := x }
  | 9 => (partsL readD t).map fun x => { p with lat := x }
  | 10 => (partsL readC t).map fun x => { p with tape := x }
  | 11 => (partsL readC t).map fun x => { p with prog := x }
  | 12 => (oneL pairL t).map fun x => { p with mem := x }
  | 13 => (oneL readD t).map fun x => { p with cycles := x }
  | _ => none
def readR (p : ScPlan) (t : List W) : Nat → ScPlan
  | 0 => { p with mode := refO (t.headD []) }
  | 1 => { p with width := (valV 10 (t.headD []) : Int) }
  | 2 => { p with rob := (valV 10 (t.headD []) : Int) }
  | 3 => { p with queue := (valV 10 (t.headD []) : Int) }
  | 4 => { p with stores := (valV 10 (t.headD []) : Int) }
  | 5 => { p with slots := (valV 10 (t.headD []) : Int) }
  | 6 => { p with sets := (valV 10 (t.headD []) : Int) }
  | 7 => { p with ways := (valV 10 (t.headD []) : Int) }
  | 8 => { p with tables := refT (t.headD []) }
  | 9 => { p with lat := t.map fun w => (valV 10 w : Int) }
  | 10 => { p with tape := t.map fun w => valV 16 w % 4294967296 }
  | 11 => { p with prog := t.map fun w => valV 16 w % 4294967296 }
  | 12 => { p with mem := refB (t.headD []) }
  | 13 => { p with cycles := (valV 10 (t.headD []) : Int) }
  | _ => p
theorem fld {α : Type} {ok : α → Prop} {rd : List W → Option α} {wr : α → List W} {rf : List W → α} (c : Codec ok rd wr rf)
    {set : α → ScPlan} {get : ScPlan → α} (hg : ∀ a, get (set a) = a) {p' : ScPlan} {t : List W} (hp : ok (get p')) :
    (rd t).map set = some p' ↔ (p' = set (rf t) ∧ wr (get p') = t) := by
  obtain ⟨c1, c2⟩ := c _ hp
  constructor
  · intro h
    obtain ⟨a, ha, rfl⟩ := Option.map_eq_some_iff.1 h
    rw [hg] at c1 c2 ⊢
    have e := (c1 t).1 ha
    exact ⟨by rw [e, c2], e.symm⟩
  · intro h
    have h2 := (c1 t).2 h.2.symm
    rw [h2]
    show some (set (get p')) = some p'
    rw [← h.2, c2] at h
    rw [← h.1]
theorem fld_set {α : Type} {ok : α → Prop} {rd : List W → Option α} {wr : α → List W} {rf : List W → α} (c : Codec ok rd wr rf) {a : α} (h : ok a) : rf (wr a) = a := (c a h).2
theorem okD {a l u : Int} (h : l ≤ a ∧ a ≤ u) (hl : 0 ≤ l) (hu : u ≤ 999999999) : 0 ≤ a ∧ a ≤ 999999999 := ⟨by omega, by omega⟩

theorem read_iff {okM : W → Prop} {p p' : ScPlan} {t : List W} : ∀ (k : Nat), k < 14 → OkL okM p' k → (readM p t k = some p' ↔ (p' = readR p t k ∧ writtenL p' k = t))
  | 0, _, h => fld (cod_one cod_mode) (set := fun x => { p with mode := x }) (get := (·.mode)) (fun _ => rfl) h
  | 1, _, h => fld (cod_one cod_dec) (set := fun x => { p with width := x }) (get := (·.width)) (fun _ => rfl) (okD h (by decide) (by decide))
  | 2, _, h => fld (cod_one cod_dec) (set := fun x => { p with rob := x }) (get := (·.rob)) (fun _ => rfl) (okD h (by decide) (by decide))
  | 3, _, h => fld (cod_one cod_dec) (set := fun x => { p with queue := x }) (get := (·.queue)) (fun _ => rfl) (okD h (by decide) (by decide))
  | 4, _, h => fld (cod_one cod_dec) (set := fun x => { p with stores := x }) (get := (·.stores)) (fun _ => rfl) (okD h (by decide) (by decide))
  | 5, _, h => fld (cod_one cod_dec) (set := fun x => { p with slots := x }) (get := (·.slots)) (fun _ => rfl) (okD h (by decide) (by decide))
  | 6, _, h => fld (cod_one cod_dec) (set := fun x => { p with sets := x }) (get := (·.sets)) (fun _ => rfl) (okD ⟨h.1, h.2.1⟩ (by decide) (by decide))
  | 7, _, h => fld (cod_one cod_dec) (set := fun x => { p with ways := x }) (get := (·.ways)) (fun _ => rfl) (okD h (by decide) (by decide))
  | 8, _, h => fld (cod_one cod_table) (set := fun x => { p with tables := x }) (get := (·.tables)) (fun _ => rfl) trivial
  | 9, _, h => fld (cod_list cod_dec) (set := fun x => { p with lat := x }) (get := (·.lat)) (fun _ => rfl) (fun a ha => okD (h.2 a ha) (by decide) (by decide))
  | 10, _, h => fld (cod_list cod_word) (set := fun x => { p with tape := x }) (get := (·.tape)) (fun _ => rfl) h.2
  | 11, _, h => fld (cod_list cod_word) (set := fun x => { p with prog := x }) (get := (·.prog)) (fun _ => rfl) h.2
  | 12, _, h => fld (cod_one cod_bytes) (set := fun x => { p with mem := x }) (get := (·.mem)) (fun _ => rfl) trivial
  | 13, _, h => fld (cod_one cod_dec) (set := fun x => { p with cycles := x }) (get := (·.cycles)) (fun _ => rfl) (okD h (by decide) (by decide))
  | n + 14, h, _ => absurd h (by omega)
theorem read_written {okM : W → Prop} {p q : ScPlan} : ∀ (k : Nat), k < 14 → OkL okM q k → readR p (writtenL q k) k = setF q p k
  | 0, _, h => congrArg (fun x => { p with mode := x }) (fld_set (cod_one cod_mode) (a := q.mode) h)
  | 1, _, h => congrArg (fun x => { p with width := x }) (fld_set (cod_one cod_dec) (a := q.width) (okD h (by decide) (by decide)))
  | 2, _, h => congrArg (fun x => { p with rob := x }) (fld_set (cod_one cod_dec) (a := q.rob) (okD h (by decide) (by decide)))
  | 3, _, h => congrArg (fun x => { p with queue := x }) (fld_set (cod_one cod_dec) (a := q.queue) (okD h (by decide) (by decide)))
  | 4, _, h => congrArg (fun x => { p with stores := x }) (fld_set (cod_one cod_dec) (a := q.stores) (okD h (by decide) (by decide)))
  | 5, _, h => congrArg (fun x => { p with slots := x }) (fld_set (cod_one cod_dec) (a := q.slots) (okD h (by decide) (by decide)))
  | 6, _, h => congrArg (fun x => { p with sets := x }) (fld_set (cod_one cod_dec) (a := q.sets) (okD ⟨h.1, h.2.1⟩ (by decide) (by decide)))
  | 7, _, h => congrArg (fun x => { p with ways := x }) (fld_set (cod_one cod_dec) (a := q.ways) (okD h (by decide) (by decide)))
  | 8, _, h => congrArg (fun x => { p with tables := x }) (fld_set (cod_one cod_table) (a := q.tables) trivial)
  | 9, _, h => congrArg (fun x => { p with lat := x }) (fld_set (cod_list cod_dec) (a := q.lat) (fun a ha => okD (h.2 a ha) (by decide) (by decide)))
  | 10, _, h => congrArg (fun x => { p with tape := x }) (fld_set (cod_list cod_word) (a := q.tape) h.2)
  | 11, _, h => congrArg (fun x => { p with prog := x }) (fld_set (cod_list cod_word) (a := q.prog) h.2)
  | 12, _, h => congrArg (fun x => { p with mem := x }) (fld_set (cod_one cod_bytes) (a := q.mem) trivial)
  | 13, _, h => congrArg (fun x => { p with cycles := x }) (fld_set (cod_one cod_dec) (a := q.cycles) (okD h (by decide) (by decide)))
  | n + 14, h, _ => absurd h (by omega)
theorem itoa_no {a : Int} (h : 0 ≤ a) : ∀ x ∈ itoa a, x ≠ 32 ∧ x ≠ 10 := fun x hx => by
  rw [itoa_of h] at hx
  exact dig_no ((dec_digits a.toNat a.toNat (Nat.le_refl _)).1.2.1 x hx)
theorem digH_no (a m : Nat) : ∀ x ∈ digH a m, x ≠ 32 ∧ x ≠ 10 := fun x hx => hex_no ((digH_ok m a).1 x hx)
def Clear (w : W) : Prop := ∀ x ∈ w, x ≠ 32 ∧ x ≠ 10
theorem clear_one {w : W} (h : Clear w) : ∀ v ∈ [w], Clear v := fun _ hv => by rw [List.mem_singleton.1 hv]; exact h
theorem clear_map {α : Type} {f : α → W} {l : List α} (h : ∀ a ∈ l, Clear (f a)) : ∀ v ∈ l.map f, Clear v := fun v hv => by
  obtain ⟨a, ha, rfl⟩ := List.mem_map.1 hv; exact h a ha
theorem mode_clear (a : Int) : Clear (modeW a) := by
  unfold modeW; split
  · unfold Clear; decide
  · split
    · unfold Clear; decide
    · unfold Clear; decide
theorem table_clear (a : Bool) : Clear (tableW a) := by unfold Clear; cases a <;> decide

theorem written_clear {okM : W → Prop} {p : ScPlan} : ∀ (k : Nat), OkL okM p k → ∀ w ∈ writtenL p k, Clear w
  | 0, _ => clear_one (mode_clear _)
  | 1, h => clear_one (itoa_no (by have := h.1; omega))
  | 2, h => clear_one (itoa_no (by have := h.1; omega))
  | 3, h => clear_one (itoa_no (by have := h.1; omega))
  | 4, h => clear_one (itoa_no (by have := h.1; omega))
  | 5, h => clear_one (itoa_no (by have := h.1; omega))
  | 6, h => clear_one (itoa_no (by have := h.1; omega))
  | 7, h => clear_one (itoa_no (by have := h.1; omega))
  | 8, _ => clear_one (table_clear _)
  | 9, h => clear_map fun a ha => itoa_no (by have := h.2 a ha; omega)
  | 10, _ => clear_map fun a _ => digH_no a 8
  | 11, _ => clear_map fun a _ => digH_no a 8
  | 12, _ => clear_one fun x hx => hex_no (hexL_ok _ x hx)
  | 13, h => clear_one (itoa_no (by have := h.1; omega))
  | n + 14, _ => fun w hw => absurd hw List.not_mem_nil
theorem name_clear : ∀ k, Clear (nameL k)
  | 0 => by unfold Clear; decide
  | 1 => by unfold Clear; decide
  | 2 => by unfold Clear; decide
  | 3 => by unfold Clear; decide
  | 4 => by unfold Clear; decide
  | 5 => by unfold Clear; decide
  | 6 => by unfold Clear; decide
  | 7 => by unfold Clear; decide
  | 8 => by unfold Clear; decide
  | 9 => by unfold Clear; decide
  | 10 => by unfold Clear; decide
  | 11 => by unfold Clear; decide
  | 12 => by unfold Clear; decide
  | 13 => by unfold Clear; decide
  | n + 14 => fun x hx => absurd hx List.not_mem_nil
theorem words_clear {okM : W → Prop} {p : ScPlan} {k : Nat} (h : OkL okM p k) : ∀ w ∈ nameL k :: writtenL p k, 32 ∉ w := fun w hw q => by
  rcases List.mem_cons.1 hw with e | e
  · exact (name_clear k 32 (e ▸ q)).1 rfl
  · exact (written_clear k h w e 32 q).1 rfl
theorem split_line {okM : W → Prop} {p : ScPlan} {k : Nat} (h : OkL okM p k) : splitL 32 (LineL p k) = nameL k :: writtenL p k := split_join (by simp) (words_clear h)
theorem join_mem {c y : UInt8} : ∀ {l : List W}, y ∈ joinL c l → y = c ∨ ∃ w ∈ l, y ∈ w
  | [], h => absurd h List.not_mem_nil
  | [w], h => .inr ⟨w, List.mem_cons_self, h⟩
  | w :: v :: ws, h => by
    rcases List.mem_append.1 (show y ∈ w ++ c :: joinL c (v :: ws) from h) with h | h
    · exact .inr ⟨w, List.mem_cons_self, h⟩
    · rcases List.mem_cons.1 h with h | h
      · exact .inl h
      · rcases join_mem h with h | ⟨u, hu, h⟩
        · exact .inl h
        · exact .inr ⟨u, List.mem_cons_of_mem _ hu, h⟩
theorem line_clear {okM : W → Prop} {p : ScPlan} {k : Nat} (h : OkL okM p k) : 10 ∉ LineL p k := fun q => by
  rcases join_mem q with e | ⟨w, hw, e⟩
  · revert e; decide
  · rcases List.mem_cons.1 hw with hw | hw
    · exact (name_clear k 10 (hw ▸ e)).2 rfl
    · exact (written_clear k h w hw 10 e).2 rfl
/-! ### one line, and all of them -/
noncomputable section
open Classical
def stepM (okM : W → Prop) (p : ScPlan) (k : Nat) (line : W) : Option ScPlan :=
  if (splitL 32 line).headD [] = nameL k then (readM p (splitL 32 line).tail k).bind fun p' => if RightL okM p' then some p' else none else none
def stepR (okM : W → Prop) (p : ScPlan) (k : Nat) (line : W) : Option ScPlan :=
  if RightL okM (readR p (splitL 32 line).tail k) ∧ LineL (readR p (splitL 32 line).tail k) k = line then some (readR p (splitL 32 line).tail k) else none
theorem stepM_iff {okM : W → Prop} {p p' : ScPlan} {k : Nat} {line : W} : stepM okM p k line = some p' ↔ ((splitL 32 line).headD [] = nameL k ∧ readM p (splitL 32 line).tail k = some p' ∧ RightL okM p') := by
  unfold stepM
  constructor
  · intro h
    split at h
    · rename_i q
      obtain ⟨x, hx, h⟩ := Option.bind_eq_some_iff.1 h
      split at h
      · rename_i r
        injection h with h; subst h
        exact ⟨q, hx, r⟩
      · cases h
    · cases h
  · rintro ⟨a, b, c⟩
    rw [if_pos a, b]
    show (if RightL okM p' then some p' else none) = _
    rw [if_pos c]
theorem stepR_iff {okM : W → Prop} {p p' : ScPlan} {k : Nat} {line : W} : stepR okM p k line = some p' ↔ (p' = readR p (splitL 32 line).tail k ∧ RightL okM p' ∧ LineL p' k = line) := by
  unfold stepR
  constructor
  · intro h
    split at h
    · rename_i q
      injection h with h; subst h
      exact ⟨rfl, q⟩
    · cases h
  · rintro ⟨rfl, q⟩
    rw [if_pos q]
theorem step_eq {okM : W → Prop} {p : ScPlan} {k : Nat} (hk : k < 14) (line : W) : stepM okM p k line = stepR okM p k line := by
  apply Option.ext
  intro p'
  rw [stepM_iff, stepR_iff]
  have hn := split_ne 32 line
  have hj := join_split 32 line
  cases hs : splitL 32 line with
  | nil => exact absurd hs hn
  | cons w t =>
    rw [hs] at hj
    constructor
    · rintro ⟨a, b, c⟩
      obtain ⟨d, e⟩ := (read_iff k hk (c k)).1 b
      refine ⟨d, c, ?_⟩
      show joinL 32 (nameL k :: writtenL p' k) = line
      rw [e, ← show w = nameL k from a]; exact hj
    · rintro ⟨a, b, c⟩
      have e := split_line (b k)
      rw [c, hs] at e
      injection e with e1 e2
      exact ⟨e1, (read_iff k hk (b k)).2 ⟨a, e2.symm⟩, b⟩
def goG (step : ScPlan → Nat → W → Option ScPlan) (p0 : ScPlan) (s : W) : Nat → Except Nat (ScPlan × W)
  | 0 => .ok (p0, s)
  | k + 1 => match goG step p0 s k with
    | .error n => .error n
    | .ok (p, rest) => if (cutL 10 rest).2.2 = true then match step p k (cutL 10 rest).1 with
      | some p' => .ok (p', (cutL 10 rest).2.1)
      | none => .error (k + 1)
      else .error (k + 1)
theorem go_eq {okM : W → Prop} (p0 : ScPlan) (s : W) : ∀ k, k ≤ 14 → goG (stepM okM) p0 s k = goG (stepR okM) p0 s k
  | 0, _ => rfl
  | k + 1, h => by
    unfold goG
    rw [go_eq p0 s k (by omega)]
    cases goG (stepR okM) p0 s k with
    | error n => rfl
    | ok x => show (if _ then _ else _) = (if _ then _ else _); rw [step_eq (by omega)]
theorem go_err {step : ScPlan → Nat → W → Option ScPlan} {p0 : ScPlan} {s : W} {k e : Nat} (h : goG step p0 s k = .error e) : ∀ d, goG step p0 s (k + d) = .error e
  | 0 => h
  | d + 1 => by show goG step p0 s (k + d + 1) = _; unfold goG; rw [go_err h d]
/-- What a text is read as: the plan, the error, the line. -/
def parseG (step : ScPlan → Nat → W → Option ScPlan) (p0 pz : ScPlan) (s : W) : ScPlan × Int × Int :=
  match goG step p0 s 14 with
  | .error n => (pz, 250, n)
  | .ok (p, rest) => if rest = [] then (p, 0, 0) else (pz, 250, 15)
theorem parse_eq {okM : W → Prop} (p0 pz : ScPlan) (s : W) : parseG (stepM okM) p0 pz s = parseG (stepR okM) p0 pz s := by
  unfold parseG; rw [go_eq p0 s 14 (Nat.le_refl _)]
/-! ### there and back -/
def textTo (p : ScPlan) : Nat → W
  | 0 => []
  | k + 1 => textTo p k ++ (LineL p k ++ [10])
def mixF (q p : ScPlan) : Nat → ScPlan
  | 0 => p
  | k + 1 => setF q (mixF q p k) k
theorem cut_app {c : UInt8} {s : W} : ∀ {w : W}, c ∉ w → cutL c (w ++ c :: s) = (w, s, true)
  | [], _ => by show cutL c (c :: s) = _; unfold cutL; rw [if_pos rfl]
  | x :: w, h => by
    have h1 : ¬ x = c := fun e => h (e ▸ List.mem_cons_self)
    show cutL c (x :: (w ++ c :: s)) = _
    rw [cutL, if_neg h1, cut_app (fun q => h (List.mem_cons_of_mem _ q))]
theorem cut_of {c : UInt8} : ∀ {s : W}, (cutL c s).2.2 = true → s = (cutL c s).1 ++ c :: (cutL c s).2.1
  | [], h => by cases h
  | x :: s, h => by
    unfold cutL at h ⊢
    split
    · rename_i e; rw [e]; rfl
    · rename_i e
      rw [if_neg e] at h
      show x :: s = x :: ((cutL c s).1 ++ c :: (cutL c s).2.1)
      rw [← cut_of h]

theorem mix_all (q p : ScPlan) : mixF q p 14 = q := by cases q; rfl
theorem written_set (q p : ScPlan) : ∀ k j, k ≠ j → writtenL (setF q p k) j = writtenL p j
  | k, j, h => by
    rcases k with _ | _ | _ | _ | _ | _ | _ | _ | _ | _ | _ | _ | _ | _ | k <;> rcases j with _ | _ | _ | _ | _ | _ | _ | _ | _ | _ | _ | _ | _ | _ | j <;> first | rfl | exact absurd rfl h
theorem set_ok {okM : W → Prop} {q p : ScPlan} : ∀ k j, OkL okM q k → OkL okM p j → OkL okM (setF q p k) j
  | k, j, h, h' => by
    rcases k with _ | _ | _ | _ | _ | _ | _ | _ | _ | _ | _ | _ | _ | _ | k <;> rcases j with _ | _ | _ | _ | _ | _ | _ | _ | _ | _ | _ | _ | _ | _ | j <;> first | exact h' | exact h
theorem written_own (q p : ScPlan) : ∀ k, writtenL (setF q p k) k = writtenL q k := by
    intro k
    rcases k with _ | _ | _ | _ | _ | _ | _ | _ | _ | _ | _ | _ | _ | _ | k <;> rfl
theorem read_set (p : ScPlan) (t : List W) : ∀ k, readR p t k = setF (readR p t k) p k := by
    intro k
    rcases k with _ | _ | _ | _ | _ | _ | _ | _ | _ | _ | _ | _ | _ | _ | k <;> rfl
theorem mix_ok {okM : W → Prop} {q p : ScPlan} (hq : RightL okM q) (hp : RightL okM p) : ∀ k, RightL okM (mixF q p k)
  | 0 => hp
  | k + 1 => fun j => set_ok k j (hq k) (mix_ok hq hp k j)
theorem line_set {q p : ScPlan} {k j : Nat} (h : k ≠ j) : LineL (setF q p k) j = LineL p j := by unfold LineL; rw [written_set q p k j h]
theorem step_line {okM : W → Prop} {q p : ScPlan} {k : Nat} (hk : k < 14) (hq : RightL okM q) (hp : RightL okM p) : stepR okM p k (LineL q k) = some (setF q p k) := by
  rw [stepR_iff, split_line (hq k)]
  refine ⟨(read_written k hk (hq k)).symm, fun j => set_ok k j (hq k) (hp j), ?_⟩
  unfold LineL; rw [written_own]
theorem go_text {okM : W → Prop} {q p0 : ScPlan} (hq : RightL okM q) (hp : RightL okM p0) : ∀ k tail, k ≤ 14 → goG (stepR okM) p0 (textTo q k ++ tail) k = .ok (mixF q p0 k, tail)
  | 0, _, _ => rfl
  | k + 1, tail, hk => by
    have ih := go_text hq hp k (LineL q k ++ 10 :: tail) (by omega)
    have e : textTo q (k + 1) ++ tail = textTo q k ++ (LineL q k ++ 10 :: tail) := by simp [textTo]
    rw [e]; unfold goG; rw [ih]
    simp only [cut_app (line_clear (hq k)), if_true]
    rw [step_line (by omega) hq (mix_ok hq hp k)]; rfl
theorem parse_text {okM : W → Prop} {q p0 pz : ScPlan} (hq : RightL okM q) (hp : RightL okM p0) : parseG (stepR okM) p0 pz (textTo q 14) = (q, 0, 0) := by
  have h := go_text hq hp 14 [] (Nat.le_refl _)
  rw [List.append_nil] at h
  unfold parseG; rw [h, mix_all]; rfl
theorem parse_more {okM : W → Prop} {q p0 pz : ScPlan} {x : W} (hq : RightL okM q) (hp : RightL okM p0) (hx : x ≠ []) : parseG (stepR okM) p0 pz (textTo q 14 ++ x) = (pz, 250, 15) := by
  have h := go_text hq hp 14 x (Nat.le_refl _)
  unfold parseG; rw [h]
  show (if x = [] then _ else _) = _
  rw [if_neg hx]
theorem text_set {q p : ScPlan} {k : Nat} : ∀ n, n ≤ k → textTo (setF q p k) n = textTo p n
  | 0, _ => rfl
  | n + 1, h => by show _ ++ _ = _ ++ _; rw [text_set n (by omega), line_set (by omega)]
theorem go_back {okM : W → Prop} {p0 : ScPlan} {s : W} : ∀ {k p rest}, goG (stepR okM) p0 s k = .ok (p, rest) → s = textTo p k ++ rest ∧ (k ≠ 0 → RightL okM p)
  | 0, p, rest, h => by injection h with h; injection h with h1 h2; exact ⟨h2, fun q => absurd rfl q⟩
  | k + 1, p, rest, h => by
    unfold goG at h
    split at h
    · cases h
    · rename_i p1 r1 h1
      obtain ⟨ih, _⟩ := go_back h1
      split at h
      · rename_i hc
        split at h
        · rename_i p' hs
          injection h with h; injection h with h2 h3
          subst h2 h3
          obtain ⟨a, b, c⟩ := stepR_iff.1 hs
          refine ⟨?_, fun _ => b⟩
          have e : textTo p' k = textTo p1 k := by rw [a, read_set]; exact text_set k (Nat.le_refl _)
          show s = (textTo p' k ++ (LineL p' k ++ [10])) ++ _
          rw [e, c, ih, List.append_assoc, List.append_assoc]
          show _ ++ r1 = _ ++ ((cutL 10 r1).1 ++ (10 :: (cutL 10 r1).2.1))
          rw [← cut_of hc]
        · cases h
      · cases h
theorem parse_back {okM : W → Prop} {p0 pz p : ScPlan} {s : W} {n : Int} (h : parseG (stepR okM) p0 pz s = (p, 0, n)) : textTo p 14 = s ∧ RightL okM p := by
  unfold parseG at h
  split at h
  · injection h with _ h; injection h with h; cases h
  · rename_i p1 rest h1
    obtain ⟨a, b⟩ := go_back h1
    split at h
    · rename_i hr
      injection h with h2 _
      subst h2
      rw [hr, List.append_nil] at a
      exact ⟨a.symm, b (by decide)⟩
    · injection h with _ h; injection h with h; cases h
theorem parse_none {okM : W → Prop} {p0 pz p : ScPlan} {s : W} {e n : Int} (h : parseG (stepR okM) p0 pz s = (p, e, n)) (he : e ≠ 0) : p = pz ∧ e = 250 := by
  unfold parseG at h
  split at h
  · injection h with h1 h; injection h with h; exact ⟨h1.symm, h.symm⟩
  · split at h
    · injection h with _ h; injection h with h; exact absurd h.symm he
    · injection h with h1 h; injection h with h; exact ⟨h1.symm, h.symm⟩
/-! ### a line less -/
def textFrom (p : ScPlan) (k : Nat) : Nat → W
  | 0 => []
  | n + 1 => LineL p k ++ 10 :: textFrom p (k + 1) n
theorem text_from (p : ScPlan) : ∀ n k, textTo p (k + n) = textTo p k ++ textFrom p k n
  | 0, k => (List.append_nil _).symm
  | n + 1, k => by
    rw [show k + (n + 1) = k + 1 + n by omega, text_from p n (k + 1)]
    show (textTo p k ++ (LineL p k ++ [10])) ++ _ = textTo p k ++ (LineL p k ++ 10 :: _)
    simp
theorem name_ne : ∀ k, k < 13 → nameL (k + 1) ≠ nameL k := by decide +kernel
theorem parse_less {okM : W → Prop} {q p0 pz : ScPlan} (hq : RightL okM q) (hp : RightL okM p0) {k : Nat} (hk : k < 14) :
    parseG (stepR okM) p0 pz (textTo q k ++ textFrom q (k + 1) (13 - k)) = (pz, 250, (k : Int) + 1) := by
  have h := go_text hq hp k (textFrom q (k + 1) (13 - k)) (by omega)
  have h1 : goG (stepR okM) p0 (textTo q k ++ textFrom q (k + 1) (13 - k)) (k + 1) = .error (k + 1) := by
    unfold goG; rw [h]
    by_cases h3 : k = 13
    · subst h3; rfl
    · rw [show 13 - k = (12 - k) + 1 by omega]
      show (if (cutL 10 (LineL q (k + 1) ++ 10 :: textFrom q (k + 1 + 1) (12 - k))).2.2 = true then _ else _) = _
      simp only [textFrom, cut_app (line_clear (hq (k + 1))), if_true]
      rw [← step_eq hk]
      have : stepM okM (mixF q p0 k) k (LineL q (k + 1)) = none := by
        unfold stepM
        rw [split_line (hq (k + 1)), if_neg]
        exact name_ne k (by omega)
      rw [this]
  have h2 := go_err h1 (13 - k)
  rw [show k + 1 + (13 - k) = 14 by omega] at h2
  unfold parseG; rw [h2]
  show (pz, (250 : Int), ((k + 1 : Nat) : Int)) = _
  rw [show ((k + 1 : Nat) : Int) = (k : Int) + 1 by omega]
end
end Go.Proofs.YtpefnjbmbfdmmaaDoor
