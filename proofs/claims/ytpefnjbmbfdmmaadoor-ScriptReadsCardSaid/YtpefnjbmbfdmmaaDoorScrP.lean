/- Plans and their shapes, plainly: which may be. -/
import Derived.Test.YtpefnjbmbfdmmaaDoorConf
namespace Go.Proofs.YtpefnjbmbfdmmaaDoor
open Go.RowKit Go.Lib

def cfOf (p : ScPlan) : Cf := ⟨p.mode, p.width, p.rob, p.queue, p.stores, p.slots, p.sets, p.ways, p.lat, p.tables, p.tape⟩
/-- What a shape's numbers may be. -/
def CfR (c : Cf) : Prop := (0 ≤ c.mode ∧ c.mode ≤ 2) ∧ (1 ≤ c.width ∧ c.width ≤ 2) ∧ (2 ≤ c.rob ∧ c.rob ≤ 8) ∧ (1 ≤ c.queue ∧ c.queue ≤ 4) ∧ (1 ≤ c.stores ∧ c.stores ≤ 4) ∧ (2 ≤ c.slots ∧ c.slots ≤ 6) ∧
  (1 ≤ c.sets ∧ c.sets ≤ 4 ∧ c.sets ≠ 3) ∧ (1 ≤ c.ways ∧ c.ways ≤ 2) ∧ (c.lat.length ≤ 64 ∧ ∀ a ∈ c.lat, 1 ≤ a ∧ a ≤ 8) ∧ c.tape.length ≤ 64
instance (c : Cf) : Decidable (CfR c) := by unfold CfR; infer_instance
def LikeC (a b : Cf) : Prop := a.mode = b.mode ∧ a.width = b.width ∧ a.rob = b.rob ∧ a.queue = b.queue ∧ a.stores = b.stores ∧ a.slots = b.slots ∧ a.sets = b.sets ∧ a.ways = b.ways ∧ a.tables = b.tables ∧ a.lat = b.lat ∧ a.tape = b.tape
instance (a b : Cf) : Decidable (LikeC a b) := by unfold LikeC; infer_instance
theorem likeC_eq {a b : Cf} : LikeC a b ↔ a = b := by
  constructor
  · rintro ⟨h1, h2, h3, h4, h5, h6, h7, h8, h9, h10, h11⟩
    cases a; cases b; simp only at *; subst_vars; rfl
  · rintro rfl; exact ⟨rfl, rfl, rfl, rfl, rfl, rfl, rfl, rfl, rfl, rfl, rfl⟩
theorem clamp_id {n lo hi : Int} (h : lo ≤ hi) : n = clampI n lo hi ↔ lo ≤ n ∧ n ≤ hi := by
  unfold clampI; split <;> split <;> omega
theorem clamp_list {l : List Int} {lo hi : Int} (h : lo ≤ hi) : l = (l.take 64).map (fun n => clampI n lo hi) ↔ l.length ≤ 64 ∧ ∀ a ∈ l, lo ≤ a ∧ a ≤ hi := by
  constructor
  · intro e
    have hl : l.length ≤ 64 := by
      have := congrArg List.length e
      rw [List.length_map, List.length_take] at this; omega
    refine ⟨hl, fun a ha => ?_⟩
    rw [e] at ha
    obtain ⟨n, _, rfl⟩ := List.mem_map.1 ha
    unfold clampI; constructor <;> split <;> (try split) <;> omega
  · rintro ⟨h1, h2⟩
    rw [List.take_of_length_le h1]
    clear h1
    induction l with
    | nil => rfl
    | cons x l ih =>
      rw [List.map_cons, ← ih (fun a ha => h2 a (List.mem_cons_of_mem _ ha)), ← (clamp_id h).2 (h2 x List.mem_cons_self)]
theorem take_id {α : Type} {l : List α} : l = l.take 64 ↔ l.length ≤ 64 := by
  constructor
  · intro e; have := congrArg List.length e; rw [List.length_take] at this; omega
  · intro h; rw [List.take_of_length_le h]
theorem sets_id {n : Int} : n = (if clampI n 1 4 = 3 then 2 else clampI n 1 4) ↔ 1 ≤ n ∧ n ≤ 4 ∧ n ≠ 3 := by
  have h := clamp_id (n := n) (lo := 1) (hi := 4) (by decide)
  have h2 : 1 ≤ clampI n 1 4 ∧ clampI n 1 4 ≤ 4 := by unfold clampI; constructor <;> split <;> (try split) <;> omega
  split <;> constructor <;> intro q <;> omega
theorem like_clean (c : Cf) : LikeC c (cleanCf c) ↔ CfR c := by
  unfold LikeC CfR cleanCf
  simp only [true_and, clamp_id (show (0 : Int) ≤ 2 by decide), clamp_id (show (1 : Int) ≤ 2 by decide), clamp_id (show (2 : Int) ≤ 8 by decide), clamp_id (show (1 : Int) ≤ 4 by decide), clamp_id (show (2 : Int) ≤ 6 by decide), sets_id, clamp_list (show (1 : Int) ≤ 8 by decide), take_id]
/-- The size of a memory of so many bytes. -/
def sizeM (n : Nat) : Nat := if n ≤ 16 then 16 else if n ≤ 32 then 32 else if n ≤ 64 then 64 else if n ≤ 128 then 128 else 256
def cleanM (m : W) : W := m.take 256 ++ List.replicate (sizeM (m.take 256).length - (m.take 256).length) 0
def okM (m : W) : Prop := cleanM m = m
instance (m : W) : Decidable (okM m) := by unfold okM; infer_instance
theorem cleanM_len (m : W) : (cleanM m).length ≤ 256 := by
  unfold cleanM
  rw [List.length_append, List.length_replicate, List.length_take]
  unfold sizeM; (repeat' split) <;> omega
theorem okM_len {m : W} (h : okM m) : m.length ≤ 256 := by have := cleanM_len m; rw [h] at this; exact this
theorem size_at {n k : Nat} (hk : k ≤ 4) (h1 : n ≤ 16 * 2 ^ k) (h2 : k ≠ 0 → 16 * 2 ^ (k - 1) < n) : sizeM n = 16 * 2 ^ k := by
  unfold sizeM
  have : k = 0 ∨ k = 1 ∨ k = 2 ∨ k = 3 ∨ k = 4 := by omega
  rcases this with rfl | rfl | rfl | rfl | rfl <;> simp at h1 h2 <;> (repeat' split) <;> omega
theorem cleanM_at {m t : W} {k : Nat} (ht : t = m.take 256) (hk : k ≤ 4) (h1 : t.length ≤ 16 * 2 ^ k) (h2 : k ≠ 0 → 16 * 2 ^ (k - 1) < t.length) : t ++ List.replicate (16 * 2 ^ k - t.length) 0 = cleanM m := by
  unfold cleanM; rw [← ht, size_at hk h1 h2]
theorem cleanM_nil : cleanM [] = List.replicate 16 0 := by unfold cleanM sizeM; rfl
/-- Which plans may be. -/
def PlR (p : ScPlan) : Prop := CfR (cfOf p) ∧ p.prog.length ≤ 64 ∧ okM p.mem ∧ 0 ≤ p.cycles ∧ p.cycles ≤ 600
instance (p : ScPlan) : Decidable (PlR p) := by unfold PlR; infer_instance
def rightP (p : ScPlan) : Bool := decide (PlR p)
theorem right_iff {p : ScPlan} (hp : p.ok) : PlR p ↔ RightL okM p := by
  constructor
  · rintro ⟨⟨h0, h1, h2, h3, h4, h5, h6, h7, h9, h10⟩, h11, h12, h13⟩ k
    rcases k with _ | _ | _ | _ | _ | _ | _ | _ | _ | _ | _ | _ | _ | _ | k
    · exact h0
    · exact h1
    · exact h2
    · exact h3
    · exact h4
    · exact h5
    · exact h6
    · exact h7
    · trivial
    · exact h9
    · exact ⟨h10, fun a ha => Nat.lt_succ_of_le (hp.tp a ha)⟩
    · exact ⟨h11, fun a ha => Nat.lt_succ_of_le (hp.pr a ha)⟩
    · exact h12
    · exact h13
    · trivial
  · intro h
    exact ⟨⟨h 0, h 1, h 2, h 3, h 4, h 5, h 6, h 7, h 9, (h 10).1⟩, (h 11).1, h 12, h 13⟩
theorem rightP_iff {p : ScPlan} (hp : p.ok) : rightP p = true ↔ RightL okM p := by unfold rightP; rw [decide_eq_true_eq, right_iff hp]
/-- The plan that a text is read into at first; the one of a refusal. -/
def cfZ : Cf := ⟨0, 0, 0, 0, 0, 0, 0, 0, [], false, []⟩
def plO : ScPlan := ⟨0, 1, 2, 1, 1, 2, 1, 1, false, [], [], [], List.replicate 16 0, 0⟩
def plZ : ScPlan := ⟨0, 0, 0, 0, 0, 0, 0, 0, false, [], [], [], [], 0⟩
theorem plO_right : RightL okM plO := by
  rw [← right_iff ⟨by decide, by decide, fun x h => absurd h List.not_mem_nil, by decide, fun x h => absurd h List.not_mem_nil, by decide⟩]
  decide
theorem cfZ_clean : cleanCf cfZ = cfOf plO := rfl
end Go.Proofs.YtpefnjbmbfdmmaaDoor
