/-
  The alignment in plain lists: the operations of a block with their indices; the rows as a function of two such lists; small words on rounds.
-/
import Derived.Test.YtchlilkhgagdeaaWMore
namespace Go.Proofs.Ytchlilkhgagdeaa.Spec
open Go.RowKit Go.Proofs.YtchlilkhgagdeaaW.PrintWords
set_option linter.unusedVariables false

/-! Rounds -/
theorem Ev.pos {α : Type} {c : Prop} [Decidable c] {f g : Nat → Option α} {r : α} (h : c) (k : Ev f r) : Ev (fun n => if c then f n else g n) r := by
  obtain ⟨K, k⟩ := k
  exact ⟨K, fun n hn => by simp only [if_pos h]; exact k n hn⟩
theorem Ev.neg {α : Type} {c : Prop} [Decidable c] {f g : Nat → Option α} {r : α} (h : ¬ c) (k : Ev g r) : Ev (fun n => if c then f n else g n) r := by
  obtain ⟨K, k⟩ := k
  exact ⟨K, fun n hn => by simp only [if_neg h]; exact k n hn⟩
theorem Ev.val {α : Type} {v r : α} (h : v = r) : Ev (fun _ => some v) r := ⟨0, fun _ _ => by rw [h]⟩
theorem Ev.bindv {α β : Type} {f : Nat → α → Option β} {a : α} {r : β} (k : Ev (fun n => f n a) r) : Ev (fun n => (some a).bind (f n)) r := by
  obtain ⟨K, k⟩ := k
  exact ⟨K, fun n hn => k n hn⟩
theorem Ev.bindc {α β : Type} {g : Option α} {f : Nat → α → Option β} {a : α} {r : β} (h : g = some a) (k : Ev (fun n => f n a) r) : Ev (fun n => g.bind (f n)) r := by
  obtain ⟨K, k⟩ := k
  exact ⟨K, fun n hn => by rw [h]; exact k n hn⟩
theorem w64s {x : Int} (h0 : 0 ≤ x) (h1 : x ≤ 1000000000) : wrap64 x = x := by
  unfold wrap64
  omega

/-! The elements that are not skipped, with their indices -/
def idx {α : Type} (p : α → Bool) : List α → Nat → List (Nat × α)
  | [], _ => []
  | x :: l, i => if p x then idx p l (i + 1) else (i, x) :: idx p l (i + 1)

theorem idx_snd {α : Type} (p : α → Bool) (l : List α) : ∀ i, (idx p l i).map (·.2) = l.filter (fun x => !p x) := by
  induction l with
  | nil => intro i; rfl
  | cons x l ih =>
    intro i
    simp only [idx, List.filter_cons]
    cases h : p x
    · simp [ih]
    · simp [ih]

theorem idx_nil {α : Type} {p : α → Bool} {l : List α} {i : Nat} (h : idx p l i = []) : ∀ x ∈ l, p x = true := by
  induction l generalizing i with
  | nil => intro x hx; cases hx
  | cons y l ih =>
    simp only [idx] at h
    split at h
    · rename_i hy
      intro x hx
      rcases List.mem_cons.1 hx with rfl | hx
      · exact hy
      · exact ih h x hx
    · cases h

/-- The first that is not skipped: where it stands, what stands ahead of it, and what follows. -/
theorem idx_cons {α : Type} {p : α → Bool} {l : List α} {i a : Nat} {x : α} {t : List (Nat × α)} (h : idx p l i = (a, x) :: t) :
    i ≤ a ∧ a < i + l.length ∧ l[a - i]? = some x ∧ p x = false ∧ (∀ y ∈ l.take (a - i), p y = true) ∧ idx p (l.drop (a - i + 1)) (a + 1) = t := by
  induction l generalizing i with
  | nil => cases h
  | cons y l ih =>
    simp only [idx] at h
    split at h
    · rename_i hy
      obtain ⟨h1, h2, h3, h4, h5, h6⟩ := ih h
      have e : a - i = (a - (i + 1)) + 1 := by omega
      rw [e]
      refine ⟨by omega, by simp; omega, by simpa using h3, h4, ?_, by simpa using h6⟩
      intro z hz
      rw [List.take_succ_cons] at hz
      rcases List.mem_cons.1 hz with rfl | hz
      · exact hy
      · exact h5 z hz
    · rename_i hy
      injection h with h1 h2
      injection h1 with h3 h4
      subst h3 h4
      simp at hy
      simp [hy, h2]

/-! The alignment -/
structure RowT where
  cf : Int
  ct : Int
  mf : Int
  mt : Int
  s : Int
  m : Int

def spec {α β : Type} (same : α → β → Bool) (n m : Nat) : List (Nat × α) → List (Nat × β) → Nat → Nat → List RowT × Int × Int
  | (a, x) :: A, (b, y) :: B, i, k =>
    if same x y then
      let r := spec same n m A B (a + 1) (b + 1)
      if r.2.2 = 0 then (⟨i, a, k, b, a, b⟩ :: r.1, r.2.1, 0) else ([], r.2.1, 20)
    else ([], b, 20)
  | [], (b, _) :: _, _, _ => ([], b, 20)
  | _ :: _, [], _, _ => ([], m, 20)
  | [], [], i, k => ([⟨i, n, k, m, -1, -1⟩], m, 0)

/-- Whether there is an alignment: by the elements alone. -/
def ok {α β : Type} (same : α → β → Bool) : List α → List β → Bool
  | x :: A, y :: B => same x y && ok same A B
  | [], [] => true
  | _, _ => false

theorem spec_ok {α β : Type} (same : α → β → Bool) (n m : Nat) (A : List (Nat × α)) : ∀ (B : List (Nat × β)) (i k : Nat), 
    (spec same n m A B i k).2.2 = (if ok same (A.map (·.2)) (B.map (·.2)) then 0 else 20) ∧ (spec same n m A B i k).1.length = (if ok same (A.map (·.2)) (B.map (·.2)) then B.length + 1 else 0) ∧ (¬ (spec same n m A B i k).2.2 = 0 → (spec same n m A B i k).1 = []) := by
  induction A with
  | nil =>
    intro B i k
    cases B with
    | nil => simp [spec, ok]
    | cons y B => simp [spec, ok]
  | cons x A ih =>
    intro B i k
    cases B with
    | nil => simp [spec, ok]
    | cons y B =>
      obtain ⟨a, x⟩ := x
      obtain ⟨b, y⟩ := y
      obtain ⟨h1, h2, h3⟩ := ih B (a + 1) (b + 1)
      simp only [spec, ok, List.map_cons]
      cases hs : same x y
      · simp
      · simp only [if_true, Bool.true_and]
        rw [h1]
        cases ho : ok same (A.map (·.2)) (B.map (·.2))
        · simp
        · simp [ho] at h2
          simp [h2]

theorem spec_zero {α β : Type} {same : α → β → Bool} {n m : Nat} {A : List (Nat × α)} {B : List (Nat × β)} {i k : Nat} : (spec same n m A B i k).2.2 = 0 ∨ (spec same n m A B i k).2.2 = 20 ∧ (spec same n m A B i k).1 = [] := by
  obtain ⟨h1, _, h3⟩ := spec_ok same n m A B i k
  by_cases h : (spec same n m A B i k).2.2 = 0
  · exact .inl h
  · refine .inr ⟨?_, h3 h⟩
    rw [h1] at h ⊢
    split
    · rename_i hh
      simp [hh] at h
    · rfl

/-- What was there already, and what comes. -/
def fin {ρ : Type} (rows : List ρ) (f : RowT → ρ) (r : List RowT × Int × Int) : List ρ × Int × Int := if r.2.2 = 0 then (rows ++ r.1.map f, r.2.1, 0) else ([], r.2.1, 20)

end Go.Proofs.Ytchlilkhgagdeaa.Spec
