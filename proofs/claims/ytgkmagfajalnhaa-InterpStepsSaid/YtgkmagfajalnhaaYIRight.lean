/-
  What the reference's check of a function says, as plain laws.
-/
import Derived.Test.YtgkmagfajalnhaaY2
import Derived.Test.YtgkmagfajalnhaaYIPure
namespace Go.Proofs.Ytgkmagfajalnhaa.Y
open Go.RowKit Go.Proofs.YtgkmagfajalnhaaW.PrintWords Go.Proofs.YtgkmagfajalnhaaW.PrintLast Go.Proofs.YtgkmagfajalnhaaW.PrintMore Num
set_option linter.unusedVariables false
set_option linter.unusedSimpArgs false

def Evs {α : Type} (g : Nat → Option α) (P : α → Prop) : Prop := ∃ v, Ev g v ∧ P v
theorem Evs.mono {α : Type} {g : Nat → Option α} {P Q : α → Prop} (h : Evs g P) (k : ∀ v, P v → Q v) : Evs g Q := by
  obtain ⟨v, hv, hp⟩ := h
  exact ⟨v, hv, k v hp⟩
theorem Evs.val {α : Type} {v : α} {P : α → Prop} (h : P v) : Evs (fun _ => some v) P := ⟨v, Ev.now v, h⟩
theorem Evs.ite {α : Type} {c : Prop} [Decidable c] {f g : Nat → Option α} {P : α → Prop} (h : c → Evs f P) (k : ¬ c → Evs g P) : Evs (fun n => if c then f n else g n) P := by
  by_cases hc : c
  · obtain ⟨v, hv, hp⟩ := h hc
    exact ⟨v, Ev.pos hc hv, hp⟩
  · obtain ⟨v, hv, hp⟩ := k hc
    exact ⟨v, Ev.neg hc hv, hp⟩
theorem Evs.bind {α β : Type} {g : Nat → Option α} {f : Nat → α → Option β} {Q : α → Prop} {P : β → Prop} (h : Evs g Q) (k : ∀ a, Q a → Evs (fun n => f n a) P) : Evs (fun n => (g n).bind (f n)) P := by
  obtain ⟨a, ha, hq⟩ := h
  obtain ⟨v, hv, hp⟩ := k a hq
  exact ⟨v, Ev.bind ha hv, hp⟩
theorem Evs.bindc {α β : Type} {g : Option α} {f : Nat → α → Option β} {a : α} {P : β → Prop} (h : g = some a) (k : Evs (fun n => f n a) P) : Evs (fun n => g.bind (f n)) P := by
  obtain ⟨v, hv, hp⟩ := k
  exact ⟨v, Ev.bindc h hv, hp⟩
theorem Evs.step {α : Type} {g f : Nat → Option α} {P : α → Prop} (h : ∀ k, g (k + 1) = f k) (k : Evs f P) : Evs g P := by
  obtain ⟨v, hv, hp⟩ := k
  exact ⟨v, Ev.step h hv, hp⟩
theorem Evs.congr {α : Type} {g f : Nat → Option α} {P : α → Prop} (h : ∀ k, g k = f k) (k : Evs f P) : Evs g P := by
  obtain ⟨v, hv, hp⟩ := k
  exact ⟨v, Ev.congr h hv, hp⟩

theorem uD (op : Int) : regcertref05_UsesD.f op = some (decide (1 ≤ op ∧ op ≤ 16)) := by
  unfold regcertref05_UsesD.f
  split <;> simp <;> omega
theorem uA (op : Int) : regcertref05_UsesA.f op = some (decide (2 ≤ op ∧ op ≤ 17)) := by
  unfold regcertref05_UsesA.f
  split <;> simp <;> omega
theorem uB (op : Int) : regcertref05_UsesB.f op = some (decide (5 ≤ op ∧ op ≤ 16)) := by
  unfold regcertref05_UsesB.f
  split <;> simp <;> omega
theorem uin (x n : Int) : regcertref07_in.f x n = some (decide (0 ≤ x ∧ x < n)) := by
  unfold regcertref07_in.f
  split <;> simp <;> omega

theorem instr2 (b : Bool) : Evs (fun k => regcertref07_Instr.j2 k b) (fun v => v = 0 → b = false) := by
  refine Evs.step (fun k => by rw [regcertref07_Instr.j2]) ?_
  exact Evs.ite (fun h => Evs.val (fun h => absurd h (by decide))) (fun h => Evs.val (fun _ => by simpa using h))
theorem instr1 (x : Bool) (op d a b im : Int) : Evs (fun k => regcertref07_Instr.j1 k x op d a b im) (fun v => v = 0 → x = false ∧ (¬ (2 ≤ op ∧ op ≤ 17) → a = 0) ∧ (¬ (5 ≤ op ∧ op ≤ 16) → b = 0)) := by
  refine Evs.step (fun k => by rw [regcertref07_Instr.j1, uD, uA, uB]) ?_
  repeat' first
    | (with_reducible refine Evs.ite (fun _ => ?_) (fun _ => ?_))
    | (with_reducible refine Evs.bindc rfl ?_)
    | (with_reducible exact Evs.val (fun h => absurd h (by decide)))
    | (with_reducible refine (instr2 _).mono (fun v hv h0 => ?_))
  all_goals
    have hv1 := hv h0
    simp only [decide_eq_true_eq, Bool.not_eq_true] at *
    first
      | (exact absurd hv1 (by decide))
      | (refine ⟨by assumption, fun _ => ?_, fun _ => ?_⟩ <;> omega)
theorem instr0 (n : Int) (x : Bool) (op d a b im : Int) : Evs (fun k => regcertref07_Instr.j0 k n x op d a b im) (fun v => v = 0 → x = false ∧ ((1 ≤ op ∧ op ≤ 16) → 0 ≤ d ∧ d < n) ∧ ((2 ≤ op ∧ op ≤ 17) → 0 ≤ a ∧ a < n) ∧ ((5 ≤ op ∧ op ≤ 16) → 0 ≤ b ∧ b < n) ∧ (¬ (2 ≤ op ∧ op ≤ 17) → a = 0) ∧ (¬ (5 ≤ op ∧ op ≤ 16) → b = 0)) := by
  refine Evs.step (fun k => by rw [regcertref07_Instr.j0, uD, uA, uB, uin, uin, uin]) ?_
  repeat' first
    | (with_reducible refine Evs.ite (fun _ => ?_) (fun _ => ?_))
    | (with_reducible refine Evs.bindc rfl ?_)
    | (with_reducible exact Evs.val (fun h => absurd h (by decide)))
    | (with_reducible refine (instr1 _ _ _ _ _ _).mono (fun v hv h0 => ?_))
  all_goals
    obtain ⟨hv1, hv2, hv3⟩ := hv h0
    simp only [decide_eq_true_eq, Bool.not_eq_true, Bool.not_eq_false', Bool.not_eq_true', decide_eq_false_iff_not] at *
    first
      | (exact absurd hv1 (by decide))
      | (refine ⟨by assumption, fun _ => ?_, fun _ => ?_, fun _ => ?_, hv2, hv3⟩ <;> omega)
theorem instr_evs (n : Int) (i : S97) : Evs (fun k => regcertref07_Instr.f k i.f0 i.f1 i.f2 i.f3 i.f4 n) (fun v => v = 0 → InstrOK n i) := by
  refine Evs.congr (fun k => by rw [regcertref07_Instr.f]) ?_
  refine Evs.ite (fun h => ?_) (fun h => ?_)
  · refine (instr0 _ _ _ _ _ _ _).mono (fun v hv h0 => ?_)
    exact absurd (hv h0).1 (by decide)
  · refine (instr0 _ _ _ _ _ _ _).mono (fun v hv h0 => ?_)
    obtain ⟨h1, h2, h3, h4, h5, h6⟩ := hv h0
    have h7 : ¬ (i.f0 > 17) := of_decide_eq_false h1
    refine ⟨fun e => by omega, fun e => ?_⟩
    have := h2 (by omega)
    refine ⟨this, ?_, ?_⟩
    · by_cases q : 2 ≤ i.f0 ∧ i.f0 ≤ 17
      · exact h3 q
      · have := h5 q; omega
    · by_cases q : 5 ≤ i.f0 ∧ i.f0 ≤ 16
      · exact h4 q
      · have := h6 q; omega
theorem term_evs (n m : Int) (t : S48) : Evs (fun k => regcertref07_Term.f k t.f0 t.f1 t.f2 t.f3 n m) (fun v => v = 0 → TermOK n m t) := by
  refine Evs.congr (fun k => by rw [regcertref07_Term.f, uin, uin, uin]) ?_
  have a0 : ∀ b, Evs (fun k => regcertref07_Term.j0 k b) (fun v => v = 0 → b = false) := fun b => by
    refine Evs.step (fun k => by rw [regcertref07_Term.j0]) ?_
    exact Evs.ite (fun h => Evs.val (fun h => absurd h (by decide))) (fun h => Evs.val (fun _ => by simpa using h))
  have a1 : ∀ b, Evs (fun k => regcertref07_Term.j1 k b) (fun v => v = 0 → b = false) := fun b => by
    refine Evs.step (fun k => by rw [regcertref07_Term.j1]) ?_
    exact Evs.ite (fun h => Evs.val (fun h => absurd h (by decide))) (fun h => Evs.val (fun _ => by simpa using h))
  have a2 : ∀ b, Evs (fun k => regcertref07_Term.j2 k b) (fun v => v = 0 → b = false) := fun b => by
    refine Evs.step (fun k => by rw [regcertref07_Term.j2]) ?_
    exact Evs.ite (fun h => Evs.val (fun h => absurd h (by decide))) (fun h => Evs.val (fun _ => by simpa using h))
  repeat' first
    | (with_reducible refine Evs.ite (fun _ => ?_) (fun _ => ?_))
    | (with_reducible refine Evs.bindc rfl ?_)
    | (with_reducible exact Evs.val (fun h => absurd h (by decide)))
    | (with_reducible refine (a0 _).mono (fun v hv h0 => ?_))
    | (with_reducible refine (a1 _).mono (fun v hv h0 => ?_))
    | (with_reducible refine (a2 _).mono (fun v hv h0 => ?_))
  all_goals
    have hv1 := hv h0
    simp only [decide_eq_true_eq, Bool.not_eq_true, Bool.not_eq_false', Bool.not_eq_true', decide_eq_false_iff_not] at *
    first
      | (exact absurd hv1 (by decide))
      | (refine ⟨fun _ => ?_, fun _ => ⟨?_, ?_, ?_⟩, fun _ _ => ?_⟩ <;> omega)
end Go.Proofs.Ytgkmagfajalnhaa.Y
