/-
  What the reference's check of a function says, as plain laws.
-/
import Derived.Test.YtgkmagfajalnhaaMYIInstr
import Derived.Test.YtgkmagfajalnhaaMYIPure
namespace Go.Proofs.Ytgkmagfajalnhaa.Y
open Go.RowKit Go.Proofs.YtgkmagfajalnhaaW.PrintWords Go.Proofs.YtgkmagfajalnhaaW.PrintLast Go.Proofs.YtgkmagfajalnhaaW.PrintMore Num
set_option linter.unusedVariables false
set_option linter.unusedSimpArgs false

def Evs {α : Type} (g : Nat → Option α) (P : α → Prop) : Prop := ∃ v, Ev g v ∧ P v
theorem Evs.mono {α : Type} {g : Nat → Option α} {P Q : α → Prop} (h : Evs g P) (k : ∀ v, P v → Q v) : Evs g Q := by
  obtain ⟨v, hv, hp⟩ := h
  exact ⟨v, hv, k v hp⟩
theorem Evs.val {α : Type} {v : α} {P : α → Prop} (h : P v) : Evs (fun _ => some v) P := ⟨v, Ev.now v, h⟩
theorem Evs.ite {α : Type} {c : Prop} [Decidable c] {f g : Nat → Option α} {P : α → Prop} (h : c → Evs f P) (k : ¬ c → Evs g P) : Evs (fun n => if c then f n else g n) P := by
  by_cases hc : c
  · obtain ⟨v, hv, hp⟩ := h hc
    exact ⟨v, Ev.pos hc hv, hp⟩
  · obtain ⟨v, hv, hp⟩ := k hc
    exact ⟨v, Ev.neg hc hv, hp⟩
theorem Evs.bind {α β : Type} {g : Nat → Option α} {f : Nat → α → Option β} {Q : α → Prop} {P : β → Prop} (h : Evs g Q) (k : ∀ a, Q a → Evs (fun n => f n a) P) : Evs (fun n => (g n).bind (f n)) P := by
  obtain ⟨a, ha, hq⟩ := h
  obtain ⟨v, hv, hp⟩ := k a hq
  exact ⟨v, Ev.bind ha hv, hp⟩
theorem Evs.bindc {α β : Type} {g : Option α} {f : Nat → α → Option β} {a : α} {P : β → Prop} (h : g = some a) (k : Evs (fun n => f n a) P) : Evs (fun n => g.bind (f n)) P := by
  obtain ⟨v, hv, hp⟩ := k
  exact ⟨v, Ev.bindc h hv, hp⟩
theorem Evs.step {α : Type} {g f : Nat → Option α} {P : α → Prop} (h : ∀ k, g (k + 1) = f k) (k : Evs f P) : Evs g P := by
  obtain ⟨v, hv, hp⟩ := k
  exact ⟨v, Ev.step h hv, hp⟩
theorem Evs.congr {α : Type} {g f : Nat → Option α} {P : α → Prop} (h : ∀ k, g k = f k) (k : Evs f P) : Evs g P := by
  obtain ⟨v, hv, hp⟩ := k
  exact ⟨v, Ev.congr h hv, hp⟩

theorem instr_evs (n : Int) (i : S97) : Evs (fun _ => regcertref07_Instr.f i.f0 i.f1 i.f2 i.f3 i.f4 n) (fun v => v = 0 → InstrOK n i) := by
  refine Evs.val (fun h => ?_)
  unfold instrB at h
  simp only [cond_eq_ite] at h
  split at h
  · cases h
  split at h
  · cases h
  split at h
  · cases h
  rename_i h1 h2 h3
  simp only [Bool.or_eq_true, Bool.and_eq_true, decide_eq_true_eq, Bool.not_eq_true', decide_eq_false_iff_not, bne_iff_ne, ne_eq] at h1 h2 h3
  refine ⟨fun e => ⟨?_, ?_⟩, fun e => ⟨⟨?_, ?_⟩, ⟨?_, ?_⟩, ?_, ?_⟩⟩ <;> omega
theorem term_evs (n m : Int) (t : S48) : Evs (fun _ => regcertref07_Term.f t.f0 t.f1 t.f2 t.f3 n m) (fun v => v = 0 → TermOK n m t) := by
  refine Evs.val (fun h => ?_)
  unfold termB at h
  simp only [cond_eq_ite, beq_iff_eq] at h
  refine ⟨fun e => ?_, fun e => ?_, fun e3 e2 => ?_⟩
  · rw [if_neg (by omega), if_neg (by omega), if_pos e] at h
    split at h
    · cases h
    · rename_i h1
      simpa using h1
  · rw [if_neg (by omega), if_pos e] at h
    split at h
    · cases h
    split at h
    · cases h
    rename_i h1 h2
    simp only [Bool.or_eq_true, Bool.not_eq_true', decide_eq_false_iff_not] at h1 h2
    refine ⟨⟨?_, ?_⟩, ⟨?_, ?_⟩, ?_, ?_⟩ <;> omega
  · by_cases e1 : t.f0 = 1
    · rw [if_pos e1] at h
      split at h
      · cases h
      · rename_i h1
        simpa using h1
    · rw [if_neg e1, if_neg e2, if_neg e3] at h
      cases h
end Go.Proofs.Ytgkmagfajalnhaa.Y
