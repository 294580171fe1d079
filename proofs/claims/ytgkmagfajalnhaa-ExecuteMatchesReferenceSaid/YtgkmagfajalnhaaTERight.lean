/-
  What the reference's check of a function says, as plain laws.
-/
import Derived.Test.YtgkmagfajalnhaaTEInstr
import Derived.Test.YtgkmagfajalnhaaTEPure
namespace Go.Proofs.Ytgkmagfajalnhaa.E
open Go.RowKit Go.Proofs.YtgkmagfajalnhaaW.PrintWords Go.Proofs.YtgkmagfajalnhaaW.PrintLast Go.Proofs.YtgkmagfajalnhaaW.PrintMore Num
set_option linter.unusedVariables false
set_option linter.unusedSimpArgs false

def Evs {α : Type} (g : Nat → Option α) (P : α → Prop) : Prop := ∃ v, Ev g v ∧ P v
theorem Evs.mono {α : Type} {g : Nat → Option α} {P Q : α → Prop} (h : Evs g P) (k : ∀ v, P v → Q v) : Evs g Q := by
  obtain ⟨v, hv, hp⟩ := h
  exact ⟨v, hv, k v hp⟩
theorem Evs.val {α : Type} {v : α} {P : α → Prop} (h : P v) : Evs (fun _ => some v) P := ⟨v, Ev.now v, h⟩
theorem Evs.ite {α : Type} {c : Prop} [Decidable c] {f g : Nat → Option α} {P : α → Prop} (h : c → Evs f P) (k : ¬ c → Evs g P) : Evs (fun n => if c then f n else g n) P := by
  by_cases hc : c
  · obtain ⟨v, hv, hp⟩ := h hc
    exact ⟨v, Ev.pos hc hv, hp⟩
  · obtain ⟨v, hv, hp⟩ := k hc
    exact ⟨v, Ev.neg hc hv, hp⟩
theorem Evs.bind {α β : Type} {g : Nat → Option α} {f : Nat → α → Option β} {Q : α → Prop} {P : β → Prop} (h : Evs g Q) (k : ∀ a, Q a → Evs (fun n => f n a) P) : Evs (fun n => (g n).bind (f n)) P := by
  obtain ⟨a, ha, hq⟩ := h
  obtain ⟨v, hv, hp⟩ := k a hq
  exact ⟨v, Ev.bind ha hv, hp⟩
theorem Evs.bindc {α β : Type} {g : Option α} {f : Nat → α → Option β} {a : α} {P : β → Prop} (h : g = some a) (k : Evs (fun n => f n a) P) : Evs (fun n => g.bind (f n)) P := by
  obtain ⟨v, hv, hp⟩ := k
  exact ⟨v, Ev.bindc h hv, hp⟩
theorem Evs.step {α : Type} {g f : Nat → Option α} {P : α → Prop} (h : ∀ k, g (k + 1) = f k) (k : Evs f P) : Evs g P := by
  obtain ⟨v, hv, hp⟩ := k
  exact ⟨v, Ev.step h hv, hp⟩
theorem Evs.congr {α : Type} {g f : Nat → Option α} {P : α → Prop} (h : ∀ k, g k = f k) (k : Evs f P) : Evs g P := by
  obtain ⟨v, hv, hp⟩ := k
  exact ⟨v, Ev.congr h hv, hp⟩

def I64L (l : List S69) : Prop := ∀ i j : Int, 0 ≤ i → i < l.length → 0 ≤ j → j < ((rd_T69 l i).f0).length → I64 (rd_T84 (rd_T69 l i).f0 j).f5 ∧ I64 (rd_T84 (rd_T69 l i).f0 j).f6
theorem inR_ok {l n m : Int} (h64 : I64 l) (h : inRB l n m = true) : LocR n m l := by
  unfold inRB at h
  rw [Bool.and_eq_true, Bool.not_eq_true', decide_eq_false_iff_not, cond_eq_ite] at h
  obtain ⟨h0, h1⟩ := h
  unfold I64 at h64
  have e : Int.tdiv l 2 = l / 2 := Int.tdiv_eq_ediv_of_nonneg (by omega)
  have w : wrap64 (Int.tdiv l 2) = l / 2 := by rw [e]; exact w64s (by omega) (by omega)
  unfold LocR
  rw [w] at h1 ⊢
  refine ⟨by omega, by omega, ?_⟩
  by_cases hk : (Int.tmod l 2 == 1) = true
  · rw [if_pos hk] at h1 ⊢
    exact of_decide_eq_true h1
  · rw [if_neg hk] at h1 ⊢
    exact of_decide_eq_true h1
theorem instr_evs (n m : Int) (i : S84) (h5 : I64 i.f5) (h6 : I64 i.f6) : Evs (fun _ => regcertref08_Instr.f i.f0 i.f1 i.f2 i.f3 i.f4 i.f5 i.f6 n m) (fun v => v = 0 → InstrOK n m i) := by
  refine Evs.val (fun h => ?_)
  unfold machB at h
  simp only [cond_eq_ite] at h
  split at h
  · cases h
  split at h
  · rename_i hq
    have e18 : i.f0 = 18 := beq_iff_eq.mp hq
    split at h
    · cases h
    rename_i h2
    simp only [Bool.or_eq_true, Bool.not_eq_true', not_or, Bool.not_eq_false] at h2
    exact ⟨fun _ => ⟨inR_ok h5 h2.1.1, inR_ok h6 h2.1.2⟩, fun e => by omega, fun e => absurd e18 e⟩
  · rename_i h0 hq
    have e18 : ¬ i.f0 = 18 := fun e => hq (beq_iff_eq.mpr e)
    have e2 : ¬ i.f0 = 2 := fun e => h0 (by rw [e]; rfl)
    refine ⟨fun e => absurd e e18, ?_⟩
    have hb : instrB i.f0 i.f1 i.f2 i.f3 i.f4 n = 0 := by
      split at h
      · cases h
      · exact h
    clear h
    unfold instrB at hb
    simp only [cond_eq_ite] at hb
    split at hb
    · cases hb
    split at hb
    · cases hb
    split at hb
    · cases hb
    rename_i h1 h2 h3
    simp only [Bool.or_eq_true, Bool.and_eq_true, decide_eq_true_eq, Bool.not_eq_true', decide_eq_false_iff_not, bne_iff_ne, ne_eq] at h1 h2 h3
    refine ⟨fun e => ⟨?_, ?_⟩, fun _ e => ⟨⟨?_, ?_⟩, ⟨?_, ?_⟩, ?_, ?_⟩⟩ <;> omega
theorem term_evs (n m : Int) (t : S48) : Evs (fun _ => regcertref07_Term.f t.f0 t.f1 t.f2 t.f3 n m) (fun v => v = 0 → TermOK n m t) := by
  refine Evs.val (fun h => ?_)
  unfold termB at h
  simp only [cond_eq_ite, beq_iff_eq] at h
  refine ⟨fun e => ?_, fun e => ?_, fun e3 e1 => ?_⟩
  · rw [if_neg (by omega), if_neg (by omega), if_pos e] at h
    split at h
    · cases h
    · rename_i h1
      simpa using h1
  · rw [if_pos e] at h
    split at h
    · cases h
    · rename_i h1
      simpa using h1
  · rw [if_neg e1] at h
    by_cases e : t.f0 = 2
    · rw [if_pos e] at h
      split at h
      · cases h
      split at h
      · cases h
      rename_i h1 h2
      simp only [Bool.or_eq_true, Bool.not_eq_true', decide_eq_false_iff_not] at h1 h2
      refine ⟨e, ⟨?_, ?_⟩, ⟨?_, ?_⟩, ?_, ?_⟩ <;> omega
    · rw [if_neg e, if_neg e3] at h
      cases h
end Go.Proofs.Ytgkmagfajalnhaa.E
