/-
  Plain arithmetic for alu: whole numbers modulo 2^64, their bits, shifts; small words on rounds.
-/
import Derived.Laws.BitsLemmas
import Derived.Laws.BitsAllLaws
import Derived.OpenShut
import Derived.Test.YtgkmagfajalnhaaUW
namespace Go.Proofs.Ytgkmagfajalnhaa.Num
open Go.RowKit Go.Proofs.YtgkmagfajalnhaaW.PrintWords
set_option linter.unusedVariables false

/-! Rounds -/
theorem Ev.pos {α : Type} {c : Prop} [Decidable c] {f g : Nat → Option α} {r : α} (h : c) (k : Ev f r) : Ev (fun n => if c then f n else g n) r := by
  obtain ⟨K, k⟩ := k
  exact ⟨K, fun n hn => by simp only [if_pos h]; exact k n hn⟩
theorem Ev.neg {α : Type} {c : Prop} [Decidable c] {f g : Nat → Option α} {r : α} (h : ¬ c) (k : Ev g r) : Ev (fun n => if c then f n else g n) r := by
  obtain ⟨K, k⟩ := k
  exact ⟨K, fun n hn => by simp only [if_neg h]; exact k n hn⟩
theorem Ev.val {α : Type} {v r : α} (h : v = r) : Ev (fun _ => some v) r := ⟨0, fun _ _ => by rw [h]⟩
theorem Ev.bindv {α β : Type} {f : Nat → α → Option β} {a : α} {r : β} (k : Ev (fun n => f n a) r) : Ev (fun n => (some a).bind (f n)) r := by
  obtain ⟨K, k⟩ := k
  exact ⟨K, fun n hn => k n hn⟩

/-! 64 bits -/
def I64 (n : Int) : Prop := -9223372036854775808 ≤ n ∧ n ≤ 9223372036854775807
theorem w64_id {n : Int} (h : I64 n) : wrap64 n = n := by
  unfold wrap64
  unfold I64 at h
  omega

/-! Bit by bit -/

/-! Shifts -/
end Go.Proofs.Ytgkmagfajalnhaa.Num
