/-
  Plain arithmetic for alu: whole numbers modulo 2^64, their bits, shifts; small words on rounds.
-/
import Derived.Laws.BitsLemmas
import Derived.Laws.BitsAllLaws
import Derived.OpenShut
import Derived.Test.YtgkmagfajalnhaaTW
namespace Go.Proofs.Ytgkmagfajalnhaa.Num
open Go.RowKit Go.Proofs.YtgkmagfajalnhaaW.PrintWords
set_option linter.unusedVariables false

/-! Rounds -/
theorem Ev.pos {α : Type} {c : Prop} [Decidable c] {f g : Nat → Option α} {r : α} (h : c) (k : Ev f r) : Ev (fun n => if c then f n else g n) r := by
  obtain ⟨K, k⟩ := k
  exact ⟨K, fun n hn => by simp only [if_pos h]; exact k n hn⟩
theorem Ev.neg {α : Type} {c : Prop} [Decidable c] {f g : Nat → Option α} {r : α} (h : ¬ c) (k : Ev g r) : Ev (fun n => if c then f n else g n) r := by
  obtain ⟨K, k⟩ := k
  exact ⟨K, fun n hn => by simp only [if_neg h]; exact k n hn⟩
theorem Ev.val {α : Type} {v r : α} (h : v = r) : Ev (fun _ => some v) r := ⟨0, fun _ _ => by rw [h]⟩
theorem Ev.bindv {α β : Type} {f : Nat → α → Option β} {a : α} {r : β} (k : Ev (fun n => f n a) r) : Ev (fun n => (some a).bind (f n)) r := by
  obtain ⟨K, k⟩ := k
  exact ⟨K, fun n hn => k n hn⟩
theorem Ev.bindc {α β : Type} {g : Option α} {f : Nat → α → Option β} {a : α} {r : β} (h : g = some a) (k : Ev (fun n => f n a) r) : Ev (fun n => g.bind (f n)) r := by
  obtain ⟨K, k⟩ := k
  exact ⟨K, fun n hn => by rw [h]; exact k n hn⟩

/-! 64 bits -/
def I64 (n : Int) : Prop := -9223372036854775808 ≤ n ∧ n ≤ 9223372036854775807
theorem w64_id {n : Int} (h : I64 n) : wrap64 n = n := by
  unfold wrap64
  unfold I64 at h
  omega
theorem w64_in (n : Int) : I64 (wrap64 n) := by
  unfold wrap64 I64
  omega
theorem w64_eq {x y : Int} (h : I64 y) (e : (x - y) % 18446744073709551616 = 0) : wrap64 x = y := by
  unfold wrap64
  unfold I64 at h
  omega
theorem w64_congr {x y : Int} (e : (x - y) % 18446744073709551616 = 0) : wrap64 x = wrap64 y := by
  unfold wrap64
  omega
theorem w64_sub (x : Int) : (wrap64 x - x) % 18446744073709551616 = 0 := by
  unfold wrap64
  omega
theorem w64_form (x : Int) : ∃ q : Int, wrap64 x = x + 18446744073709551616 * q := ⟨-((x + 9223372036854775808) / 18446744073709551616), by unfold wrap64; omega⟩
theorem w64_ww {x y : Int} (q : Int) (e : x = y + 18446744073709551616 * q) : wrap64 x = wrap64 y := by
  apply w64_congr
  omega

def U (a : Int) : Nat := (a % 18446744073709551616).toNat
theorem U_lt (a : Int) : U a < 18446744073709551616 := by
  unfold U
  omega
theorem U_mod (a : Int) : ((U a : Nat) : Int) = a % 18446744073709551616 := by
  unfold U
  omega
theorem ofInt_U (a : Int) : (BitVec.ofInt 64 a).toNat = U a := by
  rw [BitVec.toNat_ofInt]
  rfl
theorem u64_U (a : Int) : IntKind.u64.wrap a = (U a : Nat) := by
  rw [IntKind.wrap_u64, U_mod]
theorem i64w (a : Int) : IntKind.i64.wrap a = wrap64 a := by
  rw [IntKind.wrap_i64]
  unfold wrap64
  rfl
theorem bits_and (a b : Int) : Go.bits .and .i64 a b = wrap64 ((U a &&& U b : Nat) : Int) := by
  show IntKind.i64.wrap ((BitVec.ofInt 64 a &&& BitVec.ofInt 64 b).toNat : Nat) = _
  rw [BitVec.toNat_and, ofInt_U, ofInt_U, i64w]
theorem bits_or (a b : Int) : Go.bits .or .i64 a b = wrap64 ((U a ||| U b : Nat) : Int) := by
  show IntKind.i64.wrap ((BitVec.ofInt 64 a ||| BitVec.ofInt 64 b).toNat : Nat) = _
  rw [BitVec.toNat_or, ofInt_U, ofInt_U, i64w]
theorem bits_xor (a b : Int) : Go.bits .xor .i64 a b = wrap64 ((U a ^^^ U b : Nat) : Int) := by
  show IntKind.i64.wrap ((BitVec.ofInt 64 a ^^^ BitVec.ofInt 64 b).toNat : Nat) = _
  rw [BitVec.toNat_xor, ofInt_U, ofInt_U, i64w]

theorem two_bits (p q : Nat) (hp : p < 2) (hq : q < 2) : (p ||| q) + (p &&& q) = p + q ∧ (p ^^^ q) + (p &&& q) = (p ||| q) := by
  have h1 : p = 0 ∨ p = 1 := by omega
  have h2 : q = 0 ∨ q = 1 := by omega
  rcases h1 with rfl | rfl <;> rcases h2 with rfl | rfl <;> decide
theorem nat_or_and (n : Nat) : ∀ x y : Nat, x ≤ n → (x ||| y) + (x &&& y) = x + y ∧ (x ^^^ y) + (x &&& y) = (x ||| y) := by
  induction n with
  | zero =>
    intro x y h
    obtain rfl : x = 0 := by omega
    simp
  | succ n ih =>
    intro x y h
    by_cases hx : x = 0
    · subst hx
      simp
    · obtain ⟨h1, h2⟩ := ih (x / 2) (y / 2) (by omega)
      have a1 := Nat.and_div_two (a := x) (b := y)
      have a2 := Nat.or_div_two (a := x) (b := y)
      have a3 := Nat.xor_div_two (a := x) (b := y)
      have b1 := @Nat.and_mod_two_pow x y 1
      have b2 := @Nat.or_mod_two_pow x y 1
      have b3 := @Nat.xor_mod_two_pow x y 1
      simp only [Nat.pow_one] at b1 b2 b3
      have t1 := two_bits (x % 2) (y % 2) (by omega) (by omega)
      rw [← b1, ← b2, ← b3] at t1
      omega

theorem not_is (a : Int) (h : I64 a) : Go.bits .xor .i64 (-1) a = -a - 1 := by
  rw [bits_xor]
  have hm : U (-1) = 18446744073709551615 := by decide
  have hx : U (-1) ^^^ U a = 18446744073709551615 - U a := by
    have := U_lt a
    rw [hm]
    have e : (18446744073709551615 : Nat) = 2 ^ 64 - 1 := by decide
    have l := nat_or_and _ 18446744073709551615 (U a) (Nat.le_refl _)
    have e2 : 18446744073709551615 &&& U a = U a := by
      rw [e, Nat.and_comm, Nat.and_two_pow_sub_one_eq_mod]
      exact Nat.mod_eq_of_lt (by omega)
    omega
  rw [hx]
  have := U_mod a
  have hl := U_lt a
  unfold I64 at h
  unfold wrap64
  omega

theorem and63 (b : Int) : Go.bits .and .i64 b 63 = b % 64 := by
  rw [bits_and]
  have h : U b &&& U 63 = U b % 64 := by
    have : U 63 = 2 ^ 6 - 1 := by decide
    rw [this, Nat.and_two_pow_sub_one_eq_mod]
  rw [h]
  have := U_mod b
  unfold wrap64
  omega
theorem count_is (b : Int) : min (IntKind.u64.wrap (Go.bits .and .i64 b 63)).toNat 64 = (b % 64).toNat := by
  rw [and63, IntKind.wrap_u64]
  omega

/-! Bit by bit -/
theorem bit_is (x i : Nat) : (x / 2 ^ i % 2 == 1) = x.testBit i := by
  rw [Nat.testBit_eq_decide_div_mod_eq]
  rfl
theorem mod_succ (x i : Nat) : x % 2 ^ (i + 1) = x % 2 ^ i + (if x.testBit i then 2 ^ i else 0) := by
  rw [Nat.mod_pow_succ, ← bit_is]
  rcases Nat.mod_two_eq_zero_or_one (x / 2 ^ i) with h | h
  · rw [h]
    simp
  · rw [h]
    simp

/-! Shifts -/
theorem shl_step (a : Int) (n : Nat) : wrap64 (wrap64 (a * 2 ^ n) * 2) = wrap64 (a * 2 ^ (n + 1)) := by
  obtain ⟨q, hq⟩ := w64_form (a * 2 ^ n)
  rw [hq]
  refine w64_ww (2 * q) ?_
  rw [Int.add_mul, Int.pow_succ, ← Int.mul_assoc]
  omega
theorem shr_step (a : Int) (n : Nat) : a / 2 ^ n / 2 = a / 2 ^ (n + 1) := by
  rw [Int.ediv_ediv_of_nonneg (by exact Int.le_of_lt (Int.pow_pos (by decide))), ← Int.pow_succ]
theorem shr_in {a : Int} (h : I64 a) (n : Nat) : I64 (a / 2 ^ n) := by
  have hp : (0 : Int) < 2 ^ n := Int.pow_pos (by decide)
  have h1 : (1 : Int) ≤ 2 ^ n := hp
  unfold I64 at h ⊢
  constructor
  · rw [Int.le_ediv_iff_mul_le hp]
    generalize (2 : Int) ^ n = p at *
    omega
  · by_cases ha : 0 ≤ a
    · exact Int.le_trans (Int.ediv_le_self _ ha) h.2
    · have : a / 2 ^ n < 0 := Int.ediv_neg_of_neg_of_pos (by omega) hp
      omega
end Go.Proofs.Ytgkmagfajalnhaa.Num
