/-
  The reference's Eval is the implementation's, at all opcodes and all 64-bit values. Condition: the values are 64-bit integers.
-/
import Derived.Test.YtgkmagfajalnhaaTYIR6
import Derived.Test.YtgkmagfajalnhaaTXNum
import Derived.Test.YtgkmagfajalnhaaTXEval
namespace Go.Proofs.Ytgkmagfajalnhaa.X
open Go.RowKit Go.Proofs.YtgkmagfajalnhaaW.PrintWords Go.Proofs.Ytgkmagfajalnhaa.Num
set_option linter.unusedVariables false

theorem half_nat (x : Nat) (hx : x < 18446744073709551616) : IntKind.u64.wrap (Int.tdiv (x : Int) 2) = ((x / 2 : Nat) : Int) := by
  have e : Int.tdiv (x : Int) 2 = ((x / 2 : Nat) : Int) := rfl
  rw [e, IntKind.wrap_u64]
  omega

theorem ref_bit (x : Nat) (hx : x < 18446744073709551616) (i : Nat) (hi : i ≤ 64) (d : Nat) : ∀ j : Nat, j ≤ i → i - j = d → Ev (fun k => regcertref06_bit.l0 k ((x / 2 ^ j : Nat) : Int) i j) (x.testBit i) := by
  induction d with
  | zero =>
    intro j h1 h2
    obtain rfl : j = i := by omega
    refine Ev.step (fun k => by rw [regcertref06_bit.l0]) (Ev.neg (by omega) (Ev.val ?_))
    have e : Int.tmod ((x / 2 ^ j : Nat) : Int) 2 = ((x / 2 ^ j % 2 : Nat) : Int) := rfl
    rw [e, ← bit_is]
    rcases Nat.mod_two_eq_zero_or_one (x / 2 ^ j) with h | h <;> rw [h] <;> rfl
  | succ d ih =>
    intro j h1 h2
    refine Ev.step (fun k => by rw [regcertref06_bit.l0]) (Ev.pos (by omega) ?_)
    have hd : x / 2 ^ j < 18446744073709551616 := Nat.lt_of_le_of_lt (Nat.div_le_self _ _) hx
    rw [half_nat _ hd, Nat.div_div_eq_div_mul, ← Nat.pow_succ, w64_id (by unfold I64; omega)]
    exact ih (j + 1) (by omega) (by omega)
theorem ref_bit_f (a : Int) (i : Nat) (hi : i ≤ 64) : Ev (fun k => regcertref06_bit.f k (IntKind.u64.wrap a) i) ((U a).testBit i) := by
  have := ref_bit (U a) (U_lt a) i hi _ 0 (Nat.zero_le _) rfl
  rw [u64_U]
  simpa [regcertref06_bit.f] using this

def tab (f : Bool → Bool → Bool) : List Bool := [f false false, f false true, f true false, f true true]
theorem tab_rd (f : Bool → Bool → Bool) (p q : Bool) : rdOf false (tab f) ((if p then 2 else 0) + (if q then 1 else 0)) = f p q := by
  cases p <;> cases q <;> rfl

theorem bits_loop (f : Bool → Bool → Bool) (a b : Int) (Z : Nat) (hZ : ∀ i, i < 64 → Z.testBit i = f ((U a).testBit i) ((U b).testBit i)) (d : Nat) : ∀ i : Nat, i ≤ 64 → 64 - i = d →
    Ev (fun k => regcertref06_bits.l0 k a b (tab f) ((Z % 2 ^ i : Nat) : Int) ((2 ^ i % 18446744073709551616 : Nat) : Int) i) (wrap64 ((Z % 2 ^ 64 : Nat) : Int)) := by
  induction d with
  | zero =>
    intro i h1 h2
    obtain rfl : i = 64 := by omega
    exact Ev.step (fun k => by rw [regcertref06_bits.l0]) (Ev.neg (by omega) (Ev.val rfl))
  | succ d ih =>
    intro i h1 h2
    have hp : 2 ^ i < 18446744073709551616 := by
      have : (2 : Nat) ^ i ≤ 2 ^ 63 := Nat.pow_le_pow_right (by decide) (by omega)
      have e : (2 : Nat) ^ 63 = 9223372036854775808 := by decide
      omega
    have hlow : Z % 2 ^ i < 2 ^ i := Nat.mod_lt _ (Nat.pow_pos (by decide))
    have hs : 2 ^ (i + 1) ≤ 18446744073709551616 := by
      have : (2 : Nat) ^ (i + 1) ≤ 2 ^ 64 := Nat.pow_le_pow_right (by decide) (by omega)
      have e : (2 : Nat) ^ 64 = 18446744073709551616 := by decide
      omega
    have hs2 : 2 ^ (i + 1) = 2 * 2 ^ i := by rw [Nat.pow_succ, Nat.mul_comm]
    have ep : IntKind.u64.wrap (((2 ^ i % 18446744073709551616 : Nat) : Int) * 2) = ((2 ^ (i + 1) % 18446744073709551616 : Nat) : Int) := by
      rw [IntKind.wrap_u64, hs2]
      omega
    have next := ih (i + 1) (by omega) (by omega)
    refine Ev.step (fun k => by rw [regcertref06_bits.l0]) (Ev.pos (by omega) (Ev.bind (ref_bit_f a i (by omega)) ?_))
    have hj2 : ∀ (x10 : Int), x10 = (if (U a).testBit i then 2 else 0) + (if (U b).testBit i then 1 else 0) →
        Ev (fun k => regcertref06_bits.j2 k a b (tab f) ((Z % 2 ^ i : Nat) : Int) ((2 ^ i % 18446744073709551616 : Nat) : Int) i x10) (wrap64 ((Z % 2 ^ 64 : Nat) : Int)) := by
      intro x10 e10
      have hx : 0 ≤ x10 ∧ x10 < 4 := by
        rw [e10]
        cases (U a).testBit i <;> cases (U b).testBit i <;> decide
      refine Ev.step (fun k => by rw [regcertref06_bits.j2]) (Ev.pos hx.1 (Ev.pos (by show x10 < ((4 : Nat) : Int); exact hx.2) ?_))
      have hm := mod_succ Z i
      rw [e10, tab_rd, ← hZ i (by omega), ep, w64_id (show I64 ((i : Int) + 1) by unfold I64; omega)]
      cases hb : Z.testBit i
      · refine Ev.neg (by simp) ?_
        rw [hb] at hm
        simp at hm
        rw [hm] at next
        exact next
      · refine Ev.pos rfl ?_
        rw [hb] at hm
        simp only [if_true] at hm
        have eo : IntKind.u64.wrap (((Z % 2 ^ i : Nat) : Int) + ((2 ^ i % 18446744073709551616 : Nat) : Int)) = ((Z % 2 ^ (i + 1) : Nat) : Int) := by
          rw [IntKind.wrap_u64, hm]
          omega
        rw [eo]
        exact next
    have hj1 : ∀ (x10 : Int), x10 = (if (U a).testBit i then 2 else 0) →
        Ev (fun k => regcertref06_bits.j1 k a b (tab f) ((Z % 2 ^ i : Nat) : Int) ((2 ^ i % 18446744073709551616 : Nat) : Int) i x10) (wrap64 ((Z % 2 ^ 64 : Nat) : Int)) := by
      intro x10 e10
      refine Ev.step (fun k => by rw [regcertref06_bits.j1]) (Ev.bind (ref_bit_f b i (by omega)) ?_)
      cases hb : (U b).testBit i
      · refine Ev.neg (by simp) (hj2 _ ?_)
        rw [e10, hb]
        simp
      · refine Ev.pos rfl (hj2 _ ?_)
        rw [hb, w64_id (by unfold I64; rw [e10]; cases (U a).testBit i <;> decide), e10]
        simp
    cases ha : (U a).testBit i
    · exact Ev.neg (by simp) (hj1 _ (by rw [ha]; rfl))
    · exact Ev.pos rfl (hj1 _ (by rw [ha]; rfl))

theorem bits_ref (f : Bool → Bool → Bool) (a b : Int) (Z : Nat) (hz : Z < 18446744073709551616) (hZ : ∀ i, i < 64 → Z.testBit i = f ((U a).testBit i) ((U b).testBit i)) : Ev (fun k => regcertref06_bits.f k a b (tab f)) (wrap64 (Z : Int)) := by
  have := bits_loop f a b Z hZ _ 0 (by omega) rfl
  have e : Z % 2 ^ 64 = Z := Nat.mod_eq_of_lt hz
  rw [e] at this
  simpa [regcertref06_bits.f, Nat.mod_one] using this

theorem half_ref (a : Int) (h : I64 a) : Ev (fun k => regcertref06_half.f k a) (a / 2) := by
  unfold I64 at h
  unfold regcertref06_half.f
  by_cases h0 : a < 0
  · refine Ev.pos h0 (Ev.step (fun k => by rw [regcertref06_half.j0]) ?_)
    obtain ⟨q, rfl⟩ : ∃ q : Int, a = -q := ⟨-a, by omega⟩
    rw [Int.neg_tdiv, Int.neg_tmod, Int.tdiv_eq_ediv_of_nonneg (by omega), Int.tmod_eq_emod_of_nonneg (by omega)]
    by_cases h1 : q % 2 = 0
    · refine Ev.neg (by simp [h1]) (Ev.val ?_)
      rw [w64_id (by unfold I64; omega)]
      omega
    · refine Ev.pos (by simp; omega) (Ev.val ?_)
      rw [w64_id (n := -(q / 2)) (by unfold I64; omega), w64_id (by unfold I64; omega)]
      omega
  · refine Ev.neg h0 (Ev.step (fun k => by rw [regcertref06_half.j0]) (Ev.neg (by simp) (Ev.val ?_)))
    rw [Int.tdiv_eq_ediv_of_nonneg (by omega), w64_id (by unfold I64; omega)]

theorem shl_loop (a : Int) (h : I64 a) (n : Nat) (hn : n < 64) (d : Nat) : ∀ i : Nat, i ≤ n → n - i = d → Ev (fun k => regcertref06_Eval.l0 k 13 (wrap64 (a * 2 ^ i)) n i) (wrap64 (a * 2 ^ n), true) := by
  induction d with
  | zero =>
    intro i h1 h2
    obtain rfl : i = n := by omega
    exact Ev.step (fun k => by rw [regcertref06_Eval.l0]) (Ev.neg (by omega) (Ev.val rfl))
  | succ d ih =>
    intro i h1 h2
    refine Ev.step (fun k => by rw [regcertref06_Eval.l0]) (Ev.pos (by omega) (Ev.pos rfl ?_))
    rw [shl_step, w64_id (n := (i : Int) + 1) (by unfold I64; omega)]
    exact ih (i + 1) (by omega) (by omega)
theorem shr_loop (a : Int) (h : I64 a) (n : Nat) (hn : n < 64) (d : Nat) : ∀ i : Nat, i ≤ n → n - i = d → Ev (fun k => regcertref06_Eval.l0 k 14 (a / 2 ^ i) n i) (a / 2 ^ n, true) := by
  induction d with
  | zero =>
    intro i h1 h2
    obtain rfl : i = n := by omega
    exact Ev.step (fun k => by rw [regcertref06_Eval.l0]) (Ev.neg (by omega) (Ev.val rfl))
  | succ d ih =>
    intro i h1 h2
    refine Ev.step (fun k => by rw [regcertref06_Eval.l0]) (Ev.pos (by omega) (Ev.neg (by decide) (Ev.bind (half_ref _ (shr_in h i)) ?_)))
    rw [shr_step, w64_id (n := (i : Int) + 1) (by unfold I64; omega)]
    exact ih (i + 1) (by omega) (by omega)

theorem count_ref (b : Int) : wrap64 (Int.tmod (IntKind.u64.wrap b) 64) = (((b % 64).toNat : Nat) : Int) := by
  rw [u64_U]
  have e : Int.tmod ((U b : Nat) : Int) 64 = ((U b % 64 : Nat) : Int) := rfl
  rw [e, w64_id (by unfold I64; omega)]
  have := U_mod b
  omega

theorem neg_of_tdiv (a : Int) : Int.tdiv a (-1) = -a := by
  rw [Int.tdiv_neg, Int.tdiv_one]

theorem tmod_le {a : Int} (h : 0 ≤ a) (b : Int) : 0 ≤ Int.tmod a b ∧ Int.tmod a b ≤ a := by
  obtain ⟨x, rfl⟩ := Int.eq_ofNat_of_zero_le h
  have key : ∀ y : Nat, 0 ≤ Int.tmod (x : Int) (y : Int) ∧ Int.tmod (x : Int) (y : Int) ≤ (x : Int) := by
    intro y
    have e : Int.tmod (x : Int) (y : Int) = ((x % y : Nat) : Int) := rfl
    rw [e]
    have := Nat.mod_le x y
    omega
  by_cases hb : 0 ≤ b
  · obtain ⟨y, rfl⟩ := Int.eq_ofNat_of_zero_le hb
    exact key y
  · obtain ⟨y, hy⟩ := Int.eq_ofNat_of_zero_le (a := -b) (by omega)
    obtain rfl : b = -(y : Int) := by omega
    rw [Int.tmod_neg]
    exact key y

theorem rem_is (a b : Int) (ha : I64 a) (hb : I64 b) (h0 : ¬ b = 0) (q : Int) (hq : q = wrap64 (Int.tdiv a b)) : wrap64 (a - wrap64 (b * q)) = Int.tmod a b := by
  have hin : I64 (Int.tmod a b) := by
    unfold I64 at ha ⊢
    by_cases h : 0 ≤ a
    · have h2 := tmod_le h b
      omega
    · obtain ⟨c, rfl⟩ : ∃ c : Int, a = -c := ⟨-a, by omega⟩
      rw [Int.neg_tmod]
      have h2 := tmod_le (a := c) (by omega) b
      omega
  refine w64_eq hin ?_
  have e := Int.tmod_add_mul_tdiv a b
  obtain ⟨k1, e1⟩ := w64_form (Int.tdiv a b)
  obtain ⟨k2, e2⟩ := w64_form (b * q)
  rw [e2, hq, e1, Int.mul_add]
  have e3 : b * (18446744073709551616 * k1) = 18446744073709551616 * (b * k1) := by
    rw [← Int.mul_assoc, Int.mul_comm b, Int.mul_assoc]
  rw [e3]
  generalize b * Int.tdiv a b = x at *
  generalize b * k1 = y at *
  omega

theorem eval_ref (n a b imm : Int) (ha : I64 a) (hb : I64 b) : Ev (fun k => regcertref06_Eval.f k n a b imm) (aluEval n a b imm) := by
  unfold regcertref06_Eval.f aluEval
  by_cases c1 : n = 1
  · rw [if_pos c1]; exact Ev.pos c1 (Ev.val rfl)
  rw [if_neg c1]; refine Ev.neg c1 ?_
  by_cases c2 : n = 2
  · rw [if_pos c2]; exact Ev.pos c2 (Ev.val rfl)
  rw [if_neg c2]; refine Ev.neg c2 ?_
  by_cases c3 : n = 3
  · rw [if_pos c3]; exact Ev.pos c3 (Ev.val rfl)
  rw [if_neg c3]; refine Ev.neg c3 ?_
  by_cases c4 : n = 4
  · rw [if_pos c4]
    refine Ev.pos c4 (Ev.val ?_)
    rw [not_is a ha, w64_eq (y := -a - 1) (by unfold I64 at ha ⊢; omega) (by have := w64_sub (-a); omega)]
  rw [if_neg c4]; refine Ev.neg c4 ?_
  by_cases c5 : n = 5
  · rw [if_pos c5]; exact Ev.pos c5 (Ev.val rfl)
  rw [if_neg c5]; refine Ev.neg c5 ?_
  by_cases c6 : n = 6
  · rw [if_pos c6]; exact Ev.pos c6 (Ev.val rfl)
  rw [if_neg c6]; refine Ev.neg c6 ?_
  by_cases c7 : n = 7
  · rw [if_pos c7]; exact Ev.pos c7 (Ev.val rfl)
  rw [if_neg c7]; refine Ev.neg c7 ?_
  have quo : ∀ (x44 : Bool), x44 = true → n = 8 ∨ n = 9 → Ev (fun k => regcertref06_Eval.j0 k n a b n x44) (if b = 0 then (0, false) else (if n = 8 then wrap64 (a.tdiv b) else a.tmod b, true)) := by
    intro x44 e h89
    refine Ev.step (fun k => by rw [regcertref06_Eval.j0]) (Ev.pos e ?_)
    by_cases hz : b = 0
    · rw [if_pos hz]
      exact Ev.pos hz (Ev.val rfl)
    rw [if_neg hz]
    refine Ev.neg hz ?_
    have last : ∀ q, q = wrap64 (a.tdiv b) → Ev (fun k => regcertref06_Eval.j1 k n a b q) (if n = 8 then wrap64 (a.tdiv b) else a.tmod b, true) := by
      intro q hq
      refine Ev.step (fun k => by rw [regcertref06_Eval.j1]) ?_
      by_cases c8 : n = 8
      · exact Ev.pos c8 (Ev.val (by rw [if_pos c8, hq]))
      · exact Ev.neg c8 (Ev.val (by rw [if_neg c8, rem_is a b ha hb hz q hq]))
    by_cases hm : b = -1
    · refine Ev.pos hm (last _ ?_)
      rw [hm, neg_of_tdiv]
    · exact Ev.neg hm (last _ rfl)
  by_cases c8 : n = 8
  · have := quo (n == 8) (by simp [c8]) (.inl c8)
    simp only [if_pos c8] at this ⊢
    exact this
  simp only [if_neg c8]
  by_cases c9 : n = 9
  · have := quo (n == 9) (by simp [c9]) (.inr c9)
    simp only [if_neg c8] at this
    rw [if_pos c9]
    exact this
  rw [if_neg c9]
  refine Ev.step (fun k => by rw [regcertref06_Eval.j0]) (Ev.neg (by simp [c9]) ?_)
  by_cases c10 : n = 10
  · rw [if_pos c10, bits_and]
    exact Ev.pos c10 (Ev.bind (bits_ref (fun p q => p && q) a b (U a &&& U b) (by have := U_lt a; exact Nat.lt_of_le_of_lt Nat.and_le_left this) (fun i _ => Nat.testBit_and _ _ _)) (Ev.val rfl))
  rw [if_neg c10]; refine Ev.neg c10 ?_
  by_cases c11 : n = 11
  · rw [if_pos c11, bits_or]
    exact Ev.pos c11 (Ev.bind (bits_ref (fun p q => p || q) a b (U a ||| U b) (by have h1 := U_lt a; have h2 := U_lt b; have := Nat.or_lt_two_pow (n := 64) (by omega) (by omega) (x := U a) (y := U b); omega) (fun i _ => Nat.testBit_or _ _ _)) (Ev.val rfl))
  rw [if_neg c11]; refine Ev.neg c11 ?_
  by_cases c12 : n = 12
  · rw [if_pos c12, bits_xor]
    exact Ev.pos c12 (Ev.bind (bits_ref (fun p q => Bool.xor p q) a b (U a ^^^ U b) (by have h1 := U_lt a; have h2 := U_lt b; have := Nat.xor_lt_two_pow (n := 64) (by omega) (by omega) (x := U a) (y := U b); omega) (fun i _ => Nat.testBit_xor _ _ _)) (Ev.val rfl))
  rw [if_neg c12]; refine Ev.neg c12 ?_
  have hcl : (b % 64).toNat < 64 := by omega
  by_cases c13 : n = 13
  · rw [if_pos c13, count_is]
    subst c13
    refine Ev.pos rfl ?_
    refine Ev.step (fun k => by rw [regcertref06_Eval.j2]) ?_
    refine Ev.pos rfl ?_
    rw [count_ref]
    have := shl_loop a ha _ hcl _ 0 (by omega) rfl
    simp only [Int.pow_zero, Int.mul_one, w64_id ha] at this
    exact this
  rw [if_neg c13]
  refine Ev.neg c13 ?_
  refine Ev.step (fun k => by rw [regcertref06_Eval.j2]) ?_
  by_cases c14 : n = 14
  · rw [if_pos c14, count_is]
    subst c14
    refine Ev.pos rfl ?_
    rw [count_ref]
    have := shr_loop a ha _ hcl _ 0 (by omega) rfl
    simp only [Int.pow_zero, Int.ediv_one] at this
    exact this
  rw [if_neg c14]
  refine Ev.neg (by simp [c14]) ?_
  unfold regcertref06_truth.f
  by_cases c15 : n = 15
  · simp only [if_pos c15]
    by_cases e : a = b
    · exact Ev.bindc (a := 1) (by simp [e]) (Ev.val (by rw [if_pos e]))
    · exact Ev.bindc (a := 0) (by simp [e]) (Ev.val (by rw [if_neg e]))
  simp only [if_neg c15]
  by_cases c16 : n = 16
  · simp only [if_pos c16]
    by_cases e : a < b
    · exact Ev.bindc (a := 1) (by simp [e]) (Ev.val (by rw [if_pos e]))
    · exact Ev.bindc (a := 0) (by simp [e]) (Ev.val (by rw [if_neg e]))
  simp only [if_neg c16]
  exact Ev.val rfl
end Go.Proofs.Ytgkmagfajalnhaa.X
