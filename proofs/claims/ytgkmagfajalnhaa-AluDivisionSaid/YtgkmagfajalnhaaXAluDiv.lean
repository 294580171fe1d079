/-
  AluDivision, AluAlgebra and AluShifts: quotient and remainder; the ring of integers modulo 2^64 and bitwise logic; shifts. No condition.
-/
import Derived.Test.YtgkmagfajalnhaaXAluRef
import Derived.Test.YtgkmagfajalnhaaX2
import Derived.Test.YtgkmagfajalnhaaXRowAluDivision
import Derived.Test.YtgkmagfajalnhaaXRowAluAlgebra
import Derived.Test.YtgkmagfajalnhaaXRowAluShifts
namespace Go.Proofs.Ytgkmagfajalnhaa.X
open Go.RowKit Go.Proofs.YtgkmagfajalnhaaW.PrintWords Go.Proofs.Ytgkmagfajalnhaa.Num
set_option linter.unusedVariables false

theorem is_true (n a b want : Int) (h : aluEval n a b 0 = (want, true)) : regcertlaw06_is.f n a b want = some true := by
  unfold regcertlaw06_is.f
  show (some (aluEval n a b 0)).bind _ = _
  rw [h]
  simp

theorem tmod_bounds (a b : Int) (hb : ¬ b = 0) : (0 ≤ a → 0 ≤ a.tmod b) ∧ (a ≤ 0 → a.tmod b ≤ 0) ∧ (0 < b → -b < a.tmod b ∧ a.tmod b < b) ∧ (b < 0 → b < a.tmod b ∧ a.tmod b < -b) := by
  have key : ∀ (x y : Nat), 0 < y → (0 : Int) ≤ Int.tmod (x : Int) (y : Int) ∧ Int.tmod (x : Int) (y : Int) < (y : Int) := by
    intro x y hy
    have e : Int.tmod (x : Int) (y : Int) = ((x % y : Nat) : Int) := rfl
    rw [e]
    have := Nat.mod_lt x hy
    omega
  have pos : ∀ (x : Int) (y : Nat), 0 < y → (0 ≤ x → 0 ≤ x.tmod y ∧ x.tmod y < y) ∧ (x ≤ 0 → x.tmod y ≤ 0 ∧ -(y : Int) < x.tmod y) := by
    intro x y hy
    constructor
    · intro h
      obtain ⟨c, rfl⟩ := Int.eq_ofNat_of_zero_le h
      exact key c y hy
    · intro h
      obtain ⟨c, hc⟩ := Int.eq_ofNat_of_zero_le (a := -x) (by omega)
      obtain rfl : x = -(c : Int) := by omega
      rw [Int.neg_tmod]
      have := key c y hy
      omega
  by_cases h : 0 ≤ b
  · obtain ⟨y, rfl⟩ := Int.eq_ofNat_of_zero_le h
    obtain ⟨p1, p2⟩ := pos a y (by omega)
    by_cases ha : 0 ≤ a
    · have := p1 ha
      refine ⟨fun _ => by omega, fun h => by have := p2 h; omega, fun _ => by omega, fun h => by omega⟩
    · have := p2 (by omega)
      refine ⟨fun h => by omega, fun h => by omega, fun _ => by omega, fun h => by omega⟩
  · obtain ⟨y, hy⟩ := Int.eq_ofNat_of_zero_le (a := -b) (by omega)
    obtain rfl : b = -(y : Int) := by omega
    rw [Int.tmod_neg]
    obtain ⟨p1, p2⟩ := pos a y (by omega)
    by_cases ha : 0 ≤ a
    · have := p1 ha
      refine ⟨fun _ => by omega, fun h => by have := p2 h; omega, fun _ => by omega, fun h => by omega⟩
    · have := p2 (by omega)
      refine ⟨fun h => by omega, fun h => by omega, fun _ => by omega, fun h => by omega⟩

theorem division_pure (a b : Int) (ha : I64 a) (hb : I64 b) : ∃ k, regcertlaw06_AluDivision.f k a b = some true := by
  refine Ev.rounds (g := fun k => regcertlaw06_AluDivision.f k a b) ?_
  unfold regcertlaw06_AluDivision.f
  refine Ev.bindc awake06 (Ev.pos rfl (Ev.bindc (a := aluEval 8 a b 0) rfl (Ev.bindc (a := aluEval 9 a b 0) rfl ?_)))
  have e8 : aluEval 8 a b 0 = if b = 0 then (0, false) else (wrap64 (a.tdiv b), true) := rfl
  have e9 : aluEval 9 a b 0 = if b = 0 then (0, false) else (a.tmod b, true) := rfl
  by_cases h0 : b = 0
  · rw [if_pos h0] at e8 e9
    rw [e8, e9]
    exact Ev.pos h0 (Ev.neg (by simp) (Ev.neg (by simp) (Ev.pos rfl (Ev.val rfl))))
  rw [if_neg h0] at e8 e9
  rw [e8, e9]
  have hrem := rem_is a b ha hb h0 _ rfl
  obtain ⟨t1, t2, t3, t4⟩ := tmod_bounds a b h0
  have hsum := Int.tmod_add_mul_tdiv a b
  obtain ⟨k1, hk1⟩ := w64_form (a.tdiv b)
  obtain ⟨k2, hk2⟩ := w64_form (b * wrap64 (a.tdiv b))
  have hback : a = wrap64 (wrap64 (b * wrap64 (a.tdiv b)) + a.tmod b) := by
    symm
    refine w64_eq ha ?_
    rw [hk2, hk1, Int.mul_add]
    have e3 : b * (18446744073709551616 * k1) = 18446744073709551616 * (b * k1) := by
      rw [← Int.mul_assoc, Int.mul_comm b, Int.mul_assoc]
    rw [e3]
    generalize b * Int.tdiv a b = x at *
    generalize b * k1 = y at *
    omega
  refine Ev.neg h0 (Ev.pos rfl (Ev.pos rfl (Ev.pos hback ?_)))
  have last : Ev (fun k => regcertlaw06_AluDivision.j0 k a b (wrap64 (a.tdiv b)) (a.tmod b) false) true := by
    refine Ev.step (fun k => by rw [regcertlaw06_AluDivision.j0]) (Ev.neg (by simp) ?_)
    unfold I64 at ha hb
    by_cases hm : b = -9223372036854775808
    · refine Ev.pos hm ?_
      have hb0 : b < 0 := by omega
      have hr := t4 hb0
      by_cases he : a = b
      · subst he
        have hs : a.tmod a = 0 := Int.tmod_self
        have hq : wrap64 (a.tdiv a) = 1 := by rw [Int.tdiv_self h0]; exact w64_id (by unfold I64; omega)
        rw [hs, hq]
        exact Ev.neg (by decide) (Ev.pos rfl (Ev.pos rfl (Ev.val rfl)))
      · have hq : a.tdiv b = 0 := by
          rw [hm]
          by_cases ha0 : 0 ≤ a
          · obtain ⟨x, rfl⟩ := Int.eq_ofNat_of_zero_le ha0
            have e : Int.tdiv (x : Int) (-9223372036854775808) = -((x / 9223372036854775808 : Nat) : Int) := by
              rw [show (-9223372036854775808 : Int) = -(9223372036854775808 : Int) from rfl, Int.tdiv_neg]
              rfl
            rw [e, Nat.div_eq_of_lt (by omega)]
            rfl
          · obtain ⟨x, hx⟩ := Int.eq_ofNat_of_zero_le (a := -a) (by omega)
            obtain rfl : a = -(x : Int) := by omega
            have e : Int.tdiv (-(x : Int)) (-9223372036854775808) = ((x / 9223372036854775808 : Nat) : Int) := by
              rw [show (-9223372036854775808 : Int) = -(9223372036854775808 : Int) from rfl, Int.tdiv_neg, Int.neg_tdiv, Int.neg_neg]
              rfl
            rw [e, Nat.div_eq_of_lt (by omega)]
            rfl
        have hra : a.tmod b = a := by
          rw [hq] at hsum
          simpa using hsum
        rw [hq, hra, w64_id (n := 0) (by unfold I64; omega)]
        exact Ev.pos rfl (Ev.pos rfl (Ev.val rfl))
    · refine Ev.neg hm ?_
      by_cases hn : b < 0
      · have := t4 hn
        have e1 : wrap64 (-b) = -b := w64_id (by unfold I64; omega)
        have e2 : wrap64 (-(-b)) = b := by rw [Int.neg_neg]; exact w64_id (by unfold I64; omega)
        refine Ev.pos hn ?_
        rw [e1, e2]
        exact Ev.pos (by omega) (Ev.val (decide_eq_true (by omega)))
      · have := t3 (by omega)
        have e1 : wrap64 (-b) = -b := w64_id (by unfold I64; omega)
        refine Ev.neg hn ?_
        rw [e1]
        exact Ev.pos (by omega) (Ev.val (decide_eq_true (by omega)))
  by_cases hr : a.tmod b = 0
  · exact Ev.pos hr last
  · refine Ev.neg hr ?_
    have e : (decide (a.tmod b < 0) != decide (a < 0)) = false := by
      by_cases ha0 : a < 0
      · have := t2 (by omega)
        rw [decide_eq_true ha0, decide_eq_true (show a.tmod b < 0 by omega)]
        rfl
      · have := t1 (by omega)
        rw [decide_eq_false ha0, decide_eq_false (show ¬ a.tmod b < 0 by omega)]
        rfl
    rw [e]
    exact last

theorem dist (a b c : Int) : wrap64 (wrap64 (a * b) + wrap64 (a * c)) = wrap64 (a * wrap64 (b + c)) := by
  obtain ⟨p, hp⟩ := w64_form (a * b)
  obtain ⟨q, hq⟩ := w64_form (a * c)
  obtain ⟨r, hr⟩ := w64_form (b + c)
  refine w64_ww (p + q - a * r) ?_
  rw [hp, hq, hr, Int.mul_add, Int.mul_add]
  have e3 : a * (18446744073709551616 * r) = 18446744073709551616 * (a * r) := by
    rw [← Int.mul_assoc, Int.mul_comm a, Int.mul_assoc]
  rw [e3]
  generalize a * b = x
  generalize a * c = y
  generalize a * r = z
  omega
theorem U_form (a : Int) : ∃ q : Int, ((U a : Nat) : Int) = a + 18446744073709551616 * q := ⟨-(a / 18446744073709551616), by rw [U_mod]; omega⟩
theorem and_or (a b : Int) : wrap64 (wrap64 ((U a &&& U b : Nat) : Int) + wrap64 ((U a ||| U b : Nat) : Int)) = wrap64 (a + b) := by
  obtain ⟨n1, _⟩ := nat_or_and _ (U a) (U b) (Nat.le_refl _)
  obtain ⟨q1, h1⟩ := U_form a
  obtain ⟨q2, h2⟩ := U_form b
  obtain ⟨q3, h3⟩ := w64_form ((U a &&& U b : Nat) : Int)
  obtain ⟨q4, h4⟩ := w64_form ((U a ||| U b : Nat) : Int)
  refine w64_ww (q1 + q2 + q3 + q4) ?_
  rw [h3, h4]
  generalize U a &&& U b = x at *
  generalize U a ||| U b = y at *
  generalize U a = z at *
  generalize U b = w at *
  omega
theorem or_and (a b : Int) : wrap64 (wrap64 ((U a ||| U b : Nat) : Int) - wrap64 ((U a &&& U b : Nat) : Int)) = wrap64 ((U a ^^^ U b : Nat) : Int) := by
  obtain ⟨_, n2⟩ := nat_or_and _ (U a) (U b) (Nat.le_refl _)
  obtain ⟨q3, h3⟩ := w64_form ((U a &&& U b : Nat) : Int)
  obtain ⟨q4, h4⟩ := w64_form ((U a ||| U b : Nat) : Int)
  refine w64_ww (q4 - q3) ?_
  rw [h3, h4]
  generalize U a &&& U b = x at *
  generalize U a ||| U b = y at *
  generalize U a ^^^ U b = z at *
  omega
theorem three (a b : Int) : wrap64 (wrap64 ((if a < b then 1 else 0) + (if b < a then 1 else 0)) + (if a = b then 1 else 0)) = 1 := by
  have e1 : wrap64 1 = 1 := w64_id (by unfold I64; omega)
  have e0 : wrap64 0 = 0 := w64_id (by unfold I64; omega)
  rcases Int.lt_trichotomy a b with h | h | h
  · rw [if_pos h, if_neg (by omega), if_neg (by omega)]
    simp [e1]
  · rw [if_neg (by omega), if_neg (by omega), if_pos h]
    simp [e0, e1]
  · rw [if_neg (by omega), if_pos h, if_neg (by omega)]
    simp [e1]

theorem fAdd (x y : Int) : alu_Eval.f 5 x y 0 = some (wrap64 (x + y), true) := by simp [alu_Eval.f, aluEval]
theorem fSub (x y : Int) : alu_Eval.f 6 x y 0 = some (wrap64 (x - y), true) := by simp [alu_Eval.f, aluEval]
theorem fMul (x y : Int) : alu_Eval.f 7 x y 0 = some (wrap64 (x * y), true) := by simp [alu_Eval.f, aluEval]
theorem fAnd (a b : Int) : alu_Eval.f 10 a b 0 = some (wrap64 ((U a &&& U b : Nat) : Int), true) := by simp [alu_Eval.f, aluEval, bits_and]
theorem fOr (a b : Int) : alu_Eval.f 11 a b 0 = some (wrap64 ((U a ||| U b : Nat) : Int), true) := by simp [alu_Eval.f, aluEval, bits_or]
theorem fXor (a b : Int) : alu_Eval.f 12 a b 0 = some (wrap64 ((U a ^^^ U b : Nat) : Int), true) := by simp [alu_Eval.f, aluEval, bits_xor]
theorem fNot (a : Int) (ha : I64 a) : alu_Eval.f 4 a 0 0 = some (-a - 1, true) := by
  have h := not_is a ha
  simp only [alu_Eval.f, aluEval]
  rw [h]
  simp
theorem fNeg (a : Int) : alu_Eval.f 3 a 0 0 = some (wrap64 (-a), true) := by simp [alu_Eval.f, aluEval]
theorem fLess (x y : Int) : alu_Eval.f 16 x y 0 = some (if x < y then 1 else 0, true) := by simp [alu_Eval.f, aluEval]
theorem fEq (x y : Int) : alu_Eval.f 15 x y 0 = some (if x = y then 1 else 0, true) := by simp [alu_Eval.f, aluEval]
theorem isAdd (x y z : Int) (h : wrap64 (x + y) = z) : regcertlaw06_is.f 5 x y z = some true := by
  unfold regcertlaw06_is.f
  rw [fAdd]
  simp [h]
theorem isSub (x y z : Int) (h : wrap64 (x - y) = z) : regcertlaw06_is.f 6 x y z = some true := by
  unfold regcertlaw06_is.f
  rw [fSub]
  simp [h]
theorem algebra_pure (a b c : Int) (ha : I64 a) (hb : I64 b) (hc : I64 c) : regcertlaw06_AluAlgebra.f a b c = some true := by
  unfold regcertlaw06_AluAlgebra.f
  have h1 := isAdd (wrap64 (a * b)) (wrap64 (a * c)) (wrap64 (a * wrap64 (b + c))) (dist a b c)
  have h2 := isAdd (wrap64 ((U a &&& U b : Nat) : Int)) (wrap64 ((U a ||| U b : Nat) : Int)) (wrap64 (a + b)) (and_or a b)
  have h3 := isSub (wrap64 ((U a ||| U b : Nat) : Int)) (wrap64 ((U a &&& U b : Nat) : Int)) (wrap64 ((U a ^^^ U b : Nat) : Int)) (or_and a b)
  have h4 := isAdd a (-a - 1) (-1) (w64_eq (by unfold I64; omega) (by omega))
  have h5 := isAdd a (wrap64 (-a)) 0 (w64_eq (by unfold I64; omega) (by have := w64_sub (-a); omega))
  have h6 := isSub (wrap64 (b + c)) c b (w64_eq hb (by have := w64_sub (b + c); omega))
  have h7 := three a b
  simp only [awake06, fAdd, fMul, fAnd, fOr, fXor, fNot a ha, fNeg, fLess, fEq, h1, h2, h3, h4, h5, h6, h7, Option.bind_some, if_true]

theorem shifts_pure (a n more : Int) (ha : I64 a) (hn0 : 0 ≤ n) (hn1 : n ≤ 255) (hm : I64 more) : ∃ k, regcertlaw06_AluShifts.f k a n more = some true := by
  refine Ev.rounds (g := fun k => regcertlaw06_AluShifts.f k a n more) ?_
  unfold regcertlaw06_AluShifts.f
  obtain ⟨x, rfl⟩ := Int.eq_ofNat_of_zero_le hn0
  have ek : wrap64 (Int.tmod (x : Int) 64) = ((x % 64 : Nat) : Int) := by
    have e : Int.tmod (x : Int) 64 = ((x % 64 : Nat) : Int) := rfl
    rw [e, w64_id (by unfold I64; omega)]
  rw [ek]
  have hq : x % 64 < 64 := Nat.mod_lt _ (by decide)
  generalize x % 64 = q at hq
  have shl : ∀ (y b : Int) (c : Nat), (b % 64).toNat = c → aluEval 13 y b 0 = (wrap64 (y * 2 ^ c), true) := by
    intro y b c hc
    have : aluEval 13 y b 0 = (wrap64 (y * 2 ^ min (IntKind.u64.wrap (Go.bits .and .i64 b 63)).toNat 64), true) := rfl
    rw [this, count_is, hc]
  have shr : ∀ (y b : Int) (c : Nat), (b % 64).toNat = c → aluEval 14 y b 0 = (y / 2 ^ c, true) := by
    intro y b c hc
    have : aluEval 14 y b 0 = (y / 2 ^ min (IntKind.u64.wrap (Go.bits .and .i64 b 63)).toNat 64, true) := rfl
    rw [this, count_is, hc]
  have b1 : alu_Eval.f 13 a (q : Int) 0 = some (wrap64 (a * 2 ^ q), true) := by rw [← shl a q q (by omega)]; rfl
  have b2 : alu_Eval.f 14 a (q : Int) 0 = some (a / 2 ^ q, true) := by rw [← shr a q q (by omega)]; rfl
  refine Ev.bindc awake06 (Ev.pos rfl (Ev.bindc b1 (Ev.bindc b2 ?_)))
  have last : Ev (fun k => regcertlaw06_AluShifts.j0 k a more (q : Int) (wrap64 (a * 2 ^ q)) (a / 2 ^ q) false) true := by
    refine Ev.step (fun k => by rw [regcertlaw06_AluShifts.j0]) (Ev.neg (by simp) ?_)
    obtain ⟨t, ht, ht0, ht1⟩ : ∃ t : Int, Int.tmod more 1000 = t ∧ -1000 < t ∧ t < 1000 := ⟨_, rfl, (tmod_bounds more 1000 (by decide)).2.2.1 (by decide) |>.1, (tmod_bounds more 1000 (by decide)).2.2.1 (by decide) |>.2⟩
    rw [ht, w64_id (n := 64 * t) (by unfold I64; omega), w64_id (n := (q : Int) + 64 * t) (by unfold I64; omega)]
    have ec : (((q : Int) + 64 * t) % 64).toNat = q := by omega
    refine Ev.bindc (is_true _ _ _ _ (shl a _ q ec)) (Ev.pos rfl (Ev.bindc (is_true _ _ _ _ (shr a _ q ec)) (Ev.pos rfl (Ev.val ?_))))
    simp [shr_neg]
  by_cases h : (q : Int) < 63
  · have er : wrap64 ((q : Int) + 1) = ((q + 1 : Nat) : Int) := by rw [w64_id (by unfold I64; omega)]; omega
    refine Ev.pos h ?_
    rw [er]
    have r1 : Ev (fun k => regcertlaw06_ref2.f k 13 a ((q + 1 : Nat) : Int)) (wrap64 (a * 2 ^ (q + 1))) := by
      unfold regcertlaw06_ref2.f
      refine Ev.bind (eval_ref 13 a _ 0 ha (by unfold I64; omega)) (Ev.val ?_)
      rw [shl a _ (q + 1) (by omega)]
    have r2 : Ev (fun k => regcertlaw06_ref2.f k 14 a ((q + 1 : Nat) : Int)) (a / 2 ^ (q + 1)) := by
      unfold regcertlaw06_ref2.f
      refine Ev.bind (eval_ref 14 a _ 0 ha (by unfold I64; omega)) (Ev.val ?_)
      rw [shr a _ (q + 1) (by omega)]
    refine Ev.bind r1 (Ev.bindc (is_true _ _ _ _ ?_) (Ev.pos rfl (Ev.bind r2 (Ev.bindc (is_true _ _ _ _ ?_) last))))
    · rw [shl _ 1 1 (by decide), Int.pow_one, shl_step]
    · rw [shr _ 1 1 (by decide), Int.pow_one, shr_step]
  · exact Ev.neg h last
end Go.Proofs.Ytgkmagfajalnhaa.X
namespace Go.Proofs.Ytgkmagfajalnhaa
theorem aluDivision_holds : Rows.AluDivisionSaid := aluDivision.over fun a b ha hb => X.division_pure a b (bounds_i64 ha) (bounds_i64 hb)
theorem aluAlgebra_holds : Rows.AluAlgebraSaid := aluAlgebra.over fun a b c ha hb hc => X.algebra_pure a b c (bounds_i64 ha) (bounds_i64 hb) (bounds_i64 hc)
theorem aluShifts_holds : Rows.AluShiftsSaid := aluShifts.over fun a n more ha hn hm => X.shifts_pure a n more (bounds_i64 ha) (bounds_u8 hn).1 (bounds_u8 hn).2 (bounds_i64 hm)
end Go.Proofs.Ytgkmagfajalnhaa
