-- Written by a program of this session (xprint), out of the translation. Not trusted: Lean checks it.
import Derived.Test.YtgkmagfajalnhaaTE0
namespace Go.Proofs.Ytgkmagfajalnhaa.E
open Go.RowKit Go.Proofs.YtgkmagfajalnhaaW.PrintWords Go.Proofs.YtgkmagfajalnhaaW.PrintLast Go.Proofs.YtgkmagfajalnhaaW.PrintMore
attribute [local go_sem] max2_int min2_int max_two min_two max_three min_three max_four min_four   -- for this text's walks alone
set_option linter.unusedVariables false
set_option linter.unusedSimpArgs false

/-! ### regcertref10_Read: function 54 -/
def regcertref10_Read.f (a0_0 : Int) (a0_1 : Int) (a0_2 : Int) (a0_3 : Int) (l0_4 : List Int) (l0_5 : List Int) (l0_6 : List Int) (a0_7 : Int) (a1 : Int) : Option (Int) := if (Int.tmod a1 2) = 1 then (if 0 ≤ (wrap64 (Int.tdiv a1 2)) then (if (wrap64 (Int.tdiv a1 2)) < (l0_5.length : Int) then (some (rd l0_5 (wrap64 (Int.tdiv a1 2)))) else (none)) else (none)) else (if 0 ≤ (wrap64 (Int.tdiv a1 2)) then (if (wrap64 (Int.tdiv a1 2)) < (l0_4.length : Int) then (some (rd l0_4 (wrap64 (Int.tdiv a1 2)))) else (none)) else (none))
set_option maxHeartbeats 8000000 in
set_option maxRecDepth 100000 in
theorem regcertref10_Read.calls (a0_0 : Int) (a0_1 : Int) (a0_2 : Int) (a0_3 : Int) (A0_4 : Option Addr) (c0_4 : Nat) (l0_4 : List Int) (A0_5 : Option Addr) (c0_5 : Nat) (l0_5 : List Int) (A0_6 : Option Addr) (c0_6 : Nat) (l0_6 : List Int) (a0_7 : Int) (a1 : Int) (r : Int) (w : World) (hr0_4 : Kd.C (Kd.int .i64) w A0_4 l0_4.length l0_4) (hc0_4 : l0_4.length ≤ c0_4) (hr0_5 : Kd.C (Kd.int .i64) w A0_5 l0_5.length l0_5) (hc0_5 : l0_5.length ≤ c0_5) (hr0_6 : Kd.C (Kd.int .i64) w A0_6 l0_6.length l0_6) (hc0_6 : l0_6.length ≤ c0_6) (h : regcertref10_Read.f a0_0 a0_1 a0_2 a0_3 l0_4 l0_5 l0_6 a0_7 a1 = some r) :
  Calls Try.prog 54 #[.agg #[.int .i64 a0_0, .int .i64 a0_1, .int .i64 a0_2, .int .i64 a0_3, .slice A0_4 l0_4.length c0_4, .slice A0_5 l0_5.length c0_5, .slice A0_6 l0_6.length c0_6, .int .i64 a0_7], .int .i64 a1] w fun e w' => e = .returned (.int .i64 r) ∧ Below w.heap.size w w' := by
 have hu39 := Try.underlying39
 have HR0_4 := As0 hr0_4
 have HC0_4 := As0 hc0_4
 clear hr0_4 hc0_4
 have HR0_5 := As0 hr0_5
 have HC0_5 := As0 hc0_5
 clear hr0_5 hc0_5
 have HR0_6 := As0 hr0_6
 have HC0_6 := As0 hc0_6
 clear hr0_6 hc0_6
 have HB := As0 (Below.refl w.heap.size w)
 have H : (if (Int.tmod a1 2) = 1 then (if 0 ≤ (wrap64 (Int.tdiv a1 2)) then (if (wrap64 (Int.tdiv a1 2)) < (l0_5.length : Int) then (some (rd l0_5 (wrap64 (Int.tdiv a1 2)))) else (none)) else (none)) else (if 0 ≤ (wrap64 (Int.tdiv a1 2)) then (if (wrap64 (Int.tdiv a1 2)) < (l0_4.length : Int) then (some (rd l0_4 (wrap64 (Int.tdiv a1 2)))) else (none)) else (none))) = some r := h
 clear h
 by_cases c3 : (Int.tmod a1 2) = 1
 rotate_left
 ·rw [if_neg c3] at H
  have c3b0 : ((Int.tmod a1 2) == 1) = false := beq_eq_false_iff_ne.mpr c3
  have c3b1 : ((Int.tmod a1 2) != 1) = true := bne_iff_ne.mpr c3
  obtain ⟨ji9, hji9⟩ : ∃ j_ : Int, (wrap64 (Int.tdiv a1 2)) = j_ := ⟨_, rfl⟩
  replace H : (if 0 ≤ (ji9) then (if (ji9) < (l0_4.length : Int) then (some (rd l0_4 (ji9))) else (none)) else (none)) = some r := by first | (rw [hji9] at H; exact H) | (simp only [hji9] at H ⊢; exact H)
  have hji9w : (IntKind.i64.wrap (Int.tdiv a1 2)) = ji9 := (i64_w _).trans hji9
  by_cases c10 : 0 ≤ (ji9)
  rotate_left
  ·rw [if_neg c10] at H
   exact absurd H (by simp)
  rw [if_pos c10] at H
  have c10b0 : decide (0 ≤ (ji9)) = true := decide_eq_true c10
  clear c10
  by_cases c11 : (ji9) < (l0_4.length : Int)
  rotate_left
  ·rw [if_neg c11] at H
   exact absurd H (by simp)
  rw [if_pos c11] at H
  have c11b0 : decide ((ji9) < (l0_4.length : Int)) = true := decide_eq_true c11
  clear c11
  obtain rfl := Option.some.inj H
  go_enter Try.func54, Try.ntmps54
  go_wp2_with (first | ((with_reducible refine gate_dst (N := 2) rfl ?_); refine bX (N := 2) (cs := #[.int .i64 a0_0, .int .i64 a0_1, .int .i64 a0_2, .int .i64 a0_3, .slice A0_4 l0_4.length c0_4, .slice A0_5 l0_5.length c0_5, .slice A0_6 l0_6.length c0_6, .int .i64 a0_7]) (t := 39) ?_; intro gb306 hg w12 hbox hb; have BK306 := As0 (hbox); have GW306 := As0 ((by rw [hg]; exact (below_size (BU HB.out)) : w.heap.size ≤ gb306)); have GE306 := As0 ((by rw [hg]; exact (below_size (BU HB.out)) : w.heap.size ≤ gb306)); replace HB := As0 (below_step (BU HB.out) hb); clear hb hbox hg; obtain ⟨hcz13_0, hcz13_1, hcz13_2, hcz13_3, hcz13_4, hcz13_5, hcz13_6, hcz13_7, hfz13_0, hfz13_1, hfz13_2, hfz13_3, hfz13_4, hfz13_5, hfz13_6, hfz13_7⟩ := cN8 BK306.out; have p308 : 0 ≤ ((ji9) : Int) := of_decide_eq_true (by first | (with_reducible assumption) | assumption); have q308 : (ji9) < (l0_4.length : Int) := of_decide_eq_true (by first | (with_reducible assumption) | assumption); obtain ⟨ad308, e308, hx308_0⟩ := Kd.at_int HR0_4.out (ji9) p308 q308; cases e308; replace hx308_0 := (HB.out.cell (wblt w hx308_0)).trans hx308_0; replace p308 := eq_true p308; replace q308 := eq_true q308))
  go_ret
  exact ⟨by first | rfl | (simp [errW_none, errW_some] <;> rfl) | (simp only [← hji9]; first | rfl | (simp [errW_none, errW_some] <;> rfl)) | (simp [*, errW_none, errW_some] <;> rfl), BU HB.out⟩
 rw [if_pos c3] at H
 have c3b0 : ((Int.tmod a1 2) == 1) = true := beq_iff_eq.mpr c3
 have c3b1 : ((Int.tmod a1 2) != 1) = false := bne_eq_false_iff_eq.mpr c3
 clear c3
 obtain ⟨ji4, hji4⟩ : ∃ j_ : Int, (wrap64 (Int.tdiv a1 2)) = j_ := ⟨_, rfl⟩
 replace H : (if 0 ≤ (ji4) then (if (ji4) < (l0_5.length : Int) then (some (rd l0_5 (ji4))) else (none)) else (none)) = some r := by first | (rw [hji4] at H; exact H) | (simp only [hji4] at H ⊢; exact H)
 have hji4w : (IntKind.i64.wrap (Int.tdiv a1 2)) = ji4 := (i64_w _).trans hji4
 by_cases c5 : 0 ≤ (ji4)
 rotate_left
 ·rw [if_neg c5] at H
  exact absurd H (by simp)
 rw [if_pos c5] at H
 have c5b0 : decide (0 ≤ (ji4)) = true := decide_eq_true c5
 clear c5
 by_cases c6 : (ji4) < (l0_5.length : Int)
 rotate_left
 ·rw [if_neg c6] at H
  exact absurd H (by simp)
 rw [if_pos c6] at H
 have c6b0 : decide ((ji4) < (l0_5.length : Int)) = true := decide_eq_true c6
 clear c6
 obtain rfl := Option.some.inj H
 go_enter Try.func54, Try.ntmps54
 go_wp2_with (first | ((with_reducible refine gate_dst (N := 2) rfl ?_); refine bX (N := 2) (cs := #[.int .i64 a0_0, .int .i64 a0_1, .int .i64 a0_2, .int .i64 a0_3, .slice A0_4 l0_4.length c0_4, .slice A0_5 l0_5.length c0_5, .slice A0_6 l0_6.length c0_6, .int .i64 a0_7]) (t := 39) ?_; intro gb306 hg w7 hbox hb; have BK306 := As0 (hbox); have GW306 := As0 ((by rw [hg]; exact (below_size (BU HB.out)) : w.heap.size ≤ gb306)); have GE306 := As0 ((by rw [hg]; exact (below_size (BU HB.out)) : w.heap.size ≤ gb306)); replace HB := As0 (below_step (BU HB.out) hb); clear hb hbox hg; obtain ⟨hcz8_0, hcz8_1, hcz8_2, hcz8_3, hcz8_4, hcz8_5, hcz8_6, hcz8_7, hfz8_0, hfz8_1, hfz8_2, hfz8_3, hfz8_4, hfz8_5, hfz8_6, hfz8_7⟩ := cN8 BK306.out; have p307 : 0 ≤ ((ji4) : Int) := of_decide_eq_true (by first | (with_reducible assumption) | assumption); have q307 : (ji4) < (l0_5.length : Int) := of_decide_eq_true (by first | (with_reducible assumption) | assumption); obtain ⟨ad307, e307, hx307_0⟩ := Kd.at_int HR0_5.out (ji4) p307 q307; cases e307; replace hx307_0 := (HB.out.cell (wblt w hx307_0)).trans hx307_0; replace p307 := eq_true p307; replace q307 := eq_true q307))
 go_ret
 exact ⟨by first | rfl | (simp [errW_none, errW_some] <;> rfl) | (simp only [← hji4]; first | rfl | (simp [errW_none, errW_some] <;> rfl)) | (simp [*, errW_none, errW_some] <;> rfl), BU HB.out⟩

end Go.Proofs.Ytgkmagfajalnhaa.E
