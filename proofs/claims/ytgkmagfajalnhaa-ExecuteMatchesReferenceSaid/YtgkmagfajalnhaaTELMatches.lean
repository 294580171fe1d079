-- Written by a program of this session (xprint), out of the translation. Not trusted: Lean checks it.
import Derived.Test.YtgkmagfajalnhaaTE0
import Derived.Test.YtgkmagfajalnhaaTEAwk
import Derived.Test.YtgkmagfajalnhaaTEChk
import Derived.Test.YtgkmagfajalnhaaTEStepE
import Derived.Test.YtgkmagfajalnhaaTERExec
namespace Go.Proofs.Ytgkmagfajalnhaa.E
open Go.RowKit Go.Proofs.YtgkmagfajalnhaaW.PrintWords Go.Proofs.YtgkmagfajalnhaaW.PrintLast Go.Proofs.YtgkmagfajalnhaaW.PrintMore
attribute [local go_sem] max2_int min2_int max_two min_two max_three min_three max_four min_four   -- for this text's walks alone
set_option linter.unusedVariables false
set_option linter.unusedSimpArgs false

/-! ### regcertlaw10_ExecuteMatchesReference: function 15 -/
mutual
def regcertlaw10_ExecuteMatchesReference.j0 : Nat → List Int → Int → Int → Bool → Int → Int → Int → List (S69) → Option (Bool)
 | 0, _, _, _, _, _, _, _, _ => none
 | k + 1, x1, x2, x3, x22, x309000, x309001, x309002, x309003 => if x22 = true then ((regcertlaw10_awake.f k).bind fun t311 => (some t311)) else ((execute_Exec.f k x309000 x309001 x309002 x309003 x1 x2).bind fun bt312 => ((execute_Start.f x309000 x309001 x309002 x309003 x1).bind fun bt328 => (if (x1.length : Int) = x309000 then ((regcertref10_Exec.f k x309000 x309001 x309002 x309003 x1 x2).bind fun bt346 => ((regcertref04_InRange.f x3 x309001 x309002).bind fun t361 => (if t361 = true then ((execute_Read.f bt346.1 bt346.2.1 bt346.2.2.1 bt346.2.2.2.1 bt346.2.2.2.2.1 bt346.2.2.2.2.2.1 bt346.2.2.2.2.2.2.1 bt346.2.2.2.2.2.2.2 x3).bind fun t362 => ((regcertref10_Read.f bt346.1 bt346.2.1 bt346.2.2.1 bt346.2.2.2.1 bt346.2.2.2.2.1 bt346.2.2.2.2.2.1 bt346.2.2.2.2.2.2.1 bt346.2.2.2.2.2.2.2 x3).bind fun t363 => (regcertlaw10_ExecuteMatchesReference.j1 k x1 bt312.2.2.2.2.2.2.2.2 bt328.2.2.2.2.2.2.2.2 (t362 != t363) x309000 x309001 x309002 x309003 bt312.1 bt312.2.1 bt312.2.2.1 bt312.2.2.2.1 bt312.2.2.2.2.1 bt312.2.2.2.2.2.1 bt312.2.2.2.2.2.2.1 bt312.2.2.2.2.2.2.2.1 bt328.1 bt328.2.1 bt328.2.2.1 bt328.2.2.2.1 bt328.2.2.2.2.1 bt328.2.2.2.2.2.1 bt328.2.2.2.2.2.2.1 bt328.2.2.2.2.2.2.2.1 bt346.1 bt346.2.1 bt346.2.2.1 bt346.2.2.2.1 bt346.2.2.2.2.1 bt346.2.2.2.2.2.1 bt346.2.2.2.2.2.2.1 bt346.2.2.2.2.2.2.2))) else (regcertlaw10_ExecuteMatchesReference.j1 k x1 bt312.2.2.2.2.2.2.2.2 bt328.2.2.2.2.2.2.2.2 false x309000 x309001 x309002 x309003 bt312.1 bt312.2.1 bt312.2.2.1 bt312.2.2.2.1 bt312.2.2.2.2.1 bt312.2.2.2.2.2.1 bt312.2.2.2.2.2.2.1 bt312.2.2.2.2.2.2.2.1 bt328.1 bt328.2.1 bt328.2.2.1 bt328.2.2.2.1 bt328.2.2.2.2.1 bt328.2.2.2.2.2.1 bt328.2.2.2.2.2.2.1 bt328.2.2.2.2.2.2.2.1 bt346.1 bt346.2.1 bt346.2.2.1 bt346.2.2.2.1 bt346.2.2.2.2.1 bt346.2.2.2.2.2.1 bt346.2.2.2.2.2.2.1 bt346.2.2.2.2.2.2.2)))) else (if bt312.2.2.2.2.2.2.2.2 = 32 then (if bt328.2.2.2.2.2.2.2.2 = 32 then ((regcertref09_Same.f k bt312.1 bt312.2.1 bt312.2.2.1 bt312.2.2.2.1 bt312.2.2.2.2.1 bt312.2.2.2.2.2.1 bt312.2.2.2.2.2.2.1 bt312.2.2.2.2.2.2.2.1 0 0 0 0 ([] : List Int) ([] : List Int) ([] : List Int) 0).bind fun t344 => (if t344 = true then ((regcertref09_Same.f k bt328.1 bt328.2.1 bt328.2.2.1 bt328.2.2.2.1 bt328.2.2.2.2.1 bt328.2.2.2.2.2.1 bt328.2.2.2.2.2.2.1 bt328.2.2.2.2.2.2.2.1 0 0 0 0 ([] : List Int) ([] : List Int) ([] : List Int) 0).bind fun t345 => (some t345)) else (none))) else (none)) else (none)))))
def regcertlaw10_ExecuteMatchesReference.j1 : Nat → List Int → Int → Int → Bool → Int → Int → Int → List (S69) → Int → Int → Int → Int → List Int → List Int → List Int → Int → Int → Int → Int → Int → List Int → List Int → List Int → Int → Int → Int → Int → Int → List Int → List Int → List Int → Int → Option (Bool)
 | 0, _, _, _, _, _, _, _, _, _, _, _, _, _, _, _, _, _, _, _, _, _, _, _, _, _, _, _, _, _, _, _, _ => none
 | k + 1, x1, x10, x12, x76, x309000, x309001, x309002, x309003, x328000, x328001, x328002, x328003, x328004, x328005, x328006, x328007, x344000, x344001, x344002, x344003, x344004, x344005, x344006, x344007, x361000, x361001, x361002, x361003, x361004, x361005, x361006, x361007 => if x76 = true then (none) else (if x10 = 0 then (if x12 = 0 then ((regcertref09_Same.f k x328000 x328001 x328002 x328003 x328004 x328005 x328006 x328007 x361000 x361001 x361002 x361003 x361004 x361005 x361006 x361007).bind fun t364 => (if t364 = true then ((regcertref10_Start.f k x309000 x309001 x309002 x309003 x1).bind fun bt365 => ((regcertref09_Same.f k x344000 x344001 x344002 x344003 x344004 x344005 x344006 x344007 bt365.1 bt365.2.1 bt365.2.2.1 bt365.2.2.2.1 bt365.2.2.2.2.1 bt365.2.2.2.2.2.1 bt365.2.2.2.2.2.2.1 bt365.2.2.2.2.2.2.2).bind fun t379 => (if t379 = true then ((execute_Step.f x309000 x309001 x309002 x309003 x361000 x361001 x361002 x361003 x361004 x361005 x361006 x361007).bind fun bt380 => ((regcertref10_Step.f x309000 x309001 x309002 x309003 x361000 x361001 x361002 x361003 x361004 x361005 x361006 x361007).bind fun bt394 => ((regcertref09_Same.f k bt380.1 bt380.2.1 bt380.2.2.1 bt380.2.2.2.1 bt380.2.2.2.2.1 bt380.2.2.2.2.2.1 bt380.2.2.2.2.2.2.1 bt380.2.2.2.2.2.2.2 bt394.1 bt394.2.1 bt394.2.2.1 bt394.2.2.2.1 bt394.2.2.2.2.1 bt394.2.2.2.2.2.1 bt394.2.2.2.2.2.2.1 bt394.2.2.2.2.2.2.2).bind fun t408 => (some t408)))) else (none)))) else (none))) else (none)) else (none))
end
def regcertlaw10_ExecuteMatchesReference.f (k : Nat) (a0_0 : Int) (a0_1 : Int) (a0_2 : Int) (l0_3 : List (S69)) (l1 : List Int) (a2 : Int) (a3 : Int) : Option (Bool) := (regcertlaw10_awake.f k).bind fun t309 => (if t309 = true then ((regcertref10_Right.f k a0_0 a0_1 a0_2 l0_3 l1 a2).bind fun t310 => (regcertlaw10_ExecuteMatchesReference.j0 k l1 a2 a3 (!t310) a0_0 a0_1 a0_2 l0_3)) else (regcertlaw10_ExecuteMatchesReference.j0 k l1 a2 a3 true a0_0 a0_1 a0_2 l0_3))
theorem regcertlaw10_ExecuteMatchesReference.mono_l : ∀ k, (∀ y0 y1 y2 y3 y4 y5 y6 y7, LeO (regcertlaw10_ExecuteMatchesReference.j0 k y0 y1 y2 y3 y4 y5 y6 y7) (regcertlaw10_ExecuteMatchesReference.j0 (k + 1) y0 y1 y2 y3 y4 y5 y6 y7)) ∧ (∀ y0 y1 y2 y3 y4 y5 y6 y7 y8 y9 y10 y11 y12 y13 y14 y15 y16 y17 y18 y19 y20 y21 y22 y23 y24 y25 y26 y27 y28 y29 y30 y31, LeO (regcertlaw10_ExecuteMatchesReference.j1 k y0 y1 y2 y3 y4 y5 y6 y7 y8 y9 y10 y11 y12 y13 y14 y15 y16 y17 y18 y19 y20 y21 y22 y23 y24 y25 y26 y27 y28 y29 y30 y31) (regcertlaw10_ExecuteMatchesReference.j1 (k + 1) y0 y1 y2 y3 y4 y5 y6 y7 y8 y9 y10 y11 y12 y13 y14 y15 y16 y17 y18 y19 y20 y21 y22 y23 y24 y25 y26 y27 y28 y29 y30 y31))
 | 0 => ⟨fun _ _ _ _ _ _ _ _ r h => by simp [regcertlaw10_ExecuteMatchesReference.j0] at h, fun _ _ _ _ _ _ _ _ _ _ _ _ _ _ _ _ _ _ _ _ _ _ _ _ _ _ _ _ _ _ _ _ r h => by simp [regcertlaw10_ExecuteMatchesReference.j1] at h⟩
 | k + 1 => by
  obtain ⟨ih0, ih1⟩ := regcertlaw10_ExecuteMatchesReference.mono_l k
  refine ⟨?_, ?_⟩
  ·intro y0 y1 y2 y3 y4 y5 y6 y7
   unfold regcertlaw10_ExecuteMatchesReference.j0
   repeat' first
   | (with_reducible exact ih0 _ _ _ _ _ _ _ _)
   | (with_reducible exact ih1 _ _ _ _ _ _ _ _ _ _ _ _ _ _ _ _ _ _ _ _ _ _ _ _ _ _ _ _ _ _ _ _)
   | (with_reducible exact execute_Exec.mono _ _ _ _ _ _ _)
   | (with_reducible exact regcertlaw10_awake.mono _)
   | (with_reducible exact regcertref09_Same.mono _ _ _ _ _ _ _ _ _ _ _ _ _ _ _ _ _)
   | (with_reducible exact regcertref10_Exec.mono _ _ _ _ _ _ _)
   | (with_reducible exact regcertref10_Right.mono _ _ _ _ _ _ _)
   | (with_reducible exact regcertref10_Start.mono _ _ _ _ _ _)
   | (with_reducible exact LeO.refl _)
   | (with_reducible exact LeO.none _)
   | (with_reducible refine LeO.ite ?_ ?_)
   | (with_reducible refine LeO.bind ?_ (fun _ => ?_))
   | exact ih0 _ _ _ _ _ _ _ _
   | exact ih1 _ _ _ _ _ _ _ _ _ _ _ _ _ _ _ _ _ _ _ _ _ _ _ _ _ _ _ _ _ _ _ _
   | exact execute_Exec.mono _ _ _ _ _ _ _
   | exact regcertlaw10_awake.mono _
   | exact regcertref09_Same.mono _ _ _ _ _ _ _ _ _ _ _ _ _ _ _ _ _
   | exact regcertref10_Exec.mono _ _ _ _ _ _ _
   | exact regcertref10_Right.mono _ _ _ _ _ _ _
   | exact regcertref10_Start.mono _ _ _ _ _ _
   | exact LeO.none _
   | refine LeO.ite ?_ ?_
   | refine LeO.bind ?_ (fun _ => ?_)
  ·intro y0 y1 y2 y3 y4 y5 y6 y7 y8 y9 y10 y11 y12 y13 y14 y15 y16 y17 y18 y19 y20 y21 y22 y23 y24 y25 y26 y27 y28 y29 y30 y31
   unfold regcertlaw10_ExecuteMatchesReference.j1
   repeat' first
   | (with_reducible exact ih0 _ _ _ _ _ _ _ _)
   | (with_reducible exact ih1 _ _ _ _ _ _ _ _ _ _ _ _ _ _ _ _ _ _ _ _ _ _ _ _ _ _ _ _ _ _ _ _)
   | (with_reducible exact execute_Exec.mono _ _ _ _ _ _ _)
   | (with_reducible exact regcertlaw10_awake.mono _)
   | (with_reducible exact regcertref09_Same.mono _ _ _ _ _ _ _ _ _ _ _ _ _ _ _ _ _)
   | (with_reducible exact regcertref10_Exec.mono _ _ _ _ _ _ _)
   | (with_reducible exact regcertref10_Right.mono _ _ _ _ _ _ _)
   | (with_reducible exact regcertref10_Start.mono _ _ _ _ _ _)
   | (with_reducible exact LeO.refl _)
   | (with_reducible exact LeO.none _)
   | (with_reducible refine LeO.ite ?_ ?_)
   | (with_reducible refine LeO.bind ?_ (fun _ => ?_))
   | exact ih0 _ _ _ _ _ _ _ _
   | exact ih1 _ _ _ _ _ _ _ _ _ _ _ _ _ _ _ _ _ _ _ _ _ _ _ _ _ _ _ _ _ _ _ _
   | exact execute_Exec.mono _ _ _ _ _ _ _
   | exact regcertlaw10_awake.mono _
   | exact regcertref09_Same.mono _ _ _ _ _ _ _ _ _ _ _ _ _ _ _ _ _
   | exact regcertref10_Exec.mono _ _ _ _ _ _ _
   | exact regcertref10_Right.mono _ _ _ _ _ _ _
   | exact regcertref10_Start.mono _ _ _ _ _ _
   | exact LeO.none _
   | refine LeO.ite ?_ ?_
   | refine LeO.bind ?_ (fun _ => ?_)
theorem regcertlaw10_ExecuteMatchesReference.mono : ∀ a0 a1 a2 a3 a4 a5 a6 k, LeO (regcertlaw10_ExecuteMatchesReference.f k a0 a1 a2 a3 a4 a5 a6) (regcertlaw10_ExecuteMatchesReference.f (k + 1) a0 a1 a2 a3 a4 a5 a6) := by
 intro a0 a1 a2 a3 a4 a5 a6 k
 obtain ⟨ih0, ih1⟩ := regcertlaw10_ExecuteMatchesReference.mono_l k
 unfold regcertlaw10_ExecuteMatchesReference.f
 repeat' first
   | (with_reducible exact ih0 _ _ _ _ _ _ _ _)
   | (with_reducible exact ih1 _ _ _ _ _ _ _ _ _ _ _ _ _ _ _ _ _ _ _ _ _ _ _ _ _ _ _ _ _ _ _ _)
   | (with_reducible exact execute_Exec.mono _ _ _ _ _ _ _)
   | (with_reducible exact regcertlaw10_awake.mono _)
   | (with_reducible exact regcertref09_Same.mono _ _ _ _ _ _ _ _ _ _ _ _ _ _ _ _ _)
   | (with_reducible exact regcertref10_Exec.mono _ _ _ _ _ _ _)
   | (with_reducible exact regcertref10_Right.mono _ _ _ _ _ _ _)
   | (with_reducible exact regcertref10_Start.mono _ _ _ _ _ _)
   | (with_reducible exact LeO.refl _)
   | (with_reducible exact LeO.none _)
   | (with_reducible refine LeO.ite ?_ ?_)
   | (with_reducible refine LeO.bind ?_ (fun _ => ?_))
   | exact ih0 _ _ _ _ _ _ _ _
   | exact ih1 _ _ _ _ _ _ _ _ _ _ _ _ _ _ _ _ _ _ _ _ _ _ _ _ _ _ _ _ _ _ _ _
   | exact execute_Exec.mono _ _ _ _ _ _ _
   | exact regcertlaw10_awake.mono _
   | exact regcertref09_Same.mono _ _ _ _ _ _ _ _ _ _ _ _ _ _ _ _ _
   | exact regcertref10_Exec.mono _ _ _ _ _ _ _
   | exact regcertref10_Right.mono _ _ _ _ _ _ _
   | exact regcertref10_Start.mono _ _ _ _ _ _
   | exact LeO.none _
   | refine LeO.ite ?_ ?_
   | refine LeO.bind ?_ (fun _ => ?_)
def regcertlaw10_ExecuteMatchesReference.T8 : Bool × List (List Nat × List Nat) := (true, [([], []), ([], []), ([1], [1]), ([], []), ([3], [3]), ([0, 2, 4], [0, 2, 4]), ([5, 5], [5]), ([6], [6]), ([6], [6]), ([7, 8, 6, 6], [6, 7, 8]), ([6], [6]), ([6], [6]), ([10, 11, 9, 6], [6, 10, 11]), ([9, 12, 6], [6, 9, 12]), ([6, 13], [6, 13])])
def regcertlaw10_ExecuteMatchesReference.B8 : List Nat := [0, 0, 2, 0, 8, 31, 63, 127, 127, 511, 127, 127, 4095, 8191, 16383]
theorem regcertlaw10_ExecuteMatchesReference.tab8 : rtab .any (opsOf Try.f15 8) = regcertlaw10_ExecuteMatchesReference.T8 := by kernel_rfl
theorem regcertlaw10_ExecuteMatchesReference.bits8 : waitsOk regcertlaw10_ExecuteMatchesReference.T8.2 regcertlaw10_ExecuteMatchesReference.B8 = true := by kernel_rfl
def regcertlaw10_ExecuteMatchesReference.T10 : Bool × List (List Nat × List Nat) := (true, [([], []), ([0], [0]), ([1], [1]), ([2], [2]), ([3, 2], [2, 3]), ([2, 4], [2, 4]), ([5, 2], [5]), ([6], [6]), ([6], [6]), ([7, 8, 6, 6], [6, 7, 8]), ([6, 9], [6, 9]), ([10, 9], [10]), ([11], [11]), ([11], [11]), ([11], [11]), ([13, 14, 11, 11], [11, 13, 14]), ([12, 15, 15, 11], [11, 12, 15]), ([11, 16], [11, 16]), ([17, 16], [17]), ([18], [18]), ([18], [18]), ([19, 20, 18, 18], [18, 19, 20]), ([18], [18]), ([18], [18]), ([22, 23, 21, 18], [18, 22, 23]), ([21, 24, 24, 18], [18, 21, 24]), ([18, 25], [18, 25]), ([26, 25, 0, 1, 2, 3, 4, 5, 6, 7, 8, 9, 10, 11, 12, 13, 14, 15, 16, 17, 18, 19, 20, 21, 22, 23, 24, 25, 26], [26])])
def regcertlaw10_ExecuteMatchesReference.B10 : List Nat := [0, 1, 3, 7, 15, 31, 63, 127, 127, 511, 1023, 2047, 4095, 4095, 4095, 28671, 65535, 131071, 262143, 524287, 524287, 2097151, 524287, 524287, 16777215, 33554431, 67108863, 134217727]
theorem regcertlaw10_ExecuteMatchesReference.tab10 : rtab .any (opsOf Try.f15 10) = regcertlaw10_ExecuteMatchesReference.T10 := by kernel_rfl
theorem regcertlaw10_ExecuteMatchesReference.bits10 : waitsOk regcertlaw10_ExecuteMatchesReference.T10.2 regcertlaw10_ExecuteMatchesReference.B10 = true := by kernel_rfl
set_option maxHeartbeats 40000000 in
set_option maxRecDepth 100000 in
theorem regcertlaw10_ExecuteMatchesReference.calls (k : Nat) (a0_0 : Int) (a0_1 : Int) (a0_2 : Int) (A0_3 : Option Addr) (c0_3 : Nat) (l0_3 : List (S69)) (A1 : Option Addr) (c1 : Nat) (l1 : List Int) (a2 : Int) (a3 : Int) (r : Bool) (w : World) (hr0_3 : Kd.C k69 w A0_3 l0_3.length l0_3) (hc0_3 : l0_3.length ≤ c0_3) (hr1 : Kd.C (Kd.int .i64) w A1 l1.length l1) (hc1 : l1.length ≤ c1) (h : regcertlaw10_ExecuteMatchesReference.f k a0_0 a0_1 a0_2 l0_3 l1 a2 a3 = some r) :
  Calls Try.prog 15 #[.agg #[.int .i64 a0_0, .int .i64 a0_1, .int .i64 a0_2, .slice A0_3 l0_3.length c0_3], .slice A1 l1.length c1, .int .i64 a2, .int .i64 a3] w fun e w' => e = .returned (.bool r) ∧ Below w.heap.size w w' := by
 have hu63 := Try.underlying63
 have hu39 := Try.underlying39
 have HR0_3 := As0 hr0_3
 have HC0_3 := As0 hc0_3
 clear hr0_3 hc0_3
 have HR1 := As0 hr1
 have HC1 := As0 hc1
 clear hr1 hc1
 have HB := As0 (Below.refl w.heap.size w)
 have H : ((regcertlaw10_awake.f k).bind fun t309 => (if t309 = true then ((regcertref10_Right.f k a0_0 a0_1 a0_2 l0_3 l1 a2).bind fun t310 => (regcertlaw10_ExecuteMatchesReference.j0 k l1 a2 a3 (!t310) a0_0 a0_1 a0_2 l0_3)) else (regcertlaw10_ExecuteMatchesReference.j0 k l1 a2 a3 true a0_0 a0_1 a0_2 l0_3))) = some r := h
 clear h
 have HC5 := As0 H
 clear H
 go_enter Try.func15, Try.ntmps15
 go_upto_region 1 with (first | ((with_reducible refine gate_dst (N := 4) rfl ?_); refine bX (N := 4) (cs := #[.int .i64 a0_0, .int .i64 a0_1, .int .i64 a0_2, .slice A0_3 l0_3.length c0_3]) (t := 63) ?_; intro gb308 hg w6 hbox hb; have BK308 := As0 (hbox); have GW308 := As0 ((by rw [hg]; exact (below_size (BU HB.out)) : w.heap.size ≤ gb308)); have GE308 := As0 ((by rw [hg]; exact (below_size (BU HB.out)) : w.heap.size ≤ gb308)); replace HB := As0 (below_step (BU HB.out) hb); clear hb hbox hg))
 (try simp only [Act.put, sL1, sL2, sL3])
 go_cut [22] (fun v22 wc => ∃ (kq : Nat) (x22_4 : Bool), v22 = .bool x22_4 ∧ Aside0 (regcertlaw10_ExecuteMatchesReference.j0 kq l1 a2 a3 x22_4 a0_0 a0_1 a0_2 l0_3 = some r) ∧ Aside0 (kq ≤ k) ∧ Aside0 (wc.heap[gb308]? = some (.cells #[.int .i64 a0_0, .int .i64 a0_1, .int .i64 a0_2, (.slice A0_3 l0_3.length c0_3)] 63 (0, 0))) ∧ Aside0 (Below w.heap.size w wc))
 case first =>
  have H := HC5.out
  clear HC5
  replace H := Option.bind_eq_some_iff.mp H
  obtain ⟨t309, A70, H⟩ := H
  have A7 := As0 A70
  clear A70
  by_cases c8 : t309 = true
  rotate_left
  ·replace c8 := Bool.eq_false_iff.mpr c8
   subst c8
   rw [if_neg (show ¬ (false = true) by decide)] at H
   have H' := As0 H
   clear H
   go_wp2_with (first | ((with_reducible refine gate_callee (f := 44) rfl ?_); refine goesL_ (some 14) rfl rfl Try.func44 (by kernel_rfl) rfl #[] rfl (by (try simp only [List.map_toArray, List.map_cons, List.map_nil]); first | done | rfl | (simp only [List.length_drop, List.length_take]; rfl)) ?_; (with_reducible refine (regcertlaw10_awake.calls k  false _ A7.out).mono ?_); rintro e w13 ⟨rfl, hb⟩; refine ⟨_, rfl, ?_⟩; replace BK308 := As0 (blk_below (bU BK308.out) hb); replace HB := As0 (below_step (BU HB.out) hb); (try clear hb); (try clear hb2); (try clear hk); (try clear hi)))
   go_meet
   case rel => exact ⟨_, (true), (by first | rfl | (simp; done) | (simp [*]; done)), H', ⟨by first | omega | exact Nat.le_refl _⟩, ⟨bU BK308.out⟩, ⟨BU HB.out⟩⟩
  subst c8
  rw [if_pos rfl] at H
  replace H := Option.bind_eq_some_iff.mp H
  obtain ⟨t310, A90, H⟩ := H
  have A9 := As0 A90
  clear A90
  have H' := As0 H
  clear H
  go_wp2_with (first | ((with_reducible refine gate_callee (f := 44) rfl ?_); refine goesL_ (some 14) rfl rfl Try.func44 (by kernel_rfl) rfl #[] rfl (by (try simp only [List.map_toArray, List.map_cons, List.map_nil]); first | done | rfl | (simp only [List.length_drop, List.length_take]; rfl)) ?_; (with_reducible refine (regcertlaw10_awake.calls k  true _ A7.out).mono ?_); rintro e w10 ⟨rfl, hb⟩; refine ⟨_, rfl, ?_⟩; replace BK308 := As0 (blk_below (bU BK308.out) hb); replace HB := As0 (below_step (BU HB.out) hb); (try clear hb); (try clear hb2); (try clear hk); (try clear hi); obtain ⟨hcz11_0, hcz11_1, hcz11_2, hcz11_3, hfz11_0, hfz11_1, hfz11_2, hfz11_3⟩ := cN4 BK308.out) | (go_at_call 45; (with_reducible refine (regcertref10_Right.calls k a0_0 a0_1 a0_2 _ _ l0_3 _ _ l1 a2 t310 _ ?side1 ?side2 ?side3 ?side4 A9.out).mono ?_); (case side1 => repeat (first | exact (Kd.C_below HR0_3.out HB.out) | (with_reducible refine Kd.C_alloc ?_ _) | (with_reducible refine Kd.C_drewN ?_ _) | (with_reducible refine Kd.C_drew ?_))); (case side2 => exact HC0_3.out); (case side3 => repeat (first | exact (Kd.C_below HR1.out HB.out) | (with_reducible refine Kd.C_alloc ?_ _) | (with_reducible refine Kd.C_drewN ?_ _) | (with_reducible refine Kd.C_drew ?_))); (case side4 => exact HC1.out); rintro e w12 ⟨rfl, hb⟩; replace BK308 := As0 (blk_below (bU BK308.out) hb); replace HB := As0 (below_step (BU HB.out) hb); (try clear hb); (try clear hb2); (try clear hk); (try clear hi)))
  go_meet
  case rel => exact ⟨_, (!t310), (by first | rfl | (simp; done) | (simp [*]; done)), H', ⟨by first | omega | exact Nat.le_refl _⟩, ⟨bU BK308.out⟩, ⟨BU HB.out⟩⟩
 case rest =>
  clear HC5
  try clear c1
  try clear p2
  try clear c4
  try clear c8
  try clear hcz11_0
  try clear hcz11_1
  try clear hcz11_2
  try clear hcz11_3
  try clear hfz11_0
  try clear hfz11_1
  try clear hfz11_2
  try clear hfz11_3
  obtain ⟨kq, x22_4, rfl, HA, HJ4, BK308, HB⟩ := hcut
  cases kq with
  | zero => exact absurd HA.out (by simp [regcertlaw10_ExecuteMatchesReference.j0])
  | succ kj4 =>
   have H := HA.out
   clear HA
   simp only [regcertlaw10_ExecuteMatchesReference.j0] at H
   by_cases c14 : x22_4 = true
   ·subst c14
    rw [if_pos rfl] at H
    replace H := Option.bind_eq_some_iff.mp H
    obtain ⟨t311, A150, H⟩ := H
    have A15 := As0 A150
    clear A150
    obtain rfl := Option.some.inj H
    go_wp2_with (first | ((with_reducible refine gate_callee (f := 44) rfl ?_); refine goesL_ (some 23) rfl rfl Try.func44 (by kernel_rfl) rfl #[] rfl (by (try simp only [List.map_toArray, List.map_cons, List.map_nil]); first | done | rfl | (simp only [List.length_drop, List.length_take]; rfl)) ?_; (with_reducible refine (regcertlaw10_awake.calls kj4  t311 _ A15.out).mono ?_); rintro e w16 ⟨rfl, hb⟩; refine ⟨_, rfl, ?_⟩; replace BK308 := As0 (blk_below (bU BK308.out) hb); replace HB := As0 (below_step (BU HB.out) hb); (try clear hb); (try clear hb2); (try clear hk); (try clear hi)))
    go_ret
    exact ⟨by first | rfl | (simp [errW_none, errW_some] <;> rfl) | (simp [*, errW_none, errW_some] <;> rfl), BU HB.out⟩
   replace c14 := Bool.eq_false_iff.mpr c14
   subst c14
   rw [if_neg (show ¬ (false = true) by decide)] at H
   replace H := Option.bind_eq_some_iff.mp H
   obtain ⟨⟨t312, t313, t314, t315, t316, t319, t322, t325, t326⟩, A170, H⟩ := H
   have A17 := As0 A170
   clear A170
   replace H := Option.bind_eq_some_iff.mp H
   obtain ⟨⟨t328, t329, t330, t331, t332, t335, t338, t341, t342⟩, A180, H⟩ := H
   have A18 := As0 A180
   clear A180
   by_cases c19 : (l1.length : Int) = a0_0
   rotate_left
   ·rw [if_neg c19] at H
    have c19b0 : ((l1.length : Int) == a0_0) = false := beq_eq_false_iff_ne.mpr c19
    have c19b1 : ((l1.length : Int) != a0_0) = true := bne_iff_ne.mpr c19
    by_cases c86 : t326 = 32
    rotate_left
    ·rw [if_neg c86] at H
     exact absurd H (by simp)
    rw [if_pos c86] at H
    have c86b0 : (t326 == 32) = true := beq_iff_eq.mpr c86
    have c86b1 : (t326 != 32) = false := bne_eq_false_iff_eq.mpr c86
    clear c86
    by_cases c87 : t342 = 32
    rotate_left
    ·rw [if_neg c87] at H
     exact absurd H (by simp)
    rw [if_pos c87] at H
    have c87b0 : (t342 == 32) = true := beq_iff_eq.mpr c87
    have c87b1 : (t342 != 32) = false := bne_eq_false_iff_eq.mpr c87
    clear c87
    replace H := Option.bind_eq_some_iff.mp H
    obtain ⟨t344, A880, H⟩ := H
    have A88 := As0 A880
    clear A880
    by_cases c89 : t344 = true
    rotate_left
    ·replace c89 := Bool.eq_false_iff.mpr c89
     subst c89
     rw [if_neg (show ¬ (false = true) by decide)] at H
     exact absurd H (by simp)
    subst c89
    rw [if_pos rfl] at H
    replace H := Option.bind_eq_some_iff.mp H
    obtain ⟨t345, A900, H⟩ := H
    have A90 := As0 A900
    clear A900
    obtain rfl := Option.some.inj H
    obtain ⟨hcz91_0, hcz91_1, hcz91_2, hcz91_3, hfz91_0, hfz91_1, hfz91_2, hfz91_3⟩ := cN4 BK308.out
    go_wp2_with (first | ((with_reducible refine gate_callee (f := 46) rfl ?_); refine goesL_ (some 28) rfl rfl Try.func46 (by kernel_rfl) rfl #[.agg #[.int .i64 a0_0, .int .i64 a0_1, .int .i64 a0_2, .slice A0_3 l0_3.length c0_3], .slice A1 l1.length c1, .int .i64 a2] rfl (by (try simp only [List.map_toArray, List.map_cons, List.map_nil]); first | done | rfl | (simp only [List.length_drop, List.length_take]; rfl)) ?_; (with_reducible refine (execute_Exec.calls kj4 a0_0 a0_1 a0_2 _ _ l0_3 _ _ l1 a2 t312 t313 t314 t315 t316 t319 t322 t325 t326 _ ?side1 ?side2 ?side3 ?side4 A17.out).mono ?_); (case side1 => repeat (first | exact (Kd.C_below HR0_3.out HB.out) | (with_reducible refine Kd.C_alloc ?_ _) | (with_reducible refine Kd.C_drewN ?_ _) | (with_reducible refine Kd.C_drew ?_))); (case side2 => exact HC0_3.out); (case side3 => repeat (first | exact (Kd.C_below HR1.out HB.out) | (with_reducible refine Kd.C_alloc ?_ _) | (with_reducible refine Kd.C_drewN ?_ _) | (with_reducible refine Kd.C_drew ?_))); (case side4 => exact HC1.out); rintro e w92 ⟨v317, v320, v323, rfl, ho0, ho1, ho2, hb⟩; refine ⟨_, rfl, ?_⟩; have HO318 := As0 (Kd.R_lower ho0 (below_size (BU HB.out))); have HO321 := As0 (Kd.R_lower ho1 (below_size (BU HB.out))); have HO324 := As0 (Kd.R_lower ho2 (below_size (BU HB.out))); replace BK308 := As0 (blk_below (bU BK308.out) hb); replace HB := As0 (below_step (BU HB.out) hb); (try clear hb); (try clear hb2); (try clear hk); (try clear hi); (try clear ho0); (try clear ho1); (try clear ho2)) | ((with_reducible refine gate_dst (N := 9) rfl ?_); refine bX (N := 9) (cs := #[.int .i64 0, .int .i64 0, .int .i64 0, .int .i64 0, .slice none 0 0, .slice none 0 0, .slice none 0 0, .int .i64 0]) (t := 39) ?_; intro gb327 hg w93 hbox hb; replace HO318 := As0 (Kd.R_below (RU HO318.out) hb); replace HO321 := As0 (Kd.R_below (RU HO321.out) hb); replace HO324 := As0 (Kd.R_below (RU HO324.out) hb); have BK327 := As0 (hbox); have GW327 := As0 ((by rw [hg]; exact (below_size (BU HB.out)) : w.heap.size ≤ gb327)); have GE327 := As0 ((by rw [hg]; exact (below_size (BU HB.out)) : w.heap.size ≤ gb327)); replace HB := As0 (below_step (BU HB.out) hb); have NB308_327 := As0 ((by rw [hg]; exact Nat.ne_of_lt (blk_lt (bU BK308.out)) : gb308 ≠ gb327)); have NB327_308 := As0 ((by rw [hg]; exact Nat.ne_of_gt (blk_lt (bU BK308.out)) : gb327 ≠ gb308)); replace BK308 := As0 (blk_below (bU BK308.out) hb); clear hb hbox hg; have hnb94 := NB327_308.out; have hnc94 := NB308_327.out; obtain ⟨hcz95_0, hcz95_1, hcz95_2, hcz95_3, hcz95_4, hcz95_5, hcz95_6, hcz95_7, hfz95_0, hfz95_1, hfz95_2, hfz95_3, hfz95_4, hfz95_5, hfz95_6, hfz95_7⟩ := cN8 BK327.out; obtain ⟨Ao96, co96, eo96⟩ := Kd.R_slice HO318.out; subst eo96; obtain ⟨Ao97, co97, eo97⟩ := Kd.R_slice HO321.out; subst eo97; obtain ⟨Ao98, co98, eo98⟩ := Kd.R_slice HO324.out; subst eo98; obtain ⟨hcz99_0, hcz99_1, hcz99_2, hcz99_3, hfz99_0, hfz99_1, hfz99_2, hfz99_3⟩ := cN4 BK308.out) | ((with_reducible refine gate_callee (f := 50) rfl ?_); refine goesL_ (some 34) rfl rfl Try.func50 (by kernel_rfl) rfl #[.agg #[.int .i64 a0_0, .int .i64 a0_1, .int .i64 a0_2, .slice A0_3 l0_3.length c0_3], .slice A1 l1.length c1] rfl (by (try simp only [List.map_toArray, List.map_cons, List.map_nil]); first | done | rfl | (simp only [List.length_drop, List.length_take]; rfl)) ?_; (with_reducible refine (execute_Start.calls a0_0 a0_1 a0_2 _ _ l0_3 _ _ l1 t328 t329 t330 t331 t332 t335 t338 t341 t342 _ ?side1 ?side2 ?side3 ?side4 A18.out).mono ?_); (case side1 => exact Kd.C_below HR0_3.out (BU HB.out)); (case side2 => exact HC0_3.out); (case side3 => exact Kd.C_below HR1.out (BU HB.out)); (case side4 => exact HC1.out); rintro e w100 ⟨v333, v336, v339, rfl, ho0, ho1, ho2, hb⟩; refine ⟨_, rfl, ?_⟩; have HO334 := As0 (Kd.R_lower (Kd.R_new' (Kd.R_new' (Kd.R_new' ho0 (Kd.R_lt (RU (Kd.R_mono (R8 (Kd.R_types HO318.out BK327.out (by decide))) (fun _ h_ => h_.1))))) (Kd.R_lt (RU (Kd.R_mono (R8 (Kd.R_types HO321.out BK327.out (by decide))) (fun _ h_ => h_.1))))) (Kd.R_lt (RU (Kd.R_mono (R8 (Kd.R_types HO324.out BK327.out (by decide))) (fun _ h_ => h_.1))))) (below_size (BU HB.out))); have HO337 := As0 (Kd.R_lower (Kd.R_new' (Kd.R_new' (Kd.R_new' ho1 (Kd.R_lt (RU (Kd.R_mono (R8 (Kd.R_types HO318.out BK327.out (by decide))) (fun _ h_ => h_.1))))) (Kd.R_lt (RU (Kd.R_mono (R8 (Kd.R_types HO321.out BK327.out (by decide))) (fun _ h_ => h_.1))))) (Kd.R_lt (RU (Kd.R_mono (R8 (Kd.R_types HO324.out BK327.out (by decide))) (fun _ h_ => h_.1))))) (below_size (BU HB.out))); have HO340 := As0 (Kd.R_lower (Kd.R_new' (Kd.R_new' (Kd.R_new' ho2 (Kd.R_lt (RU (Kd.R_mono (R8 (Kd.R_types HO318.out BK327.out (by decide))) (fun _ h_ => h_.1))))) (Kd.R_lt (RU (Kd.R_mono (R8 (Kd.R_types HO321.out BK327.out (by decide))) (fun _ h_ => h_.1))))) (Kd.R_lt (RU (Kd.R_mono (R8 (Kd.R_types HO324.out BK327.out (by decide))) (fun _ h_ => h_.1))))) (below_size (BU HB.out))); replace HO318 := As0 (Kd.R_mono (Kd.R_told (Kd.R_told (Kd.R_told (Kd.R_old (RU (Kd.R_mono (R8 (Kd.R_types HO318.out BK327.out (by decide))) (fun _ h_ => h_.1))) hb) (Kd.R_base ho0)) (Kd.R_base ho1)) (Kd.R_base ho2)) (fun _ h_ => h_.1)); replace HO321 := As0 (Kd.R_mono (Kd.R_told (Kd.R_told (Kd.R_told (Kd.R_old (RU (Kd.R_mono (R8 (Kd.R_types HO321.out BK327.out (by decide))) (fun _ h_ => h_.1))) hb) (Kd.R_base ho0)) (Kd.R_base ho1)) (Kd.R_base ho2)) (fun _ h_ => h_.1)); replace HO324 := As0 (Kd.R_mono (Kd.R_told (Kd.R_told (Kd.R_told (Kd.R_old (RU (Kd.R_mono (R8 (Kd.R_types HO324.out BK327.out (by decide))) (fun _ h_ => h_.1))) hb) (Kd.R_base ho0)) (Kd.R_base ho1)) (Kd.R_base ho2)) (fun _ h_ => h_.1)); replace BK308 := As0 (blk_below (g := gb308) (o := .cells #[.int .i64 a0_0, .int .i64 a0_1, .int .i64 a0_2, .slice A0_3 l0_3.length c0_3] 63 (0, 0)) (by (with_reducible repeat (first | refine bN ?_ _ | refine bD ?_ | refine bA ?_ _)); refine blk_far ?_ NB308_327.out _; (with_reducible repeat (first | refine bN ?_ _ | refine bD ?_ | refine bA ?_ _)); refine blk_far ?_ NB308_327.out _; (with_reducible repeat (first | refine bN ?_ _ | refine bD ?_ | refine bA ?_ _)); refine blk_far ?_ NB308_327.out _; (with_reducible repeat (first | refine bN ?_ _ | refine bD ?_ | refine bA ?_ _)); refine blk_far ?_ NB308_327.out _; (with_reducible repeat (first | refine bN ?_ _ | refine bD ?_ | refine bA ?_ _)); refine blk_far ?_ NB308_327.out _; (with_reducible repeat (first | refine bN ?_ _ | refine bD ?_ | refine bA ?_ _)); refine blk_far ?_ NB308_327.out _; (with_reducible repeat (first | refine bN ?_ _ | refine bD ?_ | refine bA ?_ _)); refine blk_far ?_ NB308_327.out _; (with_reducible repeat (first | refine bN ?_ _ | refine bD ?_ | refine bA ?_ _)); refine blk_far ?_ NB308_327.out _; (with_reducible repeat (first | refine bN ?_ _ | refine bD ?_ | refine bA ?_ _)); exact BK308.out) hb); replace BK327 := As0 (blk_below (g := gb327) (o := .cells #[.int .i64 t312, .int .i64 t313, .int .i64 t314, .int .i64 t315, .slice Ao96 t316.length co96, .slice Ao97 t319.length co97, .slice Ao98 t322.length co98, .int .i64 t325] 39 (0, 0)) (by (with_reducible repeat (first | refine bN ?_ _ | refine bD ?_ | refine bA ?_ _)); refine blk_put (cs := #[.int .i64 t312, .int .i64 t313, .int .i64 t314, .int .i64 t315, .slice Ao96 t316.length co96, .slice Ao97 t319.length co97, .slice Ao98 t322.length co98, .int .i64 0]) ?_ 7 _ rfl; (with_reducible repeat (first | refine bN ?_ _ | refine bD ?_ | refine bA ?_ _)); refine blk_put (cs := #[.int .i64 t312, .int .i64 t313, .int .i64 t314, .int .i64 t315, .slice Ao96 t316.length co96, .slice Ao97 t319.length co97, .slice none 0 0, .int .i64 0]) ?_ 6 _ rfl; (with_reducible repeat (first | refine bN ?_ _ | refine bD ?_ | refine bA ?_ _)); refine blk_put (cs := #[.int .i64 t312, .int .i64 t313, .int .i64 t314, .int .i64 t315, .slice Ao96 t316.length co96, .slice none 0 0, .slice none 0 0, .int .i64 0]) ?_ 5 _ rfl; (with_reducible repeat (first | refine bN ?_ _ | refine bD ?_ | refine bA ?_ _)); refine blk_put (cs := #[.int .i64 t312, .int .i64 t313, .int .i64 t314, .int .i64 t315, .slice none 0 0, .slice none 0 0, .slice none 0 0, .int .i64 0]) ?_ 4 _ rfl; (with_reducible repeat (first | refine bN ?_ _ | refine bD ?_ | refine bA ?_ _)); refine blk_put (cs := #[.int .i64 t312, .int .i64 t313, .int .i64 t314, .int .i64 0, .slice none 0 0, .slice none 0 0, .slice none 0 0, .int .i64 0]) ?_ 3 _ rfl; (with_reducible repeat (first | refine bN ?_ _ | refine bD ?_ | refine bA ?_ _)); refine blk_put (cs := #[.int .i64 t312, .int .i64 t313, .int .i64 0, .int .i64 0, .slice none 0 0, .slice none 0 0, .slice none 0 0, .int .i64 0]) ?_ 2 _ rfl; (with_reducible repeat (first | refine bN ?_ _ | refine bD ?_ | refine bA ?_ _)); refine blk_put (cs := #[.int .i64 t312, .int .i64 0, .int .i64 0, .int .i64 0, .slice none 0 0, .slice none 0 0, .slice none 0 0, .int .i64 0]) ?_ 1 _ rfl; (with_reducible repeat (first | refine bN ?_ _ | refine bD ?_ | refine bA ?_ _)); refine blk_put (cs := #[.int .i64 0, .int .i64 0, .int .i64 0, .int .i64 0, .slice none 0 0, .slice none 0 0, .slice none 0 0, .int .i64 0]) ?_ 0 _ rfl; (with_reducible repeat (first | refine bN ?_ _ | refine bD ?_ | refine bA ?_ _)); exact BK327.out) hb); replace HB := As0 (below_step (BU HB.out) hb); (try clear hb); (try clear hb2); (try clear hk); (try clear hi); (try clear ho0); (try clear ho1); (try clear ho2)) | ((with_reducible refine gate_dst (N := 11) rfl ?_); refine bX (N := 11) (cs := #[.int .i64 0, .int .i64 0, .int .i64 0, .int .i64 0, .slice none 0 0, .slice none 0 0, .slice none 0 0, .int .i64 0]) (t := 39) ?_; intro gb343 hg w101 hbox hb; replace HO318 := As0 (Kd.R_below (RU HO318.out) hb); replace HO321 := As0 (Kd.R_below (RU HO321.out) hb); replace HO324 := As0 (Kd.R_below (RU HO324.out) hb); replace HO334 := As0 (Kd.R_below (RU HO334.out) hb); replace HO337 := As0 (Kd.R_below (RU HO337.out) hb); replace HO340 := As0 (Kd.R_below (RU HO340.out) hb); have BK343 := As0 (hbox); have GW343 := As0 ((by rw [hg]; exact (below_size (BU HB.out)) : w.heap.size ≤ gb343)); have GE343 := As0 ((by rw [hg]; exact (below_size (BU HB.out)) : w.heap.size ≤ gb343)); replace HB := As0 (below_step (BU HB.out) hb); have NB308_343 := As0 ((by rw [hg]; exact Nat.ne_of_lt (blk_lt (bU BK308.out)) : gb308 ≠ gb343)); have NB343_308 := As0 ((by rw [hg]; exact Nat.ne_of_gt (blk_lt (bU BK308.out)) : gb343 ≠ gb308)); replace BK308 := As0 (blk_below (bU BK308.out) hb); have NB327_343 := As0 ((by rw [hg]; exact Nat.ne_of_lt (blk_lt (bU BK327.out)) : gb327 ≠ gb343)); have NB343_327 := As0 ((by rw [hg]; exact Nat.ne_of_gt (blk_lt (bU BK327.out)) : gb343 ≠ gb327)); replace BK327 := As0 (blk_below (bU BK327.out) hb); clear hb hbox hg; have hnb102 := NB343_308.out; have hnc102 := NB308_343.out; have hnb103 := NB343_327.out; have hnc103 := NB327_343.out; obtain ⟨hcz104_0, hcz104_1, hcz104_2, hcz104_3, hcz104_4, hcz104_5, hcz104_6, hcz104_7, hfz104_0, hfz104_1, hfz104_2, hfz104_3, hfz104_4, hfz104_5, hfz104_6, hfz104_7⟩ := cN8 BK343.out; obtain ⟨Ao105, co105, eo105⟩ := Kd.R_slice HO334.out; subst eo105; obtain ⟨Ao106, co106, eo106⟩ := Kd.R_slice HO337.out; subst eo106; obtain ⟨Ao107, co107, eo107⟩ := Kd.R_slice HO340.out; subst eo107; obtain ⟨hcz108_0, hcz108_1, hcz108_2, hcz108_3, hfz108_0, hfz108_1, hfz108_2, hfz108_3⟩ := cN4 BK308.out; obtain ⟨hcz109_0, hcz109_1, hcz109_2, hcz109_3, hcz109_4, hcz109_5, hcz109_6, hcz109_7, hfz109_0, hfz109_1, hfz109_2, hfz109_3, hfz109_4, hfz109_5, hfz109_6, hfz109_7⟩ := cN8 BK327.out) | (go_at_call 33; (with_reducible refine (?_ : Calls Try.prog 33 #[.agg #[.int .i64 t312, .int .i64 t313, .int .i64 t314, .int .i64 t315, _, _, _, _], _] _ _)); (refine (regcertref09_Same.calls kj4 t312 t313 t314 t315 _ _ t316 _ _ t319 _ _ t322 t325 0 0 0 0 _ _ ([] : List Int) _ _ ([] : List Int) _ _ ([] : List Int) 0 true _ ?side1 ?side2 ?side3 ?side4 ?side5 ?side6 ?side7 ?side8 ?side9 ?side10 ?side11 ?side12 A88.out).mono ?_); (case side1 => refine (Kd.R_reads' (e := 2) (base := w.heap.size) (ok := fun k_ => ((((some k_ ≠ (.slice Ao97 t319.length co97 : Value).ownBlock ∧ some k_ ≠ (.slice Ao98 t322.length co98 : Value).ownBlock) ∧ some k_ ≠ (.slice Ao105 t332.length co105 : Value).ownBlock) ∧ some k_ ≠ (.slice Ao106 t335.length co106 : Value).ownBlock) ∧ some k_ ≠ (.slice Ao107 t338.length co107 : Value).ownBlock)) (n := t316.length) (c := co96) ?_).2.2; exact (RU (Kd.R_mono (R8 (Kd.R_types HO318.out BK343.out (by decide))) (fun _ h_ => h_.1)))); (case side2 => exact (Kd.R_reads' HO318.out).2.1); (case side3 => refine (Kd.R_reads' (e := 2) (base := w.heap.size) (ok := fun k_ => ((((some k_ ≠ (.slice Ao96 t316.length co96 : Value).ownBlock ∧ some k_ ≠ (.slice Ao98 t322.length co98 : Value).ownBlock) ∧ some k_ ≠ (.slice Ao105 t332.length co105 : Value).ownBlock) ∧ some k_ ≠ (.slice Ao106 t335.length co106 : Value).ownBlock) ∧ some k_ ≠ (.slice Ao107 t338.length co107 : Value).ownBlock)) (n := t319.length) (c := co97) ?_).2.2; exact (RU (Kd.R_mono (R8 (Kd.R_types HO321.out BK343.out (by decide))) (fun _ h_ => h_.1)))); (case side4 => exact (Kd.R_reads' HO321.out).2.1); (case side5 => refine (Kd.R_reads' (e := 2) (base := w.heap.size) (ok := fun k_ => ((((some k_ ≠ (.slice Ao96 t316.length co96 : Value).ownBlock ∧ some k_ ≠ (.slice Ao97 t319.length co97 : Value).ownBlock) ∧ some k_ ≠ (.slice Ao105 t332.length co105 : Value).ownBlock) ∧ some k_ ≠ (.slice Ao106 t335.length co106 : Value).ownBlock) ∧ some k_ ≠ (.slice Ao107 t338.length co107 : Value).ownBlock)) (n := t322.length) (c := co98) ?_).2.2; exact (RU (Kd.R_mono (R8 (Kd.R_types HO324.out BK343.out (by decide))) (fun _ h_ => h_.1)))); (case side6 => exact (Kd.R_reads' HO324.out).2.1); (case side7 => exact Kd.C_nil _ _); (case side8 => exact Nat.le_refl _); (case side9 => exact Kd.C_nil _ _); (case side10 => exact Nat.le_refl _); (case side11 => exact Kd.C_nil _ _); (case side12 => exact Nat.le_refl _); rintro e w110 ⟨rfl, hb⟩; replace HO318 := As0 (Kd.R_below (RU (Kd.R_mono (R8 (Kd.R_types HO318.out BK343.out (by decide))) (fun _ h_ => h_.1))) hb); replace HO321 := As0 (Kd.R_below (RU (Kd.R_mono (R8 (Kd.R_types HO321.out BK343.out (by decide))) (fun _ h_ => h_.1))) hb); replace HO324 := As0 (Kd.R_below (RU (Kd.R_mono (R8 (Kd.R_types HO324.out BK343.out (by decide))) (fun _ h_ => h_.1))) hb); replace HO334 := As0 (Kd.R_below (RU (Kd.R_mono (R8 (Kd.R_types HO334.out BK343.out (by decide))) (fun _ h_ => h_.1))) hb); replace HO337 := As0 (Kd.R_below (RU (Kd.R_mono (R8 (Kd.R_types HO337.out BK343.out (by decide))) (fun _ h_ => h_.1))) hb); replace HO340 := As0 (Kd.R_below (RU (Kd.R_mono (R8 (Kd.R_types HO340.out BK343.out (by decide))) (fun _ h_ => h_.1))) hb); replace BK308 := As0 (blk_below (g := gb308) (o := .cells #[.int .i64 a0_0, .int .i64 a0_1, .int .i64 a0_2, .slice A0_3 l0_3.length c0_3] 63 (0, 0)) (by (with_reducible repeat (first | refine bN ?_ _ | refine bD ?_ | refine bA ?_ _)); refine blk_far ?_ NB308_343.out _; (with_reducible repeat (first | refine bN ?_ _ | refine bD ?_ | refine bA ?_ _)); refine blk_far ?_ NB308_343.out _; (with_reducible repeat (first | refine bN ?_ _ | refine bD ?_ | refine bA ?_ _)); refine blk_far ?_ NB308_343.out _; (with_reducible repeat (first | refine bN ?_ _ | refine bD ?_ | refine bA ?_ _)); refine blk_far ?_ NB308_343.out _; (with_reducible repeat (first | refine bN ?_ _ | refine bD ?_ | refine bA ?_ _)); refine blk_far ?_ NB308_343.out _; (with_reducible repeat (first | refine bN ?_ _ | refine bD ?_ | refine bA ?_ _)); refine blk_far ?_ NB308_343.out _; (with_reducible repeat (first | refine bN ?_ _ | refine bD ?_ | refine bA ?_ _)); refine blk_far ?_ NB308_343.out _; (with_reducible repeat (first | refine bN ?_ _ | refine bD ?_ | refine bA ?_ _)); refine blk_far ?_ NB308_343.out _; (with_reducible repeat (first | refine bN ?_ _ | refine bD ?_ | refine bA ?_ _)); exact BK308.out) hb); replace BK327 := As0 (blk_below (g := gb327) (o := .cells #[.int .i64 t312, .int .i64 t313, .int .i64 t314, .int .i64 t315, .slice Ao96 t316.length co96, .slice Ao97 t319.length co97, .slice Ao98 t322.length co98, .int .i64 t325] 39 (0, 0)) (by (with_reducible repeat (first | refine bN ?_ _ | refine bD ?_ | refine bA ?_ _)); refine blk_far ?_ NB327_343.out _; (with_reducible repeat (first | refine bN ?_ _ | refine bD ?_ | refine bA ?_ _)); refine blk_far ?_ NB327_343.out _; (with_reducible repeat (first | refine bN ?_ _ | refine bD ?_ | refine bA ?_ _)); refine blk_far ?_ NB327_343.out _; (with_reducible repeat (first | refine bN ?_ _ | refine bD ?_ | refine bA ?_ _)); refine blk_far ?_ NB327_343.out _; (with_reducible repeat (first | refine bN ?_ _ | refine bD ?_ | refine bA ?_ _)); refine blk_far ?_ NB327_343.out _; (with_reducible repeat (first | refine bN ?_ _ | refine bD ?_ | refine bA ?_ _)); refine blk_far ?_ NB327_343.out _; (with_reducible repeat (first | refine bN ?_ _ | refine bD ?_ | refine bA ?_ _)); refine blk_far ?_ NB327_343.out _; (with_reducible repeat (first | refine bN ?_ _ | refine bD ?_ | refine bA ?_ _)); refine blk_far ?_ NB327_343.out _; (with_reducible repeat (first | refine bN ?_ _ | refine bD ?_ | refine bA ?_ _)); exact BK327.out) hb); replace BK343 := As0 (blk_below (g := gb343) (o := .cells #[.int .i64 t328, .int .i64 t329, .int .i64 t330, .int .i64 t331, .slice Ao105 t332.length co105, .slice Ao106 t335.length co106, .slice Ao107 t338.length co107, .int .i64 t341] 39 (0, 0)) (by (with_reducible repeat (first | refine bN ?_ _ | refine bD ?_ | refine bA ?_ _)); refine blk_put (cs := #[.int .i64 t328, .int .i64 t329, .int .i64 t330, .int .i64 t331, .slice Ao105 t332.length co105, .slice Ao106 t335.length co106, .slice Ao107 t338.length co107, .int .i64 0]) ?_ 7 _ rfl; (with_reducible repeat (first | refine bN ?_ _ | refine bD ?_ | refine bA ?_ _)); refine blk_put (cs := #[.int .i64 t328, .int .i64 t329, .int .i64 t330, .int .i64 t331, .slice Ao105 t332.length co105, .slice Ao106 t335.length co106, .slice none 0 0, .int .i64 0]) ?_ 6 _ rfl; (with_reducible repeat (first | refine bN ?_ _ | refine bD ?_ | refine bA ?_ _)); refine blk_put (cs := #[.int .i64 t328, .int .i64 t329, .int .i64 t330, .int .i64 t331, .slice Ao105 t332.length co105, .slice none 0 0, .slice none 0 0, .int .i64 0]) ?_ 5 _ rfl; (with_reducible repeat (first | refine bN ?_ _ | refine bD ?_ | refine bA ?_ _)); refine blk_put (cs := #[.int .i64 t328, .int .i64 t329, .int .i64 t330, .int .i64 t331, .slice none 0 0, .slice none 0 0, .slice none 0 0, .int .i64 0]) ?_ 4 _ rfl; (with_reducible repeat (first | refine bN ?_ _ | refine bD ?_ | refine bA ?_ _)); refine blk_put (cs := #[.int .i64 t328, .int .i64 t329, .int .i64 t330, .int .i64 0, .slice none 0 0, .slice none 0 0, .slice none 0 0, .int .i64 0]) ?_ 3 _ rfl; (with_reducible repeat (first | refine bN ?_ _ | refine bD ?_ | refine bA ?_ _)); refine blk_put (cs := #[.int .i64 t328, .int .i64 t329, .int .i64 0, .int .i64 0, .slice none 0 0, .slice none 0 0, .slice none 0 0, .int .i64 0]) ?_ 2 _ rfl; (with_reducible repeat (first | refine bN ?_ _ | refine bD ?_ | refine bA ?_ _)); refine blk_put (cs := #[.int .i64 t328, .int .i64 0, .int .i64 0, .int .i64 0, .slice none 0 0, .slice none 0 0, .slice none 0 0, .int .i64 0]) ?_ 1 _ rfl; (with_reducible repeat (first | refine bN ?_ _ | refine bD ?_ | refine bA ?_ _)); refine blk_put (cs := #[.int .i64 0, .int .i64 0, .int .i64 0, .int .i64 0, .slice none 0 0, .slice none 0 0, .slice none 0 0, .int .i64 0]) ?_ 0 _ rfl; (with_reducible repeat (first | refine bN ?_ _ | refine bD ?_ | refine bA ?_ _)); exact BK343.out) hb); replace HB := As0 (below_step (BU HB.out) hb); (try clear hb); (try clear hb2); (try clear hk); (try clear hi); obtain ⟨hcz111_0, hcz111_1, hcz111_2, hcz111_3, hcz111_4, hcz111_5, hcz111_6, hcz111_7, hfz111_0, hfz111_1, hfz111_2, hfz111_3, hfz111_4, hfz111_5, hfz111_6, hfz111_7⟩ := cN8 BK343.out) | (go_at_call 33; (with_reducible refine (?_ : Calls Try.prog 33 #[.agg #[.int .i64 t328, .int .i64 t329, .int .i64 t330, .int .i64 t331, _, _, _, _], _] _ _)); (refine (regcertref09_Same.calls kj4 t328 t329 t330 t331 _ _ t332 _ _ t335 _ _ t338 t341 0 0 0 0 _ _ ([] : List Int) _ _ ([] : List Int) _ _ ([] : List Int) 0 t345 _ ?side1 ?side2 ?side3 ?side4 ?side5 ?side6 ?side7 ?side8 ?side9 ?side10 ?side11 ?side12 A90.out).mono ?_); (case side1 => repeat (first | exact (Kd.R_reads' HO334.out).2.2 | (with_reducible refine Kd.C_alloc ?_ _) | (with_reducible refine Kd.C_drewN ?_ _) | (with_reducible refine Kd.C_drew ?_))); (case side2 => exact (Kd.R_reads' HO334.out).2.1); (case side3 => repeat (first | exact (Kd.R_reads' HO337.out).2.2 | (with_reducible refine Kd.C_alloc ?_ _) | (with_reducible refine Kd.C_drewN ?_ _) | (with_reducible refine Kd.C_drew ?_))); (case side4 => exact (Kd.R_reads' HO337.out).2.1); (case side5 => repeat (first | exact (Kd.R_reads' HO340.out).2.2 | (with_reducible refine Kd.C_alloc ?_ _) | (with_reducible refine Kd.C_drewN ?_ _) | (with_reducible refine Kd.C_drew ?_))); (case side6 => exact (Kd.R_reads' HO340.out).2.1); (case side7 => exact Kd.C_nil _ _); (case side8 => exact Nat.le_refl _); (case side9 => exact Kd.C_nil _ _); (case side10 => exact Nat.le_refl _); (case side11 => exact Kd.C_nil _ _); (case side12 => exact Nat.le_refl _); rintro e w112 ⟨rfl, hb⟩; replace HO318 := As0 (Kd.R_below (RU HO318.out) hb); replace HO321 := As0 (Kd.R_below (RU HO321.out) hb); replace HO324 := As0 (Kd.R_below (RU HO324.out) hb); replace HO334 := As0 (Kd.R_below (RU HO334.out) hb); replace HO337 := As0 (Kd.R_below (RU HO337.out) hb); replace HO340 := As0 (Kd.R_below (RU HO340.out) hb); replace BK308 := As0 (blk_below (bU BK308.out) hb); replace BK327 := As0 (blk_below (bU BK327.out) hb); replace BK343 := As0 (blk_below (bU BK343.out) hb); replace HB := As0 (below_step (BU HB.out) hb); (try clear hb); (try clear hb2); (try clear hk); (try clear hi)))
    go_ret
    exact ⟨by first | rfl | (simp [errW_none, errW_some] <;> rfl) | (simp [*, errW_none, errW_some] <;> rfl), BU HB.out⟩
   rw [if_pos c19] at H
   have c19b0 : ((l1.length : Int) == a0_0) = true := beq_iff_eq.mpr c19
   have c19b1 : ((l1.length : Int) != a0_0) = false := bne_eq_false_iff_eq.mpr c19
   clear c19
   replace H := Option.bind_eq_some_iff.mp H
   obtain ⟨⟨t346, t347, t348, t349, t350, t353, t356, t359⟩, A200, H⟩ := H
   have A20 := As0 A200
   clear A200
   have HC21 := As0 H
   clear H
   obtain ⟨hcz22_0, hcz22_1, hcz22_2, hcz22_3, hfz22_0, hfz22_1, hfz22_2, hfz22_3⟩ := cN4 BK308.out
   go_upto_region 8 with (first | ((with_reducible refine gate_callee (f := 46) rfl ?_); refine goesL_ (some 28) rfl rfl Try.func46 (by kernel_rfl) rfl #[.agg #[.int .i64 a0_0, .int .i64 a0_1, .int .i64 a0_2, .slice A0_3 l0_3.length c0_3], .slice A1 l1.length c1, .int .i64 a2] rfl (by (try simp only [List.map_toArray, List.map_cons, List.map_nil]); first | done | rfl | (simp only [List.length_drop, List.length_take]; rfl)) ?_; (with_reducible refine (execute_Exec.calls kj4 a0_0 a0_1 a0_2 _ _ l0_3 _ _ l1 a2 t312 t313 t314 t315 t316 t319 t322 t325 t326 _ ?side1 ?side2 ?side3 ?side4 A17.out).mono ?_); (case side1 => repeat (first | exact (Kd.C_below HR0_3.out HB.out) | (with_reducible refine Kd.C_alloc ?_ _) | (with_reducible refine Kd.C_drewN ?_ _) | (with_reducible refine Kd.C_drew ?_))); (case side2 => exact HC0_3.out); (case side3 => repeat (first | exact (Kd.C_below HR1.out HB.out) | (with_reducible refine Kd.C_alloc ?_ _) | (with_reducible refine Kd.C_drewN ?_ _) | (with_reducible refine Kd.C_drew ?_))); (case side4 => exact HC1.out); rintro e w23 ⟨v317, v320, v323, rfl, ho0, ho1, ho2, hb⟩; refine ⟨_, rfl, ?_⟩; have HO318 := As0 (Kd.R_lower ho0 (below_size (BU HB.out))); have HO321 := As0 (Kd.R_lower ho1 (below_size (BU HB.out))); have HO324 := As0 (Kd.R_lower ho2 (below_size (BU HB.out))); replace BK308 := As0 (blk_below (bU BK308.out) hb); replace HB := As0 (below_step (BU HB.out) hb); (try clear hb); (try clear hb2); (try clear hk); (try clear hi); (try clear ho0); (try clear ho1); (try clear ho2)) | ((with_reducible refine gate_dst (N := 9) rfl ?_); refine bX (N := 9) (cs := #[.int .i64 0, .int .i64 0, .int .i64 0, .int .i64 0, .slice none 0 0, .slice none 0 0, .slice none 0 0, .int .i64 0]) (t := 39) ?_; intro gb327 hg w24 hbox hb; replace HO318 := As0 (Kd.R_below (RU HO318.out) hb); replace HO321 := As0 (Kd.R_below (RU HO321.out) hb); replace HO324 := As0 (Kd.R_below (RU HO324.out) hb); have BK327 := As0 (hbox); have GW327 := As0 ((by rw [hg]; exact (below_size (BU HB.out)) : w.heap.size ≤ gb327)); have GE327 := As0 ((by rw [hg]; exact (below_size (BU HB.out)) : w.heap.size ≤ gb327)); replace HB := As0 (below_step (BU HB.out) hb); have NB308_327 := As0 ((by rw [hg]; exact Nat.ne_of_lt (blk_lt (bU BK308.out)) : gb308 ≠ gb327)); have NB327_308 := As0 ((by rw [hg]; exact Nat.ne_of_gt (blk_lt (bU BK308.out)) : gb327 ≠ gb308)); replace BK308 := As0 (blk_below (bU BK308.out) hb); clear hb hbox hg; have hnb25 := NB327_308.out; have hnc25 := NB308_327.out; obtain ⟨hcz26_0, hcz26_1, hcz26_2, hcz26_3, hcz26_4, hcz26_5, hcz26_6, hcz26_7, hfz26_0, hfz26_1, hfz26_2, hfz26_3, hfz26_4, hfz26_5, hfz26_6, hfz26_7⟩ := cN8 BK327.out; obtain ⟨Ao27, co27, eo27⟩ := Kd.R_slice HO318.out; subst eo27; obtain ⟨Ao28, co28, eo28⟩ := Kd.R_slice HO321.out; subst eo28; obtain ⟨Ao29, co29, eo29⟩ := Kd.R_slice HO324.out; subst eo29; obtain ⟨hcz30_0, hcz30_1, hcz30_2, hcz30_3, hfz30_0, hfz30_1, hfz30_2, hfz30_3⟩ := cN4 BK308.out) | ((with_reducible refine gate_callee (f := 50) rfl ?_); refine goesL_ (some 34) rfl rfl Try.func50 (by kernel_rfl) rfl #[.agg #[.int .i64 a0_0, .int .i64 a0_1, .int .i64 a0_2, .slice A0_3 l0_3.length c0_3], .slice A1 l1.length c1] rfl (by (try simp only [List.map_toArray, List.map_cons, List.map_nil]); first | done | rfl | (simp only [List.length_drop, List.length_take]; rfl)) ?_; (with_reducible refine (execute_Start.calls a0_0 a0_1 a0_2 _ _ l0_3 _ _ l1 t328 t329 t330 t331 t332 t335 t338 t341 t342 _ ?side1 ?side2 ?side3 ?side4 A18.out).mono ?_); (case side1 => exact Kd.C_below HR0_3.out (BU HB.out)); (case side2 => exact HC0_3.out); (case side3 => exact Kd.C_below HR1.out (BU HB.out)); (case side4 => exact HC1.out); rintro e w31 ⟨v333, v336, v339, rfl, ho0, ho1, ho2, hb⟩; refine ⟨_, rfl, ?_⟩; have HO334 := As0 (Kd.R_lower (Kd.R_new' (Kd.R_new' (Kd.R_new' ho0 (Kd.R_lt (RU (Kd.R_mono (R8 (Kd.R_types HO318.out BK327.out (by decide))) (fun _ h_ => h_.1))))) (Kd.R_lt (RU (Kd.R_mono (R8 (Kd.R_types HO321.out BK327.out (by decide))) (fun _ h_ => h_.1))))) (Kd.R_lt (RU (Kd.R_mono (R8 (Kd.R_types HO324.out BK327.out (by decide))) (fun _ h_ => h_.1))))) (below_size (BU HB.out))); have HO337 := As0 (Kd.R_lower (Kd.R_new' (Kd.R_new' (Kd.R_new' ho1 (Kd.R_lt (RU (Kd.R_mono (R8 (Kd.R_types HO318.out BK327.out (by decide))) (fun _ h_ => h_.1))))) (Kd.R_lt (RU (Kd.R_mono (R8 (Kd.R_types HO321.out BK327.out (by decide))) (fun _ h_ => h_.1))))) (Kd.R_lt (RU (Kd.R_mono (R8 (Kd.R_types HO324.out BK327.out (by decide))) (fun _ h_ => h_.1))))) (below_size (BU HB.out))); have HO340 := As0 (Kd.R_lower (Kd.R_new' (Kd.R_new' (Kd.R_new' ho2 (Kd.R_lt (RU (Kd.R_mono (R8 (Kd.R_types HO318.out BK327.out (by decide))) (fun _ h_ => h_.1))))) (Kd.R_lt (RU (Kd.R_mono (R8 (Kd.R_types HO321.out BK327.out (by decide))) (fun _ h_ => h_.1))))) (Kd.R_lt (RU (Kd.R_mono (R8 (Kd.R_types HO324.out BK327.out (by decide))) (fun _ h_ => h_.1))))) (below_size (BU HB.out))); replace HO318 := As0 (Kd.R_mono (Kd.R_told (Kd.R_told (Kd.R_told (Kd.R_old (RU (Kd.R_mono (R8 (Kd.R_types HO318.out BK327.out (by decide))) (fun _ h_ => h_.1))) hb) (Kd.R_base ho0)) (Kd.R_base ho1)) (Kd.R_base ho2)) (fun _ h_ => h_.1)); replace HO321 := As0 (Kd.R_mono (Kd.R_told (Kd.R_told (Kd.R_told (Kd.R_old (RU (Kd.R_mono (R8 (Kd.R_types HO321.out BK327.out (by decide))) (fun _ h_ => h_.1))) hb) (Kd.R_base ho0)) (Kd.R_base ho1)) (Kd.R_base ho2)) (fun _ h_ => h_.1)); replace HO324 := As0 (Kd.R_mono (Kd.R_told (Kd.R_told (Kd.R_told (Kd.R_old (RU (Kd.R_mono (R8 (Kd.R_types HO324.out BK327.out (by decide))) (fun _ h_ => h_.1))) hb) (Kd.R_base ho0)) (Kd.R_base ho1)) (Kd.R_base ho2)) (fun _ h_ => h_.1)); replace BK308 := As0 (blk_below (g := gb308) (o := .cells #[.int .i64 a0_0, .int .i64 a0_1, .int .i64 a0_2, .slice A0_3 l0_3.length c0_3] 63 (0, 0)) (by (with_reducible repeat (first | refine bN ?_ _ | refine bD ?_ | refine bA ?_ _)); refine blk_far ?_ NB308_327.out _; (with_reducible repeat (first | refine bN ?_ _ | refine bD ?_ | refine bA ?_ _)); refine blk_far ?_ NB308_327.out _; (with_reducible repeat (first | refine bN ?_ _ | refine bD ?_ | refine bA ?_ _)); refine blk_far ?_ NB308_327.out _; (with_reducible repeat (first | refine bN ?_ _ | refine bD ?_ | refine bA ?_ _)); refine blk_far ?_ NB308_327.out _; (with_reducible repeat (first | refine bN ?_ _ | refine bD ?_ | refine bA ?_ _)); refine blk_far ?_ NB308_327.out _; (with_reducible repeat (first | refine bN ?_ _ | refine bD ?_ | refine bA ?_ _)); refine blk_far ?_ NB308_327.out _; (with_reducible repeat (first | refine bN ?_ _ | refine bD ?_ | refine bA ?_ _)); refine blk_far ?_ NB308_327.out _; (with_reducible repeat (first | refine bN ?_ _ | refine bD ?_ | refine bA ?_ _)); refine blk_far ?_ NB308_327.out _; (with_reducible repeat (first | refine bN ?_ _ | refine bD ?_ | refine bA ?_ _)); exact BK308.out) hb); replace BK327 := As0 (blk_below (g := gb327) (o := .cells #[.int .i64 t312, .int .i64 t313, .int .i64 t314, .int .i64 t315, .slice Ao27 t316.length co27, .slice Ao28 t319.length co28, .slice Ao29 t322.length co29, .int .i64 t325] 39 (0, 0)) (by (with_reducible repeat (first | refine bN ?_ _ | refine bD ?_ | refine bA ?_ _)); refine blk_put (cs := #[.int .i64 t312, .int .i64 t313, .int .i64 t314, .int .i64 t315, .slice Ao27 t316.length co27, .slice Ao28 t319.length co28, .slice Ao29 t322.length co29, .int .i64 0]) ?_ 7 _ rfl; (with_reducible repeat (first | refine bN ?_ _ | refine bD ?_ | refine bA ?_ _)); refine blk_put (cs := #[.int .i64 t312, .int .i64 t313, .int .i64 t314, .int .i64 t315, .slice Ao27 t316.length co27, .slice Ao28 t319.length co28, .slice none 0 0, .int .i64 0]) ?_ 6 _ rfl; (with_reducible repeat (first | refine bN ?_ _ | refine bD ?_ | refine bA ?_ _)); refine blk_put (cs := #[.int .i64 t312, .int .i64 t313, .int .i64 t314, .int .i64 t315, .slice Ao27 t316.length co27, .slice none 0 0, .slice none 0 0, .int .i64 0]) ?_ 5 _ rfl; (with_reducible repeat (first | refine bN ?_ _ | refine bD ?_ | refine bA ?_ _)); refine blk_put (cs := #[.int .i64 t312, .int .i64 t313, .int .i64 t314, .int .i64 t315, .slice none 0 0, .slice none 0 0, .slice none 0 0, .int .i64 0]) ?_ 4 _ rfl; (with_reducible repeat (first | refine bN ?_ _ | refine bD ?_ | refine bA ?_ _)); refine blk_put (cs := #[.int .i64 t312, .int .i64 t313, .int .i64 t314, .int .i64 0, .slice none 0 0, .slice none 0 0, .slice none 0 0, .int .i64 0]) ?_ 3 _ rfl; (with_reducible repeat (first | refine bN ?_ _ | refine bD ?_ | refine bA ?_ _)); refine blk_put (cs := #[.int .i64 t312, .int .i64 t313, .int .i64 0, .int .i64 0, .slice none 0 0, .slice none 0 0, .slice none 0 0, .int .i64 0]) ?_ 2 _ rfl; (with_reducible repeat (first | refine bN ?_ _ | refine bD ?_ | refine bA ?_ _)); refine blk_put (cs := #[.int .i64 t312, .int .i64 0, .int .i64 0, .int .i64 0, .slice none 0 0, .slice none 0 0, .slice none 0 0, .int .i64 0]) ?_ 1 _ rfl; (with_reducible repeat (first | refine bN ?_ _ | refine bD ?_ | refine bA ?_ _)); refine blk_put (cs := #[.int .i64 0, .int .i64 0, .int .i64 0, .int .i64 0, .slice none 0 0, .slice none 0 0, .slice none 0 0, .int .i64 0]) ?_ 0 _ rfl; (with_reducible repeat (first | refine bN ?_ _ | refine bD ?_ | refine bA ?_ _)); exact BK327.out) hb); replace HB := As0 (below_step (BU HB.out) hb); (try clear hb); (try clear hb2); (try clear hk); (try clear hi); (try clear ho0); (try clear ho1); (try clear ho2)) | ((with_reducible refine gate_dst (N := 11) rfl ?_); refine bX (N := 11) (cs := #[.int .i64 0, .int .i64 0, .int .i64 0, .int .i64 0, .slice none 0 0, .slice none 0 0, .slice none 0 0, .int .i64 0]) (t := 39) ?_; intro gb343 hg w32 hbox hb; replace HO318 := As0 (Kd.R_below (RU HO318.out) hb); replace HO321 := As0 (Kd.R_below (RU HO321.out) hb); replace HO324 := As0 (Kd.R_below (RU HO324.out) hb); replace HO334 := As0 (Kd.R_below (RU HO334.out) hb); replace HO337 := As0 (Kd.R_below (RU HO337.out) hb); replace HO340 := As0 (Kd.R_below (RU HO340.out) hb); have BK343 := As0 (hbox); have GW343 := As0 ((by rw [hg]; exact (below_size (BU HB.out)) : w.heap.size ≤ gb343)); have GE343 := As0 ((by rw [hg]; exact (below_size (BU HB.out)) : w.heap.size ≤ gb343)); replace HB := As0 (below_step (BU HB.out) hb); have NB308_343 := As0 ((by rw [hg]; exact Nat.ne_of_lt (blk_lt (bU BK308.out)) : gb308 ≠ gb343)); have NB343_308 := As0 ((by rw [hg]; exact Nat.ne_of_gt (blk_lt (bU BK308.out)) : gb343 ≠ gb308)); replace BK308 := As0 (blk_below (bU BK308.out) hb); have NB327_343 := As0 ((by rw [hg]; exact Nat.ne_of_lt (blk_lt (bU BK327.out)) : gb327 ≠ gb343)); have NB343_327 := As0 ((by rw [hg]; exact Nat.ne_of_gt (blk_lt (bU BK327.out)) : gb343 ≠ gb327)); replace BK327 := As0 (blk_below (bU BK327.out) hb); clear hb hbox hg; have hnb33 := NB343_308.out; have hnc33 := NB308_343.out; have hnb34 := NB343_327.out; have hnc34 := NB327_343.out; obtain ⟨hcz35_0, hcz35_1, hcz35_2, hcz35_3, hcz35_4, hcz35_5, hcz35_6, hcz35_7, hfz35_0, hfz35_1, hfz35_2, hfz35_3, hfz35_4, hfz35_5, hfz35_6, hfz35_7⟩ := cN8 BK343.out; obtain ⟨Ao36, co36, eo36⟩ := Kd.R_slice HO334.out; subst eo36; obtain ⟨Ao37, co37, eo37⟩ := Kd.R_slice HO337.out; subst eo37; obtain ⟨Ao38, co38, eo38⟩ := Kd.R_slice HO340.out; subst eo38; obtain ⟨hcz39_0, hcz39_1, hcz39_2, hcz39_3, hfz39_0, hfz39_1, hfz39_2, hfz39_3⟩ := cN4 BK308.out) | ((with_reducible refine gate_callee (f := 51) rfl ?_); refine goesL_ (some 61) rfl rfl Try.func51 (by kernel_rfl) rfl #[.agg #[.int .i64 a0_0, .int .i64 a0_1, .int .i64 a0_2, .slice A0_3 l0_3.length c0_3], .slice A1 l1.length c1, .int .i64 a2] rfl (by (try simp only [List.map_toArray, List.map_cons, List.map_nil]); first | done | rfl | (simp only [List.length_drop, List.length_take]; rfl)) ?_; (with_reducible refine (regcertref10_Exec.calls kj4 a0_0 a0_1 a0_2 _ _ l0_3 _ _ l1 a2 t346 t347 t348 t349 t350 t353 t356 t359 _ ?side1 ?side2 ?side3 ?side4 A20.out).mono ?_); (case side1 => exact Kd.C_below HR0_3.out (BU HB.out)); (case side2 => exact HC0_3.out); (case side3 => exact Kd.C_below HR1.out (BU HB.out)); (case side4 => exact HC1.out); rintro e w40 ⟨v351, v354, v357, rfl, ho0, ho1, ho2, hb⟩; refine ⟨_, rfl, ?_⟩; have HO352 := As0 (Kd.R_lower (Kd.R_new' (Kd.R_new' (Kd.R_new' (Kd.R_new' (Kd.R_new' (Kd.R_new' ho0 (Kd.R_lt (RU (Kd.R_mono (R8 (Kd.R_types HO318.out BK343.out (by decide))) (fun _ h_ => h_.1))))) (Kd.R_lt (RU (Kd.R_mono (R8 (Kd.R_types HO321.out BK343.out (by decide))) (fun _ h_ => h_.1))))) (Kd.R_lt (RU (Kd.R_mono (R8 (Kd.R_types HO324.out BK343.out (by decide))) (fun _ h_ => h_.1))))) (Kd.R_lt (RU (Kd.R_mono (R8 (Kd.R_types HO334.out BK343.out (by decide))) (fun _ h_ => h_.1))))) (Kd.R_lt (RU (Kd.R_mono (R8 (Kd.R_types HO337.out BK343.out (by decide))) (fun _ h_ => h_.1))))) (Kd.R_lt (RU (Kd.R_mono (R8 (Kd.R_types HO340.out BK343.out (by decide))) (fun _ h_ => h_.1))))) (below_size (BU HB.out))); have HO355 := As0 (Kd.R_lower (Kd.R_new' (Kd.R_new' (Kd.R_new' (Kd.R_new' (Kd.R_new' (Kd.R_new' ho1 (Kd.R_lt (RU (Kd.R_mono (R8 (Kd.R_types HO318.out BK343.out (by decide))) (fun _ h_ => h_.1))))) (Kd.R_lt (RU (Kd.R_mono (R8 (Kd.R_types HO321.out BK343.out (by decide))) (fun _ h_ => h_.1))))) (Kd.R_lt (RU (Kd.R_mono (R8 (Kd.R_types HO324.out BK343.out (by decide))) (fun _ h_ => h_.1))))) (Kd.R_lt (RU (Kd.R_mono (R8 (Kd.R_types HO334.out BK343.out (by decide))) (fun _ h_ => h_.1))))) (Kd.R_lt (RU (Kd.R_mono (R8 (Kd.R_types HO337.out BK343.out (by decide))) (fun _ h_ => h_.1))))) (Kd.R_lt (RU (Kd.R_mono (R8 (Kd.R_types HO340.out BK343.out (by decide))) (fun _ h_ => h_.1))))) (below_size (BU HB.out))); have HO358 := As0 (Kd.R_lower (Kd.R_new' (Kd.R_new' (Kd.R_new' (Kd.R_new' (Kd.R_new' (Kd.R_new' ho2 (Kd.R_lt (RU (Kd.R_mono (R8 (Kd.R_types HO318.out BK343.out (by decide))) (fun _ h_ => h_.1))))) (Kd.R_lt (RU (Kd.R_mono (R8 (Kd.R_types HO321.out BK343.out (by decide))) (fun _ h_ => h_.1))))) (Kd.R_lt (RU (Kd.R_mono (R8 (Kd.R_types HO324.out BK343.out (by decide))) (fun _ h_ => h_.1))))) (Kd.R_lt (RU (Kd.R_mono (R8 (Kd.R_types HO334.out BK343.out (by decide))) (fun _ h_ => h_.1))))) (Kd.R_lt (RU (Kd.R_mono (R8 (Kd.R_types HO337.out BK343.out (by decide))) (fun _ h_ => h_.1))))) (Kd.R_lt (RU (Kd.R_mono (R8 (Kd.R_types HO340.out BK343.out (by decide))) (fun _ h_ => h_.1))))) (below_size (BU HB.out))); replace HO318 := As0 (Kd.R_mono (Kd.R_told (Kd.R_told (Kd.R_told (Kd.R_old (RU (Kd.R_mono (R8 (Kd.R_types HO318.out BK343.out (by decide))) (fun _ h_ => h_.1))) hb) (Kd.R_base ho0)) (Kd.R_base ho1)) (Kd.R_base ho2)) (fun _ h_ => h_.1)); replace HO321 := As0 (Kd.R_mono (Kd.R_told (Kd.R_told (Kd.R_told (Kd.R_old (RU (Kd.R_mono (R8 (Kd.R_types HO321.out BK343.out (by decide))) (fun _ h_ => h_.1))) hb) (Kd.R_base ho0)) (Kd.R_base ho1)) (Kd.R_base ho2)) (fun _ h_ => h_.1)); replace HO324 := As0 (Kd.R_mono (Kd.R_told (Kd.R_told (Kd.R_told (Kd.R_old (RU (Kd.R_mono (R8 (Kd.R_types HO324.out BK343.out (by decide))) (fun _ h_ => h_.1))) hb) (Kd.R_base ho0)) (Kd.R_base ho1)) (Kd.R_base ho2)) (fun _ h_ => h_.1)); replace HO334 := As0 (Kd.R_mono (Kd.R_told (Kd.R_told (Kd.R_told (Kd.R_old (RU (Kd.R_mono (R8 (Kd.R_types HO334.out BK343.out (by decide))) (fun _ h_ => h_.1))) hb) (Kd.R_base ho0)) (Kd.R_base ho1)) (Kd.R_base ho2)) (fun _ h_ => h_.1)); replace HO337 := As0 (Kd.R_mono (Kd.R_told (Kd.R_told (Kd.R_told (Kd.R_old (RU (Kd.R_mono (R8 (Kd.R_types HO337.out BK343.out (by decide))) (fun _ h_ => h_.1))) hb) (Kd.R_base ho0)) (Kd.R_base ho1)) (Kd.R_base ho2)) (fun _ h_ => h_.1)); replace HO340 := As0 (Kd.R_mono (Kd.R_told (Kd.R_told (Kd.R_told (Kd.R_old (RU (Kd.R_mono (R8 (Kd.R_types HO340.out BK343.out (by decide))) (fun _ h_ => h_.1))) hb) (Kd.R_base ho0)) (Kd.R_base ho1)) (Kd.R_base ho2)) (fun _ h_ => h_.1)); replace BK308 := As0 (blk_below (g := gb308) (o := .cells #[.int .i64 a0_0, .int .i64 a0_1, .int .i64 a0_2, .slice A0_3 l0_3.length c0_3] 63 (0, 0)) (by (with_reducible repeat (first | refine bN ?_ _ | refine bD ?_ | refine bA ?_ _)); refine blk_far ?_ NB308_343.out _; (with_reducible repeat (first | refine bN ?_ _ | refine bD ?_ | refine bA ?_ _)); refine blk_far ?_ NB308_343.out _; (with_reducible repeat (first | refine bN ?_ _ | refine bD ?_ | refine bA ?_ _)); refine blk_far ?_ NB308_343.out _; (with_reducible repeat (first | refine bN ?_ _ | refine bD ?_ | refine bA ?_ _)); refine blk_far ?_ NB308_343.out _; (with_reducible repeat (first | refine bN ?_ _ | refine bD ?_ | refine bA ?_ _)); refine blk_far ?_ NB308_343.out _; (with_reducible repeat (first | refine bN ?_ _ | refine bD ?_ | refine bA ?_ _)); refine blk_far ?_ NB308_343.out _; (with_reducible repeat (first | refine bN ?_ _ | refine bD ?_ | refine bA ?_ _)); refine blk_far ?_ NB308_343.out _; (with_reducible repeat (first | refine bN ?_ _ | refine bD ?_ | refine bA ?_ _)); refine blk_far ?_ NB308_343.out _; (with_reducible repeat (first | refine bN ?_ _ | refine bD ?_ | refine bA ?_ _)); exact BK308.out) hb); replace BK327 := As0 (blk_below (g := gb327) (o := .cells #[.int .i64 t312, .int .i64 t313, .int .i64 t314, .int .i64 t315, .slice Ao27 t316.length co27, .slice Ao28 t319.length co28, .slice Ao29 t322.length co29, .int .i64 t325] 39 (0, 0)) (by (with_reducible repeat (first | refine bN ?_ _ | refine bD ?_ | refine bA ?_ _)); refine blk_far ?_ NB327_343.out _; (with_reducible repeat (first | refine bN ?_ _ | refine bD ?_ | refine bA ?_ _)); refine blk_far ?_ NB327_343.out _; (with_reducible repeat (first | refine bN ?_ _ | refine bD ?_ | refine bA ?_ _)); refine blk_far ?_ NB327_343.out _; (with_reducible repeat (first | refine bN ?_ _ | refine bD ?_ | refine bA ?_ _)); refine blk_far ?_ NB327_343.out _; (with_reducible repeat (first | refine bN ?_ _ | refine bD ?_ | refine bA ?_ _)); refine blk_far ?_ NB327_343.out _; (with_reducible repeat (first | refine bN ?_ _ | refine bD ?_ | refine bA ?_ _)); refine blk_far ?_ NB327_343.out _; (with_reducible repeat (first | refine bN ?_ _ | refine bD ?_ | refine bA ?_ _)); refine blk_far ?_ NB327_343.out _; (with_reducible repeat (first | refine bN ?_ _ | refine bD ?_ | refine bA ?_ _)); refine blk_far ?_ NB327_343.out _; (with_reducible repeat (first | refine bN ?_ _ | refine bD ?_ | refine bA ?_ _)); exact BK327.out) hb); replace BK343 := As0 (blk_below (g := gb343) (o := .cells #[.int .i64 t328, .int .i64 t329, .int .i64 t330, .int .i64 t331, .slice Ao36 t332.length co36, .slice Ao37 t335.length co37, .slice Ao38 t338.length co38, .int .i64 t341] 39 (0, 0)) (by (with_reducible repeat (first | refine bN ?_ _ | refine bD ?_ | refine bA ?_ _)); refine blk_put (cs := #[.int .i64 t328, .int .i64 t329, .int .i64 t330, .int .i64 t331, .slice Ao36 t332.length co36, .slice Ao37 t335.length co37, .slice Ao38 t338.length co38, .int .i64 0]) ?_ 7 _ rfl; (with_reducible repeat (first | refine bN ?_ _ | refine bD ?_ | refine bA ?_ _)); refine blk_put (cs := #[.int .i64 t328, .int .i64 t329, .int .i64 t330, .int .i64 t331, .slice Ao36 t332.length co36, .slice Ao37 t335.length co37, .slice none 0 0, .int .i64 0]) ?_ 6 _ rfl; (with_reducible repeat (first | refine bN ?_ _ | refine bD ?_ | refine bA ?_ _)); refine blk_put (cs := #[.int .i64 t328, .int .i64 t329, .int .i64 t330, .int .i64 t331, .slice Ao36 t332.length co36, .slice none 0 0, .slice none 0 0, .int .i64 0]) ?_ 5 _ rfl; (with_reducible repeat (first | refine bN ?_ _ | refine bD ?_ | refine bA ?_ _)); refine blk_put (cs := #[.int .i64 t328, .int .i64 t329, .int .i64 t330, .int .i64 t331, .slice none 0 0, .slice none 0 0, .slice none 0 0, .int .i64 0]) ?_ 4 _ rfl; (with_reducible repeat (first | refine bN ?_ _ | refine bD ?_ | refine bA ?_ _)); refine blk_put (cs := #[.int .i64 t328, .int .i64 t329, .int .i64 t330, .int .i64 0, .slice none 0 0, .slice none 0 0, .slice none 0 0, .int .i64 0]) ?_ 3 _ rfl; (with_reducible repeat (first | refine bN ?_ _ | refine bD ?_ | refine bA ?_ _)); refine blk_put (cs := #[.int .i64 t328, .int .i64 t329, .int .i64 0, .int .i64 0, .slice none 0 0, .slice none 0 0, .slice none 0 0, .int .i64 0]) ?_ 2 _ rfl; (with_reducible repeat (first | refine bN ?_ _ | refine bD ?_ | refine bA ?_ _)); refine blk_put (cs := #[.int .i64 t328, .int .i64 0, .int .i64 0, .int .i64 0, .slice none 0 0, .slice none 0 0, .slice none 0 0, .int .i64 0]) ?_ 1 _ rfl; (with_reducible repeat (first | refine bN ?_ _ | refine bD ?_ | refine bA ?_ _)); refine blk_put (cs := #[.int .i64 0, .int .i64 0, .int .i64 0, .int .i64 0, .slice none 0 0, .slice none 0 0, .slice none 0 0, .int .i64 0]) ?_ 0 _ rfl; (with_reducible repeat (first | refine bN ?_ _ | refine bD ?_ | refine bA ?_ _)); exact BK343.out) hb); replace HB := As0 (below_step (BU HB.out) hb); (try clear hb); (try clear hb2); (try clear hk); (try clear hi); (try clear ho0); (try clear ho1); (try clear ho2)) | ((with_reducible refine gate_dst (N := 13) rfl ?_); refine bX (N := 13) (cs := #[.int .i64 0, .int .i64 0, .int .i64 0, .int .i64 0, .slice none 0 0, .slice none 0 0, .slice none 0 0, .int .i64 0]) (t := 39) ?_; intro gb360 hg w41 hbox hb; replace HO318 := As0 (Kd.R_below (RU HO318.out) hb); replace HO321 := As0 (Kd.R_below (RU HO321.out) hb); replace HO324 := As0 (Kd.R_below (RU HO324.out) hb); replace HO334 := As0 (Kd.R_below (RU HO334.out) hb); replace HO337 := As0 (Kd.R_below (RU HO337.out) hb); replace HO340 := As0 (Kd.R_below (RU HO340.out) hb); replace HO352 := As0 (Kd.R_below (RU HO352.out) hb); replace HO355 := As0 (Kd.R_below (RU HO355.out) hb); replace HO358 := As0 (Kd.R_below (RU HO358.out) hb); have BK360 := As0 (hbox); have GW360 := As0 ((by rw [hg]; exact (below_size (BU HB.out)) : w.heap.size ≤ gb360)); have GE360 := As0 ((by rw [hg]; exact (below_size (BU HB.out)) : w.heap.size ≤ gb360)); replace HB := As0 (below_step (BU HB.out) hb); have NB308_360 := As0 ((by rw [hg]; exact Nat.ne_of_lt (blk_lt (bU BK308.out)) : gb308 ≠ gb360)); have NB360_308 := As0 ((by rw [hg]; exact Nat.ne_of_gt (blk_lt (bU BK308.out)) : gb360 ≠ gb308)); replace BK308 := As0 (blk_below (bU BK308.out) hb); have NB327_360 := As0 ((by rw [hg]; exact Nat.ne_of_lt (blk_lt (bU BK327.out)) : gb327 ≠ gb360)); have NB360_327 := As0 ((by rw [hg]; exact Nat.ne_of_gt (blk_lt (bU BK327.out)) : gb360 ≠ gb327)); replace BK327 := As0 (blk_below (bU BK327.out) hb); have NB343_360 := As0 ((by rw [hg]; exact Nat.ne_of_lt (blk_lt (bU BK343.out)) : gb343 ≠ gb360)); have NB360_343 := As0 ((by rw [hg]; exact Nat.ne_of_gt (blk_lt (bU BK343.out)) : gb360 ≠ gb343)); replace BK343 := As0 (blk_below (bU BK343.out) hb); clear hb hbox hg; have hnb42 := NB360_308.out; have hnc42 := NB308_360.out; have hnb43 := NB360_327.out; have hnc43 := NB327_360.out; have hnb44 := NB360_343.out; have hnc44 := NB343_360.out; obtain ⟨hcz45_0, hcz45_1, hcz45_2, hcz45_3, hcz45_4, hcz45_5, hcz45_6, hcz45_7, hfz45_0, hfz45_1, hfz45_2, hfz45_3, hfz45_4, hfz45_5, hfz45_6, hfz45_7⟩ := cN8 BK360.out; obtain ⟨Ao46, co46, eo46⟩ := Kd.R_slice HO352.out; subst eo46; obtain ⟨Ao47, co47, eo47⟩ := Kd.R_slice HO355.out; subst eo47; obtain ⟨Ao48, co48, eo48⟩ := Kd.R_slice HO358.out; subst eo48))
   (try simp only [Act.put, sL1, sL2, sL3])
   go_cut [76] (fun v76 wc => ∃ (kq : Nat) (x76_20 : Bool), v76 = .bool x76_20 ∧ Aside0 (regcertlaw10_ExecuteMatchesReference.j1 kq l1 t326 t342 x76_20 a0_0 a0_1 a0_2 l0_3 t312 t313 t314 t315 t316 t319 t322 t325 t328 t329 t330 t331 t332 t335 t338 t341 t346 t347 t348 t349 t350 t353 t356 t359 = some r) ∧ Aside0 (kq ≤ kj4) ∧ Aside0 (Kd.R (Kd.int .i64) 2 wc w.heap.size (fun k_ => some k_ ≠ ((.slice Ao28 t319.length co28) : Value).ownBlock ∧ some k_ ≠ ((.slice Ao29 t322.length co29) : Value).ownBlock ∧ some k_ ≠ ((.slice Ao36 t332.length co36) : Value).ownBlock ∧ some k_ ≠ ((.slice Ao37 t335.length co37) : Value).ownBlock ∧ some k_ ≠ ((.slice Ao38 t338.length co38) : Value).ownBlock ∧ some k_ ≠ ((.slice Ao46 t350.length co46) : Value).ownBlock ∧ some k_ ≠ ((.slice Ao47 t353.length co47) : Value).ownBlock ∧ some k_ ≠ ((.slice Ao48 t356.length co48) : Value).ownBlock) (.slice Ao27 t316.length co27) t316) ∧ Aside0 (Kd.R (Kd.int .i64) 2 wc w.heap.size (fun k_ => some k_ ≠ ((.slice Ao27 t316.length co27) : Value).ownBlock ∧ some k_ ≠ ((.slice Ao29 t322.length co29) : Value).ownBlock ∧ some k_ ≠ ((.slice Ao36 t332.length co36) : Value).ownBlock ∧ some k_ ≠ ((.slice Ao37 t335.length co37) : Value).ownBlock ∧ some k_ ≠ ((.slice Ao38 t338.length co38) : Value).ownBlock ∧ some k_ ≠ ((.slice Ao46 t350.length co46) : Value).ownBlock ∧ some k_ ≠ ((.slice Ao47 t353.length co47) : Value).ownBlock ∧ some k_ ≠ ((.slice Ao48 t356.length co48) : Value).ownBlock) (.slice Ao28 t319.length co28) t319) ∧ Aside0 (Kd.R (Kd.int .i64) 2 wc w.heap.size (fun k_ => some k_ ≠ ((.slice Ao27 t316.length co27) : Value).ownBlock ∧ some k_ ≠ ((.slice Ao28 t319.length co28) : Value).ownBlock ∧ some k_ ≠ ((.slice Ao36 t332.length co36) : Value).ownBlock ∧ some k_ ≠ ((.slice Ao37 t335.length co37) : Value).ownBlock ∧ some k_ ≠ ((.slice Ao38 t338.length co38) : Value).ownBlock ∧ some k_ ≠ ((.slice Ao46 t350.length co46) : Value).ownBlock ∧ some k_ ≠ ((.slice Ao47 t353.length co47) : Value).ownBlock ∧ some k_ ≠ ((.slice Ao48 t356.length co48) : Value).ownBlock) (.slice Ao29 t322.length co29) t322) ∧ Aside0 (Kd.R (Kd.int .i64) 2 wc w.heap.size (fun k_ => some k_ ≠ ((.slice Ao27 t316.length co27) : Value).ownBlock ∧ some k_ ≠ ((.slice Ao28 t319.length co28) : Value).ownBlock ∧ some k_ ≠ ((.slice Ao29 t322.length co29) : Value).ownBlock ∧ some k_ ≠ ((.slice Ao37 t335.length co37) : Value).ownBlock ∧ some k_ ≠ ((.slice Ao38 t338.length co38) : Value).ownBlock ∧ some k_ ≠ ((.slice Ao46 t350.length co46) : Value).ownBlock ∧ some k_ ≠ ((.slice Ao47 t353.length co47) : Value).ownBlock ∧ some k_ ≠ ((.slice Ao48 t356.length co48) : Value).ownBlock) (.slice Ao36 t332.length co36) t332) ∧ Aside0 (Kd.R (Kd.int .i64) 2 wc w.heap.size (fun k_ => some k_ ≠ ((.slice Ao27 t316.length co27) : Value).ownBlock ∧ some k_ ≠ ((.slice Ao28 t319.length co28) : Value).ownBlock ∧ some k_ ≠ ((.slice Ao29 t322.length co29) : Value).ownBlock ∧ some k_ ≠ ((.slice Ao36 t332.length co36) : Value).ownBlock ∧ some k_ ≠ ((.slice Ao38 t338.length co38) : Value).ownBlock ∧ some k_ ≠ ((.slice Ao46 t350.length co46) : Value).ownBlock ∧ some k_ ≠ ((.slice Ao47 t353.length co47) : Value).ownBlock ∧ some k_ ≠ ((.slice Ao48 t356.length co48) : Value).ownBlock) (.slice Ao37 t335.length co37) t335) ∧ Aside0 (Kd.R (Kd.int .i64) 2 wc w.heap.size (fun k_ => some k_ ≠ ((.slice Ao27 t316.length co27) : Value).ownBlock ∧ some k_ ≠ ((.slice Ao28 t319.length co28) : Value).ownBlock ∧ some k_ ≠ ((.slice Ao29 t322.length co29) : Value).ownBlock ∧ some k_ ≠ ((.slice Ao36 t332.length co36) : Value).ownBlock ∧ some k_ ≠ ((.slice Ao37 t335.length co37) : Value).ownBlock ∧ some k_ ≠ ((.slice Ao46 t350.length co46) : Value).ownBlock ∧ some k_ ≠ ((.slice Ao47 t353.length co47) : Value).ownBlock ∧ some k_ ≠ ((.slice Ao48 t356.length co48) : Value).ownBlock) (.slice Ao38 t338.length co38) t338) ∧ Aside0 (Kd.R (Kd.int .i64) 2 wc w.heap.size (fun k_ => some k_ ≠ ((.slice Ao27 t316.length co27) : Value).ownBlock ∧ some k_ ≠ ((.slice Ao28 t319.length co28) : Value).ownBlock ∧ some k_ ≠ ((.slice Ao29 t322.length co29) : Value).ownBlock ∧ some k_ ≠ ((.slice Ao36 t332.length co36) : Value).ownBlock ∧ some k_ ≠ ((.slice Ao37 t335.length co37) : Value).ownBlock ∧ some k_ ≠ ((.slice Ao38 t338.length co38) : Value).ownBlock ∧ some k_ ≠ ((.slice Ao47 t353.length co47) : Value).ownBlock ∧ some k_ ≠ ((.slice Ao48 t356.length co48) : Value).ownBlock) (.slice Ao46 t350.length co46) t350) ∧ Aside0 (Kd.R (Kd.int .i64) 2 wc w.heap.size (fun k_ => some k_ ≠ ((.slice Ao27 t316.length co27) : Value).ownBlock ∧ some k_ ≠ ((.slice Ao28 t319.length co28) : Value).ownBlock ∧ some k_ ≠ ((.slice Ao29 t322.length co29) : Value).ownBlock ∧ some k_ ≠ ((.slice Ao36 t332.length co36) : Value).ownBlock ∧ some k_ ≠ ((.slice Ao37 t335.length co37) : Value).ownBlock ∧ some k_ ≠ ((.slice Ao38 t338.length co38) : Value).ownBlock ∧ some k_ ≠ ((.slice Ao46 t350.length co46) : Value).ownBlock ∧ some k_ ≠ ((.slice Ao48 t356.length co48) : Value).ownBlock) (.slice Ao47 t353.length co47) t353) ∧ Aside0 (Kd.R (Kd.int .i64) 2 wc w.heap.size (fun k_ => some k_ ≠ ((.slice Ao27 t316.length co27) : Value).ownBlock ∧ some k_ ≠ ((.slice Ao28 t319.length co28) : Value).ownBlock ∧ some k_ ≠ ((.slice Ao29 t322.length co29) : Value).ownBlock ∧ some k_ ≠ ((.slice Ao36 t332.length co36) : Value).ownBlock ∧ some k_ ≠ ((.slice Ao37 t335.length co37) : Value).ownBlock ∧ some k_ ≠ ((.slice Ao38 t338.length co38) : Value).ownBlock ∧ some k_ ≠ ((.slice Ao46 t350.length co46) : Value).ownBlock ∧ some k_ ≠ ((.slice Ao47 t353.length co47) : Value).ownBlock) (.slice Ao48 t356.length co48) t356) ∧ Aside0 (wc.heap[gb308]? = some (.cells #[.int .i64 a0_0, .int .i64 a0_1, .int .i64 a0_2, (.slice A0_3 l0_3.length c0_3)] 63 (0, 0))) ∧ Aside0 (wc.heap[gb327]? = some (.cells #[.int .i64 t312, .int .i64 t313, .int .i64 t314, .int .i64 t315, (.slice Ao27 t316.length co27), (.slice Ao28 t319.length co28), (.slice Ao29 t322.length co29), .int .i64 t325] 39 (0, 0))) ∧ Aside0 (wc.heap[gb343]? = some (.cells #[.int .i64 t328, .int .i64 t329, .int .i64 t330, .int .i64 t331, (.slice Ao36 t332.length co36), (.slice Ao37 t335.length co37), (.slice Ao38 t338.length co38), .int .i64 t341] 39 (0, 0))) ∧ Aside0 (wc.heap[gb360]? = some (.cells #[.int .i64 t346, .int .i64 t347, .int .i64 t348, .int .i64 t349, (.slice Ao46 t350.length co46), (.slice Ao47 t353.length co47), (.slice Ao48 t356.length co48), .int .i64 t359] 39 (0, 0))) ∧ Aside0 (Below w.heap.size w wc))
   case first =>
    have H := HC21.out
    clear HC21
    replace H := Option.bind_eq_some_iff.mp H
    obtain ⟨t361, A490, H⟩ := H
    have A49 := As0 A490
    clear A490
    by_cases c50 : t361 = true
    rotate_left
    ·replace c50 := Bool.eq_false_iff.mpr c50
     subst c50
     rw [if_neg (show ¬ (false = true) by decide)] at H
     have H' := As0 H
     clear H
     try go_wp2
     have n0_ : Aside0 (Kd.R (Kd.int .i64) 2 ((((((((w41.setCell ⟨gb360, 0, none⟩ (.int .i64 t346)).setCell ⟨gb360, 1, none⟩ (.int .i64 t347)).setCell ⟨gb360, 2, none⟩ (.int .i64 t348)).setCell ⟨gb360, 3, none⟩ (.int .i64 t349)).setCell ⟨gb360, 4, none⟩ (.slice Ao46 t350.length co46)).setCell ⟨gb360, 5, none⟩ (.slice Ao47 t353.length co47)).setCell ⟨gb360, 6, none⟩ (.slice Ao48 t356.length co48)).setCell ⟨gb360, 7, none⟩ (.int .i64 t359)) w.heap.size (fun k_ => some k_ ≠ (.slice Ao28 t319.length co28 : Value).ownBlock ∧ some k_ ≠ (.slice Ao29 t322.length co29 : Value).ownBlock ∧ some k_ ≠ (.slice Ao36 t332.length co36 : Value).ownBlock ∧ some k_ ≠ (.slice Ao37 t335.length co37 : Value).ownBlock ∧ some k_ ≠ (.slice Ao38 t338.length co38 : Value).ownBlock ∧ some k_ ≠ (.slice Ao46 t350.length co46 : Value).ownBlock ∧ some k_ ≠ (.slice Ao47 t353.length co47 : Value).ownBlock ∧ some k_ ≠ (.slice Ao48 t356.length co48 : Value).ownBlock) (.slice Ao27 t316.length co27) t316) := ⟨RU (Kd.R_mono (R8 (Kd.R_types HO318.out BK360.out (by decide))) (fun _ hk => ⟨hk.1.1.1.1.1.1.1.1, ⟨hk.1.1.1.1.1.1.1.2, ⟨hk.1.1.1.1.1.1.2, ⟨hk.1.1.1.1.1.2, ⟨hk.1.1.1.1.2, ⟨hk.1.1.1.2, ⟨hk.1.1.2, hk.1.2⟩⟩⟩⟩⟩⟩⟩))⟩
     have n1_ : Aside0 (Kd.R (Kd.int .i64) 2 ((((((((w41.setCell ⟨gb360, 0, none⟩ (.int .i64 t346)).setCell ⟨gb360, 1, none⟩ (.int .i64 t347)).setCell ⟨gb360, 2, none⟩ (.int .i64 t348)).setCell ⟨gb360, 3, none⟩ (.int .i64 t349)).setCell ⟨gb360, 4, none⟩ (.slice Ao46 t350.length co46)).setCell ⟨gb360, 5, none⟩ (.slice Ao47 t353.length co47)).setCell ⟨gb360, 6, none⟩ (.slice Ao48 t356.length co48)).setCell ⟨gb360, 7, none⟩ (.int .i64 t359)) w.heap.size (fun k_ => some k_ ≠ (.slice Ao27 t316.length co27 : Value).ownBlock ∧ some k_ ≠ (.slice Ao29 t322.length co29 : Value).ownBlock ∧ some k_ ≠ (.slice Ao36 t332.length co36 : Value).ownBlock ∧ some k_ ≠ (.slice Ao37 t335.length co37 : Value).ownBlock ∧ some k_ ≠ (.slice Ao38 t338.length co38 : Value).ownBlock ∧ some k_ ≠ (.slice Ao46 t350.length co46 : Value).ownBlock ∧ some k_ ≠ (.slice Ao47 t353.length co47 : Value).ownBlock ∧ some k_ ≠ (.slice Ao48 t356.length co48 : Value).ownBlock) (.slice Ao28 t319.length co28) t319) := ⟨RU (Kd.R_mono (R8 (Kd.R_types HO321.out BK360.out (by decide))) (fun _ hk => ⟨hk.1.1.1.1.1.1.1.1, ⟨hk.1.1.1.1.1.1.1.2, ⟨hk.1.1.1.1.1.1.2, ⟨hk.1.1.1.1.1.2, ⟨hk.1.1.1.1.2, ⟨hk.1.1.1.2, ⟨hk.1.1.2, hk.1.2⟩⟩⟩⟩⟩⟩⟩))⟩
     have n2_ : Aside0 (Kd.R (Kd.int .i64) 2 ((((((((w41.setCell ⟨gb360, 0, none⟩ (.int .i64 t346)).setCell ⟨gb360, 1, none⟩ (.int .i64 t347)).setCell ⟨gb360, 2, none⟩ (.int .i64 t348)).setCell ⟨gb360, 3, none⟩ (.int .i64 t349)).setCell ⟨gb360, 4, none⟩ (.slice Ao46 t350.length co46)).setCell ⟨gb360, 5, none⟩ (.slice Ao47 t353.length co47)).setCell ⟨gb360, 6, none⟩ (.slice Ao48 t356.length co48)).setCell ⟨gb360, 7, none⟩ (.int .i64 t359)) w.heap.size (fun k_ => some k_ ≠ (.slice Ao27 t316.length co27 : Value).ownBlock ∧ some k_ ≠ (.slice Ao28 t319.length co28 : Value).ownBlock ∧ some k_ ≠ (.slice Ao36 t332.length co36 : Value).ownBlock ∧ some k_ ≠ (.slice Ao37 t335.length co37 : Value).ownBlock ∧ some k_ ≠ (.slice Ao38 t338.length co38 : Value).ownBlock ∧ some k_ ≠ (.slice Ao46 t350.length co46 : Value).ownBlock ∧ some k_ ≠ (.slice Ao47 t353.length co47 : Value).ownBlock ∧ some k_ ≠ (.slice Ao48 t356.length co48 : Value).ownBlock) (.slice Ao29 t322.length co29) t322) := ⟨RU (Kd.R_mono (R8 (Kd.R_types HO324.out BK360.out (by decide))) (fun _ hk => ⟨hk.1.1.1.1.1.1.1.1, ⟨hk.1.1.1.1.1.1.1.2, ⟨hk.1.1.1.1.1.1.2, ⟨hk.1.1.1.1.1.2, ⟨hk.1.1.1.1.2, ⟨hk.1.1.1.2, ⟨hk.1.1.2, hk.1.2⟩⟩⟩⟩⟩⟩⟩))⟩
     have n3_ : Aside0 (Kd.R (Kd.int .i64) 2 ((((((((w41.setCell ⟨gb360, 0, none⟩ (.int .i64 t346)).setCell ⟨gb360, 1, none⟩ (.int .i64 t347)).setCell ⟨gb360, 2, none⟩ (.int .i64 t348)).setCell ⟨gb360, 3, none⟩ (.int .i64 t349)).setCell ⟨gb360, 4, none⟩ (.slice Ao46 t350.length co46)).setCell ⟨gb360, 5, none⟩ (.slice Ao47 t353.length co47)).setCell ⟨gb360, 6, none⟩ (.slice Ao48 t356.length co48)).setCell ⟨gb360, 7, none⟩ (.int .i64 t359)) w.heap.size (fun k_ => some k_ ≠ (.slice Ao27 t316.length co27 : Value).ownBlock ∧ some k_ ≠ (.slice Ao28 t319.length co28 : Value).ownBlock ∧ some k_ ≠ (.slice Ao29 t322.length co29 : Value).ownBlock ∧ some k_ ≠ (.slice Ao37 t335.length co37 : Value).ownBlock ∧ some k_ ≠ (.slice Ao38 t338.length co38 : Value).ownBlock ∧ some k_ ≠ (.slice Ao46 t350.length co46 : Value).ownBlock ∧ some k_ ≠ (.slice Ao47 t353.length co47 : Value).ownBlock ∧ some k_ ≠ (.slice Ao48 t356.length co48 : Value).ownBlock) (.slice Ao36 t332.length co36) t332) := ⟨RU (Kd.R_mono (R8 (Kd.R_types HO334.out BK360.out (by decide))) (fun _ hk => ⟨hk.1.1.1.1.1.1.2, ⟨hk.1.1.1.1.1.2, ⟨hk.1.1.1.1.2, ⟨hk.1.1.1.1.1.1.1.1, ⟨hk.1.1.1.1.1.1.1.2, ⟨hk.1.1.1.2, ⟨hk.1.1.2, hk.1.2⟩⟩⟩⟩⟩⟩⟩))⟩
     have n4_ : Aside0 (Kd.R (Kd.int .i64) 2 ((((((((w41.setCell ⟨gb360, 0, none⟩ (.int .i64 t346)).setCell ⟨gb360, 1, none⟩ (.int .i64 t347)).setCell ⟨gb360, 2, none⟩ (.int .i64 t348)).setCell ⟨gb360, 3, none⟩ (.int .i64 t349)).setCell ⟨gb360, 4, none⟩ (.slice Ao46 t350.length co46)).setCell ⟨gb360, 5, none⟩ (.slice Ao47 t353.length co47)).setCell ⟨gb360, 6, none⟩ (.slice Ao48 t356.length co48)).setCell ⟨gb360, 7, none⟩ (.int .i64 t359)) w.heap.size (fun k_ => some k_ ≠ (.slice Ao27 t316.length co27 : Value).ownBlock ∧ some k_ ≠ (.slice Ao28 t319.length co28 : Value).ownBlock ∧ some k_ ≠ (.slice Ao29 t322.length co29 : Value).ownBlock ∧ some k_ ≠ (.slice Ao36 t332.length co36 : Value).ownBlock ∧ some k_ ≠ (.slice Ao38 t338.length co38 : Value).ownBlock ∧ some k_ ≠ (.slice Ao46 t350.length co46 : Value).ownBlock ∧ some k_ ≠ (.slice Ao47 t353.length co47 : Value).ownBlock ∧ some k_ ≠ (.slice Ao48 t356.length co48 : Value).ownBlock) (.slice Ao37 t335.length co37) t335) := ⟨RU (Kd.R_mono (R8 (Kd.R_types HO337.out BK360.out (by decide))) (fun _ hk => ⟨hk.1.1.1.1.1.1.2, ⟨hk.1.1.1.1.1.2, ⟨hk.1.1.1.1.2, ⟨hk.1.1.1.1.1.1.1.1, ⟨hk.1.1.1.1.1.1.1.2, ⟨hk.1.1.1.2, ⟨hk.1.1.2, hk.1.2⟩⟩⟩⟩⟩⟩⟩))⟩
     have n5_ : Aside0 (Kd.R (Kd.int .i64) 2 ((((((((w41.setCell ⟨gb360, 0, none⟩ (.int .i64 t346)).setCell ⟨gb360, 1, none⟩ (.int .i64 t347)).setCell ⟨gb360, 2, none⟩ (.int .i64 t348)).setCell ⟨gb360, 3, none⟩ (.int .i64 t349)).setCell ⟨gb360, 4, none⟩ (.slice Ao46 t350.length co46)).setCell ⟨gb360, 5, none⟩ (.slice Ao47 t353.length co47)).setCell ⟨gb360, 6, none⟩ (.slice Ao48 t356.length co48)).setCell ⟨gb360, 7, none⟩ (.int .i64 t359)) w.heap.size (fun k_ => some k_ ≠ (.slice Ao27 t316.length co27 : Value).ownBlock ∧ some k_ ≠ (.slice Ao28 t319.length co28 : Value).ownBlock ∧ some k_ ≠ (.slice Ao29 t322.length co29 : Value).ownBlock ∧ some k_ ≠ (.slice Ao36 t332.length co36 : Value).ownBlock ∧ some k_ ≠ (.slice Ao37 t335.length co37 : Value).ownBlock ∧ some k_ ≠ (.slice Ao46 t350.length co46 : Value).ownBlock ∧ some k_ ≠ (.slice Ao47 t353.length co47 : Value).ownBlock ∧ some k_ ≠ (.slice Ao48 t356.length co48 : Value).ownBlock) (.slice Ao38 t338.length co38) t338) := ⟨RU (Kd.R_mono (R8 (Kd.R_types HO340.out BK360.out (by decide))) (fun _ hk => ⟨hk.1.1.1.1.1.1.2, ⟨hk.1.1.1.1.1.2, ⟨hk.1.1.1.1.2, ⟨hk.1.1.1.1.1.1.1.1, ⟨hk.1.1.1.1.1.1.1.2, ⟨hk.1.1.1.2, ⟨hk.1.1.2, hk.1.2⟩⟩⟩⟩⟩⟩⟩))⟩
     have n6_ : Aside0 (Kd.R (Kd.int .i64) 2 ((((((((w41.setCell ⟨gb360, 0, none⟩ (.int .i64 t346)).setCell ⟨gb360, 1, none⟩ (.int .i64 t347)).setCell ⟨gb360, 2, none⟩ (.int .i64 t348)).setCell ⟨gb360, 3, none⟩ (.int .i64 t349)).setCell ⟨gb360, 4, none⟩ (.slice Ao46 t350.length co46)).setCell ⟨gb360, 5, none⟩ (.slice Ao47 t353.length co47)).setCell ⟨gb360, 6, none⟩ (.slice Ao48 t356.length co48)).setCell ⟨gb360, 7, none⟩ (.int .i64 t359)) w.heap.size (fun k_ => some k_ ≠ (.slice Ao27 t316.length co27 : Value).ownBlock ∧ some k_ ≠ (.slice Ao28 t319.length co28 : Value).ownBlock ∧ some k_ ≠ (.slice Ao29 t322.length co29 : Value).ownBlock ∧ some k_ ≠ (.slice Ao36 t332.length co36 : Value).ownBlock ∧ some k_ ≠ (.slice Ao37 t335.length co37 : Value).ownBlock ∧ some k_ ≠ (.slice Ao38 t338.length co38 : Value).ownBlock ∧ some k_ ≠ (.slice Ao47 t353.length co47 : Value).ownBlock ∧ some k_ ≠ (.slice Ao48 t356.length co48 : Value).ownBlock) (.slice Ao46 t350.length co46) t350) := ⟨RU (Kd.R_mono (R8 (Kd.R_types HO352.out BK360.out (by decide))) (fun _ hk => ⟨hk.1.1.1.1.1.1.2, ⟨hk.1.1.1.1.1.2, ⟨hk.1.1.1.1.2, ⟨hk.1.1.1.2, ⟨hk.1.1.2, ⟨hk.1.2, ⟨hk.1.1.1.1.1.1.1.1, hk.1.1.1.1.1.1.1.2⟩⟩⟩⟩⟩⟩⟩))⟩
     have n7_ : Aside0 (Kd.R (Kd.int .i64) 2 ((((((((w41.setCell ⟨gb360, 0, none⟩ (.int .i64 t346)).setCell ⟨gb360, 1, none⟩ (.int .i64 t347)).setCell ⟨gb360, 2, none⟩ (.int .i64 t348)).setCell ⟨gb360, 3, none⟩ (.int .i64 t349)).setCell ⟨gb360, 4, none⟩ (.slice Ao46 t350.length co46)).setCell ⟨gb360, 5, none⟩ (.slice Ao47 t353.length co47)).setCell ⟨gb360, 6, none⟩ (.slice Ao48 t356.length co48)).setCell ⟨gb360, 7, none⟩ (.int .i64 t359)) w.heap.size (fun k_ => some k_ ≠ (.slice Ao27 t316.length co27 : Value).ownBlock ∧ some k_ ≠ (.slice Ao28 t319.length co28 : Value).ownBlock ∧ some k_ ≠ (.slice Ao29 t322.length co29 : Value).ownBlock ∧ some k_ ≠ (.slice Ao36 t332.length co36 : Value).ownBlock ∧ some k_ ≠ (.slice Ao37 t335.length co37 : Value).ownBlock ∧ some k_ ≠ (.slice Ao38 t338.length co38 : Value).ownBlock ∧ some k_ ≠ (.slice Ao46 t350.length co46 : Value).ownBlock ∧ some k_ ≠ (.slice Ao48 t356.length co48 : Value).ownBlock) (.slice Ao47 t353.length co47) t353) := ⟨RU (Kd.R_mono (R8 (Kd.R_types HO355.out BK360.out (by decide))) (fun _ hk => ⟨hk.1.1.1.1.1.1.2, ⟨hk.1.1.1.1.1.2, ⟨hk.1.1.1.1.2, ⟨hk.1.1.1.2, ⟨hk.1.1.2, ⟨hk.1.2, ⟨hk.1.1.1.1.1.1.1.1, hk.1.1.1.1.1.1.1.2⟩⟩⟩⟩⟩⟩⟩))⟩
     have n8_ : Aside0 (Kd.R (Kd.int .i64) 2 ((((((((w41.setCell ⟨gb360, 0, none⟩ (.int .i64 t346)).setCell ⟨gb360, 1, none⟩ (.int .i64 t347)).setCell ⟨gb360, 2, none⟩ (.int .i64 t348)).setCell ⟨gb360, 3, none⟩ (.int .i64 t349)).setCell ⟨gb360, 4, none⟩ (.slice Ao46 t350.length co46)).setCell ⟨gb360, 5, none⟩ (.slice Ao47 t353.length co47)).setCell ⟨gb360, 6, none⟩ (.slice Ao48 t356.length co48)).setCell ⟨gb360, 7, none⟩ (.int .i64 t359)) w.heap.size (fun k_ => some k_ ≠ (.slice Ao27 t316.length co27 : Value).ownBlock ∧ some k_ ≠ (.slice Ao28 t319.length co28 : Value).ownBlock ∧ some k_ ≠ (.slice Ao29 t322.length co29 : Value).ownBlock ∧ some k_ ≠ (.slice Ao36 t332.length co36 : Value).ownBlock ∧ some k_ ≠ (.slice Ao37 t335.length co37 : Value).ownBlock ∧ some k_ ≠ (.slice Ao38 t338.length co38 : Value).ownBlock ∧ some k_ ≠ (.slice Ao46 t350.length co46 : Value).ownBlock ∧ some k_ ≠ (.slice Ao47 t353.length co47 : Value).ownBlock) (.slice Ao48 t356.length co48) t356) := ⟨RU (Kd.R_mono (R8 (Kd.R_types HO358.out BK360.out (by decide))) (fun _ hk => ⟨hk.1.1.1.1.1.1.2, ⟨hk.1.1.1.1.1.2, ⟨hk.1.1.1.1.2, ⟨hk.1.1.1.2, ⟨hk.1.1.2, ⟨hk.1.2, ⟨hk.1.1.1.1.1.1.1.1, hk.1.1.1.1.1.1.1.2⟩⟩⟩⟩⟩⟩⟩))⟩
     have n9_ : Aside0 (((((((((w41.setCell ⟨gb360, 0, none⟩ (.int .i64 t346)).setCell ⟨gb360, 1, none⟩ (.int .i64 t347)).setCell ⟨gb360, 2, none⟩ (.int .i64 t348)).setCell ⟨gb360, 3, none⟩ (.int .i64 t349)).setCell ⟨gb360, 4, none⟩ (.slice Ao46 t350.length co46)).setCell ⟨gb360, 5, none⟩ (.slice Ao47 t353.length co47)).setCell ⟨gb360, 6, none⟩ (.slice Ao48 t356.length co48)).setCell ⟨gb360, 7, none⟩ (.int .i64 t359)).heap[gb308]? = some (.cells #[.int .i64 a0_0, .int .i64 a0_1, .int .i64 a0_2, .slice A0_3 l0_3.length c0_3] 63 (0, 0))) := ⟨by (with_reducible repeat (first | refine bN ?_ _ | refine bD ?_ | refine bA ?_ _)); refine blk_far ?_ NB308_360.out _; (with_reducible repeat (first | refine bN ?_ _ | refine bD ?_ | refine bA ?_ _)); refine blk_far ?_ NB308_360.out _; (with_reducible repeat (first | refine bN ?_ _ | refine bD ?_ | refine bA ?_ _)); refine blk_far ?_ NB308_360.out _; (with_reducible repeat (first | refine bN ?_ _ | refine bD ?_ | refine bA ?_ _)); refine blk_far ?_ NB308_360.out _; (with_reducible repeat (first | refine bN ?_ _ | refine bD ?_ | refine bA ?_ _)); refine blk_far ?_ NB308_360.out _; (with_reducible repeat (first | refine bN ?_ _ | refine bD ?_ | refine bA ?_ _)); refine blk_far ?_ NB308_360.out _; (with_reducible repeat (first | refine bN ?_ _ | refine bD ?_ | refine bA ?_ _)); refine blk_far ?_ NB308_360.out _; (with_reducible repeat (first | refine bN ?_ _ | refine bD ?_ | refine bA ?_ _)); refine blk_far ?_ NB308_360.out _; (with_reducible repeat (first | refine bN ?_ _ | refine bD ?_ | refine bA ?_ _)); exact BK308.out⟩
     have n10_ : Aside0 (((((((((w41.setCell ⟨gb360, 0, none⟩ (.int .i64 t346)).setCell ⟨gb360, 1, none⟩ (.int .i64 t347)).setCell ⟨gb360, 2, none⟩ (.int .i64 t348)).setCell ⟨gb360, 3, none⟩ (.int .i64 t349)).setCell ⟨gb360, 4, none⟩ (.slice Ao46 t350.length co46)).setCell ⟨gb360, 5, none⟩ (.slice Ao47 t353.length co47)).setCell ⟨gb360, 6, none⟩ (.slice Ao48 t356.length co48)).setCell ⟨gb360, 7, none⟩ (.int .i64 t359)).heap[gb327]? = some (.cells #[.int .i64 t312, .int .i64 t313, .int .i64 t314, .int .i64 t315, .slice Ao27 t316.length co27, .slice Ao28 t319.length co28, .slice Ao29 t322.length co29, .int .i64 t325] 39 (0, 0))) := ⟨by (with_reducible repeat (first | refine bN ?_ _ | refine bD ?_ | refine bA ?_ _)); refine blk_far ?_ NB327_360.out _; (with_reducible repeat (first | refine bN ?_ _ | refine bD ?_ | refine bA ?_ _)); refine blk_far ?_ NB327_360.out _; (with_reducible repeat (first | refine bN ?_ _ | refine bD ?_ | refine bA ?_ _)); refine blk_far ?_ NB327_360.out _; (with_reducible repeat (first | refine bN ?_ _ | refine bD ?_ | refine bA ?_ _)); refine blk_far ?_ NB327_360.out _; (with_reducible repeat (first | refine bN ?_ _ | refine bD ?_ | refine bA ?_ _)); refine blk_far ?_ NB327_360.out _; (with_reducible repeat (first | refine bN ?_ _ | refine bD ?_ | refine bA ?_ _)); refine blk_far ?_ NB327_360.out _; (with_reducible repeat (first | refine bN ?_ _ | refine bD ?_ | refine bA ?_ _)); refine blk_far ?_ NB327_360.out _; (with_reducible repeat (first | refine bN ?_ _ | refine bD ?_ | refine bA ?_ _)); refine blk_far ?_ NB327_360.out _; (with_reducible repeat (first | refine bN ?_ _ | refine bD ?_ | refine bA ?_ _)); exact BK327.out⟩
     have n11_ : Aside0 (((((((((w41.setCell ⟨gb360, 0, none⟩ (.int .i64 t346)).setCell ⟨gb360, 1, none⟩ (.int .i64 t347)).setCell ⟨gb360, 2, none⟩ (.int .i64 t348)).setCell ⟨gb360, 3, none⟩ (.int .i64 t349)).setCell ⟨gb360, 4, none⟩ (.slice Ao46 t350.length co46)).setCell ⟨gb360, 5, none⟩ (.slice Ao47 t353.length co47)).setCell ⟨gb360, 6, none⟩ (.slice Ao48 t356.length co48)).setCell ⟨gb360, 7, none⟩ (.int .i64 t359)).heap[gb343]? = some (.cells #[.int .i64 t328, .int .i64 t329, .int .i64 t330, .int .i64 t331, .slice Ao36 t332.length co36, .slice Ao37 t335.length co37, .slice Ao38 t338.length co38, .int .i64 t341] 39 (0, 0))) := ⟨by (with_reducible repeat (first | refine bN ?_ _ | refine bD ?_ | refine bA ?_ _)); refine blk_far ?_ NB343_360.out _; (with_reducible repeat (first | refine bN ?_ _ | refine bD ?_ | refine bA ?_ _)); refine blk_far ?_ NB343_360.out _; (with_reducible repeat (first | refine bN ?_ _ | refine bD ?_ | refine bA ?_ _)); refine blk_far ?_ NB343_360.out _; (with_reducible repeat (first | refine bN ?_ _ | refine bD ?_ | refine bA ?_ _)); refine blk_far ?_ NB343_360.out _; (with_reducible repeat (first | refine bN ?_ _ | refine bD ?_ | refine bA ?_ _)); refine blk_far ?_ NB343_360.out _; (with_reducible repeat (first | refine bN ?_ _ | refine bD ?_ | refine bA ?_ _)); refine blk_far ?_ NB343_360.out _; (with_reducible repeat (first | refine bN ?_ _ | refine bD ?_ | refine bA ?_ _)); refine blk_far ?_ NB343_360.out _; (with_reducible repeat (first | refine bN ?_ _ | refine bD ?_ | refine bA ?_ _)); refine blk_far ?_ NB343_360.out _; (with_reducible repeat (first | refine bN ?_ _ | refine bD ?_ | refine bA ?_ _)); exact BK343.out⟩
     have n12_ : Aside0 (((((((((w41.setCell ⟨gb360, 0, none⟩ (.int .i64 t346)).setCell ⟨gb360, 1, none⟩ (.int .i64 t347)).setCell ⟨gb360, 2, none⟩ (.int .i64 t348)).setCell ⟨gb360, 3, none⟩ (.int .i64 t349)).setCell ⟨gb360, 4, none⟩ (.slice Ao46 t350.length co46)).setCell ⟨gb360, 5, none⟩ (.slice Ao47 t353.length co47)).setCell ⟨gb360, 6, none⟩ (.slice Ao48 t356.length co48)).setCell ⟨gb360, 7, none⟩ (.int .i64 t359)).heap[gb360]? = some (.cells #[.int .i64 t346, .int .i64 t347, .int .i64 t348, .int .i64 t349, .slice Ao46 t350.length co46, .slice Ao47 t353.length co47, .slice Ao48 t356.length co48, .int .i64 t359] 39 (0, 0))) := ⟨by (with_reducible repeat (first | refine bN ?_ _ | refine bD ?_ | refine bA ?_ _)); refine blk_put (cs := #[.int .i64 t346, .int .i64 t347, .int .i64 t348, .int .i64 t349, .slice Ao46 t350.length co46, .slice Ao47 t353.length co47, .slice Ao48 t356.length co48, .int .i64 0]) ?_ 7 _ rfl; (with_reducible repeat (first | refine bN ?_ _ | refine bD ?_ | refine bA ?_ _)); refine blk_put (cs := #[.int .i64 t346, .int .i64 t347, .int .i64 t348, .int .i64 t349, .slice Ao46 t350.length co46, .slice Ao47 t353.length co47, .slice none 0 0, .int .i64 0]) ?_ 6 _ rfl; (with_reducible repeat (first | refine bN ?_ _ | refine bD ?_ | refine bA ?_ _)); refine blk_put (cs := #[.int .i64 t346, .int .i64 t347, .int .i64 t348, .int .i64 t349, .slice Ao46 t350.length co46, .slice none 0 0, .slice none 0 0, .int .i64 0]) ?_ 5 _ rfl; (with_reducible repeat (first | refine bN ?_ _ | refine bD ?_ | refine bA ?_ _)); refine blk_put (cs := #[.int .i64 t346, .int .i64 t347, .int .i64 t348, .int .i64 t349, .slice none 0 0, .slice none 0 0, .slice none 0 0, .int .i64 0]) ?_ 4 _ rfl; (with_reducible repeat (first | refine bN ?_ _ | refine bD ?_ | refine bA ?_ _)); refine blk_put (cs := #[.int .i64 t346, .int .i64 t347, .int .i64 t348, .int .i64 0, .slice none 0 0, .slice none 0 0, .slice none 0 0, .int .i64 0]) ?_ 3 _ rfl; (with_reducible repeat (first | refine bN ?_ _ | refine bD ?_ | refine bA ?_ _)); refine blk_put (cs := #[.int .i64 t346, .int .i64 t347, .int .i64 0, .int .i64 0, .slice none 0 0, .slice none 0 0, .slice none 0 0, .int .i64 0]) ?_ 2 _ rfl; (with_reducible repeat (first | refine bN ?_ _ | refine bD ?_ | refine bA ?_ _)); refine blk_put (cs := #[.int .i64 t346, .int .i64 0, .int .i64 0, .int .i64 0, .slice none 0 0, .slice none 0 0, .slice none 0 0, .int .i64 0]) ?_ 1 _ rfl; (with_reducible repeat (first | refine bN ?_ _ | refine bD ?_ | refine bA ?_ _)); refine blk_put (cs := #[.int .i64 0, .int .i64 0, .int .i64 0, .int .i64 0, .slice none 0 0, .slice none 0 0, .slice none 0 0, .int .i64 0]) ?_ 0 _ rfl; (with_reducible repeat (first | refine bN ?_ _ | refine bD ?_ | refine bA ?_ _)); exact BK360.out⟩
     have n13_ : Aside0 (Below w.heap.size w ((((((((w41.setCell ⟨gb360, 0, none⟩ (.int .i64 t346)).setCell ⟨gb360, 1, none⟩ (.int .i64 t347)).setCell ⟨gb360, 2, none⟩ (.int .i64 t348)).setCell ⟨gb360, 3, none⟩ (.int .i64 t349)).setCell ⟨gb360, 4, none⟩ (.slice Ao46 t350.length co46)).setCell ⟨gb360, 5, none⟩ (.slice Ao47 t353.length co47)).setCell ⟨gb360, 6, none⟩ (.slice Ao48 t356.length co48)).setCell ⟨gb360, 7, none⟩ (.int .i64 t359))) := ⟨BU HB.out⟩
     (try clear HO318)
     (try clear HO321)
     (try clear HO324)
     (try clear HO334)
     (try clear HO337)
     (try clear HO340)
     (try clear HO352)
     (try clear HO355)
     (try clear HO358)
     (try clear BK308)
     (try clear BK327)
     (try clear BK343)
     (try clear BK360)
     (try clear HB)
     generalize ((((((((w41.setCell ⟨gb360, 0, none⟩ (.int .i64 t346)).setCell ⟨gb360, 1, none⟩ (.int .i64 t347)).setCell ⟨gb360, 2, none⟩ (.int .i64 t348)).setCell ⟨gb360, 3, none⟩ (.int .i64 t349)).setCell ⟨gb360, 4, none⟩ (.slice Ao46 t350.length co46)).setCell ⟨gb360, 5, none⟩ (.slice Ao47 t353.length co47)).setCell ⟨gb360, 6, none⟩ (.slice Ao48 t356.length co48)).setCell ⟨gb360, 7, none⟩ (.int .i64 t359)) = w57 at n0_ n1_ n2_ n3_ n4_ n5_ n6_ n7_ n8_ n9_ n10_ n11_ n12_ n13_ ⊢
     have HO318 := n0_
     have HO321 := n1_
     have HO324 := n2_
     have HO334 := n3_
     have HO337 := n4_
     have HO340 := n5_
     have HO352 := n6_
     have HO355 := n7_
     have HO358 := n8_
     have BK308 := n9_
     have BK327 := n10_
     have BK343 := n11_
     have BK360 := n12_
     have HB := n13_
     clear n0_ n1_ n2_ n3_ n4_ n5_ n6_ n7_ n8_ n9_ n10_ n11_ n12_ n13_
     replace HO318 := As0 (Kd.R_drew HO318.out)
     replace HO321 := As0 (Kd.R_drew HO321.out)
     replace HO324 := As0 (Kd.R_drew HO324.out)
     replace HO334 := As0 (Kd.R_drew HO334.out)
     replace HO337 := As0 (Kd.R_drew HO337.out)
     replace HO340 := As0 (Kd.R_drew HO340.out)
     replace HO352 := As0 (Kd.R_drew HO352.out)
     replace HO355 := As0 (Kd.R_drew HO355.out)
     replace HO358 := As0 (Kd.R_drew HO358.out)
     replace BK308 := As0 (blk_drew BK308.out)
     replace BK327 := As0 (blk_drew BK327.out)
     replace BK343 := As0 (blk_drew BK343.out)
     replace BK360 := As0 (blk_drew BK360.out)
     replace HB := As0 (bd1 HB.out)
     refine start_ (n := 15) (S := fun w' => w'.cell? ⟨gb308, 0, none⟩ = some (.int .i64 a0_0) ∧ w'.cell? ⟨gb308, 1, none⟩ = some (.int .i64 a0_1) ∧ w'.cell? ⟨gb308, 2, none⟩ = some (.int .i64 a0_2) ∧ w'.cell? ⟨gb308, 3, none⟩ = some (.slice A0_3 l0_3.length c0_3)) (ds := []) (bb 15 0) (by kernel_rfl) rfl rfl ⟨(blk_cell BK308.out 0).trans rfl, (blk_cell BK308.out 1).trans rfl, (blk_cell BK308.out 2).trans rfl, (blk_cell BK308.out 3).trans rfl⟩ (fun hHeld => ?_); refine with_tabW regcertlaw10_ExecuteMatchesReference.tab8 regcertlaw10_ExecuteMatchesReference.bits8 (fun HT_ HW_ => ?_)
     generalize w57.drew = w58 at HO318 HO321 HO324 HO334 HO337 HO340 HO352 HO355 HO358 BK308 BK327 BK343 BK360 HB hHeld ⊢
     refine pv HT_.out 0 62 (bb 15 1) ?_
     refine pv HT_.out 1 63 (bb 15 3) ?_
     refine pv HT_.out 3 65 (bb 15 11) ?_
     refine tv hHeld HT_.out HW_.out 2 64 (bb 15 15) ?_
     refine tv hHeld HT_.out HW_.out 4 66 (bb 15 31) ?_
     refine one_ (i := 5) (N := some 67) (bb 15 63) rfl rfl (one_of HT_.out (by kernel_rfl)) (by decide) (fun K hK => ?_)
     refine goes_ Try.func52 (by kernel_rfl) rfl #[.int .i64 a3, .int .i64 a0_1, .int .i64 a0_2] (by rfl) rfl rfl (by (try simp only [List.map_toArray, List.map_cons, List.map_nil]); first | done | rfl | (simp only [List.length_drop, List.length_take]; rfl)) ?_
     with_reducible refine (regcertref04_InRange.calls a3 a0_1 a0_2 false _ A49.out).mono ?_
     rintro e w' ⟨rfl, ⟨nd, rfl⟩⟩
     refine ⟨_, rfl, ?_⟩
     refine hK.out _ _ ⟨(blk_cell BK308.out 0).trans rfl, (blk_cell BK308.out 1).trans rfl, (blk_cell BK308.out 2).trans rfl, (blk_cell BK308.out 3).trans rfl⟩ (fun hHeld => ?_)
     clear hK K
     refine norm_ (a' := ?_) ?_ ?_
     rotate_left
     ·show Act.put _ (some 67) _ = _
      simp only [Act.put, sL1, sL2, sL3, i64_w, i32_w]
      rfl
     refine pv HT_.out 6 68 (bb 15 127) ?_
     refine py HT_.out 7 69 (bb 15 255) ?_
     refine py HT_.out 8 70 (bb 15 511) ?_
     refine py HT_.out 9 71 (bb 15 1023) ?_
     refine py HT_.out 10 72 (bb 15 2047) ?_
     refine py HT_.out 11 73 (bb 15 4095) ?_
     refine py HT_.out 12 74 (bb 15 8191) ?_
     refine py HT_.out 13 75 (bb 15 16383) ?_
     refine pv HT_.out 14 76 (bb 15 32767) ?_
     refine done_ (done_of HT_.out (by kernel_rfl)) ?_
     try go_wp2
     go_meet
     case rel => exact ⟨_, (false), (by first | rfl | (simp; done) | (simp [*]; done)), H', ⟨by have := HJ4.out; first | omega | exact Nat.le_refl _⟩, ⟨RU HO318.out⟩, ⟨RU HO321.out⟩, ⟨RU HO324.out⟩, ⟨RU HO334.out⟩, ⟨RU HO337.out⟩, ⟨RU HO340.out⟩, ⟨RU HO352.out⟩, ⟨RU HO355.out⟩, ⟨RU HO358.out⟩, ⟨bU BK308.out⟩, ⟨bU BK327.out⟩, ⟨bU BK343.out⟩, ⟨bU BK360.out⟩, ⟨BU HB.out⟩⟩
    subst c50
    rw [if_pos rfl] at H
    replace H := Option.bind_eq_some_iff.mp H
    obtain ⟨t362, A510, H⟩ := H
    have A51 := As0 A510
    clear A510
    replace H := Option.bind_eq_some_iff.mp H
    obtain ⟨t363, A520, H⟩ := H
    have A52 := As0 A520
    clear A520
    have H' := As0 H
    clear H
    try go_wp2
    have n0_ : Aside0 (Kd.R (Kd.int .i64) 2 ((((((((w41.setCell ⟨gb360, 0, none⟩ (.int .i64 t346)).setCell ⟨gb360, 1, none⟩ (.int .i64 t347)).setCell ⟨gb360, 2, none⟩ (.int .i64 t348)).setCell ⟨gb360, 3, none⟩ (.int .i64 t349)).setCell ⟨gb360, 4, none⟩ (.slice Ao46 t350.length co46)).setCell ⟨gb360, 5, none⟩ (.slice Ao47 t353.length co47)).setCell ⟨gb360, 6, none⟩ (.slice Ao48 t356.length co48)).setCell ⟨gb360, 7, none⟩ (.int .i64 t359)) w.heap.size (fun k_ => some k_ ≠ (.slice Ao28 t319.length co28 : Value).ownBlock ∧ some k_ ≠ (.slice Ao29 t322.length co29 : Value).ownBlock ∧ some k_ ≠ (.slice Ao36 t332.length co36 : Value).ownBlock ∧ some k_ ≠ (.slice Ao37 t335.length co37 : Value).ownBlock ∧ some k_ ≠ (.slice Ao38 t338.length co38 : Value).ownBlock ∧ some k_ ≠ (.slice Ao46 t350.length co46 : Value).ownBlock ∧ some k_ ≠ (.slice Ao47 t353.length co47 : Value).ownBlock ∧ some k_ ≠ (.slice Ao48 t356.length co48 : Value).ownBlock) (.slice Ao27 t316.length co27) t316) := ⟨RU (Kd.R_mono (R8 (Kd.R_types HO318.out BK360.out (by decide))) (fun _ hk => ⟨hk.1.1.1.1.1.1.1.1, ⟨hk.1.1.1.1.1.1.1.2, ⟨hk.1.1.1.1.1.1.2, ⟨hk.1.1.1.1.1.2, ⟨hk.1.1.1.1.2, ⟨hk.1.1.1.2, ⟨hk.1.1.2, hk.1.2⟩⟩⟩⟩⟩⟩⟩))⟩
    have n1_ : Aside0 (Kd.R (Kd.int .i64) 2 ((((((((w41.setCell ⟨gb360, 0, none⟩ (.int .i64 t346)).setCell ⟨gb360, 1, none⟩ (.int .i64 t347)).setCell ⟨gb360, 2, none⟩ (.int .i64 t348)).setCell ⟨gb360, 3, none⟩ (.int .i64 t349)).setCell ⟨gb360, 4, none⟩ (.slice Ao46 t350.length co46)).setCell ⟨gb360, 5, none⟩ (.slice Ao47 t353.length co47)).setCell ⟨gb360, 6, none⟩ (.slice Ao48 t356.length co48)).setCell ⟨gb360, 7, none⟩ (.int .i64 t359)) w.heap.size (fun k_ => some k_ ≠ (.slice Ao27 t316.length co27 : Value).ownBlock ∧ some k_ ≠ (.slice Ao29 t322.length co29 : Value).ownBlock ∧ some k_ ≠ (.slice Ao36 t332.length co36 : Value).ownBlock ∧ some k_ ≠ (.slice Ao37 t335.length co37 : Value).ownBlock ∧ some k_ ≠ (.slice Ao38 t338.length co38 : Value).ownBlock ∧ some k_ ≠ (.slice Ao46 t350.length co46 : Value).ownBlock ∧ some k_ ≠ (.slice Ao47 t353.length co47 : Value).ownBlock ∧ some k_ ≠ (.slice Ao48 t356.length co48 : Value).ownBlock) (.slice Ao28 t319.length co28) t319) := ⟨RU (Kd.R_mono (R8 (Kd.R_types HO321.out BK360.out (by decide))) (fun _ hk => ⟨hk.1.1.1.1.1.1.1.1, ⟨hk.1.1.1.1.1.1.1.2, ⟨hk.1.1.1.1.1.1.2, ⟨hk.1.1.1.1.1.2, ⟨hk.1.1.1.1.2, ⟨hk.1.1.1.2, ⟨hk.1.1.2, hk.1.2⟩⟩⟩⟩⟩⟩⟩))⟩
    have n2_ : Aside0 (Kd.R (Kd.int .i64) 2 ((((((((w41.setCell ⟨gb360, 0, none⟩ (.int .i64 t346)).setCell ⟨gb360, 1, none⟩ (.int .i64 t347)).setCell ⟨gb360, 2, none⟩ (.int .i64 t348)).setCell ⟨gb360, 3, none⟩ (.int .i64 t349)).setCell ⟨gb360, 4, none⟩ (.slice Ao46 t350.length co46)).setCell ⟨gb360, 5, none⟩ (.slice Ao47 t353.length co47)).setCell ⟨gb360, 6, none⟩ (.slice Ao48 t356.length co48)).setCell ⟨gb360, 7, none⟩ (.int .i64 t359)) w.heap.size (fun k_ => some k_ ≠ (.slice Ao27 t316.length co27 : Value).ownBlock ∧ some k_ ≠ (.slice Ao28 t319.length co28 : Value).ownBlock ∧ some k_ ≠ (.slice Ao36 t332.length co36 : Value).ownBlock ∧ some k_ ≠ (.slice Ao37 t335.length co37 : Value).ownBlock ∧ some k_ ≠ (.slice Ao38 t338.length co38 : Value).ownBlock ∧ some k_ ≠ (.slice Ao46 t350.length co46 : Value).ownBlock ∧ some k_ ≠ (.slice Ao47 t353.length co47 : Value).ownBlock ∧ some k_ ≠ (.slice Ao48 t356.length co48 : Value).ownBlock) (.slice Ao29 t322.length co29) t322) := ⟨RU (Kd.R_mono (R8 (Kd.R_types HO324.out BK360.out (by decide))) (fun _ hk => ⟨hk.1.1.1.1.1.1.1.1, ⟨hk.1.1.1.1.1.1.1.2, ⟨hk.1.1.1.1.1.1.2, ⟨hk.1.1.1.1.1.2, ⟨hk.1.1.1.1.2, ⟨hk.1.1.1.2, ⟨hk.1.1.2, hk.1.2⟩⟩⟩⟩⟩⟩⟩))⟩
    have n3_ : Aside0 (Kd.R (Kd.int .i64) 2 ((((((((w41.setCell ⟨gb360, 0, none⟩ (.int .i64 t346)).setCell ⟨gb360, 1, none⟩ (.int .i64 t347)).setCell ⟨gb360, 2, none⟩ (.int .i64 t348)).setCell ⟨gb360, 3, none⟩ (.int .i64 t349)).setCell ⟨gb360, 4, none⟩ (.slice Ao46 t350.length co46)).setCell ⟨gb360, 5, none⟩ (.slice Ao47 t353.length co47)).setCell ⟨gb360, 6, none⟩ (.slice Ao48 t356.length co48)).setCell ⟨gb360, 7, none⟩ (.int .i64 t359)) w.heap.size (fun k_ => some k_ ≠ (.slice Ao27 t316.length co27 : Value).ownBlock ∧ some k_ ≠ (.slice Ao28 t319.length co28 : Value).ownBlock ∧ some k_ ≠ (.slice Ao29 t322.length co29 : Value).ownBlock ∧ some k_ ≠ (.slice Ao37 t335.length co37 : Value).ownBlock ∧ some k_ ≠ (.slice Ao38 t338.length co38 : Value).ownBlock ∧ some k_ ≠ (.slice Ao46 t350.length co46 : Value).ownBlock ∧ some k_ ≠ (.slice Ao47 t353.length co47 : Value).ownBlock ∧ some k_ ≠ (.slice Ao48 t356.length co48 : Value).ownBlock) (.slice Ao36 t332.length co36) t332) := ⟨RU (Kd.R_mono (R8 (Kd.R_types HO334.out BK360.out (by decide))) (fun _ hk => ⟨hk.1.1.1.1.1.1.2, ⟨hk.1.1.1.1.1.2, ⟨hk.1.1.1.1.2, ⟨hk.1.1.1.1.1.1.1.1, ⟨hk.1.1.1.1.1.1.1.2, ⟨hk.1.1.1.2, ⟨hk.1.1.2, hk.1.2⟩⟩⟩⟩⟩⟩⟩))⟩
    have n4_ : Aside0 (Kd.R (Kd.int .i64) 2 ((((((((w41.setCell ⟨gb360, 0, none⟩ (.int .i64 t346)).setCell ⟨gb360, 1, none⟩ (.int .i64 t347)).setCell ⟨gb360, 2, none⟩ (.int .i64 t348)).setCell ⟨gb360, 3, none⟩ (.int .i64 t349)).setCell ⟨gb360, 4, none⟩ (.slice Ao46 t350.length co46)).setCell ⟨gb360, 5, none⟩ (.slice Ao47 t353.length co47)).setCell ⟨gb360, 6, none⟩ (.slice Ao48 t356.length co48)).setCell ⟨gb360, 7, none⟩ (.int .i64 t359)) w.heap.size (fun k_ => some k_ ≠ (.slice Ao27 t316.length co27 : Value).ownBlock ∧ some k_ ≠ (.slice Ao28 t319.length co28 : Value).ownBlock ∧ some k_ ≠ (.slice Ao29 t322.length co29 : Value).ownBlock ∧ some k_ ≠ (.slice Ao36 t332.length co36 : Value).ownBlock ∧ some k_ ≠ (.slice Ao38 t338.length co38 : Value).ownBlock ∧ some k_ ≠ (.slice Ao46 t350.length co46 : Value).ownBlock ∧ some k_ ≠ (.slice Ao47 t353.length co47 : Value).ownBlock ∧ some k_ ≠ (.slice Ao48 t356.length co48 : Value).ownBlock) (.slice Ao37 t335.length co37) t335) := ⟨RU (Kd.R_mono (R8 (Kd.R_types HO337.out BK360.out (by decide))) (fun _ hk => ⟨hk.1.1.1.1.1.1.2, ⟨hk.1.1.1.1.1.2, ⟨hk.1.1.1.1.2, ⟨hk.1.1.1.1.1.1.1.1, ⟨hk.1.1.1.1.1.1.1.2, ⟨hk.1.1.1.2, ⟨hk.1.1.2, hk.1.2⟩⟩⟩⟩⟩⟩⟩))⟩
    have n5_ : Aside0 (Kd.R (Kd.int .i64) 2 ((((((((w41.setCell ⟨gb360, 0, none⟩ (.int .i64 t346)).setCell ⟨gb360, 1, none⟩ (.int .i64 t347)).setCell ⟨gb360, 2, none⟩ (.int .i64 t348)).setCell ⟨gb360, 3, none⟩ (.int .i64 t349)).setCell ⟨gb360, 4, none⟩ (.slice Ao46 t350.length co46)).setCell ⟨gb360, 5, none⟩ (.slice Ao47 t353.length co47)).setCell ⟨gb360, 6, none⟩ (.slice Ao48 t356.length co48)).setCell ⟨gb360, 7, none⟩ (.int .i64 t359)) w.heap.size (fun k_ => some k_ ≠ (.slice Ao27 t316.length co27 : Value).ownBlock ∧ some k_ ≠ (.slice Ao28 t319.length co28 : Value).ownBlock ∧ some k_ ≠ (.slice Ao29 t322.length co29 : Value).ownBlock ∧ some k_ ≠ (.slice Ao36 t332.length co36 : Value).ownBlock ∧ some k_ ≠ (.slice Ao37 t335.length co37 : Value).ownBlock ∧ some k_ ≠ (.slice Ao46 t350.length co46 : Value).ownBlock ∧ some k_ ≠ (.slice Ao47 t353.length co47 : Value).ownBlock ∧ some k_ ≠ (.slice Ao48 t356.length co48 : Value).ownBlock) (.slice Ao38 t338.length co38) t338) := ⟨RU (Kd.R_mono (R8 (Kd.R_types HO340.out BK360.out (by decide))) (fun _ hk => ⟨hk.1.1.1.1.1.1.2, ⟨hk.1.1.1.1.1.2, ⟨hk.1.1.1.1.2, ⟨hk.1.1.1.1.1.1.1.1, ⟨hk.1.1.1.1.1.1.1.2, ⟨hk.1.1.1.2, ⟨hk.1.1.2, hk.1.2⟩⟩⟩⟩⟩⟩⟩))⟩
    have n6_ : Aside0 (Kd.R (Kd.int .i64) 2 ((((((((w41.setCell ⟨gb360, 0, none⟩ (.int .i64 t346)).setCell ⟨gb360, 1, none⟩ (.int .i64 t347)).setCell ⟨gb360, 2, none⟩ (.int .i64 t348)).setCell ⟨gb360, 3, none⟩ (.int .i64 t349)).setCell ⟨gb360, 4, none⟩ (.slice Ao46 t350.length co46)).setCell ⟨gb360, 5, none⟩ (.slice Ao47 t353.length co47)).setCell ⟨gb360, 6, none⟩ (.slice Ao48 t356.length co48)).setCell ⟨gb360, 7, none⟩ (.int .i64 t359)) w.heap.size (fun k_ => some k_ ≠ (.slice Ao27 t316.length co27 : Value).ownBlock ∧ some k_ ≠ (.slice Ao28 t319.length co28 : Value).ownBlock ∧ some k_ ≠ (.slice Ao29 t322.length co29 : Value).ownBlock ∧ some k_ ≠ (.slice Ao36 t332.length co36 : Value).ownBlock ∧ some k_ ≠ (.slice Ao37 t335.length co37 : Value).ownBlock ∧ some k_ ≠ (.slice Ao38 t338.length co38 : Value).ownBlock ∧ some k_ ≠ (.slice Ao47 t353.length co47 : Value).ownBlock ∧ some k_ ≠ (.slice Ao48 t356.length co48 : Value).ownBlock) (.slice Ao46 t350.length co46) t350) := ⟨RU (Kd.R_mono (R8 (Kd.R_types HO352.out BK360.out (by decide))) (fun _ hk => ⟨hk.1.1.1.1.1.1.2, ⟨hk.1.1.1.1.1.2, ⟨hk.1.1.1.1.2, ⟨hk.1.1.1.2, ⟨hk.1.1.2, ⟨hk.1.2, ⟨hk.1.1.1.1.1.1.1.1, hk.1.1.1.1.1.1.1.2⟩⟩⟩⟩⟩⟩⟩))⟩
    have n7_ : Aside0 (Kd.R (Kd.int .i64) 2 ((((((((w41.setCell ⟨gb360, 0, none⟩ (.int .i64 t346)).setCell ⟨gb360, 1, none⟩ (.int .i64 t347)).setCell ⟨gb360, 2, none⟩ (.int .i64 t348)).setCell ⟨gb360, 3, none⟩ (.int .i64 t349)).setCell ⟨gb360, 4, none⟩ (.slice Ao46 t350.length co46)).setCell ⟨gb360, 5, none⟩ (.slice Ao47 t353.length co47)).setCell ⟨gb360, 6, none⟩ (.slice Ao48 t356.length co48)).setCell ⟨gb360, 7, none⟩ (.int .i64 t359)) w.heap.size (fun k_ => some k_ ≠ (.slice Ao27 t316.length co27 : Value).ownBlock ∧ some k_ ≠ (.slice Ao28 t319.length co28 : Value).ownBlock ∧ some k_ ≠ (.slice Ao29 t322.length co29 : Value).ownBlock ∧ some k_ ≠ (.slice Ao36 t332.length co36 : Value).ownBlock ∧ some k_ ≠ (.slice Ao37 t335.length co37 : Value).ownBlock ∧ some k_ ≠ (.slice Ao38 t338.length co38 : Value).ownBlock ∧ some k_ ≠ (.slice Ao46 t350.length co46 : Value).ownBlock ∧ some k_ ≠ (.slice Ao48 t356.length co48 : Value).ownBlock) (.slice Ao47 t353.length co47) t353) := ⟨RU (Kd.R_mono (R8 (Kd.R_types HO355.out BK360.out (by decide))) (fun _ hk => ⟨hk.1.1.1.1.1.1.2, ⟨hk.1.1.1.1.1.2, ⟨hk.1.1.1.1.2, ⟨hk.1.1.1.2, ⟨hk.1.1.2, ⟨hk.1.2, ⟨hk.1.1.1.1.1.1.1.1, hk.1.1.1.1.1.1.1.2⟩⟩⟩⟩⟩⟩⟩))⟩
    have n8_ : Aside0 (Kd.R (Kd.int .i64) 2 ((((((((w41.setCell ⟨gb360, 0, none⟩ (.int .i64 t346)).setCell ⟨gb360, 1, none⟩ (.int .i64 t347)).setCell ⟨gb360, 2, none⟩ (.int .i64 t348)).setCell ⟨gb360, 3, none⟩ (.int .i64 t349)).setCell ⟨gb360, 4, none⟩ (.slice Ao46 t350.length co46)).setCell ⟨gb360, 5, none⟩ (.slice Ao47 t353.length co47)).setCell ⟨gb360, 6, none⟩ (.slice Ao48 t356.length co48)).setCell ⟨gb360, 7, none⟩ (.int .i64 t359)) w.heap.size (fun k_ => some k_ ≠ (.slice Ao27 t316.length co27 : Value).ownBlock ∧ some k_ ≠ (.slice Ao28 t319.length co28 : Value).ownBlock ∧ some k_ ≠ (.slice Ao29 t322.length co29 : Value).ownBlock ∧ some k_ ≠ (.slice Ao36 t332.length co36 : Value).ownBlock ∧ some k_ ≠ (.slice Ao37 t335.length co37 : Value).ownBlock ∧ some k_ ≠ (.slice Ao38 t338.length co38 : Value).ownBlock ∧ some k_ ≠ (.slice Ao46 t350.length co46 : Value).ownBlock ∧ some k_ ≠ (.slice Ao47 t353.length co47 : Value).ownBlock) (.slice Ao48 t356.length co48) t356) := ⟨RU (Kd.R_mono (R8 (Kd.R_types HO358.out BK360.out (by decide))) (fun _ hk => ⟨hk.1.1.1.1.1.1.2, ⟨hk.1.1.1.1.1.2, ⟨hk.1.1.1.1.2, ⟨hk.1.1.1.2, ⟨hk.1.1.2, ⟨hk.1.2, ⟨hk.1.1.1.1.1.1.1.1, hk.1.1.1.1.1.1.1.2⟩⟩⟩⟩⟩⟩⟩))⟩
    have n9_ : Aside0 (((((((((w41.setCell ⟨gb360, 0, none⟩ (.int .i64 t346)).setCell ⟨gb360, 1, none⟩ (.int .i64 t347)).setCell ⟨gb360, 2, none⟩ (.int .i64 t348)).setCell ⟨gb360, 3, none⟩ (.int .i64 t349)).setCell ⟨gb360, 4, none⟩ (.slice Ao46 t350.length co46)).setCell ⟨gb360, 5, none⟩ (.slice Ao47 t353.length co47)).setCell ⟨gb360, 6, none⟩ (.slice Ao48 t356.length co48)).setCell ⟨gb360, 7, none⟩ (.int .i64 t359)).heap[gb308]? = some (.cells #[.int .i64 a0_0, .int .i64 a0_1, .int .i64 a0_2, .slice A0_3 l0_3.length c0_3] 63 (0, 0))) := ⟨by (with_reducible repeat (first | refine bN ?_ _ | refine bD ?_ | refine bA ?_ _)); refine blk_far ?_ NB308_360.out _; (with_reducible repeat (first | refine bN ?_ _ | refine bD ?_ | refine bA ?_ _)); refine blk_far ?_ NB308_360.out _; (with_reducible repeat (first | refine bN ?_ _ | refine bD ?_ | refine bA ?_ _)); refine blk_far ?_ NB308_360.out _; (with_reducible repeat (first | refine bN ?_ _ | refine bD ?_ | refine bA ?_ _)); refine blk_far ?_ NB308_360.out _; (with_reducible repeat (first | refine bN ?_ _ | refine bD ?_ | refine bA ?_ _)); refine blk_far ?_ NB308_360.out _; (with_reducible repeat (first | refine bN ?_ _ | refine bD ?_ | refine bA ?_ _)); refine blk_far ?_ NB308_360.out _; (with_reducible repeat (first | refine bN ?_ _ | refine bD ?_ | refine bA ?_ _)); refine blk_far ?_ NB308_360.out _; (with_reducible repeat (first | refine bN ?_ _ | refine bD ?_ | refine bA ?_ _)); refine blk_far ?_ NB308_360.out _; (with_reducible repeat (first | refine bN ?_ _ | refine bD ?_ | refine bA ?_ _)); exact BK308.out⟩
    have n10_ : Aside0 (((((((((w41.setCell ⟨gb360, 0, none⟩ (.int .i64 t346)).setCell ⟨gb360, 1, none⟩ (.int .i64 t347)).setCell ⟨gb360, 2, none⟩ (.int .i64 t348)).setCell ⟨gb360, 3, none⟩ (.int .i64 t349)).setCell ⟨gb360, 4, none⟩ (.slice Ao46 t350.length co46)).setCell ⟨gb360, 5, none⟩ (.slice Ao47 t353.length co47)).setCell ⟨gb360, 6, none⟩ (.slice Ao48 t356.length co48)).setCell ⟨gb360, 7, none⟩ (.int .i64 t359)).heap[gb327]? = some (.cells #[.int .i64 t312, .int .i64 t313, .int .i64 t314, .int .i64 t315, .slice Ao27 t316.length co27, .slice Ao28 t319.length co28, .slice Ao29 t322.length co29, .int .i64 t325] 39 (0, 0))) := ⟨by (with_reducible repeat (first | refine bN ?_ _ | refine bD ?_ | refine bA ?_ _)); refine blk_far ?_ NB327_360.out _; (with_reducible repeat (first | refine bN ?_ _ | refine bD ?_ | refine bA ?_ _)); refine blk_far ?_ NB327_360.out _; (with_reducible repeat (first | refine bN ?_ _ | refine bD ?_ | refine bA ?_ _)); refine blk_far ?_ NB327_360.out _; (with_reducible repeat (first | refine bN ?_ _ | refine bD ?_ | refine bA ?_ _)); refine blk_far ?_ NB327_360.out _; (with_reducible repeat (first | refine bN ?_ _ | refine bD ?_ | refine bA ?_ _)); refine blk_far ?_ NB327_360.out _; (with_reducible repeat (first | refine bN ?_ _ | refine bD ?_ | refine bA ?_ _)); refine blk_far ?_ NB327_360.out _; (with_reducible repeat (first | refine bN ?_ _ | refine bD ?_ | refine bA ?_ _)); refine blk_far ?_ NB327_360.out _; (with_reducible repeat (first | refine bN ?_ _ | refine bD ?_ | refine bA ?_ _)); refine blk_far ?_ NB327_360.out _; (with_reducible repeat (first | refine bN ?_ _ | refine bD ?_ | refine bA ?_ _)); exact BK327.out⟩
    have n11_ : Aside0 (((((((((w41.setCell ⟨gb360, 0, none⟩ (.int .i64 t346)).setCell ⟨gb360, 1, none⟩ (.int .i64 t347)).setCell ⟨gb360, 2, none⟩ (.int .i64 t348)).setCell ⟨gb360, 3, none⟩ (.int .i64 t349)).setCell ⟨gb360, 4, none⟩ (.slice Ao46 t350.length co46)).setCell ⟨gb360, 5, none⟩ (.slice Ao47 t353.length co47)).setCell ⟨gb360, 6, none⟩ (.slice Ao48 t356.length co48)).setCell ⟨gb360, 7, none⟩ (.int .i64 t359)).heap[gb343]? = some (.cells #[.int .i64 t328, .int .i64 t329, .int .i64 t330, .int .i64 t331, .slice Ao36 t332.length co36, .slice Ao37 t335.length co37, .slice Ao38 t338.length co38, .int .i64 t341] 39 (0, 0))) := ⟨by (with_reducible repeat (first | refine bN ?_ _ | refine bD ?_ | refine bA ?_ _)); refine blk_far ?_ NB343_360.out _; (with_reducible repeat (first | refine bN ?_ _ | refine bD ?_ | refine bA ?_ _)); refine blk_far ?_ NB343_360.out _; (with_reducible repeat (first | refine bN ?_ _ | refine bD ?_ | refine bA ?_ _)); refine blk_far ?_ NB343_360.out _; (with_reducible repeat (first | refine bN ?_ _ | refine bD ?_ | refine bA ?_ _)); refine blk_far ?_ NB343_360.out _; (with_reducible repeat (first | refine bN ?_ _ | refine bD ?_ | refine bA ?_ _)); refine blk_far ?_ NB343_360.out _; (with_reducible repeat (first | refine bN ?_ _ | refine bD ?_ | refine bA ?_ _)); refine blk_far ?_ NB343_360.out _; (with_reducible repeat (first | refine bN ?_ _ | refine bD ?_ | refine bA ?_ _)); refine blk_far ?_ NB343_360.out _; (with_reducible repeat (first | refine bN ?_ _ | refine bD ?_ | refine bA ?_ _)); refine blk_far ?_ NB343_360.out _; (with_reducible repeat (first | refine bN ?_ _ | refine bD ?_ | refine bA ?_ _)); exact BK343.out⟩
    have n12_ : Aside0 (((((((((w41.setCell ⟨gb360, 0, none⟩ (.int .i64 t346)).setCell ⟨gb360, 1, none⟩ (.int .i64 t347)).setCell ⟨gb360, 2, none⟩ (.int .i64 t348)).setCell ⟨gb360, 3, none⟩ (.int .i64 t349)).setCell ⟨gb360, 4, none⟩ (.slice Ao46 t350.length co46)).setCell ⟨gb360, 5, none⟩ (.slice Ao47 t353.length co47)).setCell ⟨gb360, 6, none⟩ (.slice Ao48 t356.length co48)).setCell ⟨gb360, 7, none⟩ (.int .i64 t359)).heap[gb360]? = some (.cells #[.int .i64 t346, .int .i64 t347, .int .i64 t348, .int .i64 t349, .slice Ao46 t350.length co46, .slice Ao47 t353.length co47, .slice Ao48 t356.length co48, .int .i64 t359] 39 (0, 0))) := ⟨by (with_reducible repeat (first | refine bN ?_ _ | refine bD ?_ | refine bA ?_ _)); refine blk_put (cs := #[.int .i64 t346, .int .i64 t347, .int .i64 t348, .int .i64 t349, .slice Ao46 t350.length co46, .slice Ao47 t353.length co47, .slice Ao48 t356.length co48, .int .i64 0]) ?_ 7 _ rfl; (with_reducible repeat (first | refine bN ?_ _ | refine bD ?_ | refine bA ?_ _)); refine blk_put (cs := #[.int .i64 t346, .int .i64 t347, .int .i64 t348, .int .i64 t349, .slice Ao46 t350.length co46, .slice Ao47 t353.length co47, .slice none 0 0, .int .i64 0]) ?_ 6 _ rfl; (with_reducible repeat (first | refine bN ?_ _ | refine bD ?_ | refine bA ?_ _)); refine blk_put (cs := #[.int .i64 t346, .int .i64 t347, .int .i64 t348, .int .i64 t349, .slice Ao46 t350.length co46, .slice none 0 0, .slice none 0 0, .int .i64 0]) ?_ 5 _ rfl; (with_reducible repeat (first | refine bN ?_ _ | refine bD ?_ | refine bA ?_ _)); refine blk_put (cs := #[.int .i64 t346, .int .i64 t347, .int .i64 t348, .int .i64 t349, .slice none 0 0, .slice none 0 0, .slice none 0 0, .int .i64 0]) ?_ 4 _ rfl; (with_reducible repeat (first | refine bN ?_ _ | refine bD ?_ | refine bA ?_ _)); refine blk_put (cs := #[.int .i64 t346, .int .i64 t347, .int .i64 t348, .int .i64 0, .slice none 0 0, .slice none 0 0, .slice none 0 0, .int .i64 0]) ?_ 3 _ rfl; (with_reducible repeat (first | refine bN ?_ _ | refine bD ?_ | refine bA ?_ _)); refine blk_put (cs := #[.int .i64 t346, .int .i64 t347, .int .i64 0, .int .i64 0, .slice none 0 0, .slice none 0 0, .slice none 0 0, .int .i64 0]) ?_ 2 _ rfl; (with_reducible repeat (first | refine bN ?_ _ | refine bD ?_ | refine bA ?_ _)); refine blk_put (cs := #[.int .i64 t346, .int .i64 0, .int .i64 0, .int .i64 0, .slice none 0 0, .slice none 0 0, .slice none 0 0, .int .i64 0]) ?_ 1 _ rfl; (with_reducible repeat (first | refine bN ?_ _ | refine bD ?_ | refine bA ?_ _)); refine blk_put (cs := #[.int .i64 0, .int .i64 0, .int .i64 0, .int .i64 0, .slice none 0 0, .slice none 0 0, .slice none 0 0, .int .i64 0]) ?_ 0 _ rfl; (with_reducible repeat (first | refine bN ?_ _ | refine bD ?_ | refine bA ?_ _)); exact BK360.out⟩
    have n13_ : Aside0 (Below w.heap.size w ((((((((w41.setCell ⟨gb360, 0, none⟩ (.int .i64 t346)).setCell ⟨gb360, 1, none⟩ (.int .i64 t347)).setCell ⟨gb360, 2, none⟩ (.int .i64 t348)).setCell ⟨gb360, 3, none⟩ (.int .i64 t349)).setCell ⟨gb360, 4, none⟩ (.slice Ao46 t350.length co46)).setCell ⟨gb360, 5, none⟩ (.slice Ao47 t353.length co47)).setCell ⟨gb360, 6, none⟩ (.slice Ao48 t356.length co48)).setCell ⟨gb360, 7, none⟩ (.int .i64 t359))) := ⟨BU HB.out⟩
    (try clear HO318)
    (try clear HO321)
    (try clear HO324)
    (try clear HO334)
    (try clear HO337)
    (try clear HO340)
    (try clear HO352)
    (try clear HO355)
    (try clear HO358)
    (try clear BK308)
    (try clear BK327)
    (try clear BK343)
    (try clear BK360)
    (try clear HB)
    generalize ((((((((w41.setCell ⟨gb360, 0, none⟩ (.int .i64 t346)).setCell ⟨gb360, 1, none⟩ (.int .i64 t347)).setCell ⟨gb360, 2, none⟩ (.int .i64 t348)).setCell ⟨gb360, 3, none⟩ (.int .i64 t349)).setCell ⟨gb360, 4, none⟩ (.slice Ao46 t350.length co46)).setCell ⟨gb360, 5, none⟩ (.slice Ao47 t353.length co47)).setCell ⟨gb360, 6, none⟩ (.slice Ao48 t356.length co48)).setCell ⟨gb360, 7, none⟩ (.int .i64 t359)) = w53 at n0_ n1_ n2_ n3_ n4_ n5_ n6_ n7_ n8_ n9_ n10_ n11_ n12_ n13_ ⊢
    have HO318 := n0_
    have HO321 := n1_
    have HO324 := n2_
    have HO334 := n3_
    have HO337 := n4_
    have HO340 := n5_
    have HO352 := n6_
    have HO355 := n7_
    have HO358 := n8_
    have BK308 := n9_
    have BK327 := n10_
    have BK343 := n11_
    have BK360 := n12_
    have HB := n13_
    clear n0_ n1_ n2_ n3_ n4_ n5_ n6_ n7_ n8_ n9_ n10_ n11_ n12_ n13_
    replace HO318 := As0 (Kd.R_drew HO318.out)
    replace HO321 := As0 (Kd.R_drew HO321.out)
    replace HO324 := As0 (Kd.R_drew HO324.out)
    replace HO334 := As0 (Kd.R_drew HO334.out)
    replace HO337 := As0 (Kd.R_drew HO337.out)
    replace HO340 := As0 (Kd.R_drew HO340.out)
    replace HO352 := As0 (Kd.R_drew HO352.out)
    replace HO355 := As0 (Kd.R_drew HO355.out)
    replace HO358 := As0 (Kd.R_drew HO358.out)
    replace BK308 := As0 (blk_drew BK308.out)
    replace BK327 := As0 (blk_drew BK327.out)
    replace BK343 := As0 (blk_drew BK343.out)
    replace BK360 := As0 (blk_drew BK360.out)
    replace HB := As0 (bd1 HB.out)
    refine start_ (n := 15) (S := fun w' => w'.cell? ⟨gb308, 0, none⟩ = some (.int .i64 a0_0) ∧ w'.cell? ⟨gb308, 1, none⟩ = some (.int .i64 a0_1) ∧ w'.cell? ⟨gb308, 2, none⟩ = some (.int .i64 a0_2) ∧ w'.cell? ⟨gb308, 3, none⟩ = some (.slice A0_3 l0_3.length c0_3) ∧ w'.cell? ⟨gb360, 0, none⟩ = some (.int .i64 t346) ∧ w'.cell? ⟨gb360, 1, none⟩ = some (.int .i64 t347) ∧ w'.cell? ⟨gb360, 2, none⟩ = some (.int .i64 t348) ∧ w'.cell? ⟨gb360, 3, none⟩ = some (.int .i64 t349) ∧ w'.cell? ⟨gb360, 4, none⟩ = some (.slice Ao46 t350.length co46) ∧ w'.cell? ⟨gb360, 5, none⟩ = some (.slice Ao47 t353.length co47) ∧ w'.cell? ⟨gb360, 6, none⟩ = some (.slice Ao48 t356.length co48) ∧ w'.cell? ⟨gb360, 7, none⟩ = some (.int .i64 t359)) (ds := []) (bb 15 0) (by kernel_rfl) rfl rfl ⟨(blk_cell BK308.out 0).trans rfl, (blk_cell BK308.out 1).trans rfl, (blk_cell BK308.out 2).trans rfl, (blk_cell BK308.out 3).trans rfl, (blk_cell BK360.out 0).trans rfl, (blk_cell BK360.out 1).trans rfl, (blk_cell BK360.out 2).trans rfl, (blk_cell BK360.out 3).trans rfl, (blk_cell BK360.out 4).trans rfl, (blk_cell BK360.out 5).trans rfl, (blk_cell BK360.out 6).trans rfl, (blk_cell BK360.out 7).trans rfl⟩ (fun hHeld => ?_); refine with_tabW regcertlaw10_ExecuteMatchesReference.tab8 regcertlaw10_ExecuteMatchesReference.bits8 (fun HT_ HW_ => ?_)
    generalize w53.drew = w54 at HO318 HO321 HO324 HO334 HO337 HO340 HO352 HO355 HO358 BK308 BK327 BK343 BK360 HB hHeld ⊢
    refine pv HT_.out 0 62 (bb 15 1) ?_
    refine pv HT_.out 1 63 (bb 15 3) ?_
    refine pv HT_.out 3 65 (bb 15 11) ?_
    refine tv hHeld HT_.out HW_.out 2 64 (bb 15 15) ?_
    refine tv hHeld HT_.out HW_.out 4 66 (bb 15 31) ?_
    refine one_ (i := 5) (N := some 67) (bb 15 63) rfl rfl (one_of HT_.out (by kernel_rfl)) (by decide) (fun K hK => ?_)
    refine goes_ Try.func52 (by kernel_rfl) rfl #[.int .i64 a3, .int .i64 a0_1, .int .i64 a0_2] (by rfl) rfl rfl (by (try simp only [List.map_toArray, List.map_cons, List.map_nil]); first | done | rfl | (simp only [List.length_drop, List.length_take]; rfl)) ?_
    with_reducible refine (regcertref04_InRange.calls a3 a0_1 a0_2 true _ A49.out).mono ?_
    rintro e w' ⟨rfl, ⟨nd, rfl⟩⟩
    refine ⟨_, rfl, ?_⟩
    refine hK.out _ _ ⟨(blk_cell BK308.out 0).trans rfl, (blk_cell BK308.out 1).trans rfl, (blk_cell BK308.out 2).trans rfl, (blk_cell BK308.out 3).trans rfl, (blk_cell BK360.out 0).trans rfl, (blk_cell BK360.out 1).trans rfl, (blk_cell BK360.out 2).trans rfl, (blk_cell BK360.out 3).trans rfl, (blk_cell BK360.out 4).trans rfl, (blk_cell BK360.out 5).trans rfl, (blk_cell BK360.out 6).trans rfl, (blk_cell BK360.out 7).trans rfl⟩ (fun hHeld => ?_)
    clear hK K
    refine norm_ (a' := ?_) ?_ ?_
    rotate_left
    ·show Act.put _ (some 67) _ = _
     simp only [Act.put, sL1, sL2, sL3, i64_w, i32_w]
     rfl
    refine pv HT_.out 6 68 (bb 15 127) ?_
    refine pv HT_.out 8 70 (bb 15 383) ?_
    refine pv HT_.out 11 73 (bb 15 2431) ?_
    refine tv hHeld HT_.out HW_.out 7 69 (bb 15 2559) ?_
    refine tv hHeld HT_.out HW_.out 10 72 (bb 15 3583) ?_
    refine one_ (i := 9) (N := some 71) (bb 15 4095) rfl rfl (one_of HT_.out (by kernel_rfl)) (by decide) (fun K hK => ?_)
    refine goes_ Try.func53 (by kernel_rfl) rfl #[.agg #[.int .i64 t346, .int .i64 t347, .int .i64 t348, .int .i64 t349, .slice Ao46 t350.length co46, .slice Ao47 t353.length co47, .slice Ao48 t356.length co48, .int .i64 t359], .int .i64 a3] (by rfl) rfl rfl (by (try simp only [List.map_toArray, List.map_cons, List.map_nil]); first | done | rfl | (simp only [List.length_drop, List.length_take]; rfl)) ?_
    with_reducible refine (execute_Read.calls t346 t347 t348 t349 _ _ t350 _ _ t353 _ _ t356 t359 a3 t362 _ ?side1 ?side2 ?side3 ?side4 ?side5 ?side6 A51.out).mono ?_
    (case side1 => repeat (first | exact (Kd.R_reads' HO352.out).2.2 | (with_reducible refine Kd.C_alloc ?_ _) | (with_reducible refine Kd.C_drewN ?_ _) | (with_reducible refine Kd.C_drew ?_)))
    (case side2 => exact (Kd.R_reads' HO352.out).2.1)
    (case side3 => repeat (first | exact (Kd.R_reads' HO355.out).2.2 | (with_reducible refine Kd.C_alloc ?_ _) | (with_reducible refine Kd.C_drewN ?_ _) | (with_reducible refine Kd.C_drew ?_)))
    (case side4 => exact (Kd.R_reads' HO355.out).2.1)
    (case side5 => repeat (first | exact (Kd.R_reads' HO358.out).2.2 | (with_reducible refine Kd.C_alloc ?_ _) | (with_reducible refine Kd.C_drewN ?_ _) | (with_reducible refine Kd.C_drew ?_)))
    (case side6 => exact (Kd.R_reads' HO358.out).2.1)
    rintro e w55 ⟨rfl, hb⟩
    refine ⟨_, rfl, ?_⟩
    replace HO318 := As0 (Kd.R_below (RU HO318.out) hb)
    replace HO321 := As0 (Kd.R_below (RU HO321.out) hb)
    replace HO324 := As0 (Kd.R_below (RU HO324.out) hb)
    replace HO334 := As0 (Kd.R_below (RU HO334.out) hb)
    replace HO337 := As0 (Kd.R_below (RU HO337.out) hb)
    replace HO340 := As0 (Kd.R_below (RU HO340.out) hb)
    replace HO352 := As0 (Kd.R_below (RU HO352.out) hb)
    replace HO355 := As0 (Kd.R_below (RU HO355.out) hb)
    replace HO358 := As0 (Kd.R_below (RU HO358.out) hb)
    replace BK308 := As0 (blk_below (bU BK308.out) hb)
    replace BK327 := As0 (blk_below (bU BK327.out) hb)
    replace BK343 := As0 (blk_below (bU BK343.out) hb)
    replace BK360 := As0 (blk_below (bU BK360.out) hb)
    replace HB := As0 (below_step (BU HB.out) hb)
    (try clear hb)
    (try clear hb2)
    (try clear hk)
    (try clear hi)
    refine hK.out _ _ ⟨(blk_cell BK308.out 0).trans rfl, (blk_cell BK308.out 1).trans rfl, (blk_cell BK308.out 2).trans rfl, (blk_cell BK308.out 3).trans rfl, (blk_cell BK360.out 0).trans rfl, (blk_cell BK360.out 1).trans rfl, (blk_cell BK360.out 2).trans rfl, (blk_cell BK360.out 3).trans rfl, (blk_cell BK360.out 4).trans rfl, (blk_cell BK360.out 5).trans rfl, (blk_cell BK360.out 6).trans rfl, (blk_cell BK360.out 7).trans rfl⟩ (fun hHeld => ?_)
    clear hK K
    refine norm_ (a' := ?_) ?_ ?_
    rotate_left
    ·show Act.put _ (some 71) _ = _
     simp only [Act.put, sL1, sL2, sL3, i64_w, i32_w]
     rfl
    refine one_ (i := 12) (N := some 74) (bb 15 8191) rfl rfl (one_of HT_.out (by kernel_rfl)) (by decide) (fun K hK => ?_)
    refine goes_ Try.func54 (by kernel_rfl) rfl #[.agg #[.int .i64 t346, .int .i64 t347, .int .i64 t348, .int .i64 t349, .slice Ao46 t350.length co46, .slice Ao47 t353.length co47, .slice Ao48 t356.length co48, .int .i64 t359], .int .i64 a3] (by rfl) rfl rfl (by (try simp only [List.map_toArray, List.map_cons, List.map_nil]); first | done | rfl | (simp only [List.length_drop, List.length_take]; rfl)) ?_
    with_reducible refine (regcertref10_Read.calls t346 t347 t348 t349 _ _ t350 _ _ t353 _ _ t356 t359 a3 t363 _ ?side1 ?side2 ?side3 ?side4 ?side5 ?side6 A52.out).mono ?_
    (case side1 => repeat (first | exact (Kd.R_reads' HO352.out).2.2 | (with_reducible refine Kd.C_alloc ?_ _) | (with_reducible refine Kd.C_drewN ?_ _) | (with_reducible refine Kd.C_drew ?_)))
    (case side2 => exact (Kd.R_reads' HO352.out).2.1)
    (case side3 => repeat (first | exact (Kd.R_reads' HO355.out).2.2 | (with_reducible refine Kd.C_alloc ?_ _) | (with_reducible refine Kd.C_drewN ?_ _) | (with_reducible refine Kd.C_drew ?_)))
    (case side4 => exact (Kd.R_reads' HO355.out).2.1)
    (case side5 => repeat (first | exact (Kd.R_reads' HO358.out).2.2 | (with_reducible refine Kd.C_alloc ?_ _) | (with_reducible refine Kd.C_drewN ?_ _) | (with_reducible refine Kd.C_drew ?_)))
    (case side6 => exact (Kd.R_reads' HO358.out).2.1)
    rintro e w56 ⟨rfl, hb⟩
    refine ⟨_, rfl, ?_⟩
    replace HO318 := As0 (Kd.R_below (RU HO318.out) hb)
    replace HO321 := As0 (Kd.R_below (RU HO321.out) hb)
    replace HO324 := As0 (Kd.R_below (RU HO324.out) hb)
    replace HO334 := As0 (Kd.R_below (RU HO334.out) hb)
    replace HO337 := As0 (Kd.R_below (RU HO337.out) hb)
    replace HO340 := As0 (Kd.R_below (RU HO340.out) hb)
    replace HO352 := As0 (Kd.R_below (RU HO352.out) hb)
    replace HO355 := As0 (Kd.R_below (RU HO355.out) hb)
    replace HO358 := As0 (Kd.R_below (RU HO358.out) hb)
    replace BK308 := As0 (blk_below (bU BK308.out) hb)
    replace BK327 := As0 (blk_below (bU BK327.out) hb)
    replace BK343 := As0 (blk_below (bU BK343.out) hb)
    replace BK360 := As0 (blk_below (bU BK360.out) hb)
    replace HB := As0 (below_step (BU HB.out) hb)
    (try clear hb)
    (try clear hb2)
    (try clear hk)
    (try clear hi)
    refine hK.out _ _ ⟨(blk_cell BK308.out 0).trans rfl, (blk_cell BK308.out 1).trans rfl, (blk_cell BK308.out 2).trans rfl, (blk_cell BK308.out 3).trans rfl, (blk_cell BK360.out 0).trans rfl, (blk_cell BK360.out 1).trans rfl, (blk_cell BK360.out 2).trans rfl, (blk_cell BK360.out 3).trans rfl, (blk_cell BK360.out 4).trans rfl, (blk_cell BK360.out 5).trans rfl, (blk_cell BK360.out 6).trans rfl, (blk_cell BK360.out 7).trans rfl⟩ (fun hHeld => ?_)
    clear hK K
    refine norm_ (a' := ?_) ?_ ?_
    rotate_left
    ·show Act.put _ (some 74) _ = _
     simp only [Act.put, sL1, sL2, sL3, i64_w, i32_w]
     rfl
    refine pv HT_.out 13 75 (bb 15 16383) ?_
    refine pv HT_.out 14 76 (bb 15 32767) ?_
    refine done_ (done_of HT_.out (by kernel_rfl)) ?_
    try go_wp2
    go_meet
    case rel => exact ⟨_, ((t362 != t363)), (by first | rfl | (simp; done) | (simp [*]; done)), H', ⟨by have := HJ4.out; first | omega | exact Nat.le_refl _⟩, ⟨RU HO318.out⟩, ⟨RU HO321.out⟩, ⟨RU HO324.out⟩, ⟨RU HO334.out⟩, ⟨RU HO337.out⟩, ⟨RU HO340.out⟩, ⟨RU HO352.out⟩, ⟨RU HO355.out⟩, ⟨RU HO358.out⟩, ⟨bU BK308.out⟩, ⟨bU BK327.out⟩, ⟨bU BK343.out⟩, ⟨bU BK360.out⟩, ⟨BU HB.out⟩⟩
   case rest =>
    clear HC21
    try clear c1
    try clear c2
    try clear p2
    try clear c3
    try clear c4
    try clear c5
    try clear c14
    try clear c19
    try clear c19b0
    try clear c19b1
    try clear c25
    try clear c33
    try clear c34
    try clear c42
    try clear c43
    try clear c44
    try clear c46
    try clear c50
    try clear c51
    try clear c52
    try clear c53
    try clear c54
    try clear hcz22_0
    try clear hcz22_1
    try clear hcz22_2
    try clear hcz22_3
    try clear hcz26_0
    try clear hcz26_1
    try clear hcz26_2
    try clear hcz26_3
    try clear hcz26_4
    try clear hcz26_5
    try clear hcz26_6
    try clear hcz26_7
    try clear hcz30_0
    try clear hcz30_1
    try clear hcz30_2
    try clear hcz30_3
    try clear hcz35_0
    try clear hcz35_1
    try clear hcz35_2
    try clear hcz35_3
    try clear hcz35_4
    try clear hcz35_5
    try clear hcz35_6
    try clear hcz35_7
    try clear hcz39_0
    try clear hcz39_1
    try clear hcz39_2
    try clear hcz39_3
    try clear hcz45_0
    try clear hcz45_1
    try clear hcz45_2
    try clear hcz45_3
    try clear hcz45_4
    try clear hcz45_5
    try clear hcz45_6
    try clear hcz45_7
    try clear hfz22_0
    try clear hfz22_1
    try clear hfz22_2
    try clear hfz22_3
    try clear hfz26_0
    try clear hfz26_1
    try clear hfz26_2
    try clear hfz26_3
    try clear hfz26_4
    try clear hfz26_5
    try clear hfz26_6
    try clear hfz26_7
    try clear hfz30_0
    try clear hfz30_1
    try clear hfz30_2
    try clear hfz30_3
    try clear hfz35_0
    try clear hfz35_1
    try clear hfz35_2
    try clear hfz35_3
    try clear hfz35_4
    try clear hfz35_5
    try clear hfz35_6
    try clear hfz35_7
    try clear hfz39_0
    try clear hfz39_1
    try clear hfz39_2
    try clear hfz39_3
    try clear hfz45_0
    try clear hfz45_1
    try clear hfz45_2
    try clear hfz45_3
    try clear hfz45_4
    try clear hfz45_5
    try clear hfz45_6
    try clear hfz45_7
    obtain ⟨kq, x76_20, rfl, HA, HJ20, HO_328004, HO_328005, HO_328006, HO_344004, HO_344005, HO_344006, HO_361004, HO_361005, HO_361006, BK308, BK327, BK343, BK360, HB⟩ := hcut
    cases kq with
    | zero => exact absurd HA.out (by simp [regcertlaw10_ExecuteMatchesReference.j1])
    | succ kj20 =>
     have H := HA.out
     clear HA
     simp only [regcertlaw10_ExecuteMatchesReference.j1] at H
     by_cases c59 : x76_20 = true
     ·subst c59
      rw [if_pos rfl] at H
      exact absurd H (by simp)
     replace c59 := Bool.eq_false_iff.mpr c59
     subst c59
     rw [if_neg (show ¬ (false = true) by decide)] at H
     by_cases c60 : t326 = 0
     rotate_left
     ·rw [if_neg c60] at H
      have c60b0 : (t326 == 0) = false := beq_eq_false_iff_ne.mpr c60
      have c60b1 : (t326 != 0) = true := bne_iff_ne.mpr c60
      exact absurd H (by simp)
     rw [if_pos c60] at H
     have c60b0 : (t326 == 0) = true := beq_iff_eq.mpr c60
     have c60b1 : (t326 != 0) = false := bne_eq_false_iff_eq.mpr c60
     clear c60
     by_cases c61 : t342 = 0
     rotate_left
     ·rw [if_neg c61] at H
      have c61b0 : (t342 == 0) = false := beq_eq_false_iff_ne.mpr c61
      have c61b1 : (t342 != 0) = true := bne_iff_ne.mpr c61
      exact absurd H (by simp)
     rw [if_pos c61] at H
     have c61b0 : (t342 == 0) = true := beq_iff_eq.mpr c61
     have c61b1 : (t342 != 0) = false := bne_eq_false_iff_eq.mpr c61
     clear c61
     replace H := Option.bind_eq_some_iff.mp H
     obtain ⟨t364, A620, H⟩ := H
     have A62 := As0 A620
     clear A620
     by_cases c63 : t364 = true
     rotate_left
     ·replace c63 := Bool.eq_false_iff.mpr c63
      subst c63
      rw [if_neg (show ¬ (false = true) by decide)] at H
      exact absurd H (by simp)
     subst c63
     rw [if_pos rfl] at H
     replace H := Option.bind_eq_some_iff.mp H
     obtain ⟨⟨t365, t366, t367, t368, t369, t372, t375, t378⟩, A640, H⟩ := H
     have A64 := As0 A640
     clear A640
     replace H := Option.bind_eq_some_iff.mp H
     obtain ⟨t379, A650, H⟩ := H
     have A65 := As0 A650
     clear A650
     by_cases c66 : t379 = true
     rotate_left
     ·replace c66 := Bool.eq_false_iff.mpr c66
      subst c66
      rw [if_neg (show ¬ (false = true) by decide)] at H
      exact absurd H (by simp)
     subst c66
     rw [if_pos rfl] at H
     replace H := Option.bind_eq_some_iff.mp H
     obtain ⟨⟨t380, t381, t382, t383, t384, t387, t390, t393⟩, A670, H⟩ := H
     have A67 := As0 A670
     clear A670
     replace H := Option.bind_eq_some_iff.mp H
     obtain ⟨⟨t394, t395, t396, t397, t398, t401, t404, t407⟩, A680, H⟩ := H
     have A68 := As0 A680
     clear A680
     replace H := Option.bind_eq_some_iff.mp H
     obtain ⟨t408, A690, H⟩ := H
     have A69 := As0 A690
     clear A690
     obtain rfl := Option.some.inj H
     try go_wp2
     replace HO_328004 := As0 (Kd.R_drew HO_328004.out)
     replace HO_328005 := As0 (Kd.R_drew HO_328005.out)
     replace HO_328006 := As0 (Kd.R_drew HO_328006.out)
     replace HO_344004 := As0 (Kd.R_drew HO_344004.out)
     replace HO_344005 := As0 (Kd.R_drew HO_344005.out)
     replace HO_344006 := As0 (Kd.R_drew HO_344006.out)
     replace HO_361004 := As0 (Kd.R_drew HO_361004.out)
     replace HO_361005 := As0 (Kd.R_drew HO_361005.out)
     replace HO_361006 := As0 (Kd.R_drew HO_361006.out)
     replace BK308 := As0 (blk_drew BK308.out)
     replace BK327 := As0 (blk_drew BK327.out)
     replace BK343 := As0 (blk_drew BK343.out)
     replace BK360 := As0 (blk_drew BK360.out)
     replace HB := As0 (bd1 HB.out)
     refine start_ (n := 28) (S := fun w' => w'.cell? ⟨gb327, 0, none⟩ = some (.int .i64 t312) ∧ w'.cell? ⟨gb327, 1, none⟩ = some (.int .i64 t313) ∧ w'.cell? ⟨gb327, 2, none⟩ = some (.int .i64 t314) ∧ w'.cell? ⟨gb327, 3, none⟩ = some (.int .i64 t315) ∧ w'.cell? ⟨gb327, 4, none⟩ = some (.slice Ao27 t316.length co27) ∧ w'.cell? ⟨gb327, 5, none⟩ = some (.slice Ao28 t319.length co28) ∧ w'.cell? ⟨gb327, 6, none⟩ = some (.slice Ao29 t322.length co29) ∧ w'.cell? ⟨gb327, 7, none⟩ = some (.int .i64 t325) ∧ w'.cell? ⟨gb360, 0, none⟩ = some (.int .i64 t346) ∧ w'.cell? ⟨gb360, 1, none⟩ = some (.int .i64 t347) ∧ w'.cell? ⟨gb360, 2, none⟩ = some (.int .i64 t348) ∧ w'.cell? ⟨gb360, 3, none⟩ = some (.int .i64 t349) ∧ w'.cell? ⟨gb360, 4, none⟩ = some (.slice Ao46 t350.length co46) ∧ w'.cell? ⟨gb360, 5, none⟩ = some (.slice Ao47 t353.length co47) ∧ w'.cell? ⟨gb360, 6, none⟩ = some (.slice Ao48 t356.length co48) ∧ w'.cell? ⟨gb360, 7, none⟩ = some (.int .i64 t359) ∧ w'.cell? ⟨gb343, 0, none⟩ = some (.int .i64 t328) ∧ w'.cell? ⟨gb343, 1, none⟩ = some (.int .i64 t329) ∧ w'.cell? ⟨gb343, 2, none⟩ = some (.int .i64 t330) ∧ w'.cell? ⟨gb343, 3, none⟩ = some (.int .i64 t331) ∧ w'.cell? ⟨gb343, 4, none⟩ = some (.slice Ao36 t332.length co36) ∧ w'.cell? ⟨gb343, 5, none⟩ = some (.slice Ao37 t335.length co37) ∧ w'.cell? ⟨gb343, 6, none⟩ = some (.slice Ao38 t338.length co38) ∧ w'.cell? ⟨gb343, 7, none⟩ = some (.int .i64 t341) ∧ w'.cell? ⟨gb308, 0, none⟩ = some (.int .i64 a0_0) ∧ w'.cell? ⟨gb308, 1, none⟩ = some (.int .i64 a0_1) ∧ w'.cell? ⟨gb308, 2, none⟩ = some (.int .i64 a0_2) ∧ w'.cell? ⟨gb308, 3, none⟩ = some (.slice A0_3 l0_3.length c0_3)) (ds := []) (bb 28 0) (by kernel_rfl) rfl rfl ⟨(blk_cell BK327.out 0).trans rfl, (blk_cell BK327.out 1).trans rfl, (blk_cell BK327.out 2).trans rfl, (blk_cell BK327.out 3).trans rfl, (blk_cell BK327.out 4).trans rfl, (blk_cell BK327.out 5).trans rfl, (blk_cell BK327.out 6).trans rfl, (blk_cell BK327.out 7).trans rfl, (blk_cell BK360.out 0).trans rfl, (blk_cell BK360.out 1).trans rfl, (blk_cell BK360.out 2).trans rfl, (blk_cell BK360.out 3).trans rfl, (blk_cell BK360.out 4).trans rfl, (blk_cell BK360.out 5).trans rfl, (blk_cell BK360.out 6).trans rfl, (blk_cell BK360.out 7).trans rfl, (blk_cell BK343.out 0).trans rfl, (blk_cell BK343.out 1).trans rfl, (blk_cell BK343.out 2).trans rfl, (blk_cell BK343.out 3).trans rfl, (blk_cell BK343.out 4).trans rfl, (blk_cell BK343.out 5).trans rfl, (blk_cell BK343.out 6).trans rfl, (blk_cell BK343.out 7).trans rfl, (blk_cell BK308.out 0).trans rfl, (blk_cell BK308.out 1).trans rfl, (blk_cell BK308.out 2).trans rfl, (blk_cell BK308.out 3).trans rfl⟩ (fun hHeld => ?_); refine with_tabW regcertlaw10_ExecuteMatchesReference.tab10 regcertlaw10_ExecuteMatchesReference.bits10 (fun HT_ HW_ => ?_)
     generalize wc.drew = w70 at HO_328004 HO_328005 HO_328006 HO_344004 HO_344005 HO_344006 HO_361004 HO_361005 HO_361006 BK308 BK327 BK343 BK360 HB hHeld ⊢
     refine pv HT_.out 0 77 (bb 28 1) ?_
     refine pv HT_.out 1 78 (bb 28 3) ?_
     refine pv HT_.out 2 79 (bb 28 7) ?_
     refine pv HT_.out 3 80 (bb 28 15) ?_
     refine pv HT_.out 4 81 (bb 28 31) ?_
     refine pv HT_.out 5 82 (bb 28 63) ?_
     refine pv HT_.out 6 83 (bb 28 127) ?_
     refine tv hHeld HT_.out HW_.out 7 84 (bb 28 255) ?_
     refine tv hHeld HT_.out HW_.out 8 85 (bb 28 511) ?_
     refine one_ (i := 9) (N := some 86) (bb 28 1023) rfl rfl (one_of HT_.out (by kernel_rfl)) (by decide) (fun K hK => ?_)
     refine goes_ Try.func33 (by kernel_rfl) rfl #[.agg #[.int .i64 t312, .int .i64 t313, .int .i64 t314, .int .i64 t315, .slice Ao27 t316.length co27, .slice Ao28 t319.length co28, .slice Ao29 t322.length co29, .int .i64 t325], .agg #[.int .i64 t346, .int .i64 t347, .int .i64 t348, .int .i64 t349, .slice Ao46 t350.length co46, .slice Ao47 t353.length co47, .slice Ao48 t356.length co48, .int .i64 t359]] (by rfl) rfl rfl (by (try simp only [List.map_toArray, List.map_cons, List.map_nil]); first | done | rfl | (simp only [List.length_drop, List.length_take]; rfl)) ?_
     with_reducible refine (regcertref09_Same.calls kj20 t312 t313 t314 t315 _ _ t316 _ _ t319 _ _ t322 t325 t346 t347 t348 t349 _ _ t350 _ _ t353 _ _ t356 t359 true _ ?side1 ?side2 ?side3 ?side4 ?side5 ?side6 ?side7 ?side8 ?side9 ?side10 ?side11 ?side12 A62.out).mono ?_
     (case side1 => repeat (first | exact (Kd.R_reads' HO_328004.out).2.2 | (with_reducible refine Kd.C_alloc ?_ _) | (with_reducible refine Kd.C_drewN ?_ _) | (with_reducible refine Kd.C_drew ?_)))
     (case side2 => exact (Kd.R_reads' HO_328004.out).2.1)
     (case side3 => repeat (first | exact (Kd.R_reads' HO_328005.out).2.2 | (with_reducible refine Kd.C_alloc ?_ _) | (with_reducible refine Kd.C_drewN ?_ _) | (with_reducible refine Kd.C_drew ?_)))
     (case side4 => exact (Kd.R_reads' HO_328005.out).2.1)
     (case side5 => repeat (first | exact (Kd.R_reads' HO_328006.out).2.2 | (with_reducible refine Kd.C_alloc ?_ _) | (with_reducible refine Kd.C_drewN ?_ _) | (with_reducible refine Kd.C_drew ?_)))
     (case side6 => exact (Kd.R_reads' HO_328006.out).2.1)
     (case side7 => repeat (first | exact (Kd.R_reads' HO_361004.out).2.2 | (with_reducible refine Kd.C_alloc ?_ _) | (with_reducible refine Kd.C_drewN ?_ _) | (with_reducible refine Kd.C_drew ?_)))
     (case side8 => exact (Kd.R_reads' HO_361004.out).2.1)
     (case side9 => repeat (first | exact (Kd.R_reads' HO_361005.out).2.2 | (with_reducible refine Kd.C_alloc ?_ _) | (with_reducible refine Kd.C_drewN ?_ _) | (with_reducible refine Kd.C_drew ?_)))
     (case side10 => exact (Kd.R_reads' HO_361005.out).2.1)
     (case side11 => repeat (first | exact (Kd.R_reads' HO_361006.out).2.2 | (with_reducible refine Kd.C_alloc ?_ _) | (with_reducible refine Kd.C_drewN ?_ _) | (with_reducible refine Kd.C_drew ?_)))
     (case side12 => exact (Kd.R_reads' HO_361006.out).2.1)
     rintro e w71 ⟨rfl, hb⟩
     refine ⟨_, rfl, ?_⟩
     replace HO_328004 := As0 (Kd.R_below (RU HO_328004.out) hb)
     replace HO_328005 := As0 (Kd.R_below (RU HO_328005.out) hb)
     replace HO_328006 := As0 (Kd.R_below (RU HO_328006.out) hb)
     replace HO_344004 := As0 (Kd.R_below (RU HO_344004.out) hb)
     replace HO_344005 := As0 (Kd.R_below (RU HO_344005.out) hb)
     replace HO_344006 := As0 (Kd.R_below (RU HO_344006.out) hb)
     replace HO_361004 := As0 (Kd.R_below (RU HO_361004.out) hb)
     replace HO_361005 := As0 (Kd.R_below (RU HO_361005.out) hb)
     replace HO_361006 := As0 (Kd.R_below (RU HO_361006.out) hb)
     replace BK308 := As0 (blk_below (bU BK308.out) hb)
     replace BK327 := As0 (blk_below (bU BK327.out) hb)
     replace BK343 := As0 (blk_below (bU BK343.out) hb)
     replace BK360 := As0 (blk_below (bU BK360.out) hb)
     replace HB := As0 (below_step (BU HB.out) hb)
     (try clear hb)
     (try clear hb2)
     (try clear hk)
     (try clear hi)
     refine hK.out _ _ ⟨(blk_cell BK327.out 0).trans rfl, (blk_cell BK327.out 1).trans rfl, (blk_cell BK327.out 2).trans rfl, (blk_cell BK327.out 3).trans rfl, (blk_cell BK327.out 4).trans rfl, (blk_cell BK327.out 5).trans rfl, (blk_cell BK327.out 6).trans rfl, (blk_cell BK327.out 7).trans rfl, (blk_cell BK360.out 0).trans rfl, (blk_cell BK360.out 1).trans rfl, (blk_cell BK360.out 2).trans rfl, (blk_cell BK360.out 3).trans rfl, (blk_cell BK360.out 4).trans rfl, (blk_cell BK360.out 5).trans rfl, (blk_cell BK360.out 6).trans rfl, (blk_cell BK360.out 7).trans rfl, (blk_cell BK343.out 0).trans rfl, (blk_cell BK343.out 1).trans rfl, (blk_cell BK343.out 2).trans rfl, (blk_cell BK343.out 3).trans rfl, (blk_cell BK343.out 4).trans rfl, (blk_cell BK343.out 5).trans rfl, (blk_cell BK343.out 6).trans rfl, (blk_cell BK343.out 7).trans rfl, (blk_cell BK308.out 0).trans rfl, (blk_cell BK308.out 1).trans rfl, (blk_cell BK308.out 2).trans rfl, (blk_cell BK308.out 3).trans rfl⟩ (fun hHeld => ?_)
     clear hK K
     refine norm_ (a' := ?_) ?_ ?_
     rotate_left
     ·show Act.put _ (some 86) _ = _
      simp only [Act.put, sL1, sL2, sL3, i64_w, i32_w]
      rfl
     refine pv HT_.out 10 87 (bb 28 2047) ?_
     refine pv HT_.out 11 88 (bb 28 4095) ?_
     refine pv HT_.out 14 91 (bb 28 20479) ?_
     refine tv hHeld HT_.out HW_.out 12 89 (bb 28 24575) ?_
     refine tv hHeld HT_.out HW_.out 13 90 (bb 28 32767) ?_
     refine one_ (i := 15) (N := some 92) (bb 28 65535) rfl rfl (one_of HT_.out (by kernel_rfl)) (by decide) (fun K hK => ?_)
     refine goes_ Try.func55 (by kernel_rfl) rfl #[.agg #[.int .i64 a0_0, .int .i64 a0_1, .int .i64 a0_2, .slice A0_3 l0_3.length c0_3], .slice A1 l1.length c1] (by rfl) rfl rfl (by (try simp only [List.map_toArray, List.map_cons, List.map_nil]); first | done | rfl | (simp only [List.length_drop, List.length_take]; rfl)) ?_
     with_reducible refine (regcertref10_Start.calls kj20 a0_0 a0_1 a0_2 _ _ l0_3 _ _ l1 t365 t366 t367 t368 t369 t372 t375 t378 _ ?side1 ?side2 ?side3 ?side4 A64.out).mono ?_
     (case side1 => repeat (first | exact (Kd.C_below HR0_3.out HB.out) | (with_reducible refine Kd.C_alloc ?_ _) | (with_reducible refine Kd.C_drewN ?_ _) | (with_reducible refine Kd.C_drew ?_)))
     (case side2 => exact HC0_3.out)
     (case side3 => repeat (first | exact (Kd.C_below HR1.out HB.out) | (with_reducible refine Kd.C_alloc ?_ _) | (with_reducible refine Kd.C_drewN ?_ _) | (with_reducible refine Kd.C_drew ?_)))
     (case side4 => exact HC1.out)
     rintro e w72 ⟨v370, v373, v376, rfl, ho0, ho1, ho2, hb⟩
     refine ⟨_, rfl, ?_⟩
     have HO371 := As0 (Kd.R_lower (Kd.R_new' (Kd.R_new' (Kd.R_new' (Kd.R_new' (Kd.R_new' (Kd.R_new' (Kd.R_new' (Kd.R_new' (Kd.R_new' ho0 (Kd.R_lt (RU HO_328004.out))) (Kd.R_lt (RU HO_328005.out))) (Kd.R_lt (RU HO_328006.out))) (Kd.R_lt (RU HO_344004.out))) (Kd.R_lt (RU HO_344005.out))) (Kd.R_lt (RU HO_344006.out))) (Kd.R_lt (RU HO_361004.out))) (Kd.R_lt (RU HO_361005.out))) (Kd.R_lt (RU HO_361006.out))) (below_size (BU HB.out)))
     have HO374 := As0 (Kd.R_lower (Kd.R_new' (Kd.R_new' (Kd.R_new' (Kd.R_new' (Kd.R_new' (Kd.R_new' (Kd.R_new' (Kd.R_new' (Kd.R_new' ho1 (Kd.R_lt (RU HO_328004.out))) (Kd.R_lt (RU HO_328005.out))) (Kd.R_lt (RU HO_328006.out))) (Kd.R_lt (RU HO_344004.out))) (Kd.R_lt (RU HO_344005.out))) (Kd.R_lt (RU HO_344006.out))) (Kd.R_lt (RU HO_361004.out))) (Kd.R_lt (RU HO_361005.out))) (Kd.R_lt (RU HO_361006.out))) (below_size (BU HB.out)))
     have HO377 := As0 (Kd.R_lower (Kd.R_new' (Kd.R_new' (Kd.R_new' (Kd.R_new' (Kd.R_new' (Kd.R_new' (Kd.R_new' (Kd.R_new' (Kd.R_new' ho2 (Kd.R_lt (RU HO_328004.out))) (Kd.R_lt (RU HO_328005.out))) (Kd.R_lt (RU HO_328006.out))) (Kd.R_lt (RU HO_344004.out))) (Kd.R_lt (RU HO_344005.out))) (Kd.R_lt (RU HO_344006.out))) (Kd.R_lt (RU HO_361004.out))) (Kd.R_lt (RU HO_361005.out))) (Kd.R_lt (RU HO_361006.out))) (below_size (BU HB.out)))
     replace HO_328004 := As0 (Kd.R_mono (Kd.R_told (Kd.R_told (Kd.R_told (Kd.R_old (RU HO_328004.out) hb) (Kd.R_base ho0)) (Kd.R_base ho1)) (Kd.R_base ho2)) (fun _ h_ => h_.1))
     replace HO_328005 := As0 (Kd.R_mono (Kd.R_told (Kd.R_told (Kd.R_told (Kd.R_old (RU HO_328005.out) hb) (Kd.R_base ho0)) (Kd.R_base ho1)) (Kd.R_base ho2)) (fun _ h_ => h_.1))
     replace HO_328006 := As0 (Kd.R_mono (Kd.R_told (Kd.R_told (Kd.R_told (Kd.R_old (RU HO_328006.out) hb) (Kd.R_base ho0)) (Kd.R_base ho1)) (Kd.R_base ho2)) (fun _ h_ => h_.1))
     replace HO_344004 := As0 (Kd.R_mono (Kd.R_told (Kd.R_told (Kd.R_told (Kd.R_old (RU HO_344004.out) hb) (Kd.R_base ho0)) (Kd.R_base ho1)) (Kd.R_base ho2)) (fun _ h_ => h_.1))
     replace HO_344005 := As0 (Kd.R_mono (Kd.R_told (Kd.R_told (Kd.R_told (Kd.R_old (RU HO_344005.out) hb) (Kd.R_base ho0)) (Kd.R_base ho1)) (Kd.R_base ho2)) (fun _ h_ => h_.1))
     replace HO_344006 := As0 (Kd.R_mono (Kd.R_told (Kd.R_told (Kd.R_told (Kd.R_old (RU HO_344006.out) hb) (Kd.R_base ho0)) (Kd.R_base ho1)) (Kd.R_base ho2)) (fun _ h_ => h_.1))
     replace HO_361004 := As0 (Kd.R_mono (Kd.R_told (Kd.R_told (Kd.R_told (Kd.R_old (RU HO_361004.out) hb) (Kd.R_base ho0)) (Kd.R_base ho1)) (Kd.R_base ho2)) (fun _ h_ => h_.1))
     replace HO_361005 := As0 (Kd.R_mono (Kd.R_told (Kd.R_told (Kd.R_told (Kd.R_old (RU HO_361005.out) hb) (Kd.R_base ho0)) (Kd.R_base ho1)) (Kd.R_base ho2)) (fun _ h_ => h_.1))
     replace HO_361006 := As0 (Kd.R_mono (Kd.R_told (Kd.R_told (Kd.R_told (Kd.R_old (RU HO_361006.out) hb) (Kd.R_base ho0)) (Kd.R_base ho1)) (Kd.R_base ho2)) (fun _ h_ => h_.1))
     replace BK308 := As0 (blk_below (bU BK308.out) hb)
     replace BK327 := As0 (blk_below (bU BK327.out) hb)
     replace BK343 := As0 (blk_below (bU BK343.out) hb)
     replace BK360 := As0 (blk_below (bU BK360.out) hb)
     replace HB := As0 (below_step (BU HB.out) hb)
     (try clear hb)
     (try clear hb2)
     (try clear hk)
     (try clear hi)
     (try clear ho0)
     (try clear ho1)
     (try clear ho2)
     obtain ⟨Ao73, co73, eo73⟩ := Kd.R_slice HO371.out
     (first | subst eo73 | (injection eo73 with f1_ f2_ f3_; have f4_ := f1_.symm; have f5_ := f3_.symm; clear f1_ f2_ f3_; subst f4_; subst f5_))
     obtain ⟨Ao74, co74, eo74⟩ := Kd.R_slice HO374.out
     (first | subst eo74 | (injection eo74 with f1_ f2_ f3_; have f4_ := f1_.symm; have f5_ := f3_.symm; clear f1_ f2_ f3_; subst f4_; subst f5_))
     obtain ⟨Ao75, co75, eo75⟩ := Kd.R_slice HO377.out
     (first | subst eo75 | (injection eo75 with f1_ f2_ f3_; have f4_ := f1_.symm; have f5_ := f3_.symm; clear f1_ f2_ f3_; subst f4_; subst f5_))
     refine hK.out _ _ ⟨(blk_cell BK327.out 0).trans rfl, (blk_cell BK327.out 1).trans rfl, (blk_cell BK327.out 2).trans rfl, (blk_cell BK327.out 3).trans rfl, (blk_cell BK327.out 4).trans rfl, (blk_cell BK327.out 5).trans rfl, (blk_cell BK327.out 6).trans rfl, (blk_cell BK327.out 7).trans rfl, (blk_cell BK360.out 0).trans rfl, (blk_cell BK360.out 1).trans rfl, (blk_cell BK360.out 2).trans rfl, (blk_cell BK360.out 3).trans rfl, (blk_cell BK360.out 4).trans rfl, (blk_cell BK360.out 5).trans rfl, (blk_cell BK360.out 6).trans rfl, (blk_cell BK360.out 7).trans rfl, (blk_cell BK343.out 0).trans rfl, (blk_cell BK343.out 1).trans rfl, (blk_cell BK343.out 2).trans rfl, (blk_cell BK343.out 3).trans rfl, (blk_cell BK343.out 4).trans rfl, (blk_cell BK343.out 5).trans rfl, (blk_cell BK343.out 6).trans rfl, (blk_cell BK343.out 7).trans rfl, (blk_cell BK308.out 0).trans rfl, (blk_cell BK308.out 1).trans rfl, (blk_cell BK308.out 2).trans rfl, (blk_cell BK308.out 3).trans rfl⟩ (fun hHeld => ?_)
     clear hK K
     refine norm_ (a' := ?_) ?_ ?_
     rotate_left
     ·show Act.put _ (some 92) _ = _
      simp only [Act.put, sL1, sL2, sL3, i64_w, i32_w]
      rfl
     refine one_ (i := 16) (N := some 93) (bb 28 131071) rfl rfl (one_of HT_.out (by kernel_rfl)) (by decide) (fun K hK => ?_)
     refine goes_ Try.func33 (by kernel_rfl) rfl #[.agg #[.int .i64 t328, .int .i64 t329, .int .i64 t330, .int .i64 t331, .slice Ao36 t332.length co36, .slice Ao37 t335.length co37, .slice Ao38 t338.length co38, .int .i64 t341], .agg #[.int .i64 t365, .int .i64 t366, .int .i64 t367, .int .i64 t368, .slice Ao73 t369.length co73, .slice Ao74 t372.length co74, .slice Ao75 t375.length co75, .int .i64 t378]] (by rfl) rfl rfl (by (try simp only [List.map_toArray, List.map_cons, List.map_nil]); first | done | rfl | (simp only [List.length_drop, List.length_take]; rfl)) ?_
     with_reducible refine (regcertref09_Same.calls kj20 t328 t329 t330 t331 _ _ t332 _ _ t335 _ _ t338 t341 t365 t366 t367 t368 _ _ t369 _ _ t372 _ _ t375 t378 true _ ?side1 ?side2 ?side3 ?side4 ?side5 ?side6 ?side7 ?side8 ?side9 ?side10 ?side11 ?side12 A65.out).mono ?_
     (case side1 => repeat (first | exact (Kd.R_reads' HO_344004.out).2.2 | (with_reducible refine Kd.C_alloc ?_ _) | (with_reducible refine Kd.C_drewN ?_ _) | (with_reducible refine Kd.C_drew ?_)))
     (case side2 => exact (Kd.R_reads' HO_344004.out).2.1)
     (case side3 => repeat (first | exact (Kd.R_reads' HO_344005.out).2.2 | (with_reducible refine Kd.C_alloc ?_ _) | (with_reducible refine Kd.C_drewN ?_ _) | (with_reducible refine Kd.C_drew ?_)))
     (case side4 => exact (Kd.R_reads' HO_344005.out).2.1)
     (case side5 => repeat (first | exact (Kd.R_reads' HO_344006.out).2.2 | (with_reducible refine Kd.C_alloc ?_ _) | (with_reducible refine Kd.C_drewN ?_ _) | (with_reducible refine Kd.C_drew ?_)))
     (case side6 => exact (Kd.R_reads' HO_344006.out).2.1)
     (case side7 => repeat (first | exact (Kd.R_reads' HO371.out).2.2 | (with_reducible refine Kd.C_alloc ?_ _) | (with_reducible refine Kd.C_drewN ?_ _) | (with_reducible refine Kd.C_drew ?_)))
     (case side8 => exact (Kd.R_reads' HO371.out).2.1)
     (case side9 => repeat (first | exact (Kd.R_reads' HO374.out).2.2 | (with_reducible refine Kd.C_alloc ?_ _) | (with_reducible refine Kd.C_drewN ?_ _) | (with_reducible refine Kd.C_drew ?_)))
     (case side10 => exact (Kd.R_reads' HO374.out).2.1)
     (case side11 => repeat (first | exact (Kd.R_reads' HO377.out).2.2 | (with_reducible refine Kd.C_alloc ?_ _) | (with_reducible refine Kd.C_drewN ?_ _) | (with_reducible refine Kd.C_drew ?_)))
     (case side12 => exact (Kd.R_reads' HO377.out).2.1)
     rintro e w76 ⟨rfl, hb⟩
     refine ⟨_, rfl, ?_⟩
     replace HO_328004 := As0 (Kd.R_below (RU HO_328004.out) hb)
     replace HO_328005 := As0 (Kd.R_below (RU HO_328005.out) hb)
     replace HO_328006 := As0 (Kd.R_below (RU HO_328006.out) hb)
     replace HO_344004 := As0 (Kd.R_below (RU HO_344004.out) hb)
     replace HO_344005 := As0 (Kd.R_below (RU HO_344005.out) hb)
     replace HO_344006 := As0 (Kd.R_below (RU HO_344006.out) hb)
     replace HO_361004 := As0 (Kd.R_below (RU HO_361004.out) hb)
     replace HO_361005 := As0 (Kd.R_below (RU HO_361005.out) hb)
     replace HO_361006 := As0 (Kd.R_below (RU HO_361006.out) hb)
     replace HO371 := As0 (Kd.R_below (RU HO371.out) hb)
     replace HO374 := As0 (Kd.R_below (RU HO374.out) hb)
     replace HO377 := As0 (Kd.R_below (RU HO377.out) hb)
     replace BK308 := As0 (blk_below (bU BK308.out) hb)
     replace BK327 := As0 (blk_below (bU BK327.out) hb)
     replace BK343 := As0 (blk_below (bU BK343.out) hb)
     replace BK360 := As0 (blk_below (bU BK360.out) hb)
     replace HB := As0 (below_step (BU HB.out) hb)
     (try clear hb)
     (try clear hb2)
     (try clear hk)
     (try clear hi)
     refine hK.out _ _ ⟨(blk_cell BK327.out 0).trans rfl, (blk_cell BK327.out 1).trans rfl, (blk_cell BK327.out 2).trans rfl, (blk_cell BK327.out 3).trans rfl, (blk_cell BK327.out 4).trans rfl, (blk_cell BK327.out 5).trans rfl, (blk_cell BK327.out 6).trans rfl, (blk_cell BK327.out 7).trans rfl, (blk_cell BK360.out 0).trans rfl, (blk_cell BK360.out 1).trans rfl, (blk_cell BK360.out 2).trans rfl, (blk_cell BK360.out 3).trans rfl, (blk_cell BK360.out 4).trans rfl, (blk_cell BK360.out 5).trans rfl, (blk_cell BK360.out 6).trans rfl, (blk_cell BK360.out 7).trans rfl, (blk_cell BK343.out 0).trans rfl, (blk_cell BK343.out 1).trans rfl, (blk_cell BK343.out 2).trans rfl, (blk_cell BK343.out 3).trans rfl, (blk_cell BK343.out 4).trans rfl, (blk_cell BK343.out 5).trans rfl, (blk_cell BK343.out 6).trans rfl, (blk_cell BK343.out 7).trans rfl, (blk_cell BK308.out 0).trans rfl, (blk_cell BK308.out 1).trans rfl, (blk_cell BK308.out 2).trans rfl, (blk_cell BK308.out 3).trans rfl⟩ (fun hHeld => ?_)
     clear hK K
     refine norm_ (a' := ?_) ?_ ?_
     rotate_left
     ·show Act.put _ (some 93) _ = _
      simp only [Act.put, sL1, sL2, sL3, i64_w, i32_w]
      rfl
     refine pv HT_.out 17 94 (bb 28 262143) ?_
     refine pv HT_.out 18 95 (bb 28 524287) ?_
     refine tv hHeld HT_.out HW_.out 19 96 (bb 28 1048575) ?_
     refine tv hHeld HT_.out HW_.out 20 97 (bb 28 2097151) ?_
     refine tv hHeld HT_.out HW_.out 22 99 (bb 28 6291455) ?_
     refine tv hHeld HT_.out HW_.out 23 100 (bb 28 14680063) ?_
     refine one_ (i := 21) (N := some 98) (bb 28 16777215) rfl rfl (one_of HT_.out (by kernel_rfl)) (by decide) (fun K hK => ?_)
     refine goes_ Try.func56 (by kernel_rfl) rfl #[.agg #[.int .i64 a0_0, .int .i64 a0_1, .int .i64 a0_2, .slice A0_3 l0_3.length c0_3], .agg #[.int .i64 t346, .int .i64 t347, .int .i64 t348, .int .i64 t349, .slice Ao46 t350.length co46, .slice Ao47 t353.length co47, .slice Ao48 t356.length co48, .int .i64 t359]] (by rfl) rfl rfl (by (try simp only [List.map_toArray, List.map_cons, List.map_nil]); first | done | rfl | (simp only [List.length_drop, List.length_take]; rfl)) ?_
     with_reducible refine (execute_Step.calls a0_0 a0_1 a0_2 _ _ l0_3 t346 t347 t348 t349 _ _ t350 _ _ t353 _ _ t356 t359 t380 t381 t382 t383 t384 t387 t390 t393 _ ?side1 ?side2 ?side3 ?side4 ?side5 ?side6 ?side7 ?side8 A67.out).mono ?_
     (case side1 => repeat (first | exact (Kd.C_below HR0_3.out HB.out) | (with_reducible refine Kd.C_alloc ?_ _) | (with_reducible refine Kd.C_drewN ?_ _) | (with_reducible refine Kd.C_drew ?_)))
     (case side2 => exact HC0_3.out)
     (case side3 => repeat (first | exact (Kd.R_reads' HO_361004.out).2.2 | (with_reducible refine Kd.C_alloc ?_ _) | (with_reducible refine Kd.C_drewN ?_ _) | (with_reducible refine Kd.C_drew ?_)))
     (case side4 => exact (Kd.R_reads' HO_361004.out).2.1)
     (case side5 => repeat (first | exact (Kd.R_reads' HO_361005.out).2.2 | (with_reducible refine Kd.C_alloc ?_ _) | (with_reducible refine Kd.C_drewN ?_ _) | (with_reducible refine Kd.C_drew ?_)))
     (case side6 => exact (Kd.R_reads' HO_361005.out).2.1)
     (case side7 => repeat (first | exact (Kd.R_reads' HO_361006.out).2.2 | (with_reducible refine Kd.C_alloc ?_ _) | (with_reducible refine Kd.C_drewN ?_ _) | (with_reducible refine Kd.C_drew ?_)))
     (case side8 => exact (Kd.R_reads' HO_361006.out).2.1)
     rintro e w77 ⟨v385, v388, v391, rfl, ho0, ho1, ho2, hb⟩
     refine ⟨_, rfl, ?_⟩
     have HO386 := As0 (Kd.R_lower (Kd.R_new' (Kd.R_new' (Kd.R_new' (Kd.R_new' (Kd.R_new' (Kd.R_new' (Kd.R_new' (Kd.R_new' (Kd.R_new' (Kd.R_new' (Kd.R_new' (Kd.R_new' ho0 (Kd.R_lt (RU HO_328004.out))) (Kd.R_lt (RU HO_328005.out))) (Kd.R_lt (RU HO_328006.out))) (Kd.R_lt (RU HO_344004.out))) (Kd.R_lt (RU HO_344005.out))) (Kd.R_lt (RU HO_344006.out))) (Kd.R_lt (RU HO_361004.out))) (Kd.R_lt (RU HO_361005.out))) (Kd.R_lt (RU HO_361006.out))) (Kd.R_lt (RU HO371.out))) (Kd.R_lt (RU HO374.out))) (Kd.R_lt (RU HO377.out))) (below_size (BU HB.out)))
     have HO389 := As0 (Kd.R_lower (Kd.R_new' (Kd.R_new' (Kd.R_new' (Kd.R_new' (Kd.R_new' (Kd.R_new' (Kd.R_new' (Kd.R_new' (Kd.R_new' (Kd.R_new' (Kd.R_new' (Kd.R_new' ho1 (Kd.R_lt (RU HO_328004.out))) (Kd.R_lt (RU HO_328005.out))) (Kd.R_lt (RU HO_328006.out))) (Kd.R_lt (RU HO_344004.out))) (Kd.R_lt (RU HO_344005.out))) (Kd.R_lt (RU HO_344006.out))) (Kd.R_lt (RU HO_361004.out))) (Kd.R_lt (RU HO_361005.out))) (Kd.R_lt (RU HO_361006.out))) (Kd.R_lt (RU HO371.out))) (Kd.R_lt (RU HO374.out))) (Kd.R_lt (RU HO377.out))) (below_size (BU HB.out)))
     have HO392 := As0 (Kd.R_lower (Kd.R_new' (Kd.R_new' (Kd.R_new' (Kd.R_new' (Kd.R_new' (Kd.R_new' (Kd.R_new' (Kd.R_new' (Kd.R_new' (Kd.R_new' (Kd.R_new' (Kd.R_new' ho2 (Kd.R_lt (RU HO_328004.out))) (Kd.R_lt (RU HO_328005.out))) (Kd.R_lt (RU HO_328006.out))) (Kd.R_lt (RU HO_344004.out))) (Kd.R_lt (RU HO_344005.out))) (Kd.R_lt (RU HO_344006.out))) (Kd.R_lt (RU HO_361004.out))) (Kd.R_lt (RU HO_361005.out))) (Kd.R_lt (RU HO_361006.out))) (Kd.R_lt (RU HO371.out))) (Kd.R_lt (RU HO374.out))) (Kd.R_lt (RU HO377.out))) (below_size (BU HB.out)))
     replace HO_328004 := As0 (Kd.R_mono (Kd.R_told (Kd.R_told (Kd.R_told (Kd.R_old (RU HO_328004.out) hb) (Kd.R_base ho0)) (Kd.R_base ho1)) (Kd.R_base ho2)) (fun _ h_ => h_.1))
     replace HO_328005 := As0 (Kd.R_mono (Kd.R_told (Kd.R_told (Kd.R_told (Kd.R_old (RU HO_328005.out) hb) (Kd.R_base ho0)) (Kd.R_base ho1)) (Kd.R_base ho2)) (fun _ h_ => h_.1))
     replace HO_328006 := As0 (Kd.R_mono (Kd.R_told (Kd.R_told (Kd.R_told (Kd.R_old (RU HO_328006.out) hb) (Kd.R_base ho0)) (Kd.R_base ho1)) (Kd.R_base ho2)) (fun _ h_ => h_.1))
     replace HO_344004 := As0 (Kd.R_mono (Kd.R_told (Kd.R_told (Kd.R_told (Kd.R_old (RU HO_344004.out) hb) (Kd.R_base ho0)) (Kd.R_base ho1)) (Kd.R_base ho2)) (fun _ h_ => h_.1))
     replace HO_344005 := As0 (Kd.R_mono (Kd.R_told (Kd.R_told (Kd.R_told (Kd.R_old (RU HO_344005.out) hb) (Kd.R_base ho0)) (Kd.R_base ho1)) (Kd.R_base ho2)) (fun _ h_ => h_.1))
     replace HO_344006 := As0 (Kd.R_mono (Kd.R_told (Kd.R_told (Kd.R_told (Kd.R_old (RU HO_344006.out) hb) (Kd.R_base ho0)) (Kd.R_base ho1)) (Kd.R_base ho2)) (fun _ h_ => h_.1))
     replace HO_361004 := As0 (Kd.R_mono (Kd.R_told (Kd.R_told (Kd.R_told (Kd.R_old (RU HO_361004.out) hb) (Kd.R_base ho0)) (Kd.R_base ho1)) (Kd.R_base ho2)) (fun _ h_ => h_.1))
     replace HO_361005 := As0 (Kd.R_mono (Kd.R_told (Kd.R_told (Kd.R_told (Kd.R_old (RU HO_361005.out) hb) (Kd.R_base ho0)) (Kd.R_base ho1)) (Kd.R_base ho2)) (fun _ h_ => h_.1))
     replace HO_361006 := As0 (Kd.R_mono (Kd.R_told (Kd.R_told (Kd.R_told (Kd.R_old (RU HO_361006.out) hb) (Kd.R_base ho0)) (Kd.R_base ho1)) (Kd.R_base ho2)) (fun _ h_ => h_.1))
     replace HO371 := As0 (Kd.R_mono (Kd.R_told (Kd.R_told (Kd.R_told (Kd.R_old (RU HO371.out) hb) (Kd.R_base ho0)) (Kd.R_base ho1)) (Kd.R_base ho2)) (fun _ h_ => h_.1))
     replace HO374 := As0 (Kd.R_mono (Kd.R_told (Kd.R_told (Kd.R_told (Kd.R_old (RU HO374.out) hb) (Kd.R_base ho0)) (Kd.R_base ho1)) (Kd.R_base ho2)) (fun _ h_ => h_.1))
     replace HO377 := As0 (Kd.R_mono (Kd.R_told (Kd.R_told (Kd.R_told (Kd.R_old (RU HO377.out) hb) (Kd.R_base ho0)) (Kd.R_base ho1)) (Kd.R_base ho2)) (fun _ h_ => h_.1))
     replace BK308 := As0 (blk_below (bU BK308.out) hb)
     replace BK327 := As0 (blk_below (bU BK327.out) hb)
     replace BK343 := As0 (blk_below (bU BK343.out) hb)
     replace BK360 := As0 (blk_below (bU BK360.out) hb)
     replace HB := As0 (below_step (BU HB.out) hb)
     (try clear hb)
     (try clear hb2)
     (try clear hk)
     (try clear hi)
     (try clear ho0)
     (try clear ho1)
     (try clear ho2)
     refine hK.out _ _ ⟨(blk_cell BK327.out 0).trans rfl, (blk_cell BK327.out 1).trans rfl, (blk_cell BK327.out 2).trans rfl, (blk_cell BK327.out 3).trans rfl, (blk_cell BK327.out 4).trans rfl, (blk_cell BK327.out 5).trans rfl, (blk_cell BK327.out 6).trans rfl, (blk_cell BK327.out 7).trans rfl, (blk_cell BK360.out 0).trans rfl, (blk_cell BK360.out 1).trans rfl, (blk_cell BK360.out 2).trans rfl, (blk_cell BK360.out 3).trans rfl, (blk_cell BK360.out 4).trans rfl, (blk_cell BK360.out 5).trans rfl, (blk_cell BK360.out 6).trans rfl, (blk_cell BK360.out 7).trans rfl, (blk_cell BK343.out 0).trans rfl, (blk_cell BK343.out 1).trans rfl, (blk_cell BK343.out 2).trans rfl, (blk_cell BK343.out 3).trans rfl, (blk_cell BK343.out 4).trans rfl, (blk_cell BK343.out 5).trans rfl, (blk_cell BK343.out 6).trans rfl, (blk_cell BK343.out 7).trans rfl, (blk_cell BK308.out 0).trans rfl, (blk_cell BK308.out 1).trans rfl, (blk_cell BK308.out 2).trans rfl, (blk_cell BK308.out 3).trans rfl⟩ (fun hHeld => ?_)
     clear hK K
     refine norm_ (a' := ?_) ?_ ?_
     rotate_left
     ·show Act.put _ (some 98) _ = _
      simp only [Act.put, sL1, sL2, sL3, i64_w, i32_w]
      rfl
     refine one_ (i := 24) (N := some 101) (bb 28 33554431) rfl rfl (one_of HT_.out (by kernel_rfl)) (by decide) (fun K hK => ?_)
     refine goes_ Try.func57 (by kernel_rfl) rfl #[.agg #[.int .i64 a0_0, .int .i64 a0_1, .int .i64 a0_2, .slice A0_3 l0_3.length c0_3], .agg #[.int .i64 t346, .int .i64 t347, .int .i64 t348, .int .i64 t349, .slice Ao46 t350.length co46, .slice Ao47 t353.length co47, .slice Ao48 t356.length co48, .int .i64 t359]] (by rfl) rfl rfl (by (try simp only [List.map_toArray, List.map_cons, List.map_nil]); first | done | rfl | (simp only [List.length_drop, List.length_take]; rfl)) ?_
     with_reducible refine (regcertref10_Step.calls a0_0 a0_1 a0_2 _ _ l0_3 t346 t347 t348 t349 _ _ t350 _ _ t353 _ _ t356 t359 t394 t395 t396 t397 t398 t401 t404 t407 _ ?side1 ?side2 ?side3 ?side4 ?side5 ?side6 ?side7 ?side8 A68.out).mono ?_
     (case side1 => repeat (first | exact (Kd.C_below HR0_3.out HB.out) | (with_reducible refine Kd.C_alloc ?_ _) | (with_reducible refine Kd.C_drewN ?_ _) | (with_reducible refine Kd.C_drew ?_)))
     (case side2 => exact HC0_3.out)
     (case side3 => repeat (first | exact (Kd.R_reads' HO_361004.out).2.2 | (with_reducible refine Kd.C_alloc ?_ _) | (with_reducible refine Kd.C_drewN ?_ _) | (with_reducible refine Kd.C_drew ?_)))
     (case side4 => exact (Kd.R_reads' HO_361004.out).2.1)
     (case side5 => repeat (first | exact (Kd.R_reads' HO_361005.out).2.2 | (with_reducible refine Kd.C_alloc ?_ _) | (with_reducible refine Kd.C_drewN ?_ _) | (with_reducible refine Kd.C_drew ?_)))
     (case side6 => exact (Kd.R_reads' HO_361005.out).2.1)
     (case side7 => repeat (first | exact (Kd.R_reads' HO_361006.out).2.2 | (with_reducible refine Kd.C_alloc ?_ _) | (with_reducible refine Kd.C_drewN ?_ _) | (with_reducible refine Kd.C_drew ?_)))
     (case side8 => exact (Kd.R_reads' HO_361006.out).2.1)
     rintro e w78 ⟨v399, v402, v405, rfl, ho0, ho1, ho2, hb⟩
     refine ⟨_, rfl, ?_⟩
     have HO400 := As0 (Kd.R_lower (Kd.R_new' (Kd.R_new' (Kd.R_new' (Kd.R_new' (Kd.R_new' (Kd.R_new' (Kd.R_new' (Kd.R_new' (Kd.R_new' (Kd.R_new' (Kd.R_new' (Kd.R_new' (Kd.R_new' (Kd.R_new' (Kd.R_new' ho0 (Kd.R_lt (RU HO_328004.out))) (Kd.R_lt (RU HO_328005.out))) (Kd.R_lt (RU HO_328006.out))) (Kd.R_lt (RU HO_344004.out))) (Kd.R_lt (RU HO_344005.out))) (Kd.R_lt (RU HO_344006.out))) (Kd.R_lt (RU HO_361004.out))) (Kd.R_lt (RU HO_361005.out))) (Kd.R_lt (RU HO_361006.out))) (Kd.R_lt (RU HO371.out))) (Kd.R_lt (RU HO374.out))) (Kd.R_lt (RU HO377.out))) (Kd.R_lt (RU HO386.out))) (Kd.R_lt (RU HO389.out))) (Kd.R_lt (RU HO392.out))) (below_size (BU HB.out)))
     have HO403 := As0 (Kd.R_lower (Kd.R_new' (Kd.R_new' (Kd.R_new' (Kd.R_new' (Kd.R_new' (Kd.R_new' (Kd.R_new' (Kd.R_new' (Kd.R_new' (Kd.R_new' (Kd.R_new' (Kd.R_new' (Kd.R_new' (Kd.R_new' (Kd.R_new' ho1 (Kd.R_lt (RU HO_328004.out))) (Kd.R_lt (RU HO_328005.out))) (Kd.R_lt (RU HO_328006.out))) (Kd.R_lt (RU HO_344004.out))) (Kd.R_lt (RU HO_344005.out))) (Kd.R_lt (RU HO_344006.out))) (Kd.R_lt (RU HO_361004.out))) (Kd.R_lt (RU HO_361005.out))) (Kd.R_lt (RU HO_361006.out))) (Kd.R_lt (RU HO371.out))) (Kd.R_lt (RU HO374.out))) (Kd.R_lt (RU HO377.out))) (Kd.R_lt (RU HO386.out))) (Kd.R_lt (RU HO389.out))) (Kd.R_lt (RU HO392.out))) (below_size (BU HB.out)))
     have HO406 := As0 (Kd.R_lower (Kd.R_new' (Kd.R_new' (Kd.R_new' (Kd.R_new' (Kd.R_new' (Kd.R_new' (Kd.R_new' (Kd.R_new' (Kd.R_new' (Kd.R_new' (Kd.R_new' (Kd.R_new' (Kd.R_new' (Kd.R_new' (Kd.R_new' ho2 (Kd.R_lt (RU HO_328004.out))) (Kd.R_lt (RU HO_328005.out))) (Kd.R_lt (RU HO_328006.out))) (Kd.R_lt (RU HO_344004.out))) (Kd.R_lt (RU HO_344005.out))) (Kd.R_lt (RU HO_344006.out))) (Kd.R_lt (RU HO_361004.out))) (Kd.R_lt (RU HO_361005.out))) (Kd.R_lt (RU HO_361006.out))) (Kd.R_lt (RU HO371.out))) (Kd.R_lt (RU HO374.out))) (Kd.R_lt (RU HO377.out))) (Kd.R_lt (RU HO386.out))) (Kd.R_lt (RU HO389.out))) (Kd.R_lt (RU HO392.out))) (below_size (BU HB.out)))
     replace HO_328004 := As0 (Kd.R_mono (Kd.R_told (Kd.R_told (Kd.R_told (Kd.R_old (RU HO_328004.out) hb) (Kd.R_base ho0)) (Kd.R_base ho1)) (Kd.R_base ho2)) (fun _ h_ => h_.1))
     replace HO_328005 := As0 (Kd.R_mono (Kd.R_told (Kd.R_told (Kd.R_told (Kd.R_old (RU HO_328005.out) hb) (Kd.R_base ho0)) (Kd.R_base ho1)) (Kd.R_base ho2)) (fun _ h_ => h_.1))
     replace HO_328006 := As0 (Kd.R_mono (Kd.R_told (Kd.R_told (Kd.R_told (Kd.R_old (RU HO_328006.out) hb) (Kd.R_base ho0)) (Kd.R_base ho1)) (Kd.R_base ho2)) (fun _ h_ => h_.1))
     replace HO_344004 := As0 (Kd.R_mono (Kd.R_told (Kd.R_told (Kd.R_told (Kd.R_old (RU HO_344004.out) hb) (Kd.R_base ho0)) (Kd.R_base ho1)) (Kd.R_base ho2)) (fun _ h_ => h_.1))
     replace HO_344005 := As0 (Kd.R_mono (Kd.R_told (Kd.R_told (Kd.R_told (Kd.R_old (RU HO_344005.out) hb) (Kd.R_base ho0)) (Kd.R_base ho1)) (Kd.R_base ho2)) (fun _ h_ => h_.1))
     replace HO_344006 := As0 (Kd.R_mono (Kd.R_told (Kd.R_told (Kd.R_told (Kd.R_old (RU HO_344006.out) hb) (Kd.R_base ho0)) (Kd.R_base ho1)) (Kd.R_base ho2)) (fun _ h_ => h_.1))
     replace HO_361004 := As0 (Kd.R_mono (Kd.R_told (Kd.R_told (Kd.R_told (Kd.R_old (RU HO_361004.out) hb) (Kd.R_base ho0)) (Kd.R_base ho1)) (Kd.R_base ho2)) (fun _ h_ => h_.1))
     replace HO_361005 := As0 (Kd.R_mono (Kd.R_told (Kd.R_told (Kd.R_told (Kd.R_old (RU HO_361005.out) hb) (Kd.R_base ho0)) (Kd.R_base ho1)) (Kd.R_base ho2)) (fun _ h_ => h_.1))
     replace HO_361006 := As0 (Kd.R_mono (Kd.R_told (Kd.R_told (Kd.R_told (Kd.R_old (RU HO_361006.out) hb) (Kd.R_base ho0)) (Kd.R_base ho1)) (Kd.R_base ho2)) (fun _ h_ => h_.1))
     replace HO371 := As0 (Kd.R_mono (Kd.R_told (Kd.R_told (Kd.R_told (Kd.R_old (RU HO371.out) hb) (Kd.R_base ho0)) (Kd.R_base ho1)) (Kd.R_base ho2)) (fun _ h_ => h_.1))
     replace HO374 := As0 (Kd.R_mono (Kd.R_told (Kd.R_told (Kd.R_told (Kd.R_old (RU HO374.out) hb) (Kd.R_base ho0)) (Kd.R_base ho1)) (Kd.R_base ho2)) (fun _ h_ => h_.1))
     replace HO377 := As0 (Kd.R_mono (Kd.R_told (Kd.R_told (Kd.R_told (Kd.R_old (RU HO377.out) hb) (Kd.R_base ho0)) (Kd.R_base ho1)) (Kd.R_base ho2)) (fun _ h_ => h_.1))
     replace HO386 := As0 (Kd.R_mono (Kd.R_told (Kd.R_told (Kd.R_told (Kd.R_old (RU HO386.out) hb) (Kd.R_base ho0)) (Kd.R_base ho1)) (Kd.R_base ho2)) (fun _ h_ => h_.1))
     replace HO389 := As0 (Kd.R_mono (Kd.R_told (Kd.R_told (Kd.R_told (Kd.R_old (RU HO389.out) hb) (Kd.R_base ho0)) (Kd.R_base ho1)) (Kd.R_base ho2)) (fun _ h_ => h_.1))
     replace HO392 := As0 (Kd.R_mono (Kd.R_told (Kd.R_told (Kd.R_told (Kd.R_old (RU HO392.out) hb) (Kd.R_base ho0)) (Kd.R_base ho1)) (Kd.R_base ho2)) (fun _ h_ => h_.1))
     replace BK308 := As0 (blk_below (bU BK308.out) hb)
     replace BK327 := As0 (blk_below (bU BK327.out) hb)
     replace BK343 := As0 (blk_below (bU BK343.out) hb)
     replace BK360 := As0 (blk_below (bU BK360.out) hb)
     replace HB := As0 (below_step (BU HB.out) hb)
     (try clear hb)
     (try clear hb2)
     (try clear hk)
     (try clear hi)
     (try clear ho0)
     (try clear ho1)
     (try clear ho2)
     obtain ⟨Ao79, co79, eo79⟩ := Kd.R_slice HO386.out
     (first | subst eo79 | (injection eo79 with f1_ f2_ f3_; have f4_ := f1_.symm; have f5_ := f3_.symm; clear f1_ f2_ f3_; subst f4_; subst f5_))
     obtain ⟨Ao80, co80, eo80⟩ := Kd.R_slice HO389.out
     (first | subst eo80 | (injection eo80 with f1_ f2_ f3_; have f4_ := f1_.symm; have f5_ := f3_.symm; clear f1_ f2_ f3_; subst f4_; subst f5_))
     obtain ⟨Ao81, co81, eo81⟩ := Kd.R_slice HO392.out
     (first | subst eo81 | (injection eo81 with f1_ f2_ f3_; have f4_ := f1_.symm; have f5_ := f3_.symm; clear f1_ f2_ f3_; subst f4_; subst f5_))
     obtain ⟨Ao82, co82, eo82⟩ := Kd.R_slice HO400.out
     (first | subst eo82 | (injection eo82 with f1_ f2_ f3_; have f4_ := f1_.symm; have f5_ := f3_.symm; clear f1_ f2_ f3_; subst f4_; subst f5_))
     obtain ⟨Ao83, co83, eo83⟩ := Kd.R_slice HO403.out
     (first | subst eo83 | (injection eo83 with f1_ f2_ f3_; have f4_ := f1_.symm; have f5_ := f3_.symm; clear f1_ f2_ f3_; subst f4_; subst f5_))
     obtain ⟨Ao84, co84, eo84⟩ := Kd.R_slice HO406.out
     (first | subst eo84 | (injection eo84 with f1_ f2_ f3_; have f4_ := f1_.symm; have f5_ := f3_.symm; clear f1_ f2_ f3_; subst f4_; subst f5_))
     refine hK.out _ _ ⟨(blk_cell BK327.out 0).trans rfl, (blk_cell BK327.out 1).trans rfl, (blk_cell BK327.out 2).trans rfl, (blk_cell BK327.out 3).trans rfl, (blk_cell BK327.out 4).trans rfl, (blk_cell BK327.out 5).trans rfl, (blk_cell BK327.out 6).trans rfl, (blk_cell BK327.out 7).trans rfl, (blk_cell BK360.out 0).trans rfl, (blk_cell BK360.out 1).trans rfl, (blk_cell BK360.out 2).trans rfl, (blk_cell BK360.out 3).trans rfl, (blk_cell BK360.out 4).trans rfl, (blk_cell BK360.out 5).trans rfl, (blk_cell BK360.out 6).trans rfl, (blk_cell BK360.out 7).trans rfl, (blk_cell BK343.out 0).trans rfl, (blk_cell BK343.out 1).trans rfl, (blk_cell BK343.out 2).trans rfl, (blk_cell BK343.out 3).trans rfl, (blk_cell BK343.out 4).trans rfl, (blk_cell BK343.out 5).trans rfl, (blk_cell BK343.out 6).trans rfl, (blk_cell BK343.out 7).trans rfl, (blk_cell BK308.out 0).trans rfl, (blk_cell BK308.out 1).trans rfl, (blk_cell BK308.out 2).trans rfl, (blk_cell BK308.out 3).trans rfl⟩ (fun hHeld => ?_)
     clear hK K
     refine norm_ (a' := ?_) ?_ ?_
     rotate_left
     ·show Act.put _ (some 101) _ = _
      simp only [Act.put, sL1, sL2, sL3, i64_w, i32_w]
      rfl
     refine one_ (i := 25) (N := some 102) (bb 28 67108863) rfl rfl (one_of HT_.out (by kernel_rfl)) (by decide) (fun K hK => ?_)
     refine goes_ Try.func33 (by kernel_rfl) rfl #[.agg #[.int .i64 t380, .int .i64 t381, .int .i64 t382, .int .i64 t383, .slice Ao79 t384.length co79, .slice Ao80 t387.length co80, .slice Ao81 t390.length co81, .int .i64 t393], .agg #[.int .i64 t394, .int .i64 t395, .int .i64 t396, .int .i64 t397, .slice Ao82 t398.length co82, .slice Ao83 t401.length co83, .slice Ao84 t404.length co84, .int .i64 t407]] (by rfl) rfl rfl (by (try simp only [List.map_toArray, List.map_cons, List.map_nil]); first | done | rfl | (simp only [List.length_drop, List.length_take]; rfl)) ?_
     with_reducible refine (regcertref09_Same.calls kj20 t380 t381 t382 t383 _ _ t384 _ _ t387 _ _ t390 t393 t394 t395 t396 t397 _ _ t398 _ _ t401 _ _ t404 t407 t408 _ ?side1 ?side2 ?side3 ?side4 ?side5 ?side6 ?side7 ?side8 ?side9 ?side10 ?side11 ?side12 A69.out).mono ?_
     (case side1 => repeat (first | exact (Kd.R_reads' HO386.out).2.2 | (with_reducible refine Kd.C_alloc ?_ _) | (with_reducible refine Kd.C_drewN ?_ _) | (with_reducible refine Kd.C_drew ?_)))
     (case side2 => exact (Kd.R_reads' HO386.out).2.1)
     (case side3 => repeat (first | exact (Kd.R_reads' HO389.out).2.2 | (with_reducible refine Kd.C_alloc ?_ _) | (with_reducible refine Kd.C_drewN ?_ _) | (with_reducible refine Kd.C_drew ?_)))
     (case side4 => exact (Kd.R_reads' HO389.out).2.1)
     (case side5 => repeat (first | exact (Kd.R_reads' HO392.out).2.2 | (with_reducible refine Kd.C_alloc ?_ _) | (with_reducible refine Kd.C_drewN ?_ _) | (with_reducible refine Kd.C_drew ?_)))
     (case side6 => exact (Kd.R_reads' HO392.out).2.1)
     (case side7 => repeat (first | exact (Kd.R_reads' HO400.out).2.2 | (with_reducible refine Kd.C_alloc ?_ _) | (with_reducible refine Kd.C_drewN ?_ _) | (with_reducible refine Kd.C_drew ?_)))
     (case side8 => exact (Kd.R_reads' HO400.out).2.1)
     (case side9 => repeat (first | exact (Kd.R_reads' HO403.out).2.2 | (with_reducible refine Kd.C_alloc ?_ _) | (with_reducible refine Kd.C_drewN ?_ _) | (with_reducible refine Kd.C_drew ?_)))
     (case side10 => exact (Kd.R_reads' HO403.out).2.1)
     (case side11 => repeat (first | exact (Kd.R_reads' HO406.out).2.2 | (with_reducible refine Kd.C_alloc ?_ _) | (with_reducible refine Kd.C_drewN ?_ _) | (with_reducible refine Kd.C_drew ?_)))
     (case side12 => exact (Kd.R_reads' HO406.out).2.1)
     rintro e w85 ⟨rfl, hb⟩
     refine ⟨_, rfl, ?_⟩
     replace HO_328004 := As0 (Kd.R_below (RU HO_328004.out) hb)
     replace HO_328005 := As0 (Kd.R_below (RU HO_328005.out) hb)
     replace HO_328006 := As0 (Kd.R_below (RU HO_328006.out) hb)
     replace HO_344004 := As0 (Kd.R_below (RU HO_344004.out) hb)
     replace HO_344005 := As0 (Kd.R_below (RU HO_344005.out) hb)
     replace HO_344006 := As0 (Kd.R_below (RU HO_344006.out) hb)
     replace HO_361004 := As0 (Kd.R_below (RU HO_361004.out) hb)
     replace HO_361005 := As0 (Kd.R_below (RU HO_361005.out) hb)
     replace HO_361006 := As0 (Kd.R_below (RU HO_361006.out) hb)
     replace HO371 := As0 (Kd.R_below (RU HO371.out) hb)
     replace HO374 := As0 (Kd.R_below (RU HO374.out) hb)
     replace HO377 := As0 (Kd.R_below (RU HO377.out) hb)
     replace HO386 := As0 (Kd.R_below (RU HO386.out) hb)
     replace HO389 := As0 (Kd.R_below (RU HO389.out) hb)
     replace HO392 := As0 (Kd.R_below (RU HO392.out) hb)
     replace HO400 := As0 (Kd.R_below (RU HO400.out) hb)
     replace HO403 := As0 (Kd.R_below (RU HO403.out) hb)
     replace HO406 := As0 (Kd.R_below (RU HO406.out) hb)
     replace BK308 := As0 (blk_below (bU BK308.out) hb)
     replace BK327 := As0 (blk_below (bU BK327.out) hb)
     replace BK343 := As0 (blk_below (bU BK343.out) hb)
     replace BK360 := As0 (blk_below (bU BK360.out) hb)
     replace HB := As0 (below_step (BU HB.out) hb)
     (try clear hb)
     (try clear hb2)
     (try clear hk)
     (try clear hi)
     refine hK.out _ _ ⟨(blk_cell BK327.out 0).trans rfl, (blk_cell BK327.out 1).trans rfl, (blk_cell BK327.out 2).trans rfl, (blk_cell BK327.out 3).trans rfl, (blk_cell BK327.out 4).trans rfl, (blk_cell BK327.out 5).trans rfl, (blk_cell BK327.out 6).trans rfl, (blk_cell BK327.out 7).trans rfl, (blk_cell BK360.out 0).trans rfl, (blk_cell BK360.out 1).trans rfl, (blk_cell BK360.out 2).trans rfl, (blk_cell BK360.out 3).trans rfl, (blk_cell BK360.out 4).trans rfl, (blk_cell BK360.out 5).trans rfl, (blk_cell BK360.out 6).trans rfl, (blk_cell BK360.out 7).trans rfl, (blk_cell BK343.out 0).trans rfl, (blk_cell BK343.out 1).trans rfl, (blk_cell BK343.out 2).trans rfl, (blk_cell BK343.out 3).trans rfl, (blk_cell BK343.out 4).trans rfl, (blk_cell BK343.out 5).trans rfl, (blk_cell BK343.out 6).trans rfl, (blk_cell BK343.out 7).trans rfl, (blk_cell BK308.out 0).trans rfl, (blk_cell BK308.out 1).trans rfl, (blk_cell BK308.out 2).trans rfl, (blk_cell BK308.out 3).trans rfl⟩ (fun hHeld => ?_)
     clear hK K
     refine norm_ (a' := ?_) ?_ ?_
     rotate_left
     ·show Act.put _ (some 102) _ = _
      simp only [Act.put, sL1, sL2, sL3, i64_w, i32_w]
      rfl
     refine pv HT_.out 26 103 (bb 28 134217727) ?_
     refine pv HT_.out 27 8 (bb 28 268435455) ?_
     refine done_ (done_of HT_.out (by kernel_rfl)) ?_
     try go_wp2
     go_ret
     exact ⟨by first | rfl | (simp [errW_none, errW_some] <;> rfl) | (simp [*, errW_none, errW_some] <;> rfl), BU HB.out⟩

end Go.Proofs.Ytgkmagfajalnhaa.E
