-- Written by a program of this session (xprint), out of the translation. Not trusted: Lean checks it.
import Derived.Test.YtgkmagfajalnhaaTE0
import Derived.Test.YtgkmagfajalnhaaTEAwk
import Derived.Test.YtgkmagfajalnhaaTEChk
import Derived.Test.YtgkmagfajalnhaaTEStepE
import Derived.Test.YtgkmagfajalnhaaTERExec
namespace Go.Proofs.Ytgkmagfajalnhaa.E
open Go.RowKit Go.Proofs.YtgkmagfajalnhaaW.PrintWords Go.Proofs.YtgkmagfajalnhaaW.PrintLast Go.Proofs.YtgkmagfajalnhaaW.PrintMore
attribute [local go_sem] max2_int min2_int max_two min_two max_three min_three max_four min_four   -- for this text's walks alone
set_option linter.unusedVariables false
set_option linter.unusedSimpArgs false

/-! ### regcertlaw10_ExecuteMoveOnly: function 17 -/
mutual
def regcertlaw10_ExecuteMoveOnly.j0 : Nat → List Int → Int → Int → Bool → Int → Int → Int → List (S69) → Option (Bool)
 | 0, _, _, _, _, _, _, _, _ => none
 | k + 1, x1, x2, x3, x28, x304000, x304001, x304002, x304003 => if x28 = true then ((regcertlaw10_awake.f k).bind fun t306 => (some t306)) else ((regcertref10_Exec.f k x304000 x304001 x304002 x304003 x1 (Int.tmod (wrap64 (x2)) 60)).bind fun bt307 => (if 0 ≤ bt307.2.1 then (if bt307.2.1 < (x304003.length : Int) then (if bt307.1 = 0 then (if bt307.2.2.1 ≥ (((rd_T69 x304003 bt307.2.1).f0).length : Int) then (regcertlaw10_ExecuteMoveOnly.j1 k x3 true x304000 x304001 x304002 x304003 bt307.1 bt307.2.1 bt307.2.2.1 bt307.2.2.2.1 bt307.2.2.2.2.1 bt307.2.2.2.2.2.1 bt307.2.2.2.2.2.2.1 bt307.2.2.2.2.2.2.2 ((rd_T69 x304003 bt307.2.1).f0) ((rd_T69 x304003 bt307.2.1).f1.f0) ((rd_T69 x304003 bt307.2.1).f1.f1) ((rd_T69 x304003 bt307.2.1).f1.f2) ((rd_T69 x304003 bt307.2.1).f1.f3)) else (if 0 ≤ bt307.2.2.1 then (if bt307.2.2.1 < (((rd_T69 x304003 bt307.2.1).f0).length : Int) then (regcertlaw10_ExecuteMoveOnly.j1 k x3 (((rd_T84 ((rd_T69 x304003 bt307.2.1).f0) bt307.2.2.1).f0) != 18) x304000 x304001 x304002 x304003 bt307.1 bt307.2.1 bt307.2.2.1 bt307.2.2.2.1 bt307.2.2.2.2.1 bt307.2.2.2.2.2.1 bt307.2.2.2.2.2.2.1 bt307.2.2.2.2.2.2.2 ((rd_T69 x304003 bt307.2.1).f0) ((rd_T69 x304003 bt307.2.1).f1.f0) ((rd_T69 x304003 bt307.2.1).f1.f1) ((rd_T69 x304003 bt307.2.1).f1.f2) ((rd_T69 x304003 bt307.2.1).f1.f3)) else (none)) else (none))) else (regcertlaw10_ExecuteMoveOnly.j1 k x3 true x304000 x304001 x304002 x304003 bt307.1 bt307.2.1 bt307.2.2.1 bt307.2.2.2.1 bt307.2.2.2.2.1 bt307.2.2.2.2.2.1 bt307.2.2.2.2.2.2.1 bt307.2.2.2.2.2.2.2 ((rd_T69 x304003 bt307.2.1).f0) ((rd_T69 x304003 bt307.2.1).f1.f0) ((rd_T69 x304003 bt307.2.1).f1.f1) ((rd_T69 x304003 bt307.2.1).f1.f2) ((rd_T69 x304003 bt307.2.1).f1.f3))) else (none)) else (none)))
def regcertlaw10_ExecuteMoveOnly.j1 : Nat → Int → Bool → Int → Int → Int → List (S69) → Int → Int → Int → Int → List Int → List Int → List Int → Int → List (S84) → Int → Int → Int → Int → Option (Bool)
 | 0, _, _, _, _, _, _, _, _, _, _, _, _, _, _, _, _, _, _, _ => none
 | k + 1, x3, x62, x304000, x304001, x304002, x304003, x322000, x322001, x322002, x322003, x322004, x322005, x322006, x322007, x324000, x324001, x324002, x324003, x324004 => if x62 = true then (some true) else (if 0 ≤ x322002 then (if x322002 < (x324000.length : Int) then ((execute_Step.f x304000 x304001 x304002 x304003 x322000 x322001 x322002 x322003 x322004 x322005 x322006 x322007).bind fun bt327 => (if (bt327.2.2.2.2.1.length : Int) = x304001 then (if (bt327.2.2.2.2.2.1.length : Int) = x304002 then ((execute_Read.f bt327.1 bt327.2.1 bt327.2.2.1 bt327.2.2.2.1 bt327.2.2.2.2.1 bt327.2.2.2.2.2.1 bt327.2.2.2.2.2.2.1 bt327.2.2.2.2.2.2.2 ((rd_T84 x324000 x322002).f5)).bind fun t342 => ((execute_Read.f x322000 x322001 x322002 x322003 x322004 x322005 x322006 x322007 ((rd_T84 x324000 x322002).f6)).bind fun t343 => (if t342 = t343 then ((regcertref09_Values.f k bt327.2.2.2.2.2.2.1 x322006).bind fun t344 => (if t344 = true then (regcertlaw10_ExecuteMoveOnly.j2 k x3 (bt327.2.2.2.2.2.2.2 != (wrap64 (x322007 + 1))) x304000 x304001 x304002 x304003 x322000 x322001 x322002 x322003 x322004 x322005 x322006 x322007 ((rd_T84 x324000 x322002).f0) ((rd_T84 x324000 x322002).f1) ((rd_T84 x324000 x322002).f2) ((rd_T84 x324000 x322002).f3) ((rd_T84 x324000 x322002).f4) ((rd_T84 x324000 x322002).f5) ((rd_T84 x324000 x322002).f6) bt327.1 bt327.2.1 bt327.2.2.1 bt327.2.2.2.1 bt327.2.2.2.2.1 bt327.2.2.2.2.2.1 bt327.2.2.2.2.2.2.1 bt327.2.2.2.2.2.2.2) else (none))) else (none)))) else (none)) else (none))) else (none)) else (none))
def regcertlaw10_ExecuteMoveOnly.j2 : Nat → Int → Bool → Int → Int → Int → List (S69) → Int → Int → Int → Int → List Int → List Int → List Int → Int → Int → Int → Int → Int → Int → Int → Int → Int → Int → Int → Int → List Int → List Int → List Int → Int → Option (Bool)
 | 0, _, _, _, _, _, _, _, _, _, _, _, _, _, _, _, _, _, _, _, _, _, _, _, _, _, _, _, _, _ => none
 | k + 1, x3, x112, x304000, x304001, x304002, x304003, x322000, x322001, x322002, x322003, x322004, x322005, x322006, x322007, x327000, x327001, x327002, x327003, x327004, x327005, x327006, x342000, x342001, x342002, x342003, x342004, x342005, x342006, x342007 => if x112 = true then (none) else ((regcertref04_InRange.f x3 x304001 x304002).bind fun t345 => (if t345 = true then (if x3 = x327005 then (some true) else ((execute_Read.f x342000 x342001 x342002 x342003 x342004 x342005 x342006 x342007 x3).bind fun t346 => ((execute_Read.f x322000 x322001 x322002 x322003 x322004 x322005 x322006 x322007 x3).bind fun t347 => (some (t346 == t347))))) else (some true)))
end
def regcertlaw10_ExecuteMoveOnly.f (k : Nat) (a0_0 : Int) (a0_1 : Int) (a0_2 : Int) (l0_3 : List (S69)) (l1 : List Int) (a2 : Int) (a3 : Int) : Option (Bool) := (regcertlaw10_awake.f k).bind fun t304 => (if t304 = true then ((regcertref10_Right.f k a0_0 a0_1 a0_2 l0_3 l1 0).bind fun t305 => (if t305 = true then (regcertlaw10_ExecuteMoveOnly.j0 k l1 a2 a3 ((l1.length : Int) != a0_0) a0_0 a0_1 a0_2 l0_3) else (regcertlaw10_ExecuteMoveOnly.j0 k l1 a2 a3 true a0_0 a0_1 a0_2 l0_3))) else (regcertlaw10_ExecuteMoveOnly.j0 k l1 a2 a3 true a0_0 a0_1 a0_2 l0_3))
theorem regcertlaw10_ExecuteMoveOnly.mono_l : ∀ k, (∀ y0 y1 y2 y3 y4 y5 y6 y7, LeO (regcertlaw10_ExecuteMoveOnly.j0 k y0 y1 y2 y3 y4 y5 y6 y7) (regcertlaw10_ExecuteMoveOnly.j0 (k + 1) y0 y1 y2 y3 y4 y5 y6 y7)) ∧ (∀ y0 y1 y2 y3 y4 y5 y6 y7 y8 y9 y10 y11 y12 y13 y14 y15 y16 y17 y18, LeO (regcertlaw10_ExecuteMoveOnly.j1 k y0 y1 y2 y3 y4 y5 y6 y7 y8 y9 y10 y11 y12 y13 y14 y15 y16 y17 y18) (regcertlaw10_ExecuteMoveOnly.j1 (k + 1) y0 y1 y2 y3 y4 y5 y6 y7 y8 y9 y10 y11 y12 y13 y14 y15 y16 y17 y18)) ∧ (∀ y0 y1 y2 y3 y4 y5 y6 y7 y8 y9 y10 y11 y12 y13 y14 y15 y16 y17 y18 y19 y20 y21 y22 y23 y24 y25 y26 y27 y28, LeO (regcertlaw10_ExecuteMoveOnly.j2 k y0 y1 y2 y3 y4 y5 y6 y7 y8 y9 y10 y11 y12 y13 y14 y15 y16 y17 y18 y19 y20 y21 y22 y23 y24 y25 y26 y27 y28) (regcertlaw10_ExecuteMoveOnly.j2 (k + 1) y0 y1 y2 y3 y4 y5 y6 y7 y8 y9 y10 y11 y12 y13 y14 y15 y16 y17 y18 y19 y20 y21 y22 y23 y24 y25 y26 y27 y28))
 | 0 => ⟨fun _ _ _ _ _ _ _ _ r h => by simp [regcertlaw10_ExecuteMoveOnly.j0] at h, fun _ _ _ _ _ _ _ _ _ _ _ _ _ _ _ _ _ _ _ r h => by simp [regcertlaw10_ExecuteMoveOnly.j1] at h, fun _ _ _ _ _ _ _ _ _ _ _ _ _ _ _ _ _ _ _ _ _ _ _ _ _ _ _ _ _ r h => by simp [regcertlaw10_ExecuteMoveOnly.j2] at h⟩
 | k + 1 => by
  obtain ⟨ih0, ih1, ih2⟩ := regcertlaw10_ExecuteMoveOnly.mono_l k
  refine ⟨?_, ?_, ?_⟩
  ·intro y0 y1 y2 y3 y4 y5 y6 y7
   unfold regcertlaw10_ExecuteMoveOnly.j0
   repeat' first
   | (with_reducible exact ih0 _ _ _ _ _ _ _ _)
   | (with_reducible exact ih1 _ _ _ _ _ _ _ _ _ _ _ _ _ _ _ _ _ _ _)
   | (with_reducible exact ih2 _ _ _ _ _ _ _ _ _ _ _ _ _ _ _ _ _ _ _ _ _ _ _ _ _ _ _ _ _)
   | (with_reducible exact regcertlaw10_awake.mono _)
   | (with_reducible exact regcertref09_Values.mono _ _ _)
   | (with_reducible exact regcertref10_Exec.mono _ _ _ _ _ _ _)
   | (with_reducible exact regcertref10_Right.mono _ _ _ _ _ _ _)
   | (with_reducible exact LeO.refl _)
   | (with_reducible exact LeO.none _)
   | (with_reducible refine LeO.ite ?_ ?_)
   | (with_reducible refine LeO.bind ?_ (fun _ => ?_))
   | exact ih0 _ _ _ _ _ _ _ _
   | exact ih1 _ _ _ _ _ _ _ _ _ _ _ _ _ _ _ _ _ _ _
   | exact ih2 _ _ _ _ _ _ _ _ _ _ _ _ _ _ _ _ _ _ _ _ _ _ _ _ _ _ _ _ _
   | exact regcertlaw10_awake.mono _
   | exact regcertref09_Values.mono _ _ _
   | exact regcertref10_Exec.mono _ _ _ _ _ _ _
   | exact regcertref10_Right.mono _ _ _ _ _ _ _
   | exact LeO.none _
   | refine LeO.ite ?_ ?_
   | refine LeO.bind ?_ (fun _ => ?_)
  ·intro y0 y1 y2 y3 y4 y5 y6 y7 y8 y9 y10 y11 y12 y13 y14 y15 y16 y17 y18
   unfold regcertlaw10_ExecuteMoveOnly.j1
   repeat' first
   | (with_reducible exact ih0 _ _ _ _ _ _ _ _)
   | (with_reducible exact ih1 _ _ _ _ _ _ _ _ _ _ _ _ _ _ _ _ _ _ _)
   | (with_reducible exact ih2 _ _ _ _ _ _ _ _ _ _ _ _ _ _ _ _ _ _ _ _ _ _ _ _ _ _ _ _ _)
   | (with_reducible exact regcertlaw10_awake.mono _)
   | (with_reducible exact regcertref09_Values.mono _ _ _)
   | (with_reducible exact regcertref10_Exec.mono _ _ _ _ _ _ _)
   | (with_reducible exact regcertref10_Right.mono _ _ _ _ _ _ _)
   | (with_reducible exact LeO.refl _)
   | (with_reducible exact LeO.none _)
   | (with_reducible refine LeO.ite ?_ ?_)
   | (with_reducible refine LeO.bind ?_ (fun _ => ?_))
   | exact ih0 _ _ _ _ _ _ _ _
   | exact ih1 _ _ _ _ _ _ _ _ _ _ _ _ _ _ _ _ _ _ _
   | exact ih2 _ _ _ _ _ _ _ _ _ _ _ _ _ _ _ _ _ _ _ _ _ _ _ _ _ _ _ _ _
   | exact regcertlaw10_awake.mono _
   | exact regcertref09_Values.mono _ _ _
   | exact regcertref10_Exec.mono _ _ _ _ _ _ _
   | exact regcertref10_Right.mono _ _ _ _ _ _ _
   | exact LeO.none _
   | refine LeO.ite ?_ ?_
   | refine LeO.bind ?_ (fun _ => ?_)
  ·intro y0 y1 y2 y3 y4 y5 y6 y7 y8 y9 y10 y11 y12 y13 y14 y15 y16 y17 y18 y19 y20 y21 y22 y23 y24 y25 y26 y27 y28
   unfold regcertlaw10_ExecuteMoveOnly.j2
   repeat' first
   | (with_reducible exact ih0 _ _ _ _ _ _ _ _)
   | (with_reducible exact ih1 _ _ _ _ _ _ _ _ _ _ _ _ _ _ _ _ _ _ _)
   | (with_reducible exact ih2 _ _ _ _ _ _ _ _ _ _ _ _ _ _ _ _ _ _ _ _ _ _ _ _ _ _ _ _ _)
   | (with_reducible exact regcertlaw10_awake.mono _)
   | (with_reducible exact regcertref09_Values.mono _ _ _)
   | (with_reducible exact regcertref10_Exec.mono _ _ _ _ _ _ _)
   | (with_reducible exact regcertref10_Right.mono _ _ _ _ _ _ _)
   | (with_reducible exact LeO.refl _)
   | (with_reducible exact LeO.none _)
   | (with_reducible refine LeO.ite ?_ ?_)
   | (with_reducible refine LeO.bind ?_ (fun _ => ?_))
   | exact ih0 _ _ _ _ _ _ _ _
   | exact ih1 _ _ _ _ _ _ _ _ _ _ _ _ _ _ _ _ _ _ _
   | exact ih2 _ _ _ _ _ _ _ _ _ _ _ _ _ _ _ _ _ _ _ _ _ _ _ _ _ _ _ _ _
   | exact regcertlaw10_awake.mono _
   | exact regcertref09_Values.mono _ _ _
   | exact regcertref10_Exec.mono _ _ _ _ _ _ _
   | exact regcertref10_Right.mono _ _ _ _ _ _ _
   | exact LeO.none _
   | refine LeO.ite ?_ ?_
   | refine LeO.bind ?_ (fun _ => ?_)
theorem regcertlaw10_ExecuteMoveOnly.mono : ∀ a0 a1 a2 a3 a4 a5 a6 k, LeO (regcertlaw10_ExecuteMoveOnly.f k a0 a1 a2 a3 a4 a5 a6) (regcertlaw10_ExecuteMoveOnly.f (k + 1) a0 a1 a2 a3 a4 a5 a6) := by
 intro a0 a1 a2 a3 a4 a5 a6 k
 obtain ⟨ih0, ih1, ih2⟩ := regcertlaw10_ExecuteMoveOnly.mono_l k
 unfold regcertlaw10_ExecuteMoveOnly.f
 repeat' first
   | (with_reducible exact ih0 _ _ _ _ _ _ _ _)
   | (with_reducible exact ih1 _ _ _ _ _ _ _ _ _ _ _ _ _ _ _ _ _ _ _)
   | (with_reducible exact ih2 _ _ _ _ _ _ _ _ _ _ _ _ _ _ _ _ _ _ _ _ _ _ _ _ _ _ _ _ _)
   | (with_reducible exact regcertlaw10_awake.mono _)
   | (with_reducible exact regcertref09_Values.mono _ _ _)
   | (with_reducible exact regcertref10_Exec.mono _ _ _ _ _ _ _)
   | (with_reducible exact regcertref10_Right.mono _ _ _ _ _ _ _)
   | (with_reducible exact LeO.refl _)
   | (with_reducible exact LeO.none _)
   | (with_reducible refine LeO.ite ?_ ?_)
   | (with_reducible refine LeO.bind ?_ (fun _ => ?_))
   | exact ih0 _ _ _ _ _ _ _ _
   | exact ih1 _ _ _ _ _ _ _ _ _ _ _ _ _ _ _ _ _ _ _
   | exact ih2 _ _ _ _ _ _ _ _ _ _ _ _ _ _ _ _ _ _ _ _ _ _ _ _ _ _ _ _ _
   | exact regcertlaw10_awake.mono _
   | exact regcertref09_Values.mono _ _ _
   | exact regcertref10_Exec.mono _ _ _ _ _ _ _
   | exact regcertref10_Right.mono _ _ _ _ _ _ _
   | exact LeO.none _
   | refine LeO.ite ?_ ?_
   | refine LeO.bind ?_ (fun _ => ?_)
def regcertlaw10_ExecuteMoveOnly.T9 : Bool × List (List Nat × List Nat) := (true, [([], []), ([0], [0]), ([1], [1]), ([], []), ([3], [3]), ([2, 4], [2, 4]), ([5], [5]), ([6], [6]), ([7, 6], [6, 7]), ([8, 6], [6, 8]), ([6], [6]), ([10, 6], [6, 10]), ([9, 11, 6], [6, 9, 11]), ([6, 12], [6, 12]), ([13, 6], [13]), ([14], [14]), ([14], [14]), ([16, 14], [14, 16]), ([15, 17, 14, 14], [14, 15, 17]), ([14], [14]), ([14], [14]), ([20, 14], [14, 20]), ([19, 21, 18, 14], [14, 19, 21]), ([18, 22, 14], [14, 18, 22]), ([14, 23], [14, 23]), ([24, 22], [24]), ([25], [25]), ([26, 25], [25, 26]), ([25], [25]), ([28, 25], [25, 28]), ([27, 29, 25, 25], [25, 27, 29]), ([30, 25], [25, 30]), ([25, 31], [25, 31]), ([32, 30], [32]), ([33], [33]), ([34, 33], [33, 34]), ([33], [33]), ([36, 33], [33, 36]), ([37, 33], [33, 37]), ([35, 38, 33], [33, 35, 38]), ([33, 39], [33, 39])])
def regcertlaw10_ExecuteMoveOnly.B9 : List Nat := [0, 1, 3, 0, 8, 31, 63, 127, 255, 511, 127, 1151, 4095, 8191, 16383, 32767, 32767, 98303, 262143, 32767, 32767, 1081343, 4194303, 8388607, 16777215, 33554431, 67108863, 134217727, 67108863, 335544319, 1073741823, 2147483647, 4294967295, 8589934591, 17179869183, 34359738367, 17179869183, 85899345919, 223338299391, 549755813887, 1099511627775]
theorem regcertlaw10_ExecuteMoveOnly.tab9 : rtab .any (opsOf Try.f17 9) = regcertlaw10_ExecuteMoveOnly.T9 := by kernel_rfl
theorem regcertlaw10_ExecuteMoveOnly.bits9 : waitsOk regcertlaw10_ExecuteMoveOnly.T9.2 regcertlaw10_ExecuteMoveOnly.B9 = true := by kernel_rfl
def regcertlaw10_ExecuteMoveOnly.T12 : Bool × List (List Nat × List Nat) := (true, [([], []), ([], []), ([1], [1]), ([], []), ([3], [3]), ([0, 2, 4], [0, 2, 4]), ([5], [5]), ([6, 5], [6]), ([7], [7]), ([7], [7]), ([9, 7], [7, 9]), ([8, 10, 7], [7, 8, 10]), ([7, 11], [7, 11]), ([12, 7], [12]), ([13], [13]), ([13], [13]), ([14, 15, 13, 13], [13, 14, 15]), ([13], [13]), ([13], [13]), ([17, 18, 16, 13], [13, 17, 18]), ([16, 19, 13], [13, 16, 19]), ([13, 20], [13, 20]), ([21, 19, 0, 1, 2, 3, 4, 5, 6, 7, 8, 9, 10, 11, 12, 13, 14, 15, 16, 17, 18, 19, 20, 21], [21])])
def regcertlaw10_ExecuteMoveOnly.B12 : List Nat := [0, 0, 2, 0, 8, 31, 63, 127, 255, 255, 767, 2047, 4095, 8191, 16383, 16383, 65535, 16383, 16383, 524287, 1048575, 2097151, 4194303]
theorem regcertlaw10_ExecuteMoveOnly.tab12 : rtab .any (opsOf Try.f17 12) = regcertlaw10_ExecuteMoveOnly.T12 := by kernel_rfl
theorem regcertlaw10_ExecuteMoveOnly.bits12 : waitsOk regcertlaw10_ExecuteMoveOnly.T12.2 regcertlaw10_ExecuteMoveOnly.B12 = true := by kernel_rfl
set_option maxHeartbeats 8000000 in
set_option maxRecDepth 100000 in
theorem regcertlaw10_ExecuteMoveOnly.calls (k : Nat) (a0_0 : Int) (a0_1 : Int) (a0_2 : Int) (A0_3 : Option Addr) (c0_3 : Nat) (l0_3 : List (S69)) (A1 : Option Addr) (c1 : Nat) (l1 : List Int) (a2 : Int) (a3 : Int) (r : Bool) (w : World) (hr0_3 : Kd.C k69 w A0_3 l0_3.length l0_3) (hc0_3 : l0_3.length ≤ c0_3) (hr1 : Kd.C (Kd.int .i64) w A1 l1.length l1) (hc1 : l1.length ≤ c1) (h : regcertlaw10_ExecuteMoveOnly.f k a0_0 a0_1 a0_2 l0_3 l1 a2 a3 = some r) :
  Calls Try.prog 17 #[.agg #[.int .i64 a0_0, .int .i64 a0_1, .int .i64 a0_2, .slice A0_3 l0_3.length c0_3], .slice A1 l1.length c1, .int .u8 a2, .int .i64 a3] w fun e w' => e = .returned (.bool r) ∧ Below w.heap.size w w' := by
 have hu63 := Try.underlying63
 have hu39 := Try.underlying39
 have hu69 := Try.underlying69
 have hu84 := Try.underlying84
 have HR0_3 := As0 hr0_3
 have HC0_3 := As0 hc0_3
 clear hr0_3 hc0_3
 have HR1 := As0 hr1
 have HC1 := As0 hc1
 clear hr1 hc1
 have HB := As0 (Below.refl w.heap.size w)
 have H : ((regcertlaw10_awake.f k).bind fun t304 => (if t304 = true then ((regcertref10_Right.f k a0_0 a0_1 a0_2 l0_3 l1 0).bind fun t305 => (if t305 = true then (regcertlaw10_ExecuteMoveOnly.j0 k l1 a2 a3 ((l1.length : Int) != a0_0) a0_0 a0_1 a0_2 l0_3) else (regcertlaw10_ExecuteMoveOnly.j0 k l1 a2 a3 true a0_0 a0_1 a0_2 l0_3))) else (regcertlaw10_ExecuteMoveOnly.j0 k l1 a2 a3 true a0_0 a0_1 a0_2 l0_3))) = some r := h
 clear h
 have HC5 := As0 H
 clear H
 go_enter Try.func17, Try.ntmps17
 go_upto_region 1 with (first | ((with_reducible refine gate_dst (N := 4) rfl ?_); (try (refine gate_guard (by rfl) ?_; dsimp only)); refine bX (N := 4) (cs := #[.int .i64 a0_0, .int .i64 a0_1, .int .i64 a0_2, .slice A0_3 l0_3.length c0_3]) (t := 63) ?_; intro gb303 hg w6 hbox hb; have BK303 := As0 (hbox); have GW303 := As0 ((by rw [hg]; exact (below_size (BU HB.out)) : w.heap.size ≤ gb303)); have GE303 := As0 ((by rw [hg]; exact (below_size (BU HB.out)) : w.heap.size ≤ gb303)); replace HB := As0 (below_step (BU HB.out) hb); clear hb hbox hg))
 (try simp only [Act.put, sL1, sL2, sL3])
 go_cut [28] (fun v28 wc => ∃ (kq : Nat) (x28_4 : Bool), v28 = .bool x28_4 ∧ Aside0 (regcertlaw10_ExecuteMoveOnly.j0 kq l1 a2 a3 x28_4 a0_0 a0_1 a0_2 l0_3 = some r) ∧ Aside0 (kq ≤ k) ∧ Aside0 (wc.heap[gb303]? = some (.cells #[.int .i64 a0_0, .int .i64 a0_1, .int .i64 a0_2, (.slice A0_3 l0_3.length c0_3)] 63 (0, 0))) ∧ Aside0 (Below w.heap.size w wc))
 case first =>
  have H := HC5.out
  clear HC5
  replace H := Option.bind_eq_some_iff.mp H
  obtain ⟨t304, A70, H⟩ := H
  have A7 := As0 A70
  clear A70
  by_cases c8 : t304 = true
  rotate_left
  ·replace c8 := Bool.eq_false_iff.mpr c8
   subst c8
   rw [if_neg (show ¬ (false = true) by decide)] at H
   have H' := As0 H
   clear H
   go_wp2_with (first | ((with_reducible refine gate_callee (f := 44) rfl ?_); refine goesL_ (some 14) rfl rfl Try.func44 (by kernel_rfl) rfl #[] rfl (by (try simp only [List.map_toArray, List.map_cons, List.map_nil]); first | done | rfl | (simp only [List.length_drop, List.length_take]; rfl)) ?_; (with_reducible refine (regcertlaw10_awake.calls k  false _ A7.out).mono ?_); rintro e w18 ⟨rfl, hb⟩; refine ⟨_, rfl, ?_⟩; replace BK303 := As0 (blk_below (bU BK303.out) hb); replace HB := As0 (below_step (BU HB.out) hb); (try clear hb); (try clear hb2); (try clear hk); (try clear hi)))
   go_meet
   case rel => exact ⟨_, (true), (by first | rfl | (simp; done) | (simp [*]; done)), H', ⟨by first | omega | exact Nat.le_refl _⟩, ⟨bU BK303.out⟩, ⟨BU HB.out⟩⟩
  subst c8
  rw [if_pos rfl] at H
  replace H := Option.bind_eq_some_iff.mp H
  obtain ⟨t305, A90, H⟩ := H
  have A9 := As0 A90
  clear A90
  by_cases c10 : t305 = true
  ·subst c10
   rw [if_pos rfl] at H
   have H' := As0 H
   clear H
   go_wp2_with (first | ((with_reducible refine gate_callee (f := 44) rfl ?_); refine goesL_ (some 14) rfl rfl Try.func44 (by kernel_rfl) rfl #[] rfl (by (try simp only [List.map_toArray, List.map_cons, List.map_nil]); first | done | rfl | (simp only [List.length_drop, List.length_take]; rfl)) ?_; (with_reducible refine (regcertlaw10_awake.calls k  true _ A7.out).mono ?_); rintro e w11 ⟨rfl, hb⟩; refine ⟨_, rfl, ?_⟩; replace BK303 := As0 (blk_below (bU BK303.out) hb); replace HB := As0 (below_step (BU HB.out) hb); (try clear hb); (try clear hb2); (try clear hk); (try clear hi); obtain ⟨hcz12_0, hcz12_1, hcz12_2, hcz12_3, hfz12_0, hfz12_1, hfz12_2, hfz12_3⟩ := cN4 BK303.out) | (go_at_call 45; (with_reducible refine (regcertref10_Right.calls k a0_0 a0_1 a0_2 _ _ l0_3 _ _ l1 0 true _ ?side1 ?side2 ?side3 ?side4 A9.out).mono ?_); (case side1 => repeat (first | exact (Kd.C_below HR0_3.out HB.out) | (with_reducible refine Kd.C_alloc ?_ _) | (with_reducible refine Kd.C_drewN ?_ _) | (with_reducible refine Kd.C_drew ?_))); (case side2 => exact HC0_3.out); (case side3 => repeat (first | exact (Kd.C_below HR1.out HB.out) | (with_reducible refine Kd.C_alloc ?_ _) | (with_reducible refine Kd.C_drewN ?_ _) | (with_reducible refine Kd.C_drew ?_))); (case side4 => exact HC1.out); rintro e w13 ⟨rfl, hb⟩; replace BK303 := As0 (blk_below (bU BK303.out) hb); replace HB := As0 (below_step (BU HB.out) hb); (try clear hb); (try clear hb2); (try clear hk); (try clear hi); obtain ⟨hcz14_0, hcz14_1, hcz14_2, hcz14_3, hfz14_0, hfz14_1, hfz14_2, hfz14_3⟩ := cN4 BK303.out))
   go_meet
   case rel => exact ⟨_, (((l1.length : Int) != a0_0)), (by first | rfl | (simp; done) | (simp [*]; done)), H', ⟨by first | omega | exact Nat.le_refl _⟩, ⟨bU BK303.out⟩, ⟨BU HB.out⟩⟩
  replace c10 := Bool.eq_false_iff.mpr c10
  subst c10
  rw [if_neg (show ¬ (false = true) by decide)] at H
  have H' := As0 H
  clear H
  go_wp2_with (first | ((with_reducible refine gate_callee (f := 44) rfl ?_); refine goesL_ (some 14) rfl rfl Try.func44 (by kernel_rfl) rfl #[] rfl (by (try simp only [List.map_toArray, List.map_cons, List.map_nil]); first | done | rfl | (simp only [List.length_drop, List.length_take]; rfl)) ?_; (with_reducible refine (regcertlaw10_awake.calls k  true _ A7.out).mono ?_); rintro e w15 ⟨rfl, hb⟩; refine ⟨_, rfl, ?_⟩; replace BK303 := As0 (blk_below (bU BK303.out) hb); replace HB := As0 (below_step (BU HB.out) hb); (try clear hb); (try clear hb2); (try clear hk); (try clear hi); obtain ⟨hcz16_0, hcz16_1, hcz16_2, hcz16_3, hfz16_0, hfz16_1, hfz16_2, hfz16_3⟩ := cN4 BK303.out) | (go_at_call 45; (with_reducible refine (regcertref10_Right.calls k a0_0 a0_1 a0_2 _ _ l0_3 _ _ l1 0 false _ ?side1 ?side2 ?side3 ?side4 A9.out).mono ?_); (case side1 => repeat (first | exact (Kd.C_below HR0_3.out HB.out) | (with_reducible refine Kd.C_alloc ?_ _) | (with_reducible refine Kd.C_drewN ?_ _) | (with_reducible refine Kd.C_drew ?_))); (case side2 => exact HC0_3.out); (case side3 => repeat (first | exact (Kd.C_below HR1.out HB.out) | (with_reducible refine Kd.C_alloc ?_ _) | (with_reducible refine Kd.C_drewN ?_ _) | (with_reducible refine Kd.C_drew ?_))); (case side4 => exact HC1.out); rintro e w17 ⟨rfl, hb⟩; replace BK303 := As0 (blk_below (bU BK303.out) hb); replace HB := As0 (below_step (BU HB.out) hb); (try clear hb); (try clear hb2); (try clear hk); (try clear hi)))
  go_meet
  case rel => exact ⟨_, (true), (by first | rfl | (simp; done) | (simp [*]; done)), H', ⟨by first | omega | exact Nat.le_refl _⟩, ⟨bU BK303.out⟩, ⟨BU HB.out⟩⟩
 case rest =>
  clear HC5
  try clear c1
  try clear p2
  try clear c4
  try clear c8
  try clear c10
  try clear c17
  try clear hcz12_0
  try clear hcz12_1
  try clear hcz12_2
  try clear hcz12_3
  try clear hcz14_0
  try clear hcz14_1
  try clear hcz14_2
  try clear hcz14_3
  try clear hcz16_0
  try clear hcz16_1
  try clear hcz16_2
  try clear hcz16_3
  try clear hfz12_0
  try clear hfz12_1
  try clear hfz12_2
  try clear hfz12_3
  try clear hfz14_0
  try clear hfz14_1
  try clear hfz14_2
  try clear hfz14_3
  try clear hfz16_0
  try clear hfz16_1
  try clear hfz16_2
  try clear hfz16_3
  obtain ⟨kq, x28_4, rfl, HA, HJ4, BK303, HB⟩ := hcut
  cases kq with
  | zero => exact absurd HA.out (by simp [regcertlaw10_ExecuteMoveOnly.j0])
  | succ kj4 =>
   have H := HA.out
   clear HA
   simp only [regcertlaw10_ExecuteMoveOnly.j0] at H
   by_cases c19 : x28_4 = true
   ·subst c19
    rw [if_pos rfl] at H
    replace H := Option.bind_eq_some_iff.mp H
    obtain ⟨t306, A200, H⟩ := H
    have A20 := As0 A200
    clear A200
    obtain rfl := Option.some.inj H
    go_wp2_with (first | ((with_reducible refine gate_callee (f := 44) rfl ?_); refine goesL_ (some 29) rfl rfl Try.func44 (by kernel_rfl) rfl #[] rfl (by (try simp only [List.map_toArray, List.map_cons, List.map_nil]); first | done | rfl | (simp only [List.length_drop, List.length_take]; rfl)) ?_; (with_reducible refine (regcertlaw10_awake.calls kj4  t306 _ A20.out).mono ?_); rintro e w21 ⟨rfl, hb⟩; refine ⟨_, rfl, ?_⟩; replace BK303 := As0 (blk_below (bU BK303.out) hb); replace HB := As0 (below_step (BU HB.out) hb); (try clear hb); (try clear hb2); (try clear hk); (try clear hi)))
    go_ret
    exact ⟨by first | rfl | (simp [errW_none, errW_some] <;> rfl) | (simp [*, errW_none, errW_some] <;> rfl), BU HB.out⟩
   replace c19 := Bool.eq_false_iff.mpr c19
   subst c19
   rw [if_neg (show ¬ (false = true) by decide)] at H
   replace H := Option.bind_eq_some_iff.mp H
   obtain ⟨⟨t307, t308, t309, t310, t311, t314, t317, t320⟩, A220, H⟩ := H
   have A22 := As0 A220
   clear A220
   by_cases c23 : 0 ≤ t308
   rotate_left
   ·rw [if_neg c23] at H
    exact absurd H (by simp)
   rw [if_pos c23] at H
   have c23b0 : decide (0 ≤ t308) = true := decide_eq_true c23
   clear c23
   by_cases c24 : t308 < (l0_3.length : Int)
   rotate_left
   ·rw [if_neg c24] at H
    exact absurd H (by simp)
   rw [if_pos c24] at H
   have c24b0 : decide (t308 < (l0_3.length : Int)) = true := decide_eq_true c24
   clear c24
   have HC25 := As0 H
   clear H
   obtain ⟨hcz26_0, hcz26_1, hcz26_2, hcz26_3, hfz26_0, hfz26_1, hfz26_2, hfz26_3⟩ := cN4 BK303.out
   go_upto_region 5 with (first | ((with_reducible refine gate_callee (f := 51) rfl ?_); refine goesL_ (some 35) rfl rfl Try.func51 (by kernel_rfl) rfl #[.agg #[.int .i64 a0_0, .int .i64 a0_1, .int .i64 a0_2, .slice A0_3 l0_3.length c0_3], .slice A1 l1.length c1, .int .i64 (Int.tmod (wrap64 (a2)) 60)] rfl (by (try simp only [List.map_toArray, List.map_cons, List.map_nil]); first | done | rfl | (simp only [List.length_drop, List.length_take]; rfl)) ?_; (with_reducible refine (regcertref10_Exec.calls kj4 a0_0 a0_1 a0_2 _ _ l0_3 _ _ l1 (Int.tmod (wrap64 (a2)) 60) t307 t308 t309 t310 t311 t314 t317 t320 _ ?side1 ?side2 ?side3 ?side4 A22.out).mono ?_); (case side1 => repeat (first | exact (Kd.C_below HR0_3.out HB.out) | (with_reducible refine Kd.C_alloc ?_ _) | (with_reducible refine Kd.C_drewN ?_ _) | (with_reducible refine Kd.C_drew ?_))); (case side2 => exact HC0_3.out); (case side3 => repeat (first | exact (Kd.C_below HR1.out HB.out) | (with_reducible refine Kd.C_alloc ?_ _) | (with_reducible refine Kd.C_drewN ?_ _) | (with_reducible refine Kd.C_drew ?_))); (case side4 => exact HC1.out); rintro e w27 ⟨v312, v315, v318, rfl, ho0, ho1, ho2, hb⟩; refine ⟨_, rfl, ?_⟩; have HO313 := As0 (Kd.R_lower ho0 (below_size (BU HB.out))); have HO316 := As0 (Kd.R_lower ho1 (below_size (BU HB.out))); have HO319 := As0 (Kd.R_lower ho2 (below_size (BU HB.out))); replace BK303 := As0 (blk_below (bU BK303.out) hb); replace HB := As0 (below_step (BU HB.out) hb); (try clear hb); (try clear hb2); (try clear hk); (try clear hi); (try clear ho0); (try clear ho1); (try clear ho2)) | ((with_reducible refine gate_dst (N := 9) rfl ?_); (try (refine gate_guard (by rfl) ?_; dsimp only)); refine bX (N := 9) (cs := #[.int .i64 0, .int .i64 0, .int .i64 0, .int .i64 0, .slice none 0 0, .slice none 0 0, .slice none 0 0, .int .i64 0]) (t := 39) ?_; intro gb321 hg w28 hbox hb; replace HO313 := As0 (Kd.R_below (RU HO313.out) hb); replace HO316 := As0 (Kd.R_below (RU HO316.out) hb); replace HO319 := As0 (Kd.R_below (RU HO319.out) hb); have BK321 := As0 (hbox); have GW321 := As0 ((by rw [hg]; exact (below_size (BU HB.out)) : w.heap.size ≤ gb321)); have GE321 := As0 ((by rw [hg]; exact (below_size (BU HB.out)) : w.heap.size ≤ gb321)); replace HB := As0 (below_step (BU HB.out) hb); have NB303_321 := As0 ((by rw [hg]; exact Nat.ne_of_lt (blk_lt (bU BK303.out)) : gb303 ≠ gb321)); have NB321_303 := As0 ((by rw [hg]; exact Nat.ne_of_gt (blk_lt (bU BK303.out)) : gb321 ≠ gb303)); replace BK303 := As0 (blk_below (bU BK303.out) hb); clear hb hbox hg; have hnb29 := NB321_303.out; have hnc29 := NB303_321.out; obtain ⟨hcz30_0, hcz30_1, hcz30_2, hcz30_3, hcz30_4, hcz30_5, hcz30_6, hcz30_7, hfz30_0, hfz30_1, hfz30_2, hfz30_3, hfz30_4, hfz30_5, hfz30_6, hfz30_7⟩ := cN8 BK321.out; obtain ⟨Ao31, co31, eo31⟩ := Kd.R_slice HO313.out; subst eo31; obtain ⟨Ao32, co32, eo32⟩ := Kd.R_slice HO316.out; subst eo32; obtain ⟨Ao33, co33, eo33⟩ := Kd.R_slice HO319.out; subst eo33; obtain ⟨hcz34_0, hcz34_1, hcz34_2, hcz34_3, hfz34_0, hfz34_1, hfz34_2, hfz34_3⟩ := cN4 BK303.out; have p322 : 0 ≤ (t308 : Int) := of_decide_eq_true (by first | (with_reducible assumption) | assumption); have q322 : t308 < (l0_3.length : Int) := of_decide_eq_true (by first | (with_reducible assumption) | assumption); obtain ⟨ad322, A322_0, c322_0, e322, hx322_0, hx322_1, hx322_2, hx322_3, hx322_4, hl322_0, hi322_0⟩ := at_T69 HR0_3.out t308 p322 q322; cases e322; have hn322_0 : ad322.block ≠ gb321 := Nat.ne_of_lt (Nat.lt_of_lt_of_le (by have := World.block_lt_of_cell? _ _ hx322_0; first | rwa [add_block] at this | exact this) GW321.out); have hn322_1 : ad322.block ≠ gb321 := Nat.ne_of_lt (Nat.lt_of_lt_of_le (by have := World.block_lt_of_cell? _ _ hx322_0; first | rwa [add_block] at this | exact this) GW321.out); have hn322_2 : ad322.block ≠ gb321 := Nat.ne_of_lt (Nat.lt_of_lt_of_le (by have := World.block_lt_of_cell? _ _ hx322_0; first | rwa [add_block] at this | exact this) GW321.out); have hn322_3 : ad322.block ≠ gb321 := Nat.ne_of_lt (Nat.lt_of_lt_of_le (by have := World.block_lt_of_cell? _ _ hx322_0; first | rwa [add_block] at this | exact this) GW321.out); have hn322_4 : ad322.block ≠ gb321 := Nat.ne_of_lt (Nat.lt_of_lt_of_le (by have := World.block_lt_of_cell? _ _ hx322_0; first | rwa [add_block] at this | exact this) GW321.out); have hn322_5 : ad322.block ≠ gb321 := Nat.ne_of_lt (Nat.lt_of_lt_of_le (by have := World.block_lt_of_cell? _ _ hx322_0; first | rwa [add_block] at this | exact this) GW321.out); have hn322_6 : ad322.block ≠ gb321 := Nat.ne_of_lt (Nat.lt_of_lt_of_le (by have := World.block_lt_of_cell? _ _ hx322_0; first | rwa [add_block] at this | exact this) GW321.out); have hn322_7 : ad322.block ≠ gb321 := Nat.ne_of_lt (Nat.lt_of_lt_of_le (by have := World.block_lt_of_cell? _ _ hx322_0; first | rwa [add_block] at this | exact this) GW321.out); replace hx322_0 := (HB.out.cell (wblt w hx322_0)).trans hx322_0; replace hx322_1 := (HB.out.cell (wblt w hx322_1)).trans hx322_1; replace hx322_2 := (HB.out.cell (wblt w hx322_2)).trans hx322_2; replace hx322_3 := (HB.out.cell (wblt w hx322_3)).trans hx322_3; replace hx322_4 := (HB.out.cell (wblt w hx322_4)).trans hx322_4; have HR322_0 := As0 hi322_0; have HC322_0 := As0 hl322_0; clear hi322_0 hl322_0; replace hx322_0 := (cell_far (p := ⟨gb321, 0, none⟩) (by first | (rw [add_block]; exact hn322_0) | (show (Addr.add _ _).block ≠ _; rw [add_block]; exact hn322_0) | exact hn322_0) (.int .i64 t307)).trans hx322_0; replace hx322_1 := (cell_far (p := ⟨gb321, 0, none⟩) (by first | (rw [add_block]; exact hn322_0) | (show (Addr.add _ _).block ≠ _; rw [add_block]; exact hn322_0) | exact hn322_0) (.int .i64 t307)).trans hx322_1; replace hx322_2 := (cell_far (p := ⟨gb321, 0, none⟩) (by first | (rw [add_block]; exact hn322_0) | (show (Addr.add _ _).block ≠ _; rw [add_block]; exact hn322_0) | exact hn322_0) (.int .i64 t307)).trans hx322_2; replace hx322_3 := (cell_far (p := ⟨gb321, 0, none⟩) (by first | (rw [add_block]; exact hn322_0) | (show (Addr.add _ _).block ≠ _; rw [add_block]; exact hn322_0) | exact hn322_0) (.int .i64 t307)).trans hx322_3; replace hx322_4 := (cell_far (p := ⟨gb321, 0, none⟩) (by first | (rw [add_block]; exact hn322_0) | (show (Addr.add _ _).block ≠ _; rw [add_block]; exact hn322_0) | exact hn322_0) (.int .i64 t307)).trans hx322_4; replace hx322_0 := (cell_far (p := ⟨gb321, 1, none⟩) (by first | (rw [add_block]; exact hn322_1) | (show (Addr.add _ _).block ≠ _; rw [add_block]; exact hn322_1) | exact hn322_1) (.int .i64 t308)).trans hx322_0; replace hx322_1 := (cell_far (p := ⟨gb321, 1, none⟩) (by first | (rw [add_block]; exact hn322_1) | (show (Addr.add _ _).block ≠ _; rw [add_block]; exact hn322_1) | exact hn322_1) (.int .i64 t308)).trans hx322_1; replace hx322_2 := (cell_far (p := ⟨gb321, 1, none⟩) (by first | (rw [add_block]; exact hn322_1) | (show (Addr.add _ _).block ≠ _; rw [add_block]; exact hn322_1) | exact hn322_1) (.int .i64 t308)).trans hx322_2; replace hx322_3 := (cell_far (p := ⟨gb321, 1, none⟩) (by first | (rw [add_block]; exact hn322_1) | (show (Addr.add _ _).block ≠ _; rw [add_block]; exact hn322_1) | exact hn322_1) (.int .i64 t308)).trans hx322_3; replace hx322_4 := (cell_far (p := ⟨gb321, 1, none⟩) (by first | (rw [add_block]; exact hn322_1) | (show (Addr.add _ _).block ≠ _; rw [add_block]; exact hn322_1) | exact hn322_1) (.int .i64 t308)).trans hx322_4; replace hx322_0 := (cell_far (p := ⟨gb321, 2, none⟩) (by first | (rw [add_block]; exact hn322_2) | (show (Addr.add _ _).block ≠ _; rw [add_block]; exact hn322_2) | exact hn322_2) (.int .i64 t309)).trans hx322_0; replace hx322_1 := (cell_far (p := ⟨gb321, 2, none⟩) (by first | (rw [add_block]; exact hn322_2) | (show (Addr.add _ _).block ≠ _; rw [add_block]; exact hn322_2) | exact hn322_2) (.int .i64 t309)).trans hx322_1; replace hx322_2 := (cell_far (p := ⟨gb321, 2, none⟩) (by first | (rw [add_block]; exact hn322_2) | (show (Addr.add _ _).block ≠ _; rw [add_block]; exact hn322_2) | exact hn322_2) (.int .i64 t309)).trans hx322_2; replace hx322_3 := (cell_far (p := ⟨gb321, 2, none⟩) (by first | (rw [add_block]; exact hn322_2) | (show (Addr.add _ _).block ≠ _; rw [add_block]; exact hn322_2) | exact hn322_2) (.int .i64 t309)).trans hx322_3; replace hx322_4 := (cell_far (p := ⟨gb321, 2, none⟩) (by first | (rw [add_block]; exact hn322_2) | (show (Addr.add _ _).block ≠ _; rw [add_block]; exact hn322_2) | exact hn322_2) (.int .i64 t309)).trans hx322_4; replace hx322_0 := (cell_far (p := ⟨gb321, 3, none⟩) (by first | (rw [add_block]; exact hn322_3) | (show (Addr.add _ _).block ≠ _; rw [add_block]; exact hn322_3) | exact hn322_3) (.int .i64 t310)).trans hx322_0; replace hx322_1 := (cell_far (p := ⟨gb321, 3, none⟩) (by first | (rw [add_block]; exact hn322_3) | (show (Addr.add _ _).block ≠ _; rw [add_block]; exact hn322_3) | exact hn322_3) (.int .i64 t310)).trans hx322_1; replace hx322_2 := (cell_far (p := ⟨gb321, 3, none⟩) (by first | (rw [add_block]; exact hn322_3) | (show (Addr.add _ _).block ≠ _; rw [add_block]; exact hn322_3) | exact hn322_3) (.int .i64 t310)).trans hx322_2; replace hx322_3 := (cell_far (p := ⟨gb321, 3, none⟩) (by first | (rw [add_block]; exact hn322_3) | (show (Addr.add _ _).block ≠ _; rw [add_block]; exact hn322_3) | exact hn322_3) (.int .i64 t310)).trans hx322_3; replace hx322_4 := (cell_far (p := ⟨gb321, 3, none⟩) (by first | (rw [add_block]; exact hn322_3) | (show (Addr.add _ _).block ≠ _; rw [add_block]; exact hn322_3) | exact hn322_3) (.int .i64 t310)).trans hx322_4; replace hx322_0 := (cell_far (p := ⟨gb321, 4, none⟩) (by first | (rw [add_block]; exact hn322_4) | (show (Addr.add _ _).block ≠ _; rw [add_block]; exact hn322_4) | exact hn322_4) (.slice Ao31 t311.length co31)).trans hx322_0; replace hx322_1 := (cell_far (p := ⟨gb321, 4, none⟩) (by first | (rw [add_block]; exact hn322_4) | (show (Addr.add _ _).block ≠ _; rw [add_block]; exact hn322_4) | exact hn322_4) (.slice Ao31 t311.length co31)).trans hx322_1; replace hx322_2 := (cell_far (p := ⟨gb321, 4, none⟩) (by first | (rw [add_block]; exact hn322_4) | (show (Addr.add _ _).block ≠ _; rw [add_block]; exact hn322_4) | exact hn322_4) (.slice Ao31 t311.length co31)).trans hx322_2; replace hx322_3 := (cell_far (p := ⟨gb321, 4, none⟩) (by first | (rw [add_block]; exact hn322_4) | (show (Addr.add _ _).block ≠ _; rw [add_block]; exact hn322_4) | exact hn322_4) (.slice Ao31 t311.length co31)).trans hx322_3; replace hx322_4 := (cell_far (p := ⟨gb321, 4, none⟩) (by first | (rw [add_block]; exact hn322_4) | (show (Addr.add _ _).block ≠ _; rw [add_block]; exact hn322_4) | exact hn322_4) (.slice Ao31 t311.length co31)).trans hx322_4; replace hx322_0 := (cell_far (p := ⟨gb321, 5, none⟩) (by first | (rw [add_block]; exact hn322_5) | (show (Addr.add _ _).block ≠ _; rw [add_block]; exact hn322_5) | exact hn322_5) (.slice Ao32 t314.length co32)).trans hx322_0; replace hx322_1 := (cell_far (p := ⟨gb321, 5, none⟩) (by first | (rw [add_block]; exact hn322_5) | (show (Addr.add _ _).block ≠ _; rw [add_block]; exact hn322_5) | exact hn322_5) (.slice Ao32 t314.length co32)).trans hx322_1; replace hx322_2 := (cell_far (p := ⟨gb321, 5, none⟩) (by first | (rw [add_block]; exact hn322_5) | (show (Addr.add _ _).block ≠ _; rw [add_block]; exact hn322_5) | exact hn322_5) (.slice Ao32 t314.length co32)).trans hx322_2; replace hx322_3 := (cell_far (p := ⟨gb321, 5, none⟩) (by first | (rw [add_block]; exact hn322_5) | (show (Addr.add _ _).block ≠ _; rw [add_block]; exact hn322_5) | exact hn322_5) (.slice Ao32 t314.length co32)).trans hx322_3; replace hx322_4 := (cell_far (p := ⟨gb321, 5, none⟩) (by first | (rw [add_block]; exact hn322_5) | (show (Addr.add _ _).block ≠ _; rw [add_block]; exact hn322_5) | exact hn322_5) (.slice Ao32 t314.length co32)).trans hx322_4; replace hx322_0 := (cell_far (p := ⟨gb321, 6, none⟩) (by first | (rw [add_block]; exact hn322_6) | (show (Addr.add _ _).block ≠ _; rw [add_block]; exact hn322_6) | exact hn322_6) (.slice Ao33 t317.length co33)).trans hx322_0; replace hx322_1 := (cell_far (p := ⟨gb321, 6, none⟩) (by first | (rw [add_block]; exact hn322_6) | (show (Addr.add _ _).block ≠ _; rw [add_block]; exact hn322_6) | exact hn322_6) (.slice Ao33 t317.length co33)).trans hx322_1; replace hx322_2 := (cell_far (p := ⟨gb321, 6, none⟩) (by first | (rw [add_block]; exact hn322_6) | (show (Addr.add _ _).block ≠ _; rw [add_block]; exact hn322_6) | exact hn322_6) (.slice Ao33 t317.length co33)).trans hx322_2; replace hx322_3 := (cell_far (p := ⟨gb321, 6, none⟩) (by first | (rw [add_block]; exact hn322_6) | (show (Addr.add _ _).block ≠ _; rw [add_block]; exact hn322_6) | exact hn322_6) (.slice Ao33 t317.length co33)).trans hx322_3; replace hx322_4 := (cell_far (p := ⟨gb321, 6, none⟩) (by first | (rw [add_block]; exact hn322_6) | (show (Addr.add _ _).block ≠ _; rw [add_block]; exact hn322_6) | exact hn322_6) (.slice Ao33 t317.length co33)).trans hx322_4; replace hx322_0 := (cell_far (p := ⟨gb321, 7, none⟩) (by first | (rw [add_block]; exact hn322_7) | (show (Addr.add _ _).block ≠ _; rw [add_block]; exact hn322_7) | exact hn322_7) (.int .i64 t320)).trans hx322_0; replace hx322_1 := (cell_far (p := ⟨gb321, 7, none⟩) (by first | (rw [add_block]; exact hn322_7) | (show (Addr.add _ _).block ≠ _; rw [add_block]; exact hn322_7) | exact hn322_7) (.int .i64 t320)).trans hx322_1; replace hx322_2 := (cell_far (p := ⟨gb321, 7, none⟩) (by first | (rw [add_block]; exact hn322_7) | (show (Addr.add _ _).block ≠ _; rw [add_block]; exact hn322_7) | exact hn322_7) (.int .i64 t320)).trans hx322_2; replace hx322_3 := (cell_far (p := ⟨gb321, 7, none⟩) (by first | (rw [add_block]; exact hn322_7) | (show (Addr.add _ _).block ≠ _; rw [add_block]; exact hn322_7) | exact hn322_7) (.int .i64 t320)).trans hx322_3; replace hx322_4 := (cell_far (p := ⟨gb321, 7, none⟩) (by first | (rw [add_block]; exact hn322_7) | (show (Addr.add _ _).block ≠ _; rw [add_block]; exact hn322_7) | exact hn322_7) (.int .i64 t320)).trans hx322_4; clear hn322_0 hn322_1 hn322_2 hn322_3 hn322_4 hn322_5 hn322_6 hn322_7; replace p322 := eq_true p322; replace q322 := eq_true q322) | ((with_reducible refine gate_dst (N := 10) rfl ?_); (try (refine gate_guard (by rfl) ?_; dsimp only)); refine bX (N := 10) (cs := #[.slice none 0 0, .int .i64 0, .int .i64 0, .int .i64 0, .int .i64 0]) (t := 69) ?_; intro gb323 hg w35 hbox hb; replace HO313 := As0 (Kd.R_below (RU (Kd.R_mono (R8 (Kd.R_types HO313.out BK321.out (by decide))) (fun _ h_ => h_.1))) hb); replace HO316 := As0 (Kd.R_below (RU (Kd.R_mono (R8 (Kd.R_types HO316.out BK321.out (by decide))) (fun _ h_ => h_.1))) hb); replace HO319 := As0 (Kd.R_below (RU (Kd.R_mono (R8 (Kd.R_types HO319.out BK321.out (by decide))) (fun _ h_ => h_.1))) hb); have BK323 := As0 (hbox); have GW323 := As0 ((by rw [hg]; exact (below_size (BU HB.out)) : w.heap.size ≤ gb323)); have GE323 := As0 ((by rw [hg]; exact (below_size (BU HB.out)) : w.heap.size ≤ gb323)); replace HB := As0 (below_step (BU HB.out) hb); have NB303_323 := As0 ((by rw [hg]; exact Nat.ne_of_lt (blk_lt (g := gb303) (o := .cells #[.int .i64 a0_0, .int .i64 a0_1, .int .i64 a0_2, .slice (some ad322) l0_3.length c0_3] 63 (0, 0)) (by (with_reducible repeat (first | refine bN ?_ _ | refine bD ?_ | refine bA ?_ _)); refine blk_far ?_ NB303_321.out _; (with_reducible repeat (first | refine bN ?_ _ | refine bD ?_ | refine bA ?_ _)); refine blk_far ?_ NB303_321.out _; (with_reducible repeat (first | refine bN ?_ _ | refine bD ?_ | refine bA ?_ _)); refine blk_far ?_ NB303_321.out _; (with_reducible repeat (first | refine bN ?_ _ | refine bD ?_ | refine bA ?_ _)); refine blk_far ?_ NB303_321.out _; (with_reducible repeat (first | refine bN ?_ _ | refine bD ?_ | refine bA ?_ _)); refine blk_far ?_ NB303_321.out _; (with_reducible repeat (first | refine bN ?_ _ | refine bD ?_ | refine bA ?_ _)); refine blk_far ?_ NB303_321.out _; (with_reducible repeat (first | refine bN ?_ _ | refine bD ?_ | refine bA ?_ _)); refine blk_far ?_ NB303_321.out _; (with_reducible repeat (first | refine bN ?_ _ | refine bD ?_ | refine bA ?_ _)); refine blk_far ?_ NB303_321.out _; (with_reducible repeat (first | refine bN ?_ _ | refine bD ?_ | refine bA ?_ _)); exact BK303.out)) : gb303 ≠ gb323)); have NB323_303 := As0 ((by rw [hg]; exact Nat.ne_of_gt (blk_lt (g := gb303) (o := .cells #[.int .i64 a0_0, .int .i64 a0_1, .int .i64 a0_2, .slice (some ad322) l0_3.length c0_3] 63 (0, 0)) (by (with_reducible repeat (first | refine bN ?_ _ | refine bD ?_ | refine bA ?_ _)); refine blk_far ?_ NB303_321.out _; (with_reducible repeat (first | refine bN ?_ _ | refine bD ?_ | refine bA ?_ _)); refine blk_far ?_ NB303_321.out _; (with_reducible repeat (first | refine bN ?_ _ | refine bD ?_ | refine bA ?_ _)); refine blk_far ?_ NB303_321.out _; (with_reducible repeat (first | refine bN ?_ _ | refine bD ?_ | refine bA ?_ _)); refine blk_far ?_ NB303_321.out _; (with_reducible repeat (first | refine bN ?_ _ | refine bD ?_ | refine bA ?_ _)); refine blk_far ?_ NB303_321.out _; (with_reducible repeat (first | refine bN ?_ _ | refine bD ?_ | refine bA ?_ _)); refine blk_far ?_ NB303_321.out _; (with_reducible repeat (first | refine bN ?_ _ | refine bD ?_ | refine bA ?_ _)); refine blk_far ?_ NB303_321.out _; (with_reducible repeat (first | refine bN ?_ _ | refine bD ?_ | refine bA ?_ _)); refine blk_far ?_ NB303_321.out _; (with_reducible repeat (first | refine bN ?_ _ | refine bD ?_ | refine bA ?_ _)); exact BK303.out)) : gb323 ≠ gb303)); replace BK303 := As0 (blk_below (g := gb303) (o := .cells #[.int .i64 a0_0, .int .i64 a0_1, .int .i64 a0_2, .slice (some ad322) l0_3.length c0_3] 63 (0, 0)) (by (with_reducible repeat (first | refine bN ?_ _ | refine bD ?_ | refine bA ?_ _)); refine blk_far ?_ NB303_321.out _; (with_reducible repeat (first | refine bN ?_ _ | refine bD ?_ | refine bA ?_ _)); refine blk_far ?_ NB303_321.out _; (with_reducible repeat (first | refine bN ?_ _ | refine bD ?_ | refine bA ?_ _)); refine blk_far ?_ NB303_321.out _; (with_reducible repeat (first | refine bN ?_ _ | refine bD ?_ | refine bA ?_ _)); refine blk_far ?_ NB303_321.out _; (with_reducible repeat (first | refine bN ?_ _ | refine bD ?_ | refine bA ?_ _)); refine blk_far ?_ NB303_321.out _; (with_reducible repeat (first | refine bN ?_ _ | refine bD ?_ | refine bA ?_ _)); refine blk_far ?_ NB303_321.out _; (with_reducible repeat (first | refine bN ?_ _ | refine bD ?_ | refine bA ?_ _)); refine blk_far ?_ NB303_321.out _; (with_reducible repeat (first | refine bN ?_ _ | refine bD ?_ | refine bA ?_ _)); refine blk_far ?_ NB303_321.out _; (with_reducible repeat (first | refine bN ?_ _ | refine bD ?_ | refine bA ?_ _)); exact BK303.out) hb); have NB321_323 := As0 ((by rw [hg]; exact Nat.ne_of_lt (blk_lt (g := gb321) (o := .cells #[.int .i64 t307, .int .i64 t308, .int .i64 t309, .int .i64 t310, .slice Ao31 t311.length co31, .slice Ao32 t314.length co32, .slice Ao33 t317.length co33, .int .i64 t320] 39 (0, 0)) (by (with_reducible repeat (first | refine bN ?_ _ | refine bD ?_ | refine bA ?_ _)); refine blk_put (cs := #[.int .i64 t307, .int .i64 t308, .int .i64 t309, .int .i64 t310, .slice Ao31 t311.length co31, .slice Ao32 t314.length co32, .slice Ao33 t317.length co33, .int .i64 0]) ?_ 7 _ rfl; (with_reducible repeat (first | refine bN ?_ _ | refine bD ?_ | refine bA ?_ _)); refine blk_put (cs := #[.int .i64 t307, .int .i64 t308, .int .i64 t309, .int .i64 t310, .slice Ao31 t311.length co31, .slice Ao32 t314.length co32, .slice none 0 0, .int .i64 0]) ?_ 6 _ rfl; (with_reducible repeat (first | refine bN ?_ _ | refine bD ?_ | refine bA ?_ _)); refine blk_put (cs := #[.int .i64 t307, .int .i64 t308, .int .i64 t309, .int .i64 t310, .slice Ao31 t311.length co31, .slice none 0 0, .slice none 0 0, .int .i64 0]) ?_ 5 _ rfl; (with_reducible repeat (first | refine bN ?_ _ | refine bD ?_ | refine bA ?_ _)); refine blk_put (cs := #[.int .i64 t307, .int .i64 t308, .int .i64 t309, .int .i64 t310, .slice none 0 0, .slice none 0 0, .slice none 0 0, .int .i64 0]) ?_ 4 _ rfl; (with_reducible repeat (first | refine bN ?_ _ | refine bD ?_ | refine bA ?_ _)); refine blk_put (cs := #[.int .i64 t307, .int .i64 t308, .int .i64 t309, .int .i64 0, .slice none 0 0, .slice none 0 0, .slice none 0 0, .int .i64 0]) ?_ 3 _ rfl; (with_reducible repeat (first | refine bN ?_ _ | refine bD ?_ | refine bA ?_ _)); refine blk_put (cs := #[.int .i64 t307, .int .i64 t308, .int .i64 0, .int .i64 0, .slice none 0 0, .slice none 0 0, .slice none 0 0, .int .i64 0]) ?_ 2 _ rfl; (with_reducible repeat (first | refine bN ?_ _ | refine bD ?_ | refine bA ?_ _)); refine blk_put (cs := #[.int .i64 t307, .int .i64 0, .int .i64 0, .int .i64 0, .slice none 0 0, .slice none 0 0, .slice none 0 0, .int .i64 0]) ?_ 1 _ rfl; (with_reducible repeat (first | refine bN ?_ _ | refine bD ?_ | refine bA ?_ _)); refine blk_put (cs := #[.int .i64 0, .int .i64 0, .int .i64 0, .int .i64 0, .slice none 0 0, .slice none 0 0, .slice none 0 0, .int .i64 0]) ?_ 0 _ rfl; (with_reducible repeat (first | refine bN ?_ _ | refine bD ?_ | refine bA ?_ _)); exact BK321.out)) : gb321 ≠ gb323)); have NB323_321 := As0 ((by rw [hg]; exact Nat.ne_of_gt (blk_lt (g := gb321) (o := .cells #[.int .i64 t307, .int .i64 t308, .int .i64 t309, .int .i64 t310, .slice Ao31 t311.length co31, .slice Ao32 t314.length co32, .slice Ao33 t317.length co33, .int .i64 t320] 39 (0, 0)) (by (with_reducible repeat (first | refine bN ?_ _ | refine bD ?_ | refine bA ?_ _)); refine blk_put (cs := #[.int .i64 t307, .int .i64 t308, .int .i64 t309, .int .i64 t310, .slice Ao31 t311.length co31, .slice Ao32 t314.length co32, .slice Ao33 t317.length co33, .int .i64 0]) ?_ 7 _ rfl; (with_reducible repeat (first | refine bN ?_ _ | refine bD ?_ | refine bA ?_ _)); refine blk_put (cs := #[.int .i64 t307, .int .i64 t308, .int .i64 t309, .int .i64 t310, .slice Ao31 t311.length co31, .slice Ao32 t314.length co32, .slice none 0 0, .int .i64 0]) ?_ 6 _ rfl; (with_reducible repeat (first | refine bN ?_ _ | refine bD ?_ | refine bA ?_ _)); refine blk_put (cs := #[.int .i64 t307, .int .i64 t308, .int .i64 t309, .int .i64 t310, .slice Ao31 t311.length co31, .slice none 0 0, .slice none 0 0, .int .i64 0]) ?_ 5 _ rfl; (with_reducible repeat (first | refine bN ?_ _ | refine bD ?_ | refine bA ?_ _)); refine blk_put (cs := #[.int .i64 t307, .int .i64 t308, .int .i64 t309, .int .i64 t310, .slice none 0 0, .slice none 0 0, .slice none 0 0, .int .i64 0]) ?_ 4 _ rfl; (with_reducible repeat (first | refine bN ?_ _ | refine bD ?_ | refine bA ?_ _)); refine blk_put (cs := #[.int .i64 t307, .int .i64 t308, .int .i64 t309, .int .i64 0, .slice none 0 0, .slice none 0 0, .slice none 0 0, .int .i64 0]) ?_ 3 _ rfl; (with_reducible repeat (first | refine bN ?_ _ | refine bD ?_ | refine bA ?_ _)); refine blk_put (cs := #[.int .i64 t307, .int .i64 t308, .int .i64 0, .int .i64 0, .slice none 0 0, .slice none 0 0, .slice none 0 0, .int .i64 0]) ?_ 2 _ rfl; (with_reducible repeat (first | refine bN ?_ _ | refine bD ?_ | refine bA ?_ _)); refine blk_put (cs := #[.int .i64 t307, .int .i64 0, .int .i64 0, .int .i64 0, .slice none 0 0, .slice none 0 0, .slice none 0 0, .int .i64 0]) ?_ 1 _ rfl; (with_reducible repeat (first | refine bN ?_ _ | refine bD ?_ | refine bA ?_ _)); refine blk_put (cs := #[.int .i64 0, .int .i64 0, .int .i64 0, .int .i64 0, .slice none 0 0, .slice none 0 0, .slice none 0 0, .int .i64 0]) ?_ 0 _ rfl; (with_reducible repeat (first | refine bN ?_ _ | refine bD ?_ | refine bA ?_ _)); exact BK321.out)) : gb323 ≠ gb321)); replace BK321 := As0 (blk_below (g := gb321) (o := .cells #[.int .i64 t307, .int .i64 t308, .int .i64 t309, .int .i64 t310, .slice Ao31 t311.length co31, .slice Ao32 t314.length co32, .slice Ao33 t317.length co33, .int .i64 t320] 39 (0, 0)) (by (with_reducible repeat (first | refine bN ?_ _ | refine bD ?_ | refine bA ?_ _)); refine blk_put (cs := #[.int .i64 t307, .int .i64 t308, .int .i64 t309, .int .i64 t310, .slice Ao31 t311.length co31, .slice Ao32 t314.length co32, .slice Ao33 t317.length co33, .int .i64 0]) ?_ 7 _ rfl; (with_reducible repeat (first | refine bN ?_ _ | refine bD ?_ | refine bA ?_ _)); refine blk_put (cs := #[.int .i64 t307, .int .i64 t308, .int .i64 t309, .int .i64 t310, .slice Ao31 t311.length co31, .slice Ao32 t314.length co32, .slice none 0 0, .int .i64 0]) ?_ 6 _ rfl; (with_reducible repeat (first | refine bN ?_ _ | refine bD ?_ | refine bA ?_ _)); refine blk_put (cs := #[.int .i64 t307, .int .i64 t308, .int .i64 t309, .int .i64 t310, .slice Ao31 t311.length co31, .slice none 0 0, .slice none 0 0, .int .i64 0]) ?_ 5 _ rfl; (with_reducible repeat (first | refine bN ?_ _ | refine bD ?_ | refine bA ?_ _)); refine blk_put (cs := #[.int .i64 t307, .int .i64 t308, .int .i64 t309, .int .i64 t310, .slice none 0 0, .slice none 0 0, .slice none 0 0, .int .i64 0]) ?_ 4 _ rfl; (with_reducible repeat (first | refine bN ?_ _ | refine bD ?_ | refine bA ?_ _)); refine blk_put (cs := #[.int .i64 t307, .int .i64 t308, .int .i64 t309, .int .i64 0, .slice none 0 0, .slice none 0 0, .slice none 0 0, .int .i64 0]) ?_ 3 _ rfl; (with_reducible repeat (first | refine bN ?_ _ | refine bD ?_ | refine bA ?_ _)); refine blk_put (cs := #[.int .i64 t307, .int .i64 t308, .int .i64 0, .int .i64 0, .slice none 0 0, .slice none 0 0, .slice none 0 0, .int .i64 0]) ?_ 2 _ rfl; (with_reducible repeat (first | refine bN ?_ _ | refine bD ?_ | refine bA ?_ _)); refine blk_put (cs := #[.int .i64 t307, .int .i64 0, .int .i64 0, .int .i64 0, .slice none 0 0, .slice none 0 0, .slice none 0 0, .int .i64 0]) ?_ 1 _ rfl; (with_reducible repeat (first | refine bN ?_ _ | refine bD ?_ | refine bA ?_ _)); refine blk_put (cs := #[.int .i64 0, .int .i64 0, .int .i64 0, .int .i64 0, .slice none 0 0, .slice none 0 0, .slice none 0 0, .int .i64 0]) ?_ 0 _ rfl; (with_reducible repeat (first | refine bN ?_ _ | refine bD ?_ | refine bA ?_ _)); exact BK321.out) hb); clear hb hbox hg; have hnb36 := NB323_303.out; have hnc36 := NB303_323.out; have hnb37 := NB323_321.out; have hnc37 := NB321_323.out; obtain ⟨hcz38_0, hcz38_1, hcz38_2, hcz38_3, hcz38_4, hfz38_0, hfz38_1, hfz38_2, hfz38_3, hfz38_4⟩ := cN5 BK323.out))
   (try simp only [Act.put, sL1, sL2, sL3])
   go_cut [62] (fun v62 wc => ∃ (kq : Nat) (x62_24 : Bool), v62 = .bool x62_24 ∧ Aside0 (regcertlaw10_ExecuteMoveOnly.j1 kq a3 x62_24 a0_0 a0_1 a0_2 l0_3 t307 t308 t309 t310 t311 t314 t317 t320 ((rd_T69 l0_3 t308).f0) ((rd_T69 l0_3 t308).f1.f0) ((rd_T69 l0_3 t308).f1.f1) ((rd_T69 l0_3 t308).f1.f2) ((rd_T69 l0_3 t308).f1.f3) = some r) ∧ Aside0 (kq ≤ kj4) ∧ Aside0 (Kd.R (Kd.int .i64) 2 wc w.heap.size (fun k_ => some k_ ≠ ((.slice Ao32 t314.length co32) : Value).ownBlock ∧ some k_ ≠ ((.slice Ao33 t317.length co33) : Value).ownBlock) (.slice Ao31 t311.length co31) t311) ∧ Aside0 (Kd.R (Kd.int .i64) 2 wc w.heap.size (fun k_ => some k_ ≠ ((.slice Ao31 t311.length co31) : Value).ownBlock ∧ some k_ ≠ ((.slice Ao33 t317.length co33) : Value).ownBlock) (.slice Ao32 t314.length co32) t314) ∧ Aside0 (Kd.R (Kd.int .i64) 2 wc w.heap.size (fun k_ => some k_ ≠ ((.slice Ao31 t311.length co31) : Value).ownBlock ∧ some k_ ≠ ((.slice Ao32 t314.length co32) : Value).ownBlock) (.slice Ao33 t317.length co33) t317) ∧ Aside0 (wc.heap[gb303]? = some (.cells #[.int .i64 a0_0, .int .i64 a0_1, .int .i64 a0_2, (.slice (some ad322) l0_3.length c0_3)] 63 (0, 0))) ∧ Aside0 (wc.heap[gb321]? = some (.cells #[.int .i64 t307, .int .i64 t308, .int .i64 t309, .int .i64 t310, (.slice Ao31 t311.length co31), (.slice Ao32 t314.length co32), (.slice Ao33 t317.length co33), .int .i64 t320] 39 (0, 0))) ∧ Aside0 (wc.heap[gb323]? = some (.cells #[(.slice A322_0 ((rd_T69 l0_3 t308).f0).length c322_0), .int .i64 ((rd_T69 l0_3 t308).f1.f0), .int .i64 ((rd_T69 l0_3 t308).f1.f1), .int .i64 ((rd_T69 l0_3 t308).f1.f2), .int .i64 ((rd_T69 l0_3 t308).f1.f3)] 69 (0, 0))) ∧ Aside0 (Below w.heap.size w wc))
   case first =>
    have H := HC25.out
    clear HC25
    by_cases c39 : t307 = 0
    rotate_left
    ·rw [if_neg c39] at H
     have c39b0 : (t307 == 0) = false := beq_eq_false_iff_ne.mpr c39
     have c39b1 : (t307 != 0) = true := bne_iff_ne.mpr c39
     (first | rw [c39b0] | (simp only [i64_w, i32_w]; rw [c39b0]) | skip)
     have H' := As0 H
     clear H
     have hnb53 := NB321_303.out
     have hnc53 := NB303_321.out
     have hnb54 := NB321_323.out
     have hnc54 := NB323_321.out
     obtain ⟨hcz55_0, hcz55_1, hcz55_2, hcz55_3, hcz55_4, hcz55_5, hcz55_6, hcz55_7, hfz55_0, hfz55_1, hfz55_2, hfz55_3, hfz55_4, hfz55_5, hfz55_6, hfz55_7⟩ := cN8 BK321.out
     go_wp2
     go_meet
     case rel => exact ⟨_, (true), (by first | rfl | (simp; done) | (simp [*]; done)), H', ⟨by have := HJ4.out; first | omega | exact Nat.le_refl _⟩, ⟨RU (Kd.R_mono (RF gb323 4 (RF gb323 3 (RF gb323 2 (RF gb323 1 (RF gb323 0 (Kd.R_types HO313.out BK323.out (by decide)) (.slice A322_0 ((rd_T69 l0_3 t308).f0).length c322_0)) (.int .i64 ((rd_T69 l0_3 t308).f1.f0))) (.int .i64 ((rd_T69 l0_3 t308).f1.f1))) (.int .i64 ((rd_T69 l0_3 t308).f1.f2))) (.int .i64 ((rd_T69 l0_3 t308).f1.f3))) (fun _ hk => ⟨hk.1.1, hk.1.2⟩))⟩, ⟨RU (Kd.R_mono (RF gb323 4 (RF gb323 3 (RF gb323 2 (RF gb323 1 (RF gb323 0 (Kd.R_types HO316.out BK323.out (by decide)) (.slice A322_0 ((rd_T69 l0_3 t308).f0).length c322_0)) (.int .i64 ((rd_T69 l0_3 t308).f1.f0))) (.int .i64 ((rd_T69 l0_3 t308).f1.f1))) (.int .i64 ((rd_T69 l0_3 t308).f1.f2))) (.int .i64 ((rd_T69 l0_3 t308).f1.f3))) (fun _ hk => ⟨hk.1.1, hk.1.2⟩))⟩, ⟨RU (Kd.R_mono (RF gb323 4 (RF gb323 3 (RF gb323 2 (RF gb323 1 (RF gb323 0 (Kd.R_types HO319.out BK323.out (by decide)) (.slice A322_0 ((rd_T69 l0_3 t308).f0).length c322_0)) (.int .i64 ((rd_T69 l0_3 t308).f1.f0))) (.int .i64 ((rd_T69 l0_3 t308).f1.f1))) (.int .i64 ((rd_T69 l0_3 t308).f1.f2))) (.int .i64 ((rd_T69 l0_3 t308).f1.f3))) (fun _ hk => ⟨hk.1.1, hk.1.2⟩))⟩, ⟨by (with_reducible repeat (first | refine bN ?_ _ | refine bD ?_ | refine bA ?_ _)); refine blk_far ?_ NB303_323.out _; (with_reducible repeat (first | refine bN ?_ _ | refine bD ?_ | refine bA ?_ _)); refine blk_far ?_ NB303_323.out _; (with_reducible repeat (first | refine bN ?_ _ | refine bD ?_ | refine bA ?_ _)); refine blk_far ?_ NB303_323.out _; (with_reducible repeat (first | refine bN ?_ _ | refine bD ?_ | refine bA ?_ _)); refine blk_far ?_ NB303_323.out _; (with_reducible repeat (first | refine bN ?_ _ | refine bD ?_ | refine bA ?_ _)); refine blk_far ?_ NB303_323.out _; (with_reducible repeat (first | refine bN ?_ _ | refine bD ?_ | refine bA ?_ _)); exact BK303.out⟩, ⟨by (with_reducible repeat (first | refine bN ?_ _ | refine bD ?_ | refine bA ?_ _)); refine blk_far ?_ NB321_323.out _; (with_reducible repeat (first | refine bN ?_ _ | refine bD ?_ | refine bA ?_ _)); refine blk_far ?_ NB321_323.out _; (with_reducible repeat (first | refine bN ?_ _ | refine bD ?_ | refine bA ?_ _)); refine blk_far ?_ NB321_323.out _; (with_reducible repeat (first | refine bN ?_ _ | refine bD ?_ | refine bA ?_ _)); refine blk_far ?_ NB321_323.out _; (with_reducible repeat (first | refine bN ?_ _ | refine bD ?_ | refine bA ?_ _)); refine blk_far ?_ NB321_323.out _; (with_reducible repeat (first | refine bN ?_ _ | refine bD ?_ | refine bA ?_ _)); exact BK321.out⟩, ⟨by (with_reducible repeat (first | refine bN ?_ _ | refine bD ?_ | refine bA ?_ _)); refine blk_put (cs := #[.slice A322_0 ((rd_T69 l0_3 t308).f0).length c322_0, .int .i64 ((rd_T69 l0_3 t308).f1.f0), .int .i64 ((rd_T69 l0_3 t308).f1.f1), .int .i64 ((rd_T69 l0_3 t308).f1.f2), .int .i64 0]) ?_ 4 _ rfl; (with_reducible repeat (first | refine bN ?_ _ | refine bD ?_ | refine bA ?_ _)); refine blk_put (cs := #[.slice A322_0 ((rd_T69 l0_3 t308).f0).length c322_0, .int .i64 ((rd_T69 l0_3 t308).f1.f0), .int .i64 ((rd_T69 l0_3 t308).f1.f1), .int .i64 0, .int .i64 0]) ?_ 3 _ rfl; (with_reducible repeat (first | refine bN ?_ _ | refine bD ?_ | refine bA ?_ _)); refine blk_put (cs := #[.slice A322_0 ((rd_T69 l0_3 t308).f0).length c322_0, .int .i64 ((rd_T69 l0_3 t308).f1.f0), .int .i64 0, .int .i64 0, .int .i64 0]) ?_ 2 _ rfl; (with_reducible repeat (first | refine bN ?_ _ | refine bD ?_ | refine bA ?_ _)); refine blk_put (cs := #[.slice A322_0 ((rd_T69 l0_3 t308).f0).length c322_0, .int .i64 0, .int .i64 0, .int .i64 0, .int .i64 0]) ?_ 1 _ rfl; (with_reducible repeat (first | refine bN ?_ _ | refine bD ?_ | refine bA ?_ _)); refine blk_put (cs := #[.slice none 0 0, .int .i64 0, .int .i64 0, .int .i64 0, .int .i64 0]) ?_ 0 _ rfl; (with_reducible repeat (first | refine bN ?_ _ | refine bD ?_ | refine bA ?_ _)); exact BK323.out⟩, ⟨BU HB.out⟩⟩
    rw [if_pos c39] at H
    have c39b0 : (t307 == 0) = true := beq_iff_eq.mpr c39
    have c39b1 : (t307 != 0) = false := bne_eq_false_iff_eq.mpr c39
    clear c39
    (first | rw [c39b0] | (simp only [i64_w, i32_w]; rw [c39b0]) | skip)
    by_cases c40 : t309 ≥ (((rd_T69 l0_3 t308).f0).length : Int)
    ·rw [if_pos c40] at H
     have c40b0 : decide ((((rd_T69 l0_3 t308).f0).length : Int) ≤ t309) = true := decide_eq_true c40
     clear c40
     have H' := As0 H
     clear H
     have hnb41 := NB321_303.out
     have hnc41 := NB303_321.out
     have hnb42 := NB321_323.out
     have hnc42 := NB323_321.out
     obtain ⟨hcz43_0, hcz43_1, hcz43_2, hcz43_3, hcz43_4, hcz43_5, hcz43_6, hcz43_7, hfz43_0, hfz43_1, hfz43_2, hfz43_3, hfz43_4, hfz43_5, hfz43_6, hfz43_7⟩ := cN8 BK321.out
     have hnb44 := NB323_303.out
     have hnc44 := NB303_323.out
     obtain ⟨hcz45_0, hcz45_1, hcz45_2, hcz45_3, hcz45_4, hfz45_0, hfz45_1, hfz45_2, hfz45_3, hfz45_4⟩ := cN5 BK323.out
     go_wp2
     go_meet
     case rel => exact ⟨_, (true), (by first | rfl | (simp; done) | (simp [*]; done)), H', ⟨by have := HJ4.out; first | omega | exact Nat.le_refl _⟩, ⟨RU (Kd.R_mono (RF gb323 4 (RF gb323 3 (RF gb323 2 (RF gb323 1 (RF gb323 0 (Kd.R_types HO313.out BK323.out (by decide)) (.slice A322_0 ((rd_T69 l0_3 t308).f0).length c322_0)) (.int .i64 ((rd_T69 l0_3 t308).f1.f0))) (.int .i64 ((rd_T69 l0_3 t308).f1.f1))) (.int .i64 ((rd_T69 l0_3 t308).f1.f2))) (.int .i64 ((rd_T69 l0_3 t308).f1.f3))) (fun _ hk => ⟨hk.1.1, hk.1.2⟩))⟩, ⟨RU (Kd.R_mono (RF gb323 4 (RF gb323 3 (RF gb323 2 (RF gb323 1 (RF gb323 0 (Kd.R_types HO316.out BK323.out (by decide)) (.slice A322_0 ((rd_T69 l0_3 t308).f0).length c322_0)) (.int .i64 ((rd_T69 l0_3 t308).f1.f0))) (.int .i64 ((rd_T69 l0_3 t308).f1.f1))) (.int .i64 ((rd_T69 l0_3 t308).f1.f2))) (.int .i64 ((rd_T69 l0_3 t308).f1.f3))) (fun _ hk => ⟨hk.1.1, hk.1.2⟩))⟩, ⟨RU (Kd.R_mono (RF gb323 4 (RF gb323 3 (RF gb323 2 (RF gb323 1 (RF gb323 0 (Kd.R_types HO319.out BK323.out (by decide)) (.slice A322_0 ((rd_T69 l0_3 t308).f0).length c322_0)) (.int .i64 ((rd_T69 l0_3 t308).f1.f0))) (.int .i64 ((rd_T69 l0_3 t308).f1.f1))) (.int .i64 ((rd_T69 l0_3 t308).f1.f2))) (.int .i64 ((rd_T69 l0_3 t308).f1.f3))) (fun _ hk => ⟨hk.1.1, hk.1.2⟩))⟩, ⟨by (with_reducible repeat (first | refine bN ?_ _ | refine bD ?_ | refine bA ?_ _)); refine blk_far ?_ NB303_323.out _; (with_reducible repeat (first | refine bN ?_ _ | refine bD ?_ | refine bA ?_ _)); refine blk_far ?_ NB303_323.out _; (with_reducible repeat (first | refine bN ?_ _ | refine bD ?_ | refine bA ?_ _)); refine blk_far ?_ NB303_323.out _; (with_reducible repeat (first | refine bN ?_ _ | refine bD ?_ | refine bA ?_ _)); refine blk_far ?_ NB303_323.out _; (with_reducible repeat (first | refine bN ?_ _ | refine bD ?_ | refine bA ?_ _)); refine blk_far ?_ NB303_323.out _; (with_reducible repeat (first | refine bN ?_ _ | refine bD ?_ | refine bA ?_ _)); exact BK303.out⟩, ⟨by (with_reducible repeat (first | refine bN ?_ _ | refine bD ?_ | refine bA ?_ _)); refine blk_far ?_ NB321_323.out _; (with_reducible repeat (first | refine bN ?_ _ | refine bD ?_ | refine bA ?_ _)); refine blk_far ?_ NB321_323.out _; (with_reducible repeat (first | refine bN ?_ _ | refine bD ?_ | refine bA ?_ _)); refine blk_far ?_ NB321_323.out _; (with_reducible repeat (first | refine bN ?_ _ | refine bD ?_ | refine bA ?_ _)); refine blk_far ?_ NB321_323.out _; (with_reducible repeat (first | refine bN ?_ _ | refine bD ?_ | refine bA ?_ _)); refine blk_far ?_ NB321_323.out _; (with_reducible repeat (first | refine bN ?_ _ | refine bD ?_ | refine bA ?_ _)); exact BK321.out⟩, ⟨by (with_reducible repeat (first | refine bN ?_ _ | refine bD ?_ | refine bA ?_ _)); refine blk_put (cs := #[.slice A322_0 ((rd_T69 l0_3 t308).f0).length c322_0, .int .i64 ((rd_T69 l0_3 t308).f1.f0), .int .i64 ((rd_T69 l0_3 t308).f1.f1), .int .i64 ((rd_T69 l0_3 t308).f1.f2), .int .i64 0]) ?_ 4 _ rfl; (with_reducible repeat (first | refine bN ?_ _ | refine bD ?_ | refine bA ?_ _)); refine blk_put (cs := #[.slice A322_0 ((rd_T69 l0_3 t308).f0).length c322_0, .int .i64 ((rd_T69 l0_3 t308).f1.f0), .int .i64 ((rd_T69 l0_3 t308).f1.f1), .int .i64 0, .int .i64 0]) ?_ 3 _ rfl; (with_reducible repeat (first | refine bN ?_ _ | refine bD ?_ | refine bA ?_ _)); refine blk_put (cs := #[.slice A322_0 ((rd_T69 l0_3 t308).f0).length c322_0, .int .i64 ((rd_T69 l0_3 t308).f1.f0), .int .i64 0, .int .i64 0, .int .i64 0]) ?_ 2 _ rfl; (with_reducible repeat (first | refine bN ?_ _ | refine bD ?_ | refine bA ?_ _)); refine blk_put (cs := #[.slice A322_0 ((rd_T69 l0_3 t308).f0).length c322_0, .int .i64 0, .int .i64 0, .int .i64 0, .int .i64 0]) ?_ 1 _ rfl; (with_reducible repeat (first | refine bN ?_ _ | refine bD ?_ | refine bA ?_ _)); refine blk_put (cs := #[.slice none 0 0, .int .i64 0, .int .i64 0, .int .i64 0, .int .i64 0]) ?_ 0 _ rfl; (with_reducible repeat (first | refine bN ?_ _ | refine bD ?_ | refine bA ?_ _)); exact BK323.out⟩, ⟨BU HB.out⟩⟩
    rw [if_neg c40] at H
    have c40b0 : decide ((((rd_T69 l0_3 t308).f0).length : Int) ≤ t309) = false := decide_eq_false c40
    clear c40
    by_cases c46 : 0 ≤ t309
    rotate_left
    ·rw [if_neg c46] at H
     exact absurd H (by simp)
    rw [if_pos c46] at H
    have c46b0 : decide (0 ≤ t309) = true := decide_eq_true c46
    clear c46
    by_cases c47 : t309 < (((rd_T69 l0_3 t308).f0).length : Int)
    rotate_left
    ·rw [if_neg c47] at H
     exact absurd H (by simp)
    rw [if_pos c47] at H
    have c47b0 : decide (t309 < (((rd_T69 l0_3 t308).f0).length : Int)) = true := decide_eq_true c47
    clear c47
    have H' := As0 H
    clear H
    have hnb48 := NB321_303.out
    have hnc48 := NB303_321.out
    have hnb49 := NB321_323.out
    have hnc49 := NB323_321.out
    obtain ⟨hcz50_0, hcz50_1, hcz50_2, hcz50_3, hcz50_4, hcz50_5, hcz50_6, hcz50_7, hfz50_0, hfz50_1, hfz50_2, hfz50_3, hfz50_4, hfz50_5, hfz50_6, hfz50_7⟩ := cN8 BK321.out
    have hnb51 := NB323_303.out
    have hnc51 := NB303_323.out
    obtain ⟨hcz52_0, hcz52_1, hcz52_2, hcz52_3, hcz52_4, hfz52_0, hfz52_1, hfz52_2, hfz52_3, hfz52_4⟩ := cN5 BK323.out
    have p324 : 0 ≤ (t309 : Int) := of_decide_eq_true (by first | (with_reducible assumption) | assumption)
    have q324 : t309 < (((rd_T69 l0_3 t308).f0).length : Int) := of_decide_eq_true (by first | (with_reducible assumption) | assumption)
    obtain ⟨ad324, e324, hx324_0, hx324_1, hx324_2, hx324_3, hx324_4, hx324_5, hx324_6⟩ := at_T84 HR322_0.out t309 p324 q324
    cases e324
    have hn324_0 : ad324.block ≠ gb323 := Nat.ne_of_lt (Nat.lt_of_lt_of_le (by have := World.block_lt_of_cell? _ _ hx324_0; first | rwa [add_block] at this | exact this) GW323.out)
    have hn324_1 : ad324.block ≠ gb323 := Nat.ne_of_lt (Nat.lt_of_lt_of_le (by have := World.block_lt_of_cell? _ _ hx324_0; first | rwa [add_block] at this | exact this) GW323.out)
    have hn324_2 : ad324.block ≠ gb323 := Nat.ne_of_lt (Nat.lt_of_lt_of_le (by have := World.block_lt_of_cell? _ _ hx324_0; first | rwa [add_block] at this | exact this) GW323.out)
    have hn324_3 : ad324.block ≠ gb323 := Nat.ne_of_lt (Nat.lt_of_lt_of_le (by have := World.block_lt_of_cell? _ _ hx324_0; first | rwa [add_block] at this | exact this) GW323.out)
    have hn324_4 : ad324.block ≠ gb323 := Nat.ne_of_lt (Nat.lt_of_lt_of_le (by have := World.block_lt_of_cell? _ _ hx324_0; first | rwa [add_block] at this | exact this) GW323.out)
    replace hx324_0 := (HB.out.cell (wblt w hx324_0)).trans hx324_0
    replace hx324_1 := (HB.out.cell (wblt w hx324_1)).trans hx324_1
    replace hx324_2 := (HB.out.cell (wblt w hx324_2)).trans hx324_2
    replace hx324_3 := (HB.out.cell (wblt w hx324_3)).trans hx324_3
    replace hx324_4 := (HB.out.cell (wblt w hx324_4)).trans hx324_4
    replace hx324_5 := (HB.out.cell (wblt w hx324_5)).trans hx324_5
    replace hx324_6 := (HB.out.cell (wblt w hx324_6)).trans hx324_6
    replace hx324_0 := (cell_far (p := ⟨gb323, 0, none⟩) (by first | (rw [add_block]; exact hn324_0) | (show (Addr.add _ _).block ≠ _; rw [add_block]; exact hn324_0) | exact hn324_0) (.slice (some ad324) ((rd_T69 l0_3 t308).f0).length c322_0)).trans hx324_0
    replace hx324_1 := (cell_far (p := ⟨gb323, 0, none⟩) (by first | (rw [add_block]; exact hn324_0) | (show (Addr.add _ _).block ≠ _; rw [add_block]; exact hn324_0) | exact hn324_0) (.slice (some ad324) ((rd_T69 l0_3 t308).f0).length c322_0)).trans hx324_1
    replace hx324_2 := (cell_far (p := ⟨gb323, 0, none⟩) (by first | (rw [add_block]; exact hn324_0) | (show (Addr.add _ _).block ≠ _; rw [add_block]; exact hn324_0) | exact hn324_0) (.slice (some ad324) ((rd_T69 l0_3 t308).f0).length c322_0)).trans hx324_2
    replace hx324_3 := (cell_far (p := ⟨gb323, 0, none⟩) (by first | (rw [add_block]; exact hn324_0) | (show (Addr.add _ _).block ≠ _; rw [add_block]; exact hn324_0) | exact hn324_0) (.slice (some ad324) ((rd_T69 l0_3 t308).f0).length c322_0)).trans hx324_3
    replace hx324_4 := (cell_far (p := ⟨gb323, 0, none⟩) (by first | (rw [add_block]; exact hn324_0) | (show (Addr.add _ _).block ≠ _; rw [add_block]; exact hn324_0) | exact hn324_0) (.slice (some ad324) ((rd_T69 l0_3 t308).f0).length c322_0)).trans hx324_4
    replace hx324_5 := (cell_far (p := ⟨gb323, 0, none⟩) (by first | (rw [add_block]; exact hn324_0) | (show (Addr.add _ _).block ≠ _; rw [add_block]; exact hn324_0) | exact hn324_0) (.slice (some ad324) ((rd_T69 l0_3 t308).f0).length c322_0)).trans hx324_5
    replace hx324_6 := (cell_far (p := ⟨gb323, 0, none⟩) (by first | (rw [add_block]; exact hn324_0) | (show (Addr.add _ _).block ≠ _; rw [add_block]; exact hn324_0) | exact hn324_0) (.slice (some ad324) ((rd_T69 l0_3 t308).f0).length c322_0)).trans hx324_6
    replace hx324_0 := (cell_far (p := ⟨gb323, 1, none⟩) (by first | (rw [add_block]; exact hn324_1) | (show (Addr.add _ _).block ≠ _; rw [add_block]; exact hn324_1) | exact hn324_1) (.int .i64 ((rd_T69 l0_3 t308).f1.f0))).trans hx324_0
    replace hx324_1 := (cell_far (p := ⟨gb323, 1, none⟩) (by first | (rw [add_block]; exact hn324_1) | (show (Addr.add _ _).block ≠ _; rw [add_block]; exact hn324_1) | exact hn324_1) (.int .i64 ((rd_T69 l0_3 t308).f1.f0))).trans hx324_1
    replace hx324_2 := (cell_far (p := ⟨gb323, 1, none⟩) (by first | (rw [add_block]; exact hn324_1) | (show (Addr.add _ _).block ≠ _; rw [add_block]; exact hn324_1) | exact hn324_1) (.int .i64 ((rd_T69 l0_3 t308).f1.f0))).trans hx324_2
    replace hx324_3 := (cell_far (p := ⟨gb323, 1, none⟩) (by first | (rw [add_block]; exact hn324_1) | (show (Addr.add _ _).block ≠ _; rw [add_block]; exact hn324_1) | exact hn324_1) (.int .i64 ((rd_T69 l0_3 t308).f1.f0))).trans hx324_3
    replace hx324_4 := (cell_far (p := ⟨gb323, 1, none⟩) (by first | (rw [add_block]; exact hn324_1) | (show (Addr.add _ _).block ≠ _; rw [add_block]; exact hn324_1) | exact hn324_1) (.int .i64 ((rd_T69 l0_3 t308).f1.f0))).trans hx324_4
    replace hx324_5 := (cell_far (p := ⟨gb323, 1, none⟩) (by first | (rw [add_block]; exact hn324_1) | (show (Addr.add _ _).block ≠ _; rw [add_block]; exact hn324_1) | exact hn324_1) (.int .i64 ((rd_T69 l0_3 t308).f1.f0))).trans hx324_5
    replace hx324_6 := (cell_far (p := ⟨gb323, 1, none⟩) (by first | (rw [add_block]; exact hn324_1) | (show (Addr.add _ _).block ≠ _; rw [add_block]; exact hn324_1) | exact hn324_1) (.int .i64 ((rd_T69 l0_3 t308).f1.f0))).trans hx324_6
    replace hx324_0 := (cell_far (p := ⟨gb323, 2, none⟩) (by first | (rw [add_block]; exact hn324_2) | (show (Addr.add _ _).block ≠ _; rw [add_block]; exact hn324_2) | exact hn324_2) (.int .i64 ((rd_T69 l0_3 t308).f1.f1))).trans hx324_0
    replace hx324_1 := (cell_far (p := ⟨gb323, 2, none⟩) (by first | (rw [add_block]; exact hn324_2) | (show (Addr.add _ _).block ≠ _; rw [add_block]; exact hn324_2) | exact hn324_2) (.int .i64 ((rd_T69 l0_3 t308).f1.f1))).trans hx324_1
    replace hx324_2 := (cell_far (p := ⟨gb323, 2, none⟩) (by first | (rw [add_block]; exact hn324_2) | (show (Addr.add _ _).block ≠ _; rw [add_block]; exact hn324_2) | exact hn324_2) (.int .i64 ((rd_T69 l0_3 t308).f1.f1))).trans hx324_2
    replace hx324_3 := (cell_far (p := ⟨gb323, 2, none⟩) (by first | (rw [add_block]; exact hn324_2) | (show (Addr.add _ _).block ≠ _; rw [add_block]; exact hn324_2) | exact hn324_2) (.int .i64 ((rd_T69 l0_3 t308).f1.f1))).trans hx324_3
    replace hx324_4 := (cell_far (p := ⟨gb323, 2, none⟩) (by first | (rw [add_block]; exact hn324_2) | (show (Addr.add _ _).block ≠ _; rw [add_block]; exact hn324_2) | exact hn324_2) (.int .i64 ((rd_T69 l0_3 t308).f1.f1))).trans hx324_4
    replace hx324_5 := (cell_far (p := ⟨gb323, 2, none⟩) (by first | (rw [add_block]; exact hn324_2) | (show (Addr.add _ _).block ≠ _; rw [add_block]; exact hn324_2) | exact hn324_2) (.int .i64 ((rd_T69 l0_3 t308).f1.f1))).trans hx324_5
    replace hx324_6 := (cell_far (p := ⟨gb323, 2, none⟩) (by first | (rw [add_block]; exact hn324_2) | (show (Addr.add _ _).block ≠ _; rw [add_block]; exact hn324_2) | exact hn324_2) (.int .i64 ((rd_T69 l0_3 t308).f1.f1))).trans hx324_6
    replace hx324_0 := (cell_far (p := ⟨gb323, 3, none⟩) (by first | (rw [add_block]; exact hn324_3) | (show (Addr.add _ _).block ≠ _; rw [add_block]; exact hn324_3) | exact hn324_3) (.int .i64 ((rd_T69 l0_3 t308).f1.f2))).trans hx324_0
    replace hx324_1 := (cell_far (p := ⟨gb323, 3, none⟩) (by first | (rw [add_block]; exact hn324_3) | (show (Addr.add _ _).block ≠ _; rw [add_block]; exact hn324_3) | exact hn324_3) (.int .i64 ((rd_T69 l0_3 t308).f1.f2))).trans hx324_1
    replace hx324_2 := (cell_far (p := ⟨gb323, 3, none⟩) (by first | (rw [add_block]; exact hn324_3) | (show (Addr.add _ _).block ≠ _; rw [add_block]; exact hn324_3) | exact hn324_3) (.int .i64 ((rd_T69 l0_3 t308).f1.f2))).trans hx324_2
    replace hx324_3 := (cell_far (p := ⟨gb323, 3, none⟩) (by first | (rw [add_block]; exact hn324_3) | (show (Addr.add _ _).block ≠ _; rw [add_block]; exact hn324_3) | exact hn324_3) (.int .i64 ((rd_T69 l0_3 t308).f1.f2))).trans hx324_3
    replace hx324_4 := (cell_far (p := ⟨gb323, 3, none⟩) (by first | (rw [add_block]; exact hn324_3) | (show (Addr.add _ _).block ≠ _; rw [add_block]; exact hn324_3) | exact hn324_3) (.int .i64 ((rd_T69 l0_3 t308).f1.f2))).trans hx324_4
    replace hx324_5 := (cell_far (p := ⟨gb323, 3, none⟩) (by first | (rw [add_block]; exact hn324_3) | (show (Addr.add _ _).block ≠ _; rw [add_block]; exact hn324_3) | exact hn324_3) (.int .i64 ((rd_T69 l0_3 t308).f1.f2))).trans hx324_5
    replace hx324_6 := (cell_far (p := ⟨gb323, 3, none⟩) (by first | (rw [add_block]; exact hn324_3) | (show (Addr.add _ _).block ≠ _; rw [add_block]; exact hn324_3) | exact hn324_3) (.int .i64 ((rd_T69 l0_3 t308).f1.f2))).trans hx324_6
    replace hx324_0 := (cell_far (p := ⟨gb323, 4, none⟩) (by first | (rw [add_block]; exact hn324_4) | (show (Addr.add _ _).block ≠ _; rw [add_block]; exact hn324_4) | exact hn324_4) (.int .i64 ((rd_T69 l0_3 t308).f1.f3))).trans hx324_0
    replace hx324_1 := (cell_far (p := ⟨gb323, 4, none⟩) (by first | (rw [add_block]; exact hn324_4) | (show (Addr.add _ _).block ≠ _; rw [add_block]; exact hn324_4) | exact hn324_4) (.int .i64 ((rd_T69 l0_3 t308).f1.f3))).trans hx324_1
    replace hx324_2 := (cell_far (p := ⟨gb323, 4, none⟩) (by first | (rw [add_block]; exact hn324_4) | (show (Addr.add _ _).block ≠ _; rw [add_block]; exact hn324_4) | exact hn324_4) (.int .i64 ((rd_T69 l0_3 t308).f1.f3))).trans hx324_2
    replace hx324_3 := (cell_far (p := ⟨gb323, 4, none⟩) (by first | (rw [add_block]; exact hn324_4) | (show (Addr.add _ _).block ≠ _; rw [add_block]; exact hn324_4) | exact hn324_4) (.int .i64 ((rd_T69 l0_3 t308).f1.f3))).trans hx324_3
    replace hx324_4 := (cell_far (p := ⟨gb323, 4, none⟩) (by first | (rw [add_block]; exact hn324_4) | (show (Addr.add _ _).block ≠ _; rw [add_block]; exact hn324_4) | exact hn324_4) (.int .i64 ((rd_T69 l0_3 t308).f1.f3))).trans hx324_4
    replace hx324_5 := (cell_far (p := ⟨gb323, 4, none⟩) (by first | (rw [add_block]; exact hn324_4) | (show (Addr.add _ _).block ≠ _; rw [add_block]; exact hn324_4) | exact hn324_4) (.int .i64 ((rd_T69 l0_3 t308).f1.f3))).trans hx324_5
    replace hx324_6 := (cell_far (p := ⟨gb323, 4, none⟩) (by first | (rw [add_block]; exact hn324_4) | (show (Addr.add _ _).block ≠ _; rw [add_block]; exact hn324_4) | exact hn324_4) (.int .i64 ((rd_T69 l0_3 t308).f1.f3))).trans hx324_6
    clear hn324_0 hn324_1 hn324_2 hn324_3 hn324_4
    replace p324 := eq_true p324
    replace q324 := eq_true q324
    go_wp2
    go_meet
    case rel => exact ⟨_, ((((rd_T84 ((rd_T69 l0_3 t308).f0) t309).f0) != 18)), (by first | rfl | (simp; done) | (simp [*]; done)), H', ⟨by have := HJ4.out; first | omega | exact Nat.le_refl _⟩, ⟨RU (Kd.R_mono (RF gb323 4 (RF gb323 3 (RF gb323 2 (RF gb323 1 (RF gb323 0 (Kd.R_types HO313.out BK323.out (by decide)) (.slice (some ad324) ((rd_T69 l0_3 t308).f0).length c322_0)) (.int .i64 ((rd_T69 l0_3 t308).f1.f0))) (.int .i64 ((rd_T69 l0_3 t308).f1.f1))) (.int .i64 ((rd_T69 l0_3 t308).f1.f2))) (.int .i64 ((rd_T69 l0_3 t308).f1.f3))) (fun _ hk => ⟨hk.1.1, hk.1.2⟩))⟩, ⟨RU (Kd.R_mono (RF gb323 4 (RF gb323 3 (RF gb323 2 (RF gb323 1 (RF gb323 0 (Kd.R_types HO316.out BK323.out (by decide)) (.slice (some ad324) ((rd_T69 l0_3 t308).f0).length c322_0)) (.int .i64 ((rd_T69 l0_3 t308).f1.f0))) (.int .i64 ((rd_T69 l0_3 t308).f1.f1))) (.int .i64 ((rd_T69 l0_3 t308).f1.f2))) (.int .i64 ((rd_T69 l0_3 t308).f1.f3))) (fun _ hk => ⟨hk.1.1, hk.1.2⟩))⟩, ⟨RU (Kd.R_mono (RF gb323 4 (RF gb323 3 (RF gb323 2 (RF gb323 1 (RF gb323 0 (Kd.R_types HO319.out BK323.out (by decide)) (.slice (some ad324) ((rd_T69 l0_3 t308).f0).length c322_0)) (.int .i64 ((rd_T69 l0_3 t308).f1.f0))) (.int .i64 ((rd_T69 l0_3 t308).f1.f1))) (.int .i64 ((rd_T69 l0_3 t308).f1.f2))) (.int .i64 ((rd_T69 l0_3 t308).f1.f3))) (fun _ hk => ⟨hk.1.1, hk.1.2⟩))⟩, ⟨by (with_reducible repeat (first | refine bN ?_ _ | refine bD ?_ | refine bA ?_ _)); refine blk_far ?_ NB303_323.out _; (with_reducible repeat (first | refine bN ?_ _ | refine bD ?_ | refine bA ?_ _)); refine blk_far ?_ NB303_323.out _; (with_reducible repeat (first | refine bN ?_ _ | refine bD ?_ | refine bA ?_ _)); refine blk_far ?_ NB303_323.out _; (with_reducible repeat (first | refine bN ?_ _ | refine bD ?_ | refine bA ?_ _)); refine blk_far ?_ NB303_323.out _; (with_reducible repeat (first | refine bN ?_ _ | refine bD ?_ | refine bA ?_ _)); refine blk_far ?_ NB303_323.out _; (with_reducible repeat (first | refine bN ?_ _ | refine bD ?_ | refine bA ?_ _)); exact BK303.out⟩, ⟨by (with_reducible repeat (first | refine bN ?_ _ | refine bD ?_ | refine bA ?_ _)); refine blk_far ?_ NB321_323.out _; (with_reducible repeat (first | refine bN ?_ _ | refine bD ?_ | refine bA ?_ _)); refine blk_far ?_ NB321_323.out _; (with_reducible repeat (first | refine bN ?_ _ | refine bD ?_ | refine bA ?_ _)); refine blk_far ?_ NB321_323.out _; (with_reducible repeat (first | refine bN ?_ _ | refine bD ?_ | refine bA ?_ _)); refine blk_far ?_ NB321_323.out _; (with_reducible repeat (first | refine bN ?_ _ | refine bD ?_ | refine bA ?_ _)); refine blk_far ?_ NB321_323.out _; (with_reducible repeat (first | refine bN ?_ _ | refine bD ?_ | refine bA ?_ _)); exact BK321.out⟩, ⟨by (with_reducible repeat (first | refine bN ?_ _ | refine bD ?_ | refine bA ?_ _)); refine blk_put (cs := #[.slice (some ad324) ((rd_T69 l0_3 t308).f0).length c322_0, .int .i64 ((rd_T69 l0_3 t308).f1.f0), .int .i64 ((rd_T69 l0_3 t308).f1.f1), .int .i64 ((rd_T69 l0_3 t308).f1.f2), .int .i64 0]) ?_ 4 _ rfl; (with_reducible repeat (first | refine bN ?_ _ | refine bD ?_ | refine bA ?_ _)); refine blk_put (cs := #[.slice (some ad324) ((rd_T69 l0_3 t308).f0).length c322_0, .int .i64 ((rd_T69 l0_3 t308).f1.f0), .int .i64 ((rd_T69 l0_3 t308).f1.f1), .int .i64 0, .int .i64 0]) ?_ 3 _ rfl; (with_reducible repeat (first | refine bN ?_ _ | refine bD ?_ | refine bA ?_ _)); refine blk_put (cs := #[.slice (some ad324) ((rd_T69 l0_3 t308).f0).length c322_0, .int .i64 ((rd_T69 l0_3 t308).f1.f0), .int .i64 0, .int .i64 0, .int .i64 0]) ?_ 2 _ rfl; (with_reducible repeat (first | refine bN ?_ _ | refine bD ?_ | refine bA ?_ _)); refine blk_put (cs := #[.slice (some ad324) ((rd_T69 l0_3 t308).f0).length c322_0, .int .i64 0, .int .i64 0, .int .i64 0, .int .i64 0]) ?_ 1 _ rfl; (with_reducible repeat (first | refine bN ?_ _ | refine bD ?_ | refine bA ?_ _)); refine blk_put (cs := #[.slice none 0 0, .int .i64 0, .int .i64 0, .int .i64 0, .int .i64 0]) ?_ 0 _ rfl; (with_reducible repeat (first | refine bN ?_ _ | refine bD ?_ | refine bA ?_ _)); exact BK323.out⟩, ⟨BU HB.out⟩⟩
   case rest =>
    clear HC25
    try clear c1
    try clear c2
    try clear p2
    try clear c3
    try clear p3
    try clear q3
    try clear hx3
    try clear c4
    try clear c5
    try clear p6
    try clear c8
    try clear c10
    try clear c17
    try clear c19
    try clear c23
    try clear c23b0
    try clear c24
    try clear c24b0
    try clear c29
    try clear c32
    try clear p32
    try clear q32
    try clear hx32
    try clear c36
    try clear c37
    try clear c39
    try clear c39b0
    try clear c39b1
    try clear c40
    try clear c40b0
    try clear c41
    try clear c42
    try clear c44
    try clear c46
    try clear c46b0
    try clear c47
    try clear c47b0
    try clear c48
    try clear c49
    try clear c51
    try clear c53
    try clear c54
    try clear hcz12_0
    try clear hcz12_1
    try clear hcz12_2
    try clear hcz12_3
    try clear hcz14_0
    try clear hcz14_1
    try clear hcz14_2
    try clear hcz14_3
    try clear hcz16_0
    try clear hcz16_1
    try clear hcz16_2
    try clear hcz16_3
    try clear hcz26_0
    try clear hcz26_1
    try clear hcz26_2
    try clear hcz26_3
    try clear hcz30_0
    try clear hcz30_1
    try clear hcz30_2
    try clear hcz30_3
    try clear hcz30_4
    try clear hcz30_5
    try clear hcz30_6
    try clear hcz30_7
    try clear hcz34_0
    try clear hcz34_1
    try clear hcz34_2
    try clear hcz34_3
    try clear hcz38_0
    try clear hcz38_1
    try clear hcz38_2
    try clear hcz38_3
    try clear hcz38_4
    try clear hcz43_0
    try clear hcz43_1
    try clear hcz43_2
    try clear hcz43_3
    try clear hcz43_4
    try clear hcz43_5
    try clear hcz43_6
    try clear hcz43_7
    try clear hcz45_0
    try clear hcz45_1
    try clear hcz45_2
    try clear hcz45_3
    try clear hcz45_4
    try clear hcz50_0
    try clear hcz50_1
    try clear hcz50_2
    try clear hcz50_3
    try clear hcz50_4
    try clear hcz50_5
    try clear hcz50_6
    try clear hcz50_7
    try clear hcz52_0
    try clear hcz52_1
    try clear hcz52_2
    try clear hcz52_3
    try clear hcz52_4
    try clear hcz55_0
    try clear hcz55_1
    try clear hcz55_2
    try clear hcz55_3
    try clear hcz55_4
    try clear hcz55_5
    try clear hcz55_6
    try clear hcz55_7
    try clear hfz12_0
    try clear hfz12_1
    try clear hfz12_2
    try clear hfz12_3
    try clear hfz14_0
    try clear hfz14_1
    try clear hfz14_2
    try clear hfz14_3
    try clear hfz16_0
    try clear hfz16_1
    try clear hfz16_2
    try clear hfz16_3
    try clear hfz26_0
    try clear hfz26_1
    try clear hfz26_2
    try clear hfz26_3
    try clear hfz30_0
    try clear hfz30_1
    try clear hfz30_2
    try clear hfz30_3
    try clear hfz30_4
    try clear hfz30_5
    try clear hfz30_6
    try clear hfz30_7
    try clear hfz34_0
    try clear hfz34_1
    try clear hfz34_2
    try clear hfz34_3
    try clear hfz38_0
    try clear hfz38_1
    try clear hfz38_2
    try clear hfz38_3
    try clear hfz38_4
    try clear hfz43_0
    try clear hfz43_1
    try clear hfz43_2
    try clear hfz43_3
    try clear hfz43_4
    try clear hfz43_5
    try clear hfz43_6
    try clear hfz43_7
    try clear hfz45_0
    try clear hfz45_1
    try clear hfz45_2
    try clear hfz45_3
    try clear hfz45_4
    try clear hfz50_0
    try clear hfz50_1
    try clear hfz50_2
    try clear hfz50_3
    try clear hfz50_4
    try clear hfz50_5
    try clear hfz50_6
    try clear hfz50_7
    try clear hfz52_0
    try clear hfz52_1
    try clear hfz52_2
    try clear hfz52_3
    try clear hfz52_4
    try clear hfz55_0
    try clear hfz55_1
    try clear hfz55_2
    try clear hfz55_3
    try clear hfz55_4
    try clear hfz55_5
    try clear hfz55_6
    try clear hfz55_7
    try clear hx322_0
    try clear hx322_1
    try clear hx322_2
    try clear hx322_3
    try clear hx322_4
    try clear hx324_0
    try clear hx324_1
    try clear hx324_2
    try clear hx324_3
    try clear hx324_4
    try clear hx324_5
    try clear hx324_6
    try clear p2
    try clear p322
    try clear p324
    try clear q322
    try clear q324
    obtain ⟨kq, x62_24, rfl, HA, HJ24, HO_322004, HO_322005, HO_322006, BK303, BK321, BK323, HB⟩ := hcut
    cases kq with
    | zero => exact absurd HA.out (by simp [regcertlaw10_ExecuteMoveOnly.j1])
    | succ kj24 =>
     have H := HA.out
     clear HA
     simp only [regcertlaw10_ExecuteMoveOnly.j1] at H
     by_cases c56 : x62_24 = true
     ·subst c56
      rw [if_pos rfl] at H
      obtain rfl := Option.some.inj H
      go_wp2
      go_ret
      exact ⟨by first | rfl | (simp [errW_none, errW_some] <;> rfl) | (simp [*, errW_none, errW_some] <;> rfl), BU HB.out⟩
     replace c56 := Bool.eq_false_iff.mpr c56
     subst c56
     rw [if_neg (show ¬ (false = true) by decide)] at H
     by_cases c57 : 0 ≤ t309
     rotate_left
     ·rw [if_neg c57] at H
      exact absurd H (by simp)
     rw [if_pos c57] at H
     have c57b0 : decide (0 ≤ t309) = true := decide_eq_true c57
     clear c57
     by_cases c58 : t309 < (((rd_T69 l0_3 t308).f0).length : Int)
     rotate_left
     ·rw [if_neg c58] at H
      exact absurd H (by simp)
     rw [if_pos c58] at H
     have c58b0 : decide (t309 < (((rd_T69 l0_3 t308).f0).length : Int)) = true := decide_eq_true c58
     clear c58
     replace H := Option.bind_eq_some_iff.mp H
     obtain ⟨⟨t327, t328, t329, t330, t331, t334, t337, t340⟩, A590, H⟩ := H
     have A59 := As0 A590
     clear A590
     have HC60 := As0 H
     clear H
     have hnb61 := NB323_303.out
     have hnc61 := NB303_323.out
     have hnb62 := NB323_321.out
     have hnc62 := NB321_323.out
     obtain ⟨hcz63_0, hcz63_1, hcz63_2, hcz63_3, hcz63_4, hfz63_0, hfz63_1, hfz63_2, hfz63_3, hfz63_4⟩ := cN5 BK323.out
     have hnb64 := NB321_303.out
     have hnc64 := NB303_321.out
     obtain ⟨hcz65_0, hcz65_1, hcz65_2, hcz65_3, hcz65_4, hcz65_5, hcz65_6, hcz65_7, hfz65_0, hfz65_1, hfz65_2, hfz65_3, hfz65_4, hfz65_5, hfz65_6, hfz65_7⟩ := cN8 BK321.out
     have p325 : 0 ≤ (t309 : Int) := of_decide_eq_true (by first | (with_reducible assumption) | assumption)
     have q325 : t309 < (((rd_T69 l0_3 t308).f0).length : Int) := of_decide_eq_true (by first | (with_reducible assumption) | assumption)
     obtain ⟨ad325, e325, hx325_0, hx325_1, hx325_2, hx325_3, hx325_4, hx325_5, hx325_6⟩ := at_T84 HR322_0.out t309 p325 q325
     cases e325
     replace hx325_0 := (HB.out.cell (wblt w hx325_0)).trans hx325_0
     replace hx325_1 := (HB.out.cell (wblt w hx325_1)).trans hx325_1
     replace hx325_2 := (HB.out.cell (wblt w hx325_2)).trans hx325_2
     replace hx325_3 := (HB.out.cell (wblt w hx325_3)).trans hx325_3
     replace hx325_4 := (HB.out.cell (wblt w hx325_4)).trans hx325_4
     replace hx325_5 := (HB.out.cell (wblt w hx325_5)).trans hx325_5
     replace hx325_6 := (HB.out.cell (wblt w hx325_6)).trans hx325_6
     replace p325 := eq_true p325
     replace q325 := eq_true q325
     go_upto_region 9 with (first | ((with_reducible refine gate_dst (N := 11) rfl ?_); (try (refine gate_guard (by rfl) ?_; dsimp only)); refine bX (N := 11) (cs := #[.int .i64 0, .int .i64 0, .int .i64 0, .int .i64 0, .int .i64 0, .int .i64 0, .int .i64 0]) (t := 84) ?_; intro gb326 hg w66 hbox hb; replace HO_322004 := As0 (Kd.R_below (RU HO_322004.out) hb); replace HO_322005 := As0 (Kd.R_below (RU HO_322005.out) hb); replace HO_322006 := As0 (Kd.R_below (RU HO_322006.out) hb); have BK326 := As0 (hbox); have GW326 := As0 ((by rw [hg]; exact (below_size (BU HB.out)) : w.heap.size ≤ gb326)); have GE326 := As0 ((by rw [hg]; exact (below_size (BU HB.out)) : w.heap.size ≤ gb326)); replace HB := As0 (below_step (BU HB.out) hb); have NB303_326 := As0 ((by rw [hg]; exact Nat.ne_of_lt (blk_lt (bU BK303.out)) : gb303 ≠ gb326)); have NB326_303 := As0 ((by rw [hg]; exact Nat.ne_of_gt (blk_lt (bU BK303.out)) : gb326 ≠ gb303)); replace BK303 := As0 (blk_below (bU BK303.out) hb); have NB321_326 := As0 ((by rw [hg]; exact Nat.ne_of_lt (blk_lt (bU BK321.out)) : gb321 ≠ gb326)); have NB326_321 := As0 ((by rw [hg]; exact Nat.ne_of_gt (blk_lt (bU BK321.out)) : gb326 ≠ gb321)); replace BK321 := As0 (blk_below (bU BK321.out) hb); have NB323_326 := As0 ((by rw [hg]; exact Nat.ne_of_lt (blk_lt (bU BK323.out)) : gb323 ≠ gb326)); have NB326_323 := As0 ((by rw [hg]; exact Nat.ne_of_gt (blk_lt (bU BK323.out)) : gb326 ≠ gb323)); replace BK323 := As0 (blk_below (bU BK323.out) hb); clear hb hbox hg; have hnb67 := NB326_303.out; have hnc67 := NB303_326.out; have hnb68 := NB326_321.out; have hnc68 := NB321_326.out; have hnb69 := NB326_323.out; have hnc69 := NB323_326.out; obtain ⟨hcz70_0, hcz70_1, hcz70_2, hcz70_3, hcz70_4, hcz70_5, hcz70_6, hfz70_0, hfz70_1, hfz70_2, hfz70_3, hfz70_4, hfz70_5, hfz70_6⟩ := cN7 BK326.out; obtain ⟨hcz71_0, hcz71_1, hcz71_2, hcz71_3, hfz71_0, hfz71_1, hfz71_2, hfz71_3⟩ := cN4 BK303.out; obtain ⟨hcz72_0, hcz72_1, hcz72_2, hcz72_3, hcz72_4, hcz72_5, hcz72_6, hcz72_7, hfz72_0, hfz72_1, hfz72_2, hfz72_3, hfz72_4, hfz72_5, hfz72_6, hfz72_7⟩ := cN8 BK321.out) | ((with_reducible refine gate_callee (f := 56) rfl ?_); refine goesL_ (some 71) rfl rfl Try.func56 (by kernel_rfl) rfl #[.agg #[.int .i64 a0_0, .int .i64 a0_1, .int .i64 a0_2, .slice (some ad322) l0_3.length c0_3], .agg #[.int .i64 t307, .int .i64 t308, .int .i64 t309, .int .i64 t310, .slice Ao31 t311.length co31, .slice Ao32 t314.length co32, .slice Ao33 t317.length co33, .int .i64 t320]] rfl (by (try simp only [List.map_toArray, List.map_cons, List.map_nil]); first | done | rfl | (simp only [List.length_drop, List.length_take]; rfl)) ?_; (with_reducible refine (execute_Step.calls a0_0 a0_1 a0_2 _ _ l0_3 t307 t308 t309 t310 _ _ t311 _ _ t314 _ _ t317 t320 t327 t328 t329 t330 t331 t334 t337 t340 _ ?side1 ?side2 ?side3 ?side4 ?side5 ?side6 ?side7 ?side8 A59.out).mono ?_); (case side1 => exact Kd.C_below HR0_3.out (BU HB.out)); (case side2 => exact HC0_3.out); (case side3 => refine (Kd.R_reads' (e := 2) (base := w.heap.size) (ok := fun k_ => (some k_ ≠ (.slice Ao32 t314.length co32 : Value).ownBlock ∧ some k_ ≠ (.slice Ao33 t317.length co33 : Value).ownBlock)) (n := t311.length) (c := co31) ?_).2.2; exact (RU (Kd.R_mono (RF gb326 6 (RF gb326 5 (RF gb326 4 (RF gb326 3 (RF gb326 2 (RF gb326 1 (RF gb326 0 (Kd.R_types HO_322004.out BK326.out (by decide)) (.int .i64 ((rd_T84 ((rd_T69 l0_3 t308).f0) t309).f0))) (.int .i64 ((rd_T84 ((rd_T69 l0_3 t308).f0) t309).f1))) (.int .i64 ((rd_T84 ((rd_T69 l0_3 t308).f0) t309).f2))) (.int .i64 ((rd_T84 ((rd_T69 l0_3 t308).f0) t309).f3))) (.int .i64 ((rd_T84 ((rd_T69 l0_3 t308).f0) t309).f4))) (.int .i64 ((rd_T84 ((rd_T69 l0_3 t308).f0) t309).f5))) (.int .i64 ((rd_T84 ((rd_T69 l0_3 t308).f0) t309).f6))) (fun _ h_ => h_.1)))); (case side4 => exact (Kd.R_reads' HO_322004.out).2.1); (case side5 => refine (Kd.R_reads' (e := 2) (base := w.heap.size) (ok := fun k_ => (some k_ ≠ (.slice Ao31 t311.length co31 : Value).ownBlock ∧ some k_ ≠ (.slice Ao33 t317.length co33 : Value).ownBlock)) (n := t314.length) (c := co32) ?_).2.2; exact (RU (Kd.R_mono (RF gb326 6 (RF gb326 5 (RF gb326 4 (RF gb326 3 (RF gb326 2 (RF gb326 1 (RF gb326 0 (Kd.R_types HO_322005.out BK326.out (by decide)) (.int .i64 ((rd_T84 ((rd_T69 l0_3 t308).f0) t309).f0))) (.int .i64 ((rd_T84 ((rd_T69 l0_3 t308).f0) t309).f1))) (.int .i64 ((rd_T84 ((rd_T69 l0_3 t308).f0) t309).f2))) (.int .i64 ((rd_T84 ((rd_T69 l0_3 t308).f0) t309).f3))) (.int .i64 ((rd_T84 ((rd_T69 l0_3 t308).f0) t309).f4))) (.int .i64 ((rd_T84 ((rd_T69 l0_3 t308).f0) t309).f5))) (.int .i64 ((rd_T84 ((rd_T69 l0_3 t308).f0) t309).f6))) (fun _ h_ => h_.1)))); (case side6 => exact (Kd.R_reads' HO_322005.out).2.1); (case side7 => refine (Kd.R_reads' (e := 2) (base := w.heap.size) (ok := fun k_ => (some k_ ≠ (.slice Ao31 t311.length co31 : Value).ownBlock ∧ some k_ ≠ (.slice Ao32 t314.length co32 : Value).ownBlock)) (n := t317.length) (c := co33) ?_).2.2; exact (RU (Kd.R_mono (RF gb326 6 (RF gb326 5 (RF gb326 4 (RF gb326 3 (RF gb326 2 (RF gb326 1 (RF gb326 0 (Kd.R_types HO_322006.out BK326.out (by decide)) (.int .i64 ((rd_T84 ((rd_T69 l0_3 t308).f0) t309).f0))) (.int .i64 ((rd_T84 ((rd_T69 l0_3 t308).f0) t309).f1))) (.int .i64 ((rd_T84 ((rd_T69 l0_3 t308).f0) t309).f2))) (.int .i64 ((rd_T84 ((rd_T69 l0_3 t308).f0) t309).f3))) (.int .i64 ((rd_T84 ((rd_T69 l0_3 t308).f0) t309).f4))) (.int .i64 ((rd_T84 ((rd_T69 l0_3 t308).f0) t309).f5))) (.int .i64 ((rd_T84 ((rd_T69 l0_3 t308).f0) t309).f6))) (fun _ h_ => h_.1)))); (case side8 => exact (Kd.R_reads' HO_322006.out).2.1); rintro e w73 ⟨v332, v335, v338, rfl, ho0, ho1, ho2, hb⟩; refine ⟨_, rfl, ?_⟩; have HO333 := As0 (Kd.R_lower (Kd.R_new' (Kd.R_new' (Kd.R_new' ho0 (Kd.R_lt (RU (Kd.R_mono (RF gb326 6 (RF gb326 5 (RF gb326 4 (RF gb326 3 (RF gb326 2 (RF gb326 1 (RF gb326 0 (Kd.R_types HO_322004.out BK326.out (by decide)) (.int .i64 ((rd_T84 ((rd_T69 l0_3 t308).f0) t309).f0))) (.int .i64 ((rd_T84 ((rd_T69 l0_3 t308).f0) t309).f1))) (.int .i64 ((rd_T84 ((rd_T69 l0_3 t308).f0) t309).f2))) (.int .i64 ((rd_T84 ((rd_T69 l0_3 t308).f0) t309).f3))) (.int .i64 ((rd_T84 ((rd_T69 l0_3 t308).f0) t309).f4))) (.int .i64 ((rd_T84 ((rd_T69 l0_3 t308).f0) t309).f5))) (.int .i64 ((rd_T84 ((rd_T69 l0_3 t308).f0) t309).f6))) (fun _ h_ => h_.1))))) (Kd.R_lt (RU (Kd.R_mono (RF gb326 6 (RF gb326 5 (RF gb326 4 (RF gb326 3 (RF gb326 2 (RF gb326 1 (RF gb326 0 (Kd.R_types HO_322005.out BK326.out (by decide)) (.int .i64 ((rd_T84 ((rd_T69 l0_3 t308).f0) t309).f0))) (.int .i64 ((rd_T84 ((rd_T69 l0_3 t308).f0) t309).f1))) (.int .i64 ((rd_T84 ((rd_T69 l0_3 t308).f0) t309).f2))) (.int .i64 ((rd_T84 ((rd_T69 l0_3 t308).f0) t309).f3))) (.int .i64 ((rd_T84 ((rd_T69 l0_3 t308).f0) t309).f4))) (.int .i64 ((rd_T84 ((rd_T69 l0_3 t308).f0) t309).f5))) (.int .i64 ((rd_T84 ((rd_T69 l0_3 t308).f0) t309).f6))) (fun _ h_ => h_.1))))) (Kd.R_lt (RU (Kd.R_mono (RF gb326 6 (RF gb326 5 (RF gb326 4 (RF gb326 3 (RF gb326 2 (RF gb326 1 (RF gb326 0 (Kd.R_types HO_322006.out BK326.out (by decide)) (.int .i64 ((rd_T84 ((rd_T69 l0_3 t308).f0) t309).f0))) (.int .i64 ((rd_T84 ((rd_T69 l0_3 t308).f0) t309).f1))) (.int .i64 ((rd_T84 ((rd_T69 l0_3 t308).f0) t309).f2))) (.int .i64 ((rd_T84 ((rd_T69 l0_3 t308).f0) t309).f3))) (.int .i64 ((rd_T84 ((rd_T69 l0_3 t308).f0) t309).f4))) (.int .i64 ((rd_T84 ((rd_T69 l0_3 t308).f0) t309).f5))) (.int .i64 ((rd_T84 ((rd_T69 l0_3 t308).f0) t309).f6))) (fun _ h_ => h_.1))))) (below_size (BU HB.out))); have HO336 := As0 (Kd.R_lower (Kd.R_new' (Kd.R_new' (Kd.R_new' ho1 (Kd.R_lt (RU (Kd.R_mono (RF gb326 6 (RF gb326 5 (RF gb326 4 (RF gb326 3 (RF gb326 2 (RF gb326 1 (RF gb326 0 (Kd.R_types HO_322004.out BK326.out (by decide)) (.int .i64 ((rd_T84 ((rd_T69 l0_3 t308).f0) t309).f0))) (.int .i64 ((rd_T84 ((rd_T69 l0_3 t308).f0) t309).f1))) (.int .i64 ((rd_T84 ((rd_T69 l0_3 t308).f0) t309).f2))) (.int .i64 ((rd_T84 ((rd_T69 l0_3 t308).f0) t309).f3))) (.int .i64 ((rd_T84 ((rd_T69 l0_3 t308).f0) t309).f4))) (.int .i64 ((rd_T84 ((rd_T69 l0_3 t308).f0) t309).f5))) (.int .i64 ((rd_T84 ((rd_T69 l0_3 t308).f0) t309).f6))) (fun _ h_ => h_.1))))) (Kd.R_lt (RU (Kd.R_mono (RF gb326 6 (RF gb326 5 (RF gb326 4 (RF gb326 3 (RF gb326 2 (RF gb326 1 (RF gb326 0 (Kd.R_types HO_322005.out BK326.out (by decide)) (.int .i64 ((rd_T84 ((rd_T69 l0_3 t308).f0) t309).f0))) (.int .i64 ((rd_T84 ((rd_T69 l0_3 t308).f0) t309).f1))) (.int .i64 ((rd_T84 ((rd_T69 l0_3 t308).f0) t309).f2))) (.int .i64 ((rd_T84 ((rd_T69 l0_3 t308).f0) t309).f3))) (.int .i64 ((rd_T84 ((rd_T69 l0_3 t308).f0) t309).f4))) (.int .i64 ((rd_T84 ((rd_T69 l0_3 t308).f0) t309).f5))) (.int .i64 ((rd_T84 ((rd_T69 l0_3 t308).f0) t309).f6))) (fun _ h_ => h_.1))))) (Kd.R_lt (RU (Kd.R_mono (RF gb326 6 (RF gb326 5 (RF gb326 4 (RF gb326 3 (RF gb326 2 (RF gb326 1 (RF gb326 0 (Kd.R_types HO_322006.out BK326.out (by decide)) (.int .i64 ((rd_T84 ((rd_T69 l0_3 t308).f0) t309).f0))) (.int .i64 ((rd_T84 ((rd_T69 l0_3 t308).f0) t309).f1))) (.int .i64 ((rd_T84 ((rd_T69 l0_3 t308).f0) t309).f2))) (.int .i64 ((rd_T84 ((rd_T69 l0_3 t308).f0) t309).f3))) (.int .i64 ((rd_T84 ((rd_T69 l0_3 t308).f0) t309).f4))) (.int .i64 ((rd_T84 ((rd_T69 l0_3 t308).f0) t309).f5))) (.int .i64 ((rd_T84 ((rd_T69 l0_3 t308).f0) t309).f6))) (fun _ h_ => h_.1))))) (below_size (BU HB.out))); have HO339 := As0 (Kd.R_lower (Kd.R_new' (Kd.R_new' (Kd.R_new' ho2 (Kd.R_lt (RU (Kd.R_mono (RF gb326 6 (RF gb326 5 (RF gb326 4 (RF gb326 3 (RF gb326 2 (RF gb326 1 (RF gb326 0 (Kd.R_types HO_322004.out BK326.out (by decide)) (.int .i64 ((rd_T84 ((rd_T69 l0_3 t308).f0) t309).f0))) (.int .i64 ((rd_T84 ((rd_T69 l0_3 t308).f0) t309).f1))) (.int .i64 ((rd_T84 ((rd_T69 l0_3 t308).f0) t309).f2))) (.int .i64 ((rd_T84 ((rd_T69 l0_3 t308).f0) t309).f3))) (.int .i64 ((rd_T84 ((rd_T69 l0_3 t308).f0) t309).f4))) (.int .i64 ((rd_T84 ((rd_T69 l0_3 t308).f0) t309).f5))) (.int .i64 ((rd_T84 ((rd_T69 l0_3 t308).f0) t309).f6))) (fun _ h_ => h_.1))))) (Kd.R_lt (RU (Kd.R_mono (RF gb326 6 (RF gb326 5 (RF gb326 4 (RF gb326 3 (RF gb326 2 (RF gb326 1 (RF gb326 0 (Kd.R_types HO_322005.out BK326.out (by decide)) (.int .i64 ((rd_T84 ((rd_T69 l0_3 t308).f0) t309).f0))) (.int .i64 ((rd_T84 ((rd_T69 l0_3 t308).f0) t309).f1))) (.int .i64 ((rd_T84 ((rd_T69 l0_3 t308).f0) t309).f2))) (.int .i64 ((rd_T84 ((rd_T69 l0_3 t308).f0) t309).f3))) (.int .i64 ((rd_T84 ((rd_T69 l0_3 t308).f0) t309).f4))) (.int .i64 ((rd_T84 ((rd_T69 l0_3 t308).f0) t309).f5))) (.int .i64 ((rd_T84 ((rd_T69 l0_3 t308).f0) t309).f6))) (fun _ h_ => h_.1))))) (Kd.R_lt (RU (Kd.R_mono (RF gb326 6 (RF gb326 5 (RF gb326 4 (RF gb326 3 (RF gb326 2 (RF gb326 1 (RF gb326 0 (Kd.R_types HO_322006.out BK326.out (by decide)) (.int .i64 ((rd_T84 ((rd_T69 l0_3 t308).f0) t309).f0))) (.int .i64 ((rd_T84 ((rd_T69 l0_3 t308).f0) t309).f1))) (.int .i64 ((rd_T84 ((rd_T69 l0_3 t308).f0) t309).f2))) (.int .i64 ((rd_T84 ((rd_T69 l0_3 t308).f0) t309).f3))) (.int .i64 ((rd_T84 ((rd_T69 l0_3 t308).f0) t309).f4))) (.int .i64 ((rd_T84 ((rd_T69 l0_3 t308).f0) t309).f5))) (.int .i64 ((rd_T84 ((rd_T69 l0_3 t308).f0) t309).f6))) (fun _ h_ => h_.1))))) (below_size (BU HB.out))); replace HO_322004 := As0 (Kd.R_mono (Kd.R_told (Kd.R_told (Kd.R_told (Kd.R_old (RU (Kd.R_mono (RF gb326 6 (RF gb326 5 (RF gb326 4 (RF gb326 3 (RF gb326 2 (RF gb326 1 (RF gb326 0 (Kd.R_types HO_322004.out BK326.out (by decide)) (.int .i64 ((rd_T84 ((rd_T69 l0_3 t308).f0) t309).f0))) (.int .i64 ((rd_T84 ((rd_T69 l0_3 t308).f0) t309).f1))) (.int .i64 ((rd_T84 ((rd_T69 l0_3 t308).f0) t309).f2))) (.int .i64 ((rd_T84 ((rd_T69 l0_3 t308).f0) t309).f3))) (.int .i64 ((rd_T84 ((rd_T69 l0_3 t308).f0) t309).f4))) (.int .i64 ((rd_T84 ((rd_T69 l0_3 t308).f0) t309).f5))) (.int .i64 ((rd_T84 ((rd_T69 l0_3 t308).f0) t309).f6))) (fun _ h_ => h_.1))) hb) (Kd.R_base ho0)) (Kd.R_base ho1)) (Kd.R_base ho2)) (fun _ h_ => h_.1)); replace HO_322005 := As0 (Kd.R_mono (Kd.R_told (Kd.R_told (Kd.R_told (Kd.R_old (RU (Kd.R_mono (RF gb326 6 (RF gb326 5 (RF gb326 4 (RF gb326 3 (RF gb326 2 (RF gb326 1 (RF gb326 0 (Kd.R_types HO_322005.out BK326.out (by decide)) (.int .i64 ((rd_T84 ((rd_T69 l0_3 t308).f0) t309).f0))) (.int .i64 ((rd_T84 ((rd_T69 l0_3 t308).f0) t309).f1))) (.int .i64 ((rd_T84 ((rd_T69 l0_3 t308).f0) t309).f2))) (.int .i64 ((rd_T84 ((rd_T69 l0_3 t308).f0) t309).f3))) (.int .i64 ((rd_T84 ((rd_T69 l0_3 t308).f0) t309).f4))) (.int .i64 ((rd_T84 ((rd_T69 l0_3 t308).f0) t309).f5))) (.int .i64 ((rd_T84 ((rd_T69 l0_3 t308).f0) t309).f6))) (fun _ h_ => h_.1))) hb) (Kd.R_base ho0)) (Kd.R_base ho1)) (Kd.R_base ho2)) (fun _ h_ => h_.1)); replace HO_322006 := As0 (Kd.R_mono (Kd.R_told (Kd.R_told (Kd.R_told (Kd.R_old (RU (Kd.R_mono (RF gb326 6 (RF gb326 5 (RF gb326 4 (RF gb326 3 (RF gb326 2 (RF gb326 1 (RF gb326 0 (Kd.R_types HO_322006.out BK326.out (by decide)) (.int .i64 ((rd_T84 ((rd_T69 l0_3 t308).f0) t309).f0))) (.int .i64 ((rd_T84 ((rd_T69 l0_3 t308).f0) t309).f1))) (.int .i64 ((rd_T84 ((rd_T69 l0_3 t308).f0) t309).f2))) (.int .i64 ((rd_T84 ((rd_T69 l0_3 t308).f0) t309).f3))) (.int .i64 ((rd_T84 ((rd_T69 l0_3 t308).f0) t309).f4))) (.int .i64 ((rd_T84 ((rd_T69 l0_3 t308).f0) t309).f5))) (.int .i64 ((rd_T84 ((rd_T69 l0_3 t308).f0) t309).f6))) (fun _ h_ => h_.1))) hb) (Kd.R_base ho0)) (Kd.R_base ho1)) (Kd.R_base ho2)) (fun _ h_ => h_.1)); replace BK303 := As0 (blk_below (g := gb303) (o := .cells #[.int .i64 a0_0, .int .i64 a0_1, .int .i64 a0_2, .slice (some ad322) l0_3.length c0_3] 63 (0, 0)) (by (with_reducible repeat (first | refine bN ?_ _ | refine bD ?_ | refine bA ?_ _)); refine blk_far ?_ NB303_326.out _; (with_reducible repeat (first | refine bN ?_ _ | refine bD ?_ | refine bA ?_ _)); refine blk_far ?_ NB303_326.out _; (with_reducible repeat (first | refine bN ?_ _ | refine bD ?_ | refine bA ?_ _)); refine blk_far ?_ NB303_326.out _; (with_reducible repeat (first | refine bN ?_ _ | refine bD ?_ | refine bA ?_ _)); refine blk_far ?_ NB303_326.out _; (with_reducible repeat (first | refine bN ?_ _ | refine bD ?_ | refine bA ?_ _)); refine blk_far ?_ NB303_326.out _; (with_reducible repeat (first | refine bN ?_ _ | refine bD ?_ | refine bA ?_ _)); refine blk_far ?_ NB303_326.out _; (with_reducible repeat (first | refine bN ?_ _ | refine bD ?_ | refine bA ?_ _)); refine blk_far ?_ NB303_326.out _; (with_reducible repeat (first | refine bN ?_ _ | refine bD ?_ | refine bA ?_ _)); exact BK303.out) hb); replace BK321 := As0 (blk_below (g := gb321) (o := .cells #[.int .i64 t307, .int .i64 t308, .int .i64 t309, .int .i64 t310, .slice Ao31 t311.length co31, .slice Ao32 t314.length co32, .slice Ao33 t317.length co33, .int .i64 t320] 39 (0, 0)) (by (with_reducible repeat (first | refine bN ?_ _ | refine bD ?_ | refine bA ?_ _)); refine blk_far ?_ NB321_326.out _; (with_reducible repeat (first | refine bN ?_ _ | refine bD ?_ | refine bA ?_ _)); refine blk_far ?_ NB321_326.out _; (with_reducible repeat (first | refine bN ?_ _ | refine bD ?_ | refine bA ?_ _)); refine blk_far ?_ NB321_326.out _; (with_reducible repeat (first | refine bN ?_ _ | refine bD ?_ | refine bA ?_ _)); refine blk_far ?_ NB321_326.out _; (with_reducible repeat (first | refine bN ?_ _ | refine bD ?_ | refine bA ?_ _)); refine blk_far ?_ NB321_326.out _; (with_reducible repeat (first | refine bN ?_ _ | refine bD ?_ | refine bA ?_ _)); refine blk_far ?_ NB321_326.out _; (with_reducible repeat (first | refine bN ?_ _ | refine bD ?_ | refine bA ?_ _)); refine blk_far ?_ NB321_326.out _; (with_reducible repeat (first | refine bN ?_ _ | refine bD ?_ | refine bA ?_ _)); exact BK321.out) hb); replace BK323 := As0 (blk_below (g := gb323) (o := .cells #[.slice (some ad325) ((rd_T69 l0_3 t308).f0).length c322_0, .int .i64 ((rd_T69 l0_3 t308).f1.f0), .int .i64 ((rd_T69 l0_3 t308).f1.f1), .int .i64 ((rd_T69 l0_3 t308).f1.f2), .int .i64 ((rd_T69 l0_3 t308).f1.f3)] 69 (0, 0)) (by (with_reducible repeat (first | refine bN ?_ _ | refine bD ?_ | refine bA ?_ _)); refine blk_far ?_ NB323_326.out _; (with_reducible repeat (first | refine bN ?_ _ | refine bD ?_ | refine bA ?_ _)); refine blk_far ?_ NB323_326.out _; (with_reducible repeat (first | refine bN ?_ _ | refine bD ?_ | refine bA ?_ _)); refine blk_far ?_ NB323_326.out _; (with_reducible repeat (first | refine bN ?_ _ | refine bD ?_ | refine bA ?_ _)); refine blk_far ?_ NB323_326.out _; (with_reducible repeat (first | refine bN ?_ _ | refine bD ?_ | refine bA ?_ _)); refine blk_far ?_ NB323_326.out _; (with_reducible repeat (first | refine bN ?_ _ | refine bD ?_ | refine bA ?_ _)); refine blk_far ?_ NB323_326.out _; (with_reducible repeat (first | refine bN ?_ _ | refine bD ?_ | refine bA ?_ _)); refine blk_far ?_ NB323_326.out _; (with_reducible repeat (first | refine bN ?_ _ | refine bD ?_ | refine bA ?_ _)); exact BK323.out) hb); replace BK326 := As0 (blk_below (g := gb326) (o := .cells #[.int .i64 ((rd_T84 ((rd_T69 l0_3 t308).f0) t309).f0), .int .i64 ((rd_T84 ((rd_T69 l0_3 t308).f0) t309).f1), .int .i64 ((rd_T84 ((rd_T69 l0_3 t308).f0) t309).f2), .int .i64 ((rd_T84 ((rd_T69 l0_3 t308).f0) t309).f3), .int .i64 ((rd_T84 ((rd_T69 l0_3 t308).f0) t309).f4), .int .i64 ((rd_T84 ((rd_T69 l0_3 t308).f0) t309).f5), .int .i64 ((rd_T84 ((rd_T69 l0_3 t308).f0) t309).f6)] 84 (0, 0)) (by (with_reducible repeat (first | refine bN ?_ _ | refine bD ?_ | refine bA ?_ _)); refine blk_put (cs := #[.int .i64 ((rd_T84 ((rd_T69 l0_3 t308).f0) t309).f0), .int .i64 ((rd_T84 ((rd_T69 l0_3 t308).f0) t309).f1), .int .i64 ((rd_T84 ((rd_T69 l0_3 t308).f0) t309).f2), .int .i64 ((rd_T84 ((rd_T69 l0_3 t308).f0) t309).f3), .int .i64 ((rd_T84 ((rd_T69 l0_3 t308).f0) t309).f4), .int .i64 ((rd_T84 ((rd_T69 l0_3 t308).f0) t309).f5), .int .i64 0]) ?_ 6 _ rfl; (with_reducible repeat (first | refine bN ?_ _ | refine bD ?_ | refine bA ?_ _)); refine blk_put (cs := #[.int .i64 ((rd_T84 ((rd_T69 l0_3 t308).f0) t309).f0), .int .i64 ((rd_T84 ((rd_T69 l0_3 t308).f0) t309).f1), .int .i64 ((rd_T84 ((rd_T69 l0_3 t308).f0) t309).f2), .int .i64 ((rd_T84 ((rd_T69 l0_3 t308).f0) t309).f3), .int .i64 ((rd_T84 ((rd_T69 l0_3 t308).f0) t309).f4), .int .i64 0, .int .i64 0]) ?_ 5 _ rfl; (with_reducible repeat (first | refine bN ?_ _ | refine bD ?_ | refine bA ?_ _)); refine blk_put (cs := #[.int .i64 ((rd_T84 ((rd_T69 l0_3 t308).f0) t309).f0), .int .i64 ((rd_T84 ((rd_T69 l0_3 t308).f0) t309).f1), .int .i64 ((rd_T84 ((rd_T69 l0_3 t308).f0) t309).f2), .int .i64 ((rd_T84 ((rd_T69 l0_3 t308).f0) t309).f3), .int .i64 0, .int .i64 0, .int .i64 0]) ?_ 4 _ rfl; (with_reducible repeat (first | refine bN ?_ _ | refine bD ?_ | refine bA ?_ _)); refine blk_put (cs := #[.int .i64 ((rd_T84 ((rd_T69 l0_3 t308).f0) t309).f0), .int .i64 ((rd_T84 ((rd_T69 l0_3 t308).f0) t309).f1), .int .i64 ((rd_T84 ((rd_T69 l0_3 t308).f0) t309).f2), .int .i64 0, .int .i64 0, .int .i64 0, .int .i64 0]) ?_ 3 _ rfl; (with_reducible repeat (first | refine bN ?_ _ | refine bD ?_ | refine bA ?_ _)); refine blk_put (cs := #[.int .i64 ((rd_T84 ((rd_T69 l0_3 t308).f0) t309).f0), .int .i64 ((rd_T84 ((rd_T69 l0_3 t308).f0) t309).f1), .int .i64 0, .int .i64 0, .int .i64 0, .int .i64 0, .int .i64 0]) ?_ 2 _ rfl; (with_reducible repeat (first | refine bN ?_ _ | refine bD ?_ | refine bA ?_ _)); refine blk_put (cs := #[.int .i64 ((rd_T84 ((rd_T69 l0_3 t308).f0) t309).f0), .int .i64 0, .int .i64 0, .int .i64 0, .int .i64 0, .int .i64 0, .int .i64 0]) ?_ 1 _ rfl; (with_reducible repeat (first | refine bN ?_ _ | refine bD ?_ | refine bA ?_ _)); refine blk_put (cs := #[.int .i64 0, .int .i64 0, .int .i64 0, .int .i64 0, .int .i64 0, .int .i64 0, .int .i64 0]) ?_ 0 _ rfl; (with_reducible repeat (first | refine bN ?_ _ | refine bD ?_ | refine bA ?_ _)); exact BK326.out) hb); replace HB := As0 (below_step (BU HB.out) hb); (try clear hb); (try clear hb2); (try clear hk); (try clear hi); (try clear ho0); (try clear ho1); (try clear ho2)) | ((with_reducible refine gate_dst (N := 12) rfl ?_); (try (refine gate_guard (by rfl) ?_; dsimp only)); refine bX (N := 12) (cs := #[.int .i64 0, .int .i64 0, .int .i64 0, .int .i64 0, .slice none 0 0, .slice none 0 0, .slice none 0 0, .int .i64 0]) (t := 39) ?_; intro gb341 hg w74 hbox hb; replace HO_322004 := As0 (Kd.R_below (RU HO_322004.out) hb); replace HO_322005 := As0 (Kd.R_below (RU HO_322005.out) hb); replace HO_322006 := As0 (Kd.R_below (RU HO_322006.out) hb); replace HO333 := As0 (Kd.R_below (RU HO333.out) hb); replace HO336 := As0 (Kd.R_below (RU HO336.out) hb); replace HO339 := As0 (Kd.R_below (RU HO339.out) hb); have BK341 := As0 (hbox); have GW341 := As0 ((by rw [hg]; exact (below_size (BU HB.out)) : w.heap.size ≤ gb341)); have GE341 := As0 ((by rw [hg]; exact (below_size (BU HB.out)) : w.heap.size ≤ gb341)); replace HB := As0 (below_step (BU HB.out) hb); have NB303_341 := As0 ((by rw [hg]; exact Nat.ne_of_lt (blk_lt (bU BK303.out)) : gb303 ≠ gb341)); have NB341_303 := As0 ((by rw [hg]; exact Nat.ne_of_gt (blk_lt (bU BK303.out)) : gb341 ≠ gb303)); replace BK303 := As0 (blk_below (bU BK303.out) hb); have NB321_341 := As0 ((by rw [hg]; exact Nat.ne_of_lt (blk_lt (bU BK321.out)) : gb321 ≠ gb341)); have NB341_321 := As0 ((by rw [hg]; exact Nat.ne_of_gt (blk_lt (bU BK321.out)) : gb341 ≠ gb321)); replace BK321 := As0 (blk_below (bU BK321.out) hb); have NB323_341 := As0 ((by rw [hg]; exact Nat.ne_of_lt (blk_lt (bU BK323.out)) : gb323 ≠ gb341)); have NB341_323 := As0 ((by rw [hg]; exact Nat.ne_of_gt (blk_lt (bU BK323.out)) : gb341 ≠ gb323)); replace BK323 := As0 (blk_below (bU BK323.out) hb); have NB326_341 := As0 ((by rw [hg]; exact Nat.ne_of_lt (blk_lt (bU BK326.out)) : gb326 ≠ gb341)); have NB341_326 := As0 ((by rw [hg]; exact Nat.ne_of_gt (blk_lt (bU BK326.out)) : gb341 ≠ gb326)); replace BK326 := As0 (blk_below (bU BK326.out) hb); clear hb hbox hg; have hnb75 := NB341_303.out; have hnc75 := NB303_341.out; have hnb76 := NB341_321.out; have hnc76 := NB321_341.out; have hnb77 := NB341_323.out; have hnc77 := NB323_341.out; have hnb78 := NB341_326.out; have hnc78 := NB326_341.out; obtain ⟨hcz79_0, hcz79_1, hcz79_2, hcz79_3, hcz79_4, hcz79_5, hcz79_6, hcz79_7, hfz79_0, hfz79_1, hfz79_2, hfz79_3, hfz79_4, hfz79_5, hfz79_6, hfz79_7⟩ := cN8 BK341.out; obtain ⟨Ao80, co80, eo80⟩ := Kd.R_slice HO333.out; subst eo80; obtain ⟨Ao81, co81, eo81⟩ := Kd.R_slice HO336.out; subst eo81; obtain ⟨Ao82, co82, eo82⟩ := Kd.R_slice HO339.out; subst eo82))
     (try simp only [Act.put, sL1, sL2, sL3])
     go_cut [112] (fun v112 wc => ∃ (kq : Nat) (x112_59 : Bool), v112 = .bool x112_59 ∧ Aside0 (regcertlaw10_ExecuteMoveOnly.j2 kq a3 x112_59 a0_0 a0_1 a0_2 l0_3 t307 t308 t309 t310 t311 t314 t317 t320 ((rd_T84 ((rd_T69 l0_3 t308).f0) t309).f0) ((rd_T84 ((rd_T69 l0_3 t308).f0) t309).f1) ((rd_T84 ((rd_T69 l0_3 t308).f0) t309).f2) ((rd_T84 ((rd_T69 l0_3 t308).f0) t309).f3) ((rd_T84 ((rd_T69 l0_3 t308).f0) t309).f4) ((rd_T84 ((rd_T69 l0_3 t308).f0) t309).f5) ((rd_T84 ((rd_T69 l0_3 t308).f0) t309).f6) t327 t328 t329 t330 t331 t334 t337 t340 = some r) ∧ Aside0 (kq ≤ kj24) ∧ Aside0 (Kd.R (Kd.int .i64) 2 wc w.heap.size (fun k_ => some k_ ≠ ((.slice Ao32 t314.length co32) : Value).ownBlock ∧ some k_ ≠ ((.slice Ao33 t317.length co33) : Value).ownBlock ∧ some k_ ≠ ((.slice Ao80 t331.length co80) : Value).ownBlock ∧ some k_ ≠ ((.slice Ao81 t334.length co81) : Value).ownBlock ∧ some k_ ≠ ((.slice Ao82 t337.length co82) : Value).ownBlock) (.slice Ao31 t311.length co31) t311) ∧ Aside0 (Kd.R (Kd.int .i64) 2 wc w.heap.size (fun k_ => some k_ ≠ ((.slice Ao31 t311.length co31) : Value).ownBlock ∧ some k_ ≠ ((.slice Ao33 t317.length co33) : Value).ownBlock ∧ some k_ ≠ ((.slice Ao80 t331.length co80) : Value).ownBlock ∧ some k_ ≠ ((.slice Ao81 t334.length co81) : Value).ownBlock ∧ some k_ ≠ ((.slice Ao82 t337.length co82) : Value).ownBlock) (.slice Ao32 t314.length co32) t314) ∧ Aside0 (Kd.R (Kd.int .i64) 2 wc w.heap.size (fun k_ => some k_ ≠ ((.slice Ao31 t311.length co31) : Value).ownBlock ∧ some k_ ≠ ((.slice Ao32 t314.length co32) : Value).ownBlock ∧ some k_ ≠ ((.slice Ao80 t331.length co80) : Value).ownBlock ∧ some k_ ≠ ((.slice Ao81 t334.length co81) : Value).ownBlock ∧ some k_ ≠ ((.slice Ao82 t337.length co82) : Value).ownBlock) (.slice Ao33 t317.length co33) t317) ∧ Aside0 (Kd.R (Kd.int .i64) 2 wc w.heap.size (fun k_ => some k_ ≠ ((.slice Ao31 t311.length co31) : Value).ownBlock ∧ some k_ ≠ ((.slice Ao32 t314.length co32) : Value).ownBlock ∧ some k_ ≠ ((.slice Ao33 t317.length co33) : Value).ownBlock ∧ some k_ ≠ ((.slice Ao81 t334.length co81) : Value).ownBlock ∧ some k_ ≠ ((.slice Ao82 t337.length co82) : Value).ownBlock) (.slice Ao80 t331.length co80) t331) ∧ Aside0 (Kd.R (Kd.int .i64) 2 wc w.heap.size (fun k_ => some k_ ≠ ((.slice Ao31 t311.length co31) : Value).ownBlock ∧ some k_ ≠ ((.slice Ao32 t314.length co32) : Value).ownBlock ∧ some k_ ≠ ((.slice Ao33 t317.length co33) : Value).ownBlock ∧ some k_ ≠ ((.slice Ao80 t331.length co80) : Value).ownBlock ∧ some k_ ≠ ((.slice Ao82 t337.length co82) : Value).ownBlock) (.slice Ao81 t334.length co81) t334) ∧ Aside0 (Kd.R (Kd.int .i64) 2 wc w.heap.size (fun k_ => some k_ ≠ ((.slice Ao31 t311.length co31) : Value).ownBlock ∧ some k_ ≠ ((.slice Ao32 t314.length co32) : Value).ownBlock ∧ some k_ ≠ ((.slice Ao33 t317.length co33) : Value).ownBlock ∧ some k_ ≠ ((.slice Ao80 t331.length co80) : Value).ownBlock ∧ some k_ ≠ ((.slice Ao81 t334.length co81) : Value).ownBlock) (.slice Ao82 t337.length co82) t337) ∧ Aside0 (wc.heap[gb303]? = some (.cells #[.int .i64 a0_0, .int .i64 a0_1, .int .i64 a0_2, (.slice (some ad322) l0_3.length c0_3)] 63 (0, 0))) ∧ Aside0 (wc.heap[gb321]? = some (.cells #[.int .i64 t307, .int .i64 t308, .int .i64 t309, .int .i64 t310, (.slice Ao31 t311.length co31), (.slice Ao32 t314.length co32), (.slice Ao33 t317.length co33), .int .i64 t320] 39 (0, 0))) ∧ Aside0 (wc.heap[gb323]? = some (.cells #[(.slice (some ad325) ((rd_T69 l0_3 t308).f0).length c322_0), .int .i64 ((rd_T69 l0_3 t308).f1.f0), .int .i64 ((rd_T69 l0_3 t308).f1.f1), .int .i64 ((rd_T69 l0_3 t308).f1.f2), .int .i64 ((rd_T69 l0_3 t308).f1.f3)] 69 (0, 0))) ∧ Aside0 (wc.heap[gb326]? = some (.cells #[.int .i64 ((rd_T84 ((rd_T69 l0_3 t308).f0) t309).f0), .int .i64 ((rd_T84 ((rd_T69 l0_3 t308).f0) t309).f1), .int .i64 ((rd_T84 ((rd_T69 l0_3 t308).f0) t309).f2), .int .i64 ((rd_T84 ((rd_T69 l0_3 t308).f0) t309).f3), .int .i64 ((rd_T84 ((rd_T69 l0_3 t308).f0) t309).f4), .int .i64 ((rd_T84 ((rd_T69 l0_3 t308).f0) t309).f5), .int .i64 ((rd_T84 ((rd_T69 l0_3 t308).f0) t309).f6)] 84 (0, 0))) ∧ Aside0 (wc.heap[gb341]? = some (.cells #[.int .i64 t327, .int .i64 t328, .int .i64 t329, .int .i64 t330, (.slice Ao80 t331.length co80), (.slice Ao81 t334.length co81), (.slice Ao82 t337.length co82), .int .i64 t340] 39 (0, 0))) ∧ Aside0 (Below w.heap.size w wc))
     case first =>
      have H := HC60.out
      clear HC60
      by_cases c83 : (t331.length : Int) = a0_1
      rotate_left
      ·rw [if_neg c83] at H
       have c83b0 : ((t331.length : Int) == a0_1) = false := beq_eq_false_iff_ne.mpr c83
       have c83b1 : ((t331.length : Int) != a0_1) = true := bne_iff_ne.mpr c83
       (first | rw [c83b0] | (simp only [i64_w, i32_w]; rw [c83b0]) | skip)
       exact absurd H (by simp)
      rw [if_pos c83] at H
      have c83b0 : ((t331.length : Int) == a0_1) = true := beq_iff_eq.mpr c83
      have c83b1 : ((t331.length : Int) != a0_1) = false := bne_eq_false_iff_eq.mpr c83
      clear c83
      (first | rw [c83b0] | (simp only [i64_w, i32_w]; rw [c83b0]) | skip)
      by_cases c84 : (t334.length : Int) = a0_2
      rotate_left
      ·rw [if_neg c84] at H
       have c84b0 : ((t334.length : Int) == a0_2) = false := beq_eq_false_iff_ne.mpr c84
       have c84b1 : ((t334.length : Int) != a0_2) = true := bne_iff_ne.mpr c84
       exact absurd H (by simp)
      rw [if_pos c84] at H
      have c84b0 : ((t334.length : Int) == a0_2) = true := beq_iff_eq.mpr c84
      have c84b1 : ((t334.length : Int) != a0_2) = false := bne_eq_false_iff_eq.mpr c84
      clear c84
      replace H := Option.bind_eq_some_iff.mp H
      obtain ⟨t342, A850, H⟩ := H
      have A85 := As0 A850
      clear A850
      replace H := Option.bind_eq_some_iff.mp H
      obtain ⟨t343, A860, H⟩ := H
      have A86 := As0 A860
      clear A860
      by_cases c87 : t342 = t343
      rotate_left
      ·rw [if_neg c87] at H
       have c87b0 : (t342 == t343) = false := beq_eq_false_iff_ne.mpr c87
       have c87b1 : (t342 != t343) = true := bne_iff_ne.mpr c87
       exact absurd H (by simp)
      rw [if_pos c87] at H
      have c87b0 : (t342 == t343) = true := beq_iff_eq.mpr c87
      have c87b1 : (t342 != t343) = false := bne_eq_false_iff_eq.mpr c87
      clear c87
      replace H := Option.bind_eq_some_iff.mp H
      obtain ⟨t344, A880, H⟩ := H
      have A88 := As0 A880
      clear A880
      by_cases c89 : t344 = true
      rotate_left
      ·replace c89 := Bool.eq_false_iff.mpr c89
       subst c89
       rw [if_neg (show ¬ (false = true) by decide)] at H
       exact absurd H (by simp)
      subst c89
      rw [if_pos rfl] at H
      have H' := As0 H
      clear H
      try go_wp2
      have n0_ : Aside0 (Kd.R (Kd.int .i64) 2 ((((((((w74.setCell ⟨gb341, 0, none⟩ (.int .i64 t327)).setCell ⟨gb341, 1, none⟩ (.int .i64 t328)).setCell ⟨gb341, 2, none⟩ (.int .i64 t329)).setCell ⟨gb341, 3, none⟩ (.int .i64 t330)).setCell ⟨gb341, 4, none⟩ (.slice Ao80 t331.length co80)).setCell ⟨gb341, 5, none⟩ (.slice Ao81 t334.length co81)).setCell ⟨gb341, 6, none⟩ (.slice Ao82 t337.length co82)).setCell ⟨gb341, 7, none⟩ (.int .i64 t340)) w.heap.size (fun k_ => some k_ ≠ (.slice Ao32 t314.length co32 : Value).ownBlock ∧ some k_ ≠ (.slice Ao33 t317.length co33 : Value).ownBlock ∧ some k_ ≠ (.slice Ao80 t331.length co80 : Value).ownBlock ∧ some k_ ≠ (.slice Ao81 t334.length co81 : Value).ownBlock ∧ some k_ ≠ (.slice Ao82 t337.length co82 : Value).ownBlock) (.slice Ao31 t311.length co31) t311) := ⟨RU (Kd.R_mono (R8 (Kd.R_types HO_322004.out BK341.out (by decide))) (fun _ hk => ⟨hk.1.1.1.1.1, ⟨hk.1.1.1.1.2, ⟨hk.1.1.1.2, ⟨hk.1.1.2, hk.1.2⟩⟩⟩⟩))⟩
      have n1_ : Aside0 (Kd.R (Kd.int .i64) 2 ((((((((w74.setCell ⟨gb341, 0, none⟩ (.int .i64 t327)).setCell ⟨gb341, 1, none⟩ (.int .i64 t328)).setCell ⟨gb341, 2, none⟩ (.int .i64 t329)).setCell ⟨gb341, 3, none⟩ (.int .i64 t330)).setCell ⟨gb341, 4, none⟩ (.slice Ao80 t331.length co80)).setCell ⟨gb341, 5, none⟩ (.slice Ao81 t334.length co81)).setCell ⟨gb341, 6, none⟩ (.slice Ao82 t337.length co82)).setCell ⟨gb341, 7, none⟩ (.int .i64 t340)) w.heap.size (fun k_ => some k_ ≠ (.slice Ao31 t311.length co31 : Value).ownBlock ∧ some k_ ≠ (.slice Ao33 t317.length co33 : Value).ownBlock ∧ some k_ ≠ (.slice Ao80 t331.length co80 : Value).ownBlock ∧ some k_ ≠ (.slice Ao81 t334.length co81 : Value).ownBlock ∧ some k_ ≠ (.slice Ao82 t337.length co82 : Value).ownBlock) (.slice Ao32 t314.length co32) t314) := ⟨RU (Kd.R_mono (R8 (Kd.R_types HO_322005.out BK341.out (by decide))) (fun _ hk => ⟨hk.1.1.1.1.1, ⟨hk.1.1.1.1.2, ⟨hk.1.1.1.2, ⟨hk.1.1.2, hk.1.2⟩⟩⟩⟩))⟩
      have n2_ : Aside0 (Kd.R (Kd.int .i64) 2 ((((((((w74.setCell ⟨gb341, 0, none⟩ (.int .i64 t327)).setCell ⟨gb341, 1, none⟩ (.int .i64 t328)).setCell ⟨gb341, 2, none⟩ (.int .i64 t329)).setCell ⟨gb341, 3, none⟩ (.int .i64 t330)).setCell ⟨gb341, 4, none⟩ (.slice Ao80 t331.length co80)).setCell ⟨gb341, 5, none⟩ (.slice Ao81 t334.length co81)).setCell ⟨gb341, 6, none⟩ (.slice Ao82 t337.length co82)).setCell ⟨gb341, 7, none⟩ (.int .i64 t340)) w.heap.size (fun k_ => some k_ ≠ (.slice Ao31 t311.length co31 : Value).ownBlock ∧ some k_ ≠ (.slice Ao32 t314.length co32 : Value).ownBlock ∧ some k_ ≠ (.slice Ao80 t331.length co80 : Value).ownBlock ∧ some k_ ≠ (.slice Ao81 t334.length co81 : Value).ownBlock ∧ some k_ ≠ (.slice Ao82 t337.length co82 : Value).ownBlock) (.slice Ao33 t317.length co33) t317) := ⟨RU (Kd.R_mono (R8 (Kd.R_types HO_322006.out BK341.out (by decide))) (fun _ hk => ⟨hk.1.1.1.1.1, ⟨hk.1.1.1.1.2, ⟨hk.1.1.1.2, ⟨hk.1.1.2, hk.1.2⟩⟩⟩⟩))⟩
      have n3_ : Aside0 (Kd.R (Kd.int .i64) 2 ((((((((w74.setCell ⟨gb341, 0, none⟩ (.int .i64 t327)).setCell ⟨gb341, 1, none⟩ (.int .i64 t328)).setCell ⟨gb341, 2, none⟩ (.int .i64 t329)).setCell ⟨gb341, 3, none⟩ (.int .i64 t330)).setCell ⟨gb341, 4, none⟩ (.slice Ao80 t331.length co80)).setCell ⟨gb341, 5, none⟩ (.slice Ao81 t334.length co81)).setCell ⟨gb341, 6, none⟩ (.slice Ao82 t337.length co82)).setCell ⟨gb341, 7, none⟩ (.int .i64 t340)) w.heap.size (fun k_ => some k_ ≠ (.slice Ao31 t311.length co31 : Value).ownBlock ∧ some k_ ≠ (.slice Ao32 t314.length co32 : Value).ownBlock ∧ some k_ ≠ (.slice Ao33 t317.length co33 : Value).ownBlock ∧ some k_ ≠ (.slice Ao81 t334.length co81 : Value).ownBlock ∧ some k_ ≠ (.slice Ao82 t337.length co82 : Value).ownBlock) (.slice Ao80 t331.length co80) t331) := ⟨RU (Kd.R_mono (R8 (Kd.R_types HO333.out BK341.out (by decide))) (fun _ hk => ⟨hk.1.1.1.2, ⟨hk.1.1.2, ⟨hk.1.2, ⟨hk.1.1.1.1.1, hk.1.1.1.1.2⟩⟩⟩⟩))⟩
      have n4_ : Aside0 (Kd.R (Kd.int .i64) 2 ((((((((w74.setCell ⟨gb341, 0, none⟩ (.int .i64 t327)).setCell ⟨gb341, 1, none⟩ (.int .i64 t328)).setCell ⟨gb341, 2, none⟩ (.int .i64 t329)).setCell ⟨gb341, 3, none⟩ (.int .i64 t330)).setCell ⟨gb341, 4, none⟩ (.slice Ao80 t331.length co80)).setCell ⟨gb341, 5, none⟩ (.slice Ao81 t334.length co81)).setCell ⟨gb341, 6, none⟩ (.slice Ao82 t337.length co82)).setCell ⟨gb341, 7, none⟩ (.int .i64 t340)) w.heap.size (fun k_ => some k_ ≠ (.slice Ao31 t311.length co31 : Value).ownBlock ∧ some k_ ≠ (.slice Ao32 t314.length co32 : Value).ownBlock ∧ some k_ ≠ (.slice Ao33 t317.length co33 : Value).ownBlock ∧ some k_ ≠ (.slice Ao80 t331.length co80 : Value).ownBlock ∧ some k_ ≠ (.slice Ao82 t337.length co82 : Value).ownBlock) (.slice Ao81 t334.length co81) t334) := ⟨RU (Kd.R_mono (R8 (Kd.R_types HO336.out BK341.out (by decide))) (fun _ hk => ⟨hk.1.1.1.2, ⟨hk.1.1.2, ⟨hk.1.2, ⟨hk.1.1.1.1.1, hk.1.1.1.1.2⟩⟩⟩⟩))⟩
      have n5_ : Aside0 (Kd.R (Kd.int .i64) 2 ((((((((w74.setCell ⟨gb341, 0, none⟩ (.int .i64 t327)).setCell ⟨gb341, 1, none⟩ (.int .i64 t328)).setCell ⟨gb341, 2, none⟩ (.int .i64 t329)).setCell ⟨gb341, 3, none⟩ (.int .i64 t330)).setCell ⟨gb341, 4, none⟩ (.slice Ao80 t331.length co80)).setCell ⟨gb341, 5, none⟩ (.slice Ao81 t334.length co81)).setCell ⟨gb341, 6, none⟩ (.slice Ao82 t337.length co82)).setCell ⟨gb341, 7, none⟩ (.int .i64 t340)) w.heap.size (fun k_ => some k_ ≠ (.slice Ao31 t311.length co31 : Value).ownBlock ∧ some k_ ≠ (.slice Ao32 t314.length co32 : Value).ownBlock ∧ some k_ ≠ (.slice Ao33 t317.length co33 : Value).ownBlock ∧ some k_ ≠ (.slice Ao80 t331.length co80 : Value).ownBlock ∧ some k_ ≠ (.slice Ao81 t334.length co81 : Value).ownBlock) (.slice Ao82 t337.length co82) t337) := ⟨RU (Kd.R_mono (R8 (Kd.R_types HO339.out BK341.out (by decide))) (fun _ hk => ⟨hk.1.1.1.2, ⟨hk.1.1.2, ⟨hk.1.2, ⟨hk.1.1.1.1.1, hk.1.1.1.1.2⟩⟩⟩⟩))⟩
      have n6_ : Aside0 (((((((((w74.setCell ⟨gb341, 0, none⟩ (.int .i64 t327)).setCell ⟨gb341, 1, none⟩ (.int .i64 t328)).setCell ⟨gb341, 2, none⟩ (.int .i64 t329)).setCell ⟨gb341, 3, none⟩ (.int .i64 t330)).setCell ⟨gb341, 4, none⟩ (.slice Ao80 t331.length co80)).setCell ⟨gb341, 5, none⟩ (.slice Ao81 t334.length co81)).setCell ⟨gb341, 6, none⟩ (.slice Ao82 t337.length co82)).setCell ⟨gb341, 7, none⟩ (.int .i64 t340)).heap[gb303]? = some (.cells #[.int .i64 a0_0, .int .i64 a0_1, .int .i64 a0_2, .slice (some ad322) l0_3.length c0_3] 63 (0, 0))) := ⟨by (with_reducible repeat (first | refine bN ?_ _ | refine bD ?_ | refine bA ?_ _)); refine blk_far ?_ NB303_341.out _; (with_reducible repeat (first | refine bN ?_ _ | refine bD ?_ | refine bA ?_ _)); refine blk_far ?_ NB303_341.out _; (with_reducible repeat (first | refine bN ?_ _ | refine bD ?_ | refine bA ?_ _)); refine blk_far ?_ NB303_341.out _; (with_reducible repeat (first | refine bN ?_ _ | refine bD ?_ | refine bA ?_ _)); refine blk_far ?_ NB303_341.out _; (with_reducible repeat (first | refine bN ?_ _ | refine bD ?_ | refine bA ?_ _)); refine blk_far ?_ NB303_341.out _; (with_reducible repeat (first | refine bN ?_ _ | refine bD ?_ | refine bA ?_ _)); refine blk_far ?_ NB303_341.out _; (with_reducible repeat (first | refine bN ?_ _ | refine bD ?_ | refine bA ?_ _)); refine blk_far ?_ NB303_341.out _; (with_reducible repeat (first | refine bN ?_ _ | refine bD ?_ | refine bA ?_ _)); refine blk_far ?_ NB303_341.out _; (with_reducible repeat (first | refine bN ?_ _ | refine bD ?_ | refine bA ?_ _)); exact BK303.out⟩
      have n7_ : Aside0 (((((((((w74.setCell ⟨gb341, 0, none⟩ (.int .i64 t327)).setCell ⟨gb341, 1, none⟩ (.int .i64 t328)).setCell ⟨gb341, 2, none⟩ (.int .i64 t329)).setCell ⟨gb341, 3, none⟩ (.int .i64 t330)).setCell ⟨gb341, 4, none⟩ (.slice Ao80 t331.length co80)).setCell ⟨gb341, 5, none⟩ (.slice Ao81 t334.length co81)).setCell ⟨gb341, 6, none⟩ (.slice Ao82 t337.length co82)).setCell ⟨gb341, 7, none⟩ (.int .i64 t340)).heap[gb321]? = some (.cells #[.int .i64 t307, .int .i64 t308, .int .i64 t309, .int .i64 t310, .slice Ao31 t311.length co31, .slice Ao32 t314.length co32, .slice Ao33 t317.length co33, .int .i64 t320] 39 (0, 0))) := ⟨by (with_reducible repeat (first | refine bN ?_ _ | refine bD ?_ | refine bA ?_ _)); refine blk_far ?_ NB321_341.out _; (with_reducible repeat (first | refine bN ?_ _ | refine bD ?_ | refine bA ?_ _)); refine blk_far ?_ NB321_341.out _; (with_reducible repeat (first | refine bN ?_ _ | refine bD ?_ | refine bA ?_ _)); refine blk_far ?_ NB321_341.out _; (with_reducible repeat (first | refine bN ?_ _ | refine bD ?_ | refine bA ?_ _)); refine blk_far ?_ NB321_341.out _; (with_reducible repeat (first | refine bN ?_ _ | refine bD ?_ | refine bA ?_ _)); refine blk_far ?_ NB321_341.out _; (with_reducible repeat (first | refine bN ?_ _ | refine bD ?_ | refine bA ?_ _)); refine blk_far ?_ NB321_341.out _; (with_reducible repeat (first | refine bN ?_ _ | refine bD ?_ | refine bA ?_ _)); refine blk_far ?_ NB321_341.out _; (with_reducible repeat (first | refine bN ?_ _ | refine bD ?_ | refine bA ?_ _)); refine blk_far ?_ NB321_341.out _; (with_reducible repeat (first | refine bN ?_ _ | refine bD ?_ | refine bA ?_ _)); exact BK321.out⟩
      have n8_ : Aside0 (((((((((w74.setCell ⟨gb341, 0, none⟩ (.int .i64 t327)).setCell ⟨gb341, 1, none⟩ (.int .i64 t328)).setCell ⟨gb341, 2, none⟩ (.int .i64 t329)).setCell ⟨gb341, 3, none⟩ (.int .i64 t330)).setCell ⟨gb341, 4, none⟩ (.slice Ao80 t331.length co80)).setCell ⟨gb341, 5, none⟩ (.slice Ao81 t334.length co81)).setCell ⟨gb341, 6, none⟩ (.slice Ao82 t337.length co82)).setCell ⟨gb341, 7, none⟩ (.int .i64 t340)).heap[gb323]? = some (.cells #[.slice (some ad325) ((rd_T69 l0_3 t308).f0).length c322_0, .int .i64 ((rd_T69 l0_3 t308).f1.f0), .int .i64 ((rd_T69 l0_3 t308).f1.f1), .int .i64 ((rd_T69 l0_3 t308).f1.f2), .int .i64 ((rd_T69 l0_3 t308).f1.f3)] 69 (0, 0))) := ⟨by (with_reducible repeat (first | refine bN ?_ _ | refine bD ?_ | refine bA ?_ _)); refine blk_far ?_ NB323_341.out _; (with_reducible repeat (first | refine bN ?_ _ | refine bD ?_ | refine bA ?_ _)); refine blk_far ?_ NB323_341.out _; (with_reducible repeat (first | refine bN ?_ _ | refine bD ?_ | refine bA ?_ _)); refine blk_far ?_ NB323_341.out _; (with_reducible repeat (first | refine bN ?_ _ | refine bD ?_ | refine bA ?_ _)); refine blk_far ?_ NB323_341.out _; (with_reducible repeat (first | refine bN ?_ _ | refine bD ?_ | refine bA ?_ _)); refine blk_far ?_ NB323_341.out _; (with_reducible repeat (first | refine bN ?_ _ | refine bD ?_ | refine bA ?_ _)); refine blk_far ?_ NB323_341.out _; (with_reducible repeat (first | refine bN ?_ _ | refine bD ?_ | refine bA ?_ _)); refine blk_far ?_ NB323_341.out _; (with_reducible repeat (first | refine bN ?_ _ | refine bD ?_ | refine bA ?_ _)); refine blk_far ?_ NB323_341.out _; (with_reducible repeat (first | refine bN ?_ _ | refine bD ?_ | refine bA ?_ _)); exact BK323.out⟩
      have n9_ : Aside0 (((((((((w74.setCell ⟨gb341, 0, none⟩ (.int .i64 t327)).setCell ⟨gb341, 1, none⟩ (.int .i64 t328)).setCell ⟨gb341, 2, none⟩ (.int .i64 t329)).setCell ⟨gb341, 3, none⟩ (.int .i64 t330)).setCell ⟨gb341, 4, none⟩ (.slice Ao80 t331.length co80)).setCell ⟨gb341, 5, none⟩ (.slice Ao81 t334.length co81)).setCell ⟨gb341, 6, none⟩ (.slice Ao82 t337.length co82)).setCell ⟨gb341, 7, none⟩ (.int .i64 t340)).heap[gb326]? = some (.cells #[.int .i64 ((rd_T84 ((rd_T69 l0_3 t308).f0) t309).f0), .int .i64 ((rd_T84 ((rd_T69 l0_3 t308).f0) t309).f1), .int .i64 ((rd_T84 ((rd_T69 l0_3 t308).f0) t309).f2), .int .i64 ((rd_T84 ((rd_T69 l0_3 t308).f0) t309).f3), .int .i64 ((rd_T84 ((rd_T69 l0_3 t308).f0) t309).f4), .int .i64 ((rd_T84 ((rd_T69 l0_3 t308).f0) t309).f5), .int .i64 ((rd_T84 ((rd_T69 l0_3 t308).f0) t309).f6)] 84 (0, 0))) := ⟨by (with_reducible repeat (first | refine bN ?_ _ | refine bD ?_ | refine bA ?_ _)); refine blk_far ?_ NB326_341.out _; (with_reducible repeat (first | refine bN ?_ _ | refine bD ?_ | refine bA ?_ _)); refine blk_far ?_ NB326_341.out _; (with_reducible repeat (first | refine bN ?_ _ | refine bD ?_ | refine bA ?_ _)); refine blk_far ?_ NB326_341.out _; (with_reducible repeat (first | refine bN ?_ _ | refine bD ?_ | refine bA ?_ _)); refine blk_far ?_ NB326_341.out _; (with_reducible repeat (first | refine bN ?_ _ | refine bD ?_ | refine bA ?_ _)); refine blk_far ?_ NB326_341.out _; (with_reducible repeat (first | refine bN ?_ _ | refine bD ?_ | refine bA ?_ _)); refine blk_far ?_ NB326_341.out _; (with_reducible repeat (first | refine bN ?_ _ | refine bD ?_ | refine bA ?_ _)); refine blk_far ?_ NB326_341.out _; (with_reducible repeat (first | refine bN ?_ _ | refine bD ?_ | refine bA ?_ _)); refine blk_far ?_ NB326_341.out _; (with_reducible repeat (first | refine bN ?_ _ | refine bD ?_ | refine bA ?_ _)); exact BK326.out⟩
      have n10_ : Aside0 (((((((((w74.setCell ⟨gb341, 0, none⟩ (.int .i64 t327)).setCell ⟨gb341, 1, none⟩ (.int .i64 t328)).setCell ⟨gb341, 2, none⟩ (.int .i64 t329)).setCell ⟨gb341, 3, none⟩ (.int .i64 t330)).setCell ⟨gb341, 4, none⟩ (.slice Ao80 t331.length co80)).setCell ⟨gb341, 5, none⟩ (.slice Ao81 t334.length co81)).setCell ⟨gb341, 6, none⟩ (.slice Ao82 t337.length co82)).setCell ⟨gb341, 7, none⟩ (.int .i64 t340)).heap[gb341]? = some (.cells #[.int .i64 t327, .int .i64 t328, .int .i64 t329, .int .i64 t330, .slice Ao80 t331.length co80, .slice Ao81 t334.length co81, .slice Ao82 t337.length co82, .int .i64 t340] 39 (0, 0))) := ⟨by (with_reducible repeat (first | refine bN ?_ _ | refine bD ?_ | refine bA ?_ _)); refine blk_put (cs := #[.int .i64 t327, .int .i64 t328, .int .i64 t329, .int .i64 t330, .slice Ao80 t331.length co80, .slice Ao81 t334.length co81, .slice Ao82 t337.length co82, .int .i64 0]) ?_ 7 _ rfl; (with_reducible repeat (first | refine bN ?_ _ | refine bD ?_ | refine bA ?_ _)); refine blk_put (cs := #[.int .i64 t327, .int .i64 t328, .int .i64 t329, .int .i64 t330, .slice Ao80 t331.length co80, .slice Ao81 t334.length co81, .slice none 0 0, .int .i64 0]) ?_ 6 _ rfl; (with_reducible repeat (first | refine bN ?_ _ | refine bD ?_ | refine bA ?_ _)); refine blk_put (cs := #[.int .i64 t327, .int .i64 t328, .int .i64 t329, .int .i64 t330, .slice Ao80 t331.length co80, .slice none 0 0, .slice none 0 0, .int .i64 0]) ?_ 5 _ rfl; (with_reducible repeat (first | refine bN ?_ _ | refine bD ?_ | refine bA ?_ _)); refine blk_put (cs := #[.int .i64 t327, .int .i64 t328, .int .i64 t329, .int .i64 t330, .slice none 0 0, .slice none 0 0, .slice none 0 0, .int .i64 0]) ?_ 4 _ rfl; (with_reducible repeat (first | refine bN ?_ _ | refine bD ?_ | refine bA ?_ _)); refine blk_put (cs := #[.int .i64 t327, .int .i64 t328, .int .i64 t329, .int .i64 0, .slice none 0 0, .slice none 0 0, .slice none 0 0, .int .i64 0]) ?_ 3 _ rfl; (with_reducible repeat (first | refine bN ?_ _ | refine bD ?_ | refine bA ?_ _)); refine blk_put (cs := #[.int .i64 t327, .int .i64 t328, .int .i64 0, .int .i64 0, .slice none 0 0, .slice none 0 0, .slice none 0 0, .int .i64 0]) ?_ 2 _ rfl; (with_reducible repeat (first | refine bN ?_ _ | refine bD ?_ | refine bA ?_ _)); refine blk_put (cs := #[.int .i64 t327, .int .i64 0, .int .i64 0, .int .i64 0, .slice none 0 0, .slice none 0 0, .slice none 0 0, .int .i64 0]) ?_ 1 _ rfl; (with_reducible repeat (first | refine bN ?_ _ | refine bD ?_ | refine bA ?_ _)); refine blk_put (cs := #[.int .i64 0, .int .i64 0, .int .i64 0, .int .i64 0, .slice none 0 0, .slice none 0 0, .slice none 0 0, .int .i64 0]) ?_ 0 _ rfl; (with_reducible repeat (first | refine bN ?_ _ | refine bD ?_ | refine bA ?_ _)); exact BK341.out⟩
      have n11_ : Aside0 (Below w.heap.size w ((((((((w74.setCell ⟨gb341, 0, none⟩ (.int .i64 t327)).setCell ⟨gb341, 1, none⟩ (.int .i64 t328)).setCell ⟨gb341, 2, none⟩ (.int .i64 t329)).setCell ⟨gb341, 3, none⟩ (.int .i64 t330)).setCell ⟨gb341, 4, none⟩ (.slice Ao80 t331.length co80)).setCell ⟨gb341, 5, none⟩ (.slice Ao81 t334.length co81)).setCell ⟨gb341, 6, none⟩ (.slice Ao82 t337.length co82)).setCell ⟨gb341, 7, none⟩ (.int .i64 t340))) := ⟨BU HB.out⟩
      (try clear HO_322004)
      (try clear HO_322005)
      (try clear HO_322006)
      (try clear HO333)
      (try clear HO336)
      (try clear HO339)
      (try clear BK303)
      (try clear BK321)
      (try clear BK323)
      (try clear BK326)
      (try clear BK341)
      (try clear HB)
      generalize ((((((((w74.setCell ⟨gb341, 0, none⟩ (.int .i64 t327)).setCell ⟨gb341, 1, none⟩ (.int .i64 t328)).setCell ⟨gb341, 2, none⟩ (.int .i64 t329)).setCell ⟨gb341, 3, none⟩ (.int .i64 t330)).setCell ⟨gb341, 4, none⟩ (.slice Ao80 t331.length co80)).setCell ⟨gb341, 5, none⟩ (.slice Ao81 t334.length co81)).setCell ⟨gb341, 6, none⟩ (.slice Ao82 t337.length co82)).setCell ⟨gb341, 7, none⟩ (.int .i64 t340)) = w90 at n0_ n1_ n2_ n3_ n4_ n5_ n6_ n7_ n8_ n9_ n10_ n11_ ⊢
      have HO_322004 := n0_
      have HO_322005 := n1_
      have HO_322006 := n2_
      have HO333 := n3_
      have HO336 := n4_
      have HO339 := n5_
      have BK303 := n6_
      have BK321 := n7_
      have BK323 := n8_
      have BK326 := n9_
      have BK341 := n10_
      have HB := n11_
      clear n0_ n1_ n2_ n3_ n4_ n5_ n6_ n7_ n8_ n9_ n10_ n11_
      replace HO_322004 := As0 (Kd.R_drew HO_322004.out)
      replace HO_322005 := As0 (Kd.R_drew HO_322005.out)
      replace HO_322006 := As0 (Kd.R_drew HO_322006.out)
      replace HO333 := As0 (Kd.R_drew HO333.out)
      replace HO336 := As0 (Kd.R_drew HO336.out)
      replace HO339 := As0 (Kd.R_drew HO339.out)
      replace BK303 := As0 (blk_drew BK303.out)
      replace BK321 := As0 (blk_drew BK321.out)
      replace BK323 := As0 (blk_drew BK323.out)
      replace BK326 := As0 (blk_drew BK326.out)
      replace BK341 := As0 (blk_drew BK341.out)
      replace HB := As0 (bd1 HB.out)
      refine start_ (n := 41) (S := fun w' => w'.cell? ⟨gb341, 0, none⟩ = some (.int .i64 t327) ∧ w'.cell? ⟨gb341, 1, none⟩ = some (.int .i64 t328) ∧ w'.cell? ⟨gb341, 2, none⟩ = some (.int .i64 t329) ∧ w'.cell? ⟨gb341, 3, none⟩ = some (.int .i64 t330) ∧ w'.cell? ⟨gb341, 4, none⟩ = some (.slice Ao80 t331.length co80) ∧ w'.cell? ⟨gb341, 5, none⟩ = some (.slice Ao81 t334.length co81) ∧ w'.cell? ⟨gb341, 6, none⟩ = some (.slice Ao82 t337.length co82) ∧ w'.cell? ⟨gb341, 7, none⟩ = some (.int .i64 t340) ∧ w'.cell? ⟨gb303, 0, none⟩ = some (.int .i64 a0_0) ∧ w'.cell? ⟨gb303, 1, none⟩ = some (.int .i64 a0_1) ∧ w'.cell? ⟨gb303, 2, none⟩ = some (.int .i64 a0_2) ∧ w'.cell? ⟨gb303, 3, none⟩ = some (.slice (some ad322) l0_3.length c0_3) ∧ w'.cell? ⟨gb326, 0, none⟩ = some (.int .i64 ((rd_T84 ((rd_T69 l0_3 t308).f0) t309).f0)) ∧ w'.cell? ⟨gb326, 1, none⟩ = some (.int .i64 ((rd_T84 ((rd_T69 l0_3 t308).f0) t309).f1)) ∧ w'.cell? ⟨gb326, 2, none⟩ = some (.int .i64 ((rd_T84 ((rd_T69 l0_3 t308).f0) t309).f2)) ∧ w'.cell? ⟨gb326, 3, none⟩ = some (.int .i64 ((rd_T84 ((rd_T69 l0_3 t308).f0) t309).f3)) ∧ w'.cell? ⟨gb326, 4, none⟩ = some (.int .i64 ((rd_T84 ((rd_T69 l0_3 t308).f0) t309).f4)) ∧ w'.cell? ⟨gb326, 5, none⟩ = some (.int .i64 ((rd_T84 ((rd_T69 l0_3 t308).f0) t309).f5)) ∧ w'.cell? ⟨gb326, 6, none⟩ = some (.int .i64 ((rd_T84 ((rd_T69 l0_3 t308).f0) t309).f6)) ∧ w'.cell? ⟨gb321, 0, none⟩ = some (.int .i64 t307) ∧ w'.cell? ⟨gb321, 1, none⟩ = some (.int .i64 t308) ∧ w'.cell? ⟨gb321, 2, none⟩ = some (.int .i64 t309) ∧ w'.cell? ⟨gb321, 3, none⟩ = some (.int .i64 t310) ∧ w'.cell? ⟨gb321, 4, none⟩ = some (.slice Ao31 t311.length co31) ∧ w'.cell? ⟨gb321, 5, none⟩ = some (.slice Ao32 t314.length co32) ∧ w'.cell? ⟨gb321, 6, none⟩ = some (.slice Ao33 t317.length co33) ∧ w'.cell? ⟨gb321, 7, none⟩ = some (.int .i64 t320)) (ds := []) (bb 41 0) (by kernel_rfl) rfl rfl ⟨(blk_cell BK341.out 0).trans rfl, (blk_cell BK341.out 1).trans rfl, (blk_cell BK341.out 2).trans rfl, (blk_cell BK341.out 3).trans rfl, (blk_cell BK341.out 4).trans rfl, (blk_cell BK341.out 5).trans rfl, (blk_cell BK341.out 6).trans rfl, (blk_cell BK341.out 7).trans rfl, (blk_cell BK303.out 0).trans rfl, (blk_cell BK303.out 1).trans rfl, (blk_cell BK303.out 2).trans rfl, (blk_cell BK303.out 3).trans rfl, (blk_cell BK326.out 0).trans rfl, (blk_cell BK326.out 1).trans rfl, (blk_cell BK326.out 2).trans rfl, (blk_cell BK326.out 3).trans rfl, (blk_cell BK326.out 4).trans rfl, (blk_cell BK326.out 5).trans rfl, (blk_cell BK326.out 6).trans rfl, (blk_cell BK321.out 0).trans rfl, (blk_cell BK321.out 1).trans rfl, (blk_cell BK321.out 2).trans rfl, (blk_cell BK321.out 3).trans rfl, (blk_cell BK321.out 4).trans rfl, (blk_cell BK321.out 5).trans rfl, (blk_cell BK321.out 6).trans rfl, (blk_cell BK321.out 7).trans rfl⟩ (fun hHeld => ?_); refine with_tabW regcertlaw10_ExecuteMoveOnly.tab9 regcertlaw10_ExecuteMoveOnly.bits9 (fun HT_ HW_ => ?_)
      generalize w90.drew = w91 at HO_322004 HO_322005 HO_322006 HO333 HO336 HO339 BK303 BK321 BK323 BK326 BK341 HB hHeld ⊢
      refine pv HT_.out 0 72 (bb 41 1) ?_
      refine pv HT_.out 3 75 (bb 41 9) ?_
      refine tv hHeld HT_.out HW_.out 1 73 (bb 41 11) ?_
      refine pv HT_.out 2 74 (bb 41 15) ?_
      refine tv hHeld HT_.out HW_.out 4 76 (bb 41 31) ?_
      refine pv HT_.out 5 77 (bb 41 63) ?_
      refine pv HT_.out 6 78 (bb 41 127) ?_
      refine pv HT_.out 7 79 (bb 41 255) ?_
      refine pv HT_.out 10 82 (bb 41 1279) ?_
      refine tv hHeld HT_.out HW_.out 8 80 (bb 41 1535) ?_
      refine pv HT_.out 9 81 (bb 41 2047) ?_
      refine tv hHeld HT_.out HW_.out 11 83 (bb 41 4095) ?_
      refine pv HT_.out 12 84 (bb 41 8191) ?_
      refine pv HT_.out 13 85 (bb 41 16383) ?_
      refine pv HT_.out 14 86 (bb 41 32767) ?_
      refine pv HT_.out 16 88 (bb 41 98303) ?_
      refine pv HT_.out 20 92 (bb 41 1146879) ?_
      refine tv hHeld HT_.out HW_.out 15 87 (bb 41 1179647) ?_
      refine tv hHeld HT_.out HW_.out 17 89 (bb 41 1310719) ?_
      refine tv hHeld HT_.out HW_.out 19 91 (bb 41 1835007) ?_
      refine tv hHeld HT_.out HW_.out 21 93 (bb 41 3932159) ?_
      refine one_ (i := 18) (N := some 90) (bb 41 4194303) rfl rfl (one_of HT_.out (by kernel_rfl)) (by decide) (fun K hK => ?_)
      refine goes_ Try.func53 (by kernel_rfl) rfl #[.agg #[.int .i64 t327, .int .i64 t328, .int .i64 t329, .int .i64 t330, .slice Ao80 t331.length co80, .slice Ao81 t334.length co81, .slice Ao82 t337.length co82, .int .i64 t340], .int .i64 ((rd_T84 ((rd_T69 l0_3 t308).f0) t309).f5)] (by rfl) rfl rfl (by (try simp only [List.map_toArray, List.map_cons, List.map_nil]); first | done | rfl | (simp only [List.length_drop, List.length_take]; rfl)) ?_
      with_reducible refine (execute_Read.calls t327 t328 t329 t330 _ _ t331 _ _ t334 _ _ t337 t340 ((rd_T84 ((rd_T69 l0_3 t308).f0) t309).f5) t342 _ ?side1 ?side2 ?side3 ?side4 ?side5 ?side6 A85.out).mono ?_
      (case side1 => repeat (first | exact (Kd.R_reads' HO333.out).2.2 | (with_reducible refine Kd.C_alloc ?_ _) | (with_reducible refine Kd.C_drewN ?_ _) | (with_reducible refine Kd.C_drew ?_)))
      (case side2 => exact (Kd.R_reads' HO333.out).2.1)
      (case side3 => repeat (first | exact (Kd.R_reads' HO336.out).2.2 | (with_reducible refine Kd.C_alloc ?_ _) | (with_reducible refine Kd.C_drewN ?_ _) | (with_reducible refine Kd.C_drew ?_)))
      (case side4 => exact (Kd.R_reads' HO336.out).2.1)
      (case side5 => repeat (first | exact (Kd.R_reads' HO339.out).2.2 | (with_reducible refine Kd.C_alloc ?_ _) | (with_reducible refine Kd.C_drewN ?_ _) | (with_reducible refine Kd.C_drew ?_)))
      (case side6 => exact (Kd.R_reads' HO339.out).2.1)
      rintro e w92 ⟨rfl, hb⟩
      refine ⟨_, rfl, ?_⟩
      replace HO_322004 := As0 (Kd.R_below (RU HO_322004.out) hb)
      replace HO_322005 := As0 (Kd.R_below (RU HO_322005.out) hb)
      replace HO_322006 := As0 (Kd.R_below (RU HO_322006.out) hb)
      replace HO333 := As0 (Kd.R_below (RU HO333.out) hb)
      replace HO336 := As0 (Kd.R_below (RU HO336.out) hb)
      replace HO339 := As0 (Kd.R_below (RU HO339.out) hb)
      replace BK303 := As0 (blk_below (bU BK303.out) hb)
      replace BK321 := As0 (blk_below (bU BK321.out) hb)
      replace BK323 := As0 (blk_below (bU BK323.out) hb)
      replace BK326 := As0 (blk_below (bU BK326.out) hb)
      replace BK341 := As0 (blk_below (bU BK341.out) hb)
      replace HB := As0 (below_step (BU HB.out) hb)
      (try clear hb)
      (try clear hb2)
      (try clear hk)
      (try clear hi)
      refine hK.out _ _ ⟨(blk_cell BK341.out 0).trans rfl, (blk_cell BK341.out 1).trans rfl, (blk_cell BK341.out 2).trans rfl, (blk_cell BK341.out 3).trans rfl, (blk_cell BK341.out 4).trans rfl, (blk_cell BK341.out 5).trans rfl, (blk_cell BK341.out 6).trans rfl, (blk_cell BK341.out 7).trans rfl, (blk_cell BK303.out 0).trans rfl, (blk_cell BK303.out 1).trans rfl, (blk_cell BK303.out 2).trans rfl, (blk_cell BK303.out 3).trans rfl, (blk_cell BK326.out 0).trans rfl, (blk_cell BK326.out 1).trans rfl, (blk_cell BK326.out 2).trans rfl, (blk_cell BK326.out 3).trans rfl, (blk_cell BK326.out 4).trans rfl, (blk_cell BK326.out 5).trans rfl, (blk_cell BK326.out 6).trans rfl, (blk_cell BK321.out 0).trans rfl, (blk_cell BK321.out 1).trans rfl, (blk_cell BK321.out 2).trans rfl, (blk_cell BK321.out 3).trans rfl, (blk_cell BK321.out 4).trans rfl, (blk_cell BK321.out 5).trans rfl, (blk_cell BK321.out 6).trans rfl, (blk_cell BK321.out 7).trans rfl⟩ (fun hHeld => ?_)
      clear hK K
      refine norm_ (a' := ?_) ?_ ?_
      rotate_left
      ·show Act.put _ (some 90) _ = _
       simp only [Act.put, sL1, sL2, sL3, i64_w, i32_w]
       rfl
      refine one_ (i := 22) (N := some 94) (bb 41 8388607) rfl rfl (one_of HT_.out (by kernel_rfl)) (by decide) (fun K hK => ?_)
      refine goes_ Try.func53 (by kernel_rfl) rfl #[.agg #[.int .i64 t307, .int .i64 t308, .int .i64 t309, .int .i64 t310, .slice Ao31 t311.length co31, .slice Ao32 t314.length co32, .slice Ao33 t317.length co33, .int .i64 t320], .int .i64 ((rd_T84 ((rd_T69 l0_3 t308).f0) t309).f6)] (by rfl) rfl rfl (by (try simp only [List.map_toArray, List.map_cons, List.map_nil]); first | done | rfl | (simp only [List.length_drop, List.length_take]; rfl)) ?_
      with_reducible refine (execute_Read.calls t307 t308 t309 t310 _ _ t311 _ _ t314 _ _ t317 t320 ((rd_T84 ((rd_T69 l0_3 t308).f0) t309).f6) t343 _ ?side1 ?side2 ?side3 ?side4 ?side5 ?side6 A86.out).mono ?_
      (case side1 => repeat (first | exact (Kd.R_reads' HO_322004.out).2.2 | (with_reducible refine Kd.C_alloc ?_ _) | (with_reducible refine Kd.C_drewN ?_ _) | (with_reducible refine Kd.C_drew ?_)))
      (case side2 => exact (Kd.R_reads' HO_322004.out).2.1)
      (case side3 => repeat (first | exact (Kd.R_reads' HO_322005.out).2.2 | (with_reducible refine Kd.C_alloc ?_ _) | (with_reducible refine Kd.C_drewN ?_ _) | (with_reducible refine Kd.C_drew ?_)))
      (case side4 => exact (Kd.R_reads' HO_322005.out).2.1)
      (case side5 => repeat (first | exact (Kd.R_reads' HO_322006.out).2.2 | (with_reducible refine Kd.C_alloc ?_ _) | (with_reducible refine Kd.C_drewN ?_ _) | (with_reducible refine Kd.C_drew ?_)))
      (case side6 => exact (Kd.R_reads' HO_322006.out).2.1)
      rintro e w93 ⟨rfl, hb⟩
      refine ⟨_, rfl, ?_⟩
      replace HO_322004 := As0 (Kd.R_below (RU HO_322004.out) hb)
      replace HO_322005 := As0 (Kd.R_below (RU HO_322005.out) hb)
      replace HO_322006 := As0 (Kd.R_below (RU HO_322006.out) hb)
      replace HO333 := As0 (Kd.R_below (RU HO333.out) hb)
      replace HO336 := As0 (Kd.R_below (RU HO336.out) hb)
      replace HO339 := As0 (Kd.R_below (RU HO339.out) hb)
      replace BK303 := As0 (blk_below (bU BK303.out) hb)
      replace BK321 := As0 (blk_below (bU BK321.out) hb)
      replace BK323 := As0 (blk_below (bU BK323.out) hb)
      replace BK326 := As0 (blk_below (bU BK326.out) hb)
      replace BK341 := As0 (blk_below (bU BK341.out) hb)
      replace HB := As0 (below_step (BU HB.out) hb)
      (try clear hb)
      (try clear hb2)
      (try clear hk)
      (try clear hi)
      refine hK.out _ _ ⟨(blk_cell BK341.out 0).trans rfl, (blk_cell BK341.out 1).trans rfl, (blk_cell BK341.out 2).trans rfl, (blk_cell BK341.out 3).trans rfl, (blk_cell BK341.out 4).trans rfl, (blk_cell BK341.out 5).trans rfl, (blk_cell BK341.out 6).trans rfl, (blk_cell BK341.out 7).trans rfl, (blk_cell BK303.out 0).trans rfl, (blk_cell BK303.out 1).trans rfl, (blk_cell BK303.out 2).trans rfl, (blk_cell BK303.out 3).trans rfl, (blk_cell BK326.out 0).trans rfl, (blk_cell BK326.out 1).trans rfl, (blk_cell BK326.out 2).trans rfl, (blk_cell BK326.out 3).trans rfl, (blk_cell BK326.out 4).trans rfl, (blk_cell BK326.out 5).trans rfl, (blk_cell BK326.out 6).trans rfl, (blk_cell BK321.out 0).trans rfl, (blk_cell BK321.out 1).trans rfl, (blk_cell BK321.out 2).trans rfl, (blk_cell BK321.out 3).trans rfl, (blk_cell BK321.out 4).trans rfl, (blk_cell BK321.out 5).trans rfl, (blk_cell BK321.out 6).trans rfl, (blk_cell BK321.out 7).trans rfl⟩ (fun hHeld => ?_)
      clear hK K
      refine norm_ (a' := ?_) ?_ ?_
      rotate_left
      ·show Act.put _ (some 94) _ = _
       simp only [Act.put, sL1, sL2, sL3, i64_w, i32_w]
       rfl
      refine pv HT_.out 23 95 (bb 41 16777215) ?_
      refine pv HT_.out 24 96 (bb 41 33554431) ?_
      refine pv HT_.out 25 97 (bb 41 67108863) ?_
      refine pv HT_.out 26 98 (bb 41 134217727) ?_
      refine pv HT_.out 28 100 (bb 41 402653183) ?_
      refine tv hHeld HT_.out HW_.out 27 99 (bb 41 536870911) ?_
      refine tv hHeld HT_.out HW_.out 29 101 (bb 41 1073741823) ?_
      refine one_ (i := 30) (N := some 102) (bb 41 2147483647) rfl rfl (one_of HT_.out (by kernel_rfl)) (by decide) (fun K hK => ?_)
      refine goes_ Try.func37 (by kernel_rfl) rfl #[.slice Ao82 t337.length co82, .slice Ao33 t317.length co33] (by rfl) rfl rfl (by (try simp only [List.map_toArray, List.map_cons, List.map_nil]); first | done | rfl | (simp only [List.length_drop, List.length_take]; rfl)) ?_
      with_reducible refine (regcertref09_Values.calls kj24 _ _ t337 _ _ t317 true _ ?side1 ?side2 ?side3 ?side4 A88.out).mono ?_
      (case side1 => repeat (first | exact (Kd.R_reads' HO339.out).2.2 | (with_reducible refine Kd.C_alloc ?_ _) | (with_reducible refine Kd.C_drewN ?_ _) | (with_reducible refine Kd.C_drew ?_)))
      (case side2 => exact (Kd.R_reads' HO339.out).2.1)
      (case side3 => repeat (first | exact (Kd.R_reads' HO_322006.out).2.2 | (with_reducible refine Kd.C_alloc ?_ _) | (with_reducible refine Kd.C_drewN ?_ _) | (with_reducible refine Kd.C_drew ?_)))
      (case side4 => exact (Kd.R_reads' HO_322006.out).2.1)
      rintro e w' ⟨rfl, ⟨nd, rfl⟩⟩
      refine ⟨_, rfl, ?_⟩
      refine hK.out _ _ ⟨(blk_cell BK341.out 0).trans rfl, (blk_cell BK341.out 1).trans rfl, (blk_cell BK341.out 2).trans rfl, (blk_cell BK341.out 3).trans rfl, (blk_cell BK341.out 4).trans rfl, (blk_cell BK341.out 5).trans rfl, (blk_cell BK341.out 6).trans rfl, (blk_cell BK341.out 7).trans rfl, (blk_cell BK303.out 0).trans rfl, (blk_cell BK303.out 1).trans rfl, (blk_cell BK303.out 2).trans rfl, (blk_cell BK303.out 3).trans rfl, (blk_cell BK326.out 0).trans rfl, (blk_cell BK326.out 1).trans rfl, (blk_cell BK326.out 2).trans rfl, (blk_cell BK326.out 3).trans rfl, (blk_cell BK326.out 4).trans rfl, (blk_cell BK326.out 5).trans rfl, (blk_cell BK326.out 6).trans rfl, (blk_cell BK321.out 0).trans rfl, (blk_cell BK321.out 1).trans rfl, (blk_cell BK321.out 2).trans rfl, (blk_cell BK321.out 3).trans rfl, (blk_cell BK321.out 4).trans rfl, (blk_cell BK321.out 5).trans rfl, (blk_cell BK321.out 6).trans rfl, (blk_cell BK321.out 7).trans rfl⟩ (fun hHeld => ?_)
      clear hK K
      refine norm_ (a' := ?_) ?_ ?_
      rotate_left
      ·show Act.put _ (some 102) _ = _
       simp only [Act.put, sL1, sL2, sL3, i64_w, i32_w]
       rfl
      refine pv HT_.out 31 103 (bb 41 4294967295) ?_
      refine pv HT_.out 32 104 (bb 41 8589934591) ?_
      refine pv HT_.out 33 105 (bb 41 17179869183) ?_
      refine pv HT_.out 34 106 (bb 41 34359738367) ?_
      refine pv HT_.out 36 108 (bb 41 103079215103) ?_
      refine tv hHeld HT_.out HW_.out 35 107 (bb 41 137438953471) ?_
      refine tv hHeld HT_.out HW_.out 37 109 (bb 41 274877906943) ?_
      refine pv HT_.out 38 110 (bb 41 549755813887) ?_
      refine pv HT_.out 39 111 (bb 41 1099511627775) ?_
      refine pv HT_.out 40 112 (bb 41 2199023255551) ?_
      refine done_ (done_of HT_.out (by kernel_rfl)) ?_
      try go_wp2
      go_meet
      case rel => exact ⟨_, ((t340 != (wrap64 (t320 + 1)))), (by first | rfl | (simp; done) | (simp [*]; done)), H', ⟨by have := HJ4.out; have := HJ24.out; first | omega | exact Nat.le_refl _⟩, ⟨RU HO_322004.out⟩, ⟨RU HO_322005.out⟩, ⟨RU HO_322006.out⟩, ⟨RU HO333.out⟩, ⟨RU HO336.out⟩, ⟨RU HO339.out⟩, ⟨bU BK303.out⟩, ⟨bU BK321.out⟩, ⟨bU BK323.out⟩, ⟨bU BK326.out⟩, ⟨bU BK341.out⟩, ⟨BU HB.out⟩⟩
     case rest =>
      clear HC60
      try clear p2
      try clear c3
      try clear p3
      try clear q3
      try clear hx3
      try clear c5
      try clear c6
      try clear p6
      try clear c7
      try clear c8
      try clear c32
      try clear p32
      try clear q32
      try clear hx32
      try clear c37
      try clear c53
      try clear c56
      try clear p64
      try clear c67
      try clear c68
      try clear c69
      try clear c75
      try clear c76
      try clear c77
      try clear c78
      try clear c83
      try clear c83b0
      try clear c83b1
      try clear c84
      try clear c84b0
      try clear c84b1
      try clear c87
      try clear c87b0
      try clear c87b1
      try clear c89
      try clear hcz70_0
      try clear hcz70_1
      try clear hcz70_2
      try clear hcz70_3
      try clear hcz70_4
      try clear hcz70_5
      try clear hcz70_6
      try clear hcz71_0
      try clear hcz71_1
      try clear hcz71_2
      try clear hcz71_3
      try clear hcz72_0
      try clear hcz72_1
      try clear hcz72_2
      try clear hcz72_3
      try clear hcz72_4
      try clear hcz72_5
      try clear hcz72_6
      try clear hcz72_7
      try clear hcz79_0
      try clear hcz79_1
      try clear hcz79_2
      try clear hcz79_3
      try clear hcz79_4
      try clear hcz79_5
      try clear hcz79_6
      try clear hcz79_7
      try clear hfz70_0
      try clear hfz70_1
      try clear hfz70_2
      try clear hfz70_3
      try clear hfz70_4
      try clear hfz70_5
      try clear hfz70_6
      try clear hfz71_0
      try clear hfz71_1
      try clear hfz71_2
      try clear hfz71_3
      try clear hfz72_0
      try clear hfz72_1
      try clear hfz72_2
      try clear hfz72_3
      try clear hfz72_4
      try clear hfz72_5
      try clear hfz72_6
      try clear hfz72_7
      try clear hfz79_0
      try clear hfz79_1
      try clear hfz79_2
      try clear hfz79_3
      try clear hfz79_4
      try clear hfz79_5
      try clear hfz79_6
      try clear hfz79_7
      try clear hx325_0
      try clear hx325_1
      try clear hx325_2
      try clear hx325_3
      try clear hx325_4
      try clear hx325_5
      try clear hx325_6
      try clear p325
      try clear q325
      obtain ⟨kq, x112_59, rfl, HA, HJ59, HO_322004, HO_322005, HO_322006, HO_342004, HO_342005, HO_342006, BK303, BK321, BK323, BK326, BK341, HB⟩ := hcut
      cases kq with
      | zero => exact absurd HA.out (by simp [regcertlaw10_ExecuteMoveOnly.j2])
      | succ kj59 =>
       have H := HA.out
       clear HA
       simp only [regcertlaw10_ExecuteMoveOnly.j2] at H
       by_cases c94 : x112_59 = true
       ·subst c94
        rw [if_pos rfl] at H
        exact absurd H (by simp)
       replace c94 := Bool.eq_false_iff.mpr c94
       subst c94
       rw [if_neg (show ¬ (false = true) by decide)] at H
       replace H := Option.bind_eq_some_iff.mp H
       obtain ⟨t345, A950, H⟩ := H
       have A95 := As0 A950
       clear A950
       by_cases c96 : t345 = true
       rotate_left
       ·replace c96 := Bool.eq_false_iff.mpr c96
        subst c96
        rw [if_neg (show ¬ (false = true) by decide)] at H
        obtain rfl := Option.some.inj H
        try go_wp2
        replace HO_322004 := As0 (Kd.R_drew HO_322004.out)
        replace HO_322005 := As0 (Kd.R_drew HO_322005.out)
        replace HO_322006 := As0 (Kd.R_drew HO_322006.out)
        replace HO_342004 := As0 (Kd.R_drew HO_342004.out)
        replace HO_342005 := As0 (Kd.R_drew HO_342005.out)
        replace HO_342006 := As0 (Kd.R_drew HO_342006.out)
        replace BK303 := As0 (blk_drew BK303.out)
        replace BK321 := As0 (blk_drew BK321.out)
        replace BK323 := As0 (blk_drew BK323.out)
        replace BK326 := As0 (blk_drew BK326.out)
        replace BK341 := As0 (blk_drew BK341.out)
        replace HB := As0 (bd1 HB.out)
        refine start_ (n := 23) (S := fun w' => w'.cell? ⟨gb303, 0, none⟩ = some (.int .i64 a0_0) ∧ w'.cell? ⟨gb303, 1, none⟩ = some (.int .i64 a0_1) ∧ w'.cell? ⟨gb303, 2, none⟩ = some (.int .i64 a0_2) ∧ w'.cell? ⟨gb303, 3, none⟩ = some (.slice (some ad322) l0_3.length c0_3)) (ds := []) (bb 23 0) (by kernel_rfl) rfl rfl ⟨(blk_cell BK303.out 0).trans rfl, (blk_cell BK303.out 1).trans rfl, (blk_cell BK303.out 2).trans rfl, (blk_cell BK303.out 3).trans rfl⟩ (fun hHeld => ?_); refine with_tabW regcertlaw10_ExecuteMoveOnly.tab12 regcertlaw10_ExecuteMoveOnly.bits12 (fun HT_ HW_ => ?_)
        generalize wc.drew = w104 at HO_322004 HO_322005 HO_322006 HO_342004 HO_342005 HO_342006 BK303 BK321 BK323 BK326 BK341 HB hHeld ⊢
        refine pv HT_.out 0 114 (bb 23 1) ?_
        refine pv HT_.out 1 115 (bb 23 3) ?_
        refine pv HT_.out 3 117 (bb 23 11) ?_
        refine tv hHeld HT_.out HW_.out 2 116 (bb 23 15) ?_
        refine tv hHeld HT_.out HW_.out 4 118 (bb 23 31) ?_
        refine one_ (i := 5) (N := some 119) (bb 23 63) rfl rfl (one_of HT_.out (by kernel_rfl)) (by decide) (fun K hK => ?_)
        refine goes_ Try.func52 (by kernel_rfl) rfl #[.int .i64 a3, .int .i64 a0_1, .int .i64 a0_2] (by rfl) rfl rfl (by (try simp only [List.map_toArray, List.map_cons, List.map_nil]); first | done | rfl | (simp only [List.length_drop, List.length_take]; rfl)) ?_
        with_reducible refine (regcertref04_InRange.calls a3 a0_1 a0_2 false _ A95.out).mono ?_
        rintro e w' ⟨rfl, ⟨nd, rfl⟩⟩
        refine ⟨_, rfl, ?_⟩
        refine hK.out _ _ ⟨(blk_cell BK303.out 0).trans rfl, (blk_cell BK303.out 1).trans rfl, (blk_cell BK303.out 2).trans rfl, (blk_cell BK303.out 3).trans rfl⟩ (fun hHeld => ?_)
        clear hK K
        refine norm_ (a' := ?_) ?_ ?_
        rotate_left
        ·show Act.put _ (some 119) _ = _
         simp only [Act.put, sL1, sL2, sL3, i64_w, i32_w]
         rfl
        refine pv HT_.out 6 120 (bb 23 127) ?_
        refine pv HT_.out 7 121 (bb 23 255) ?_
        refine py HT_.out 8 122 (bb 23 511) ?_
        refine py HT_.out 9 123 (bb 23 1023) ?_
        refine py HT_.out 10 124 (bb 23 2047) ?_
        refine py HT_.out 11 125 (bb 23 4095) ?_
        refine pv HT_.out 12 126 (bb 23 8191) ?_
        refine pv HT_.out 13 127 (bb 23 16383) ?_
        refine py HT_.out 14 128 (bb 23 32767) ?_
        refine py HT_.out 15 129 (bb 23 65535) ?_
        refine py HT_.out 16 130 (bb 23 131071) ?_
        refine py HT_.out 17 131 (bb 23 262143) ?_
        refine py HT_.out 18 132 (bb 23 524287) ?_
        refine py HT_.out 19 133 (bb 23 1048575) ?_
        refine py HT_.out 20 134 (bb 23 2097151) ?_
        refine pv HT_.out 21 135 (bb 23 4194303) ?_
        refine pv HT_.out 22 8 (bb 23 8388607) ?_
        refine done_ (done_of HT_.out (by kernel_rfl)) ?_
        try go_wp2
        go_ret
        exact ⟨by first | rfl | (simp [errW_none, errW_some] <;> rfl) | (simp [*, errW_none, errW_some] <;> rfl), BU HB.out⟩
       subst c96
       rw [if_pos rfl] at H
       by_cases c97 : a3 = ((rd_T84 ((rd_T69 l0_3 t308).f0) t309).f5)
       ·rw [if_pos c97] at H
        have c97b0 : (a3 == ((rd_T84 ((rd_T69 l0_3 t308).f0) t309).f5)) = true := beq_iff_eq.mpr c97
        have c97b1 : (a3 != ((rd_T84 ((rd_T69 l0_3 t308).f0) t309).f5)) = false := bne_eq_false_iff_eq.mpr c97
        clear c97
        obtain rfl := Option.some.inj H
        try go_wp2
        replace HO_322004 := As0 (Kd.R_drew HO_322004.out)
        replace HO_322005 := As0 (Kd.R_drew HO_322005.out)
        replace HO_322006 := As0 (Kd.R_drew HO_322006.out)
        replace HO_342004 := As0 (Kd.R_drew HO_342004.out)
        replace HO_342005 := As0 (Kd.R_drew HO_342005.out)
        replace HO_342006 := As0 (Kd.R_drew HO_342006.out)
        replace BK303 := As0 (blk_drew BK303.out)
        replace BK321 := As0 (blk_drew BK321.out)
        replace BK323 := As0 (blk_drew BK323.out)
        replace BK326 := As0 (blk_drew BK326.out)
        replace BK341 := As0 (blk_drew BK341.out)
        replace HB := As0 (bd1 HB.out)
        refine start_ (n := 23) (S := fun w' => w'.cell? ⟨gb303, 0, none⟩ = some (.int .i64 a0_0) ∧ w'.cell? ⟨gb303, 1, none⟩ = some (.int .i64 a0_1) ∧ w'.cell? ⟨gb303, 2, none⟩ = some (.int .i64 a0_2) ∧ w'.cell? ⟨gb303, 3, none⟩ = some (.slice (some ad322) l0_3.length c0_3) ∧ w'.cell? ⟨gb326, 0, none⟩ = some (.int .i64 ((rd_T84 ((rd_T69 l0_3 t308).f0) t309).f0)) ∧ w'.cell? ⟨gb326, 1, none⟩ = some (.int .i64 ((rd_T84 ((rd_T69 l0_3 t308).f0) t309).f1)) ∧ w'.cell? ⟨gb326, 2, none⟩ = some (.int .i64 ((rd_T84 ((rd_T69 l0_3 t308).f0) t309).f2)) ∧ w'.cell? ⟨gb326, 3, none⟩ = some (.int .i64 ((rd_T84 ((rd_T69 l0_3 t308).f0) t309).f3)) ∧ w'.cell? ⟨gb326, 4, none⟩ = some (.int .i64 ((rd_T84 ((rd_T69 l0_3 t308).f0) t309).f4)) ∧ w'.cell? ⟨gb326, 5, none⟩ = some (.int .i64 ((rd_T84 ((rd_T69 l0_3 t308).f0) t309).f5)) ∧ w'.cell? ⟨gb326, 6, none⟩ = some (.int .i64 ((rd_T84 ((rd_T69 l0_3 t308).f0) t309).f6))) (ds := []) (bb 23 0) (by kernel_rfl) rfl rfl ⟨(blk_cell BK303.out 0).trans rfl, (blk_cell BK303.out 1).trans rfl, (blk_cell BK303.out 2).trans rfl, (blk_cell BK303.out 3).trans rfl, (blk_cell BK326.out 0).trans rfl, (blk_cell BK326.out 1).trans rfl, (blk_cell BK326.out 2).trans rfl, (blk_cell BK326.out 3).trans rfl, (blk_cell BK326.out 4).trans rfl, (blk_cell BK326.out 5).trans rfl, (blk_cell BK326.out 6).trans rfl⟩ (fun hHeld => ?_); refine with_tabW regcertlaw10_ExecuteMoveOnly.tab12 regcertlaw10_ExecuteMoveOnly.bits12 (fun HT_ HW_ => ?_)
        generalize wc.drew = w98 at HO_322004 HO_322005 HO_322006 HO_342004 HO_342005 HO_342006 BK303 BK321 BK323 BK326 BK341 HB hHeld ⊢
        refine pv HT_.out 0 114 (bb 23 1) ?_
        refine pv HT_.out 1 115 (bb 23 3) ?_
        refine pv HT_.out 3 117 (bb 23 11) ?_
        refine tv hHeld HT_.out HW_.out 2 116 (bb 23 15) ?_
        refine tv hHeld HT_.out HW_.out 4 118 (bb 23 31) ?_
        refine one_ (i := 5) (N := some 119) (bb 23 63) rfl rfl (one_of HT_.out (by kernel_rfl)) (by decide) (fun K hK => ?_)
        refine goes_ Try.func52 (by kernel_rfl) rfl #[.int .i64 a3, .int .i64 a0_1, .int .i64 a0_2] (by rfl) rfl rfl (by (try simp only [List.map_toArray, List.map_cons, List.map_nil]); first | done | rfl | (simp only [List.length_drop, List.length_take]; rfl)) ?_
        with_reducible refine (regcertref04_InRange.calls a3 a0_1 a0_2 true _ A95.out).mono ?_
        rintro e w' ⟨rfl, ⟨nd, rfl⟩⟩
        refine ⟨_, rfl, ?_⟩
        refine hK.out _ _ ⟨(blk_cell BK303.out 0).trans rfl, (blk_cell BK303.out 1).trans rfl, (blk_cell BK303.out 2).trans rfl, (blk_cell BK303.out 3).trans rfl, (blk_cell BK326.out 0).trans rfl, (blk_cell BK326.out 1).trans rfl, (blk_cell BK326.out 2).trans rfl, (blk_cell BK326.out 3).trans rfl, (blk_cell BK326.out 4).trans rfl, (blk_cell BK326.out 5).trans rfl, (blk_cell BK326.out 6).trans rfl⟩ (fun hHeld => ?_)
        clear hK K
        refine norm_ (a' := ?_) ?_ ?_
        rotate_left
        ·show Act.put _ (some 119) _ = _
         simp only [Act.put, sL1, sL2, sL3, i64_w, i32_w]
         rfl
        refine pv HT_.out 6 120 (bb 23 127) ?_
        refine pv HT_.out 7 121 (bb 23 255) ?_
        refine pv HT_.out 8 122 (bb 23 511) ?_
        refine pv HT_.out 9 123 (bb 23 1023) ?_
        refine tv hHeld HT_.out HW_.out 10 124 (bb 23 2047) ?_
        refine pv HT_.out 11 125 (bb 23 4095) ?_
        refine pv HT_.out 12 126 (bb 23 8191) ?_
        refine pv HT_.out 13 127 (bb 23 16383) ?_
        refine py HT_.out 14 128 (bb 23 32767) ?_
        refine py HT_.out 15 129 (bb 23 65535) ?_
        refine py HT_.out 16 130 (bb 23 131071) ?_
        refine py HT_.out 17 131 (bb 23 262143) ?_
        refine py HT_.out 18 132 (bb 23 524287) ?_
        refine py HT_.out 19 133 (bb 23 1048575) ?_
        refine py HT_.out 20 134 (bb 23 2097151) ?_
        refine pv HT_.out 21 135 (bb 23 4194303) ?_
        refine pv HT_.out 22 8 (bb 23 8388607) ?_
        refine done_ (done_of HT_.out (by kernel_rfl)) ?_
        try go_wp2
        go_ret
        exact ⟨by first | rfl | (simp [errW_none, errW_some] <;> rfl) | (simp [*, errW_none, errW_some] <;> rfl), BU HB.out⟩
       rw [if_neg c97] at H
       have c97b0 : (a3 == ((rd_T84 ((rd_T69 l0_3 t308).f0) t309).f5)) = false := beq_eq_false_iff_ne.mpr c97
       have c97b1 : (a3 != ((rd_T84 ((rd_T69 l0_3 t308).f0) t309).f5)) = true := bne_iff_ne.mpr c97
       replace H := Option.bind_eq_some_iff.mp H
       obtain ⟨t346, A990, H⟩ := H
       have A99 := As0 A990
       clear A990
       replace H := Option.bind_eq_some_iff.mp H
       obtain ⟨t347, A1000, H⟩ := H
       have A100 := As0 A1000
       clear A1000
       obtain rfl := Option.some.inj H
       try go_wp2
       replace HO_322004 := As0 (Kd.R_drew HO_322004.out)
       replace HO_322005 := As0 (Kd.R_drew HO_322005.out)
       replace HO_322006 := As0 (Kd.R_drew HO_322006.out)
       replace HO_342004 := As0 (Kd.R_drew HO_342004.out)
       replace HO_342005 := As0 (Kd.R_drew HO_342005.out)
       replace HO_342006 := As0 (Kd.R_drew HO_342006.out)
       replace BK303 := As0 (blk_drew BK303.out)
       replace BK321 := As0 (blk_drew BK321.out)
       replace BK323 := As0 (blk_drew BK323.out)
       replace BK326 := As0 (blk_drew BK326.out)
       replace BK341 := As0 (blk_drew BK341.out)
       replace HB := As0 (bd1 HB.out)
       refine start_ (n := 23) (S := fun w' => w'.cell? ⟨gb303, 0, none⟩ = some (.int .i64 a0_0) ∧ w'.cell? ⟨gb303, 1, none⟩ = some (.int .i64 a0_1) ∧ w'.cell? ⟨gb303, 2, none⟩ = some (.int .i64 a0_2) ∧ w'.cell? ⟨gb303, 3, none⟩ = some (.slice (some ad322) l0_3.length c0_3) ∧ w'.cell? ⟨gb326, 0, none⟩ = some (.int .i64 ((rd_T84 ((rd_T69 l0_3 t308).f0) t309).f0)) ∧ w'.cell? ⟨gb326, 1, none⟩ = some (.int .i64 ((rd_T84 ((rd_T69 l0_3 t308).f0) t309).f1)) ∧ w'.cell? ⟨gb326, 2, none⟩ = some (.int .i64 ((rd_T84 ((rd_T69 l0_3 t308).f0) t309).f2)) ∧ w'.cell? ⟨gb326, 3, none⟩ = some (.int .i64 ((rd_T84 ((rd_T69 l0_3 t308).f0) t309).f3)) ∧ w'.cell? ⟨gb326, 4, none⟩ = some (.int .i64 ((rd_T84 ((rd_T69 l0_3 t308).f0) t309).f4)) ∧ w'.cell? ⟨gb326, 5, none⟩ = some (.int .i64 ((rd_T84 ((rd_T69 l0_3 t308).f0) t309).f5)) ∧ w'.cell? ⟨gb326, 6, none⟩ = some (.int .i64 ((rd_T84 ((rd_T69 l0_3 t308).f0) t309).f6)) ∧ w'.cell? ⟨gb341, 0, none⟩ = some (.int .i64 t327) ∧ w'.cell? ⟨gb341, 1, none⟩ = some (.int .i64 t328) ∧ w'.cell? ⟨gb341, 2, none⟩ = some (.int .i64 t329) ∧ w'.cell? ⟨gb341, 3, none⟩ = some (.int .i64 t330) ∧ w'.cell? ⟨gb341, 4, none⟩ = some (.slice Ao80 t331.length co80) ∧ w'.cell? ⟨gb341, 5, none⟩ = some (.slice Ao81 t334.length co81) ∧ w'.cell? ⟨gb341, 6, none⟩ = some (.slice Ao82 t337.length co82) ∧ w'.cell? ⟨gb341, 7, none⟩ = some (.int .i64 t340) ∧ w'.cell? ⟨gb321, 0, none⟩ = some (.int .i64 t307) ∧ w'.cell? ⟨gb321, 1, none⟩ = some (.int .i64 t308) ∧ w'.cell? ⟨gb321, 2, none⟩ = some (.int .i64 t309) ∧ w'.cell? ⟨gb321, 3, none⟩ = some (.int .i64 t310) ∧ w'.cell? ⟨gb321, 4, none⟩ = some (.slice Ao31 t311.length co31) ∧ w'.cell? ⟨gb321, 5, none⟩ = some (.slice Ao32 t314.length co32) ∧ w'.cell? ⟨gb321, 6, none⟩ = some (.slice Ao33 t317.length co33) ∧ w'.cell? ⟨gb321, 7, none⟩ = some (.int .i64 t320)) (ds := []) (bb 23 0) (by kernel_rfl) rfl rfl ⟨(blk_cell BK303.out 0).trans rfl, (blk_cell BK303.out 1).trans rfl, (blk_cell BK303.out 2).trans rfl, (blk_cell BK303.out 3).trans rfl, (blk_cell BK326.out 0).trans rfl, (blk_cell BK326.out 1).trans rfl, (blk_cell BK326.out 2).trans rfl, (blk_cell BK326.out 3).trans rfl, (blk_cell BK326.out 4).trans rfl, (blk_cell BK326.out 5).trans rfl, (blk_cell BK326.out 6).trans rfl, (blk_cell BK341.out 0).trans rfl, (blk_cell BK341.out 1).trans rfl, (blk_cell BK341.out 2).trans rfl, (blk_cell BK341.out 3).trans rfl, (blk_cell BK341.out 4).trans rfl, (blk_cell BK341.out 5).trans rfl, (blk_cell BK341.out 6).trans rfl, (blk_cell BK341.out 7).trans rfl, (blk_cell BK321.out 0).trans rfl, (blk_cell BK321.out 1).trans rfl, (blk_cell BK321.out 2).trans rfl, (blk_cell BK321.out 3).trans rfl, (blk_cell BK321.out 4).trans rfl, (blk_cell BK321.out 5).trans rfl, (blk_cell BK321.out 6).trans rfl, (blk_cell BK321.out 7).trans rfl⟩ (fun hHeld => ?_); refine with_tabW regcertlaw10_ExecuteMoveOnly.tab12 regcertlaw10_ExecuteMoveOnly.bits12 (fun HT_ HW_ => ?_)
       generalize wc.drew = w101 at HO_322004 HO_322005 HO_322006 HO_342004 HO_342005 HO_342006 BK303 BK321 BK323 BK326 BK341 HB hHeld ⊢
       refine pv HT_.out 0 114 (bb 23 1) ?_
       refine pv HT_.out 1 115 (bb 23 3) ?_
       refine pv HT_.out 3 117 (bb 23 11) ?_
       refine tv hHeld HT_.out HW_.out 2 116 (bb 23 15) ?_
       refine tv hHeld HT_.out HW_.out 4 118 (bb 23 31) ?_
       refine one_ (i := 5) (N := some 119) (bb 23 63) rfl rfl (one_of HT_.out (by kernel_rfl)) (by decide) (fun K hK => ?_)
       refine goes_ Try.func52 (by kernel_rfl) rfl #[.int .i64 a3, .int .i64 a0_1, .int .i64 a0_2] (by rfl) rfl rfl (by (try simp only [List.map_toArray, List.map_cons, List.map_nil]); first | done | rfl | (simp only [List.length_drop, List.length_take]; rfl)) ?_
       with_reducible refine (regcertref04_InRange.calls a3 a0_1 a0_2 true _ A95.out).mono ?_
       rintro e w' ⟨rfl, ⟨nd, rfl⟩⟩
       refine ⟨_, rfl, ?_⟩
       refine hK.out _ _ ⟨(blk_cell BK303.out 0).trans rfl, (blk_cell BK303.out 1).trans rfl, (blk_cell BK303.out 2).trans rfl, (blk_cell BK303.out 3).trans rfl, (blk_cell BK326.out 0).trans rfl, (blk_cell BK326.out 1).trans rfl, (blk_cell BK326.out 2).trans rfl, (blk_cell BK326.out 3).trans rfl, (blk_cell BK326.out 4).trans rfl, (blk_cell BK326.out 5).trans rfl, (blk_cell BK326.out 6).trans rfl, (blk_cell BK341.out 0).trans rfl, (blk_cell BK341.out 1).trans rfl, (blk_cell BK341.out 2).trans rfl, (blk_cell BK341.out 3).trans rfl, (blk_cell BK341.out 4).trans rfl, (blk_cell BK341.out 5).trans rfl, (blk_cell BK341.out 6).trans rfl, (blk_cell BK341.out 7).trans rfl, (blk_cell BK321.out 0).trans rfl, (blk_cell BK321.out 1).trans rfl, (blk_cell BK321.out 2).trans rfl, (blk_cell BK321.out 3).trans rfl, (blk_cell BK321.out 4).trans rfl, (blk_cell BK321.out 5).trans rfl, (blk_cell BK321.out 6).trans rfl, (blk_cell BK321.out 7).trans rfl⟩ (fun hHeld => ?_)
       clear hK K
       refine norm_ (a' := ?_) ?_ ?_
       rotate_left
       ·show Act.put _ (some 119) _ = _
        simp only [Act.put, sL1, sL2, sL3, i64_w, i32_w]
        rfl
       refine pv HT_.out 6 120 (bb 23 127) ?_
       refine pv HT_.out 7 121 (bb 23 255) ?_
       refine pv HT_.out 8 122 (bb 23 511) ?_
       refine pv HT_.out 9 123 (bb 23 1023) ?_
       refine tv hHeld HT_.out HW_.out 10 124 (bb 23 2047) ?_
       refine pv HT_.out 11 125 (bb 23 4095) ?_
       refine pv HT_.out 12 126 (bb 23 8191) ?_
       refine pv HT_.out 13 127 (bb 23 16383) ?_
       refine pv HT_.out 15 129 (bb 23 49151) ?_
       refine pv HT_.out 18 132 (bb 23 311295) ?_
       refine tv hHeld HT_.out HW_.out 14 128 (bb 23 327679) ?_
       refine tv hHeld HT_.out HW_.out 17 131 (bb 23 458751) ?_
       refine one_ (i := 16) (N := some 130) (bb 23 524287) rfl rfl (one_of HT_.out (by kernel_rfl)) (by decide) (fun K hK => ?_)
       refine goes_ Try.func53 (by kernel_rfl) rfl #[.agg #[.int .i64 t327, .int .i64 t328, .int .i64 t329, .int .i64 t330, .slice Ao80 t331.length co80, .slice Ao81 t334.length co81, .slice Ao82 t337.length co82, .int .i64 t340], .int .i64 a3] (by rfl) rfl rfl (by (try simp only [List.map_toArray, List.map_cons, List.map_nil]); first | done | rfl | (simp only [List.length_drop, List.length_take]; rfl)) ?_
       with_reducible refine (execute_Read.calls t327 t328 t329 t330 _ _ t331 _ _ t334 _ _ t337 t340 a3 t346 _ ?side1 ?side2 ?side3 ?side4 ?side5 ?side6 A99.out).mono ?_
       (case side1 => repeat (first | exact (Kd.R_reads' HO_342004.out).2.2 | (with_reducible refine Kd.C_alloc ?_ _) | (with_reducible refine Kd.C_drewN ?_ _) | (with_reducible refine Kd.C_drew ?_)))
       (case side2 => exact (Kd.R_reads' HO_342004.out).2.1)
       (case side3 => repeat (first | exact (Kd.R_reads' HO_342005.out).2.2 | (with_reducible refine Kd.C_alloc ?_ _) | (with_reducible refine Kd.C_drewN ?_ _) | (with_reducible refine Kd.C_drew ?_)))
       (case side4 => exact (Kd.R_reads' HO_342005.out).2.1)
       (case side5 => repeat (first | exact (Kd.R_reads' HO_342006.out).2.2 | (with_reducible refine Kd.C_alloc ?_ _) | (with_reducible refine Kd.C_drewN ?_ _) | (with_reducible refine Kd.C_drew ?_)))
       (case side6 => exact (Kd.R_reads' HO_342006.out).2.1)
       rintro e w102 ⟨rfl, hb⟩
       refine ⟨_, rfl, ?_⟩
       replace HO_322004 := As0 (Kd.R_below (RU HO_322004.out) hb)
       replace HO_322005 := As0 (Kd.R_below (RU HO_322005.out) hb)
       replace HO_322006 := As0 (Kd.R_below (RU HO_322006.out) hb)
       replace HO_342004 := As0 (Kd.R_below (RU HO_342004.out) hb)
       replace HO_342005 := As0 (Kd.R_below (RU HO_342005.out) hb)
       replace HO_342006 := As0 (Kd.R_below (RU HO_342006.out) hb)
       replace BK303 := As0 (blk_below (bU BK303.out) hb)
       replace BK321 := As0 (blk_below (bU BK321.out) hb)
       replace BK323 := As0 (blk_below (bU BK323.out) hb)
       replace BK326 := As0 (blk_below (bU BK326.out) hb)
       replace BK341 := As0 (blk_below (bU BK341.out) hb)
       replace HB := As0 (below_step (BU HB.out) hb)
       (try clear hb)
       (try clear hb2)
       (try clear hk)
       (try clear hi)
       refine hK.out _ _ ⟨(blk_cell BK303.out 0).trans rfl, (blk_cell BK303.out 1).trans rfl, (blk_cell BK303.out 2).trans rfl, (blk_cell BK303.out 3).trans rfl, (blk_cell BK326.out 0).trans rfl, (blk_cell BK326.out 1).trans rfl, (blk_cell BK326.out 2).trans rfl, (blk_cell BK326.out 3).trans rfl, (blk_cell BK326.out 4).trans rfl, (blk_cell BK326.out 5).trans rfl, (blk_cell BK326.out 6).trans rfl, (blk_cell BK341.out 0).trans rfl, (blk_cell BK341.out 1).trans rfl, (blk_cell BK341.out 2).trans rfl, (blk_cell BK341.out 3).trans rfl, (blk_cell BK341.out 4).trans rfl, (blk_cell BK341.out 5).trans rfl, (blk_cell BK341.out 6).trans rfl, (blk_cell BK341.out 7).trans rfl, (blk_cell BK321.out 0).trans rfl, (blk_cell BK321.out 1).trans rfl, (blk_cell BK321.out 2).trans rfl, (blk_cell BK321.out 3).trans rfl, (blk_cell BK321.out 4).trans rfl, (blk_cell BK321.out 5).trans rfl, (blk_cell BK321.out 6).trans rfl, (blk_cell BK321.out 7).trans rfl⟩ (fun hHeld => ?_)
       clear hK K
       refine norm_ (a' := ?_) ?_ ?_
       rotate_left
       ·show Act.put _ (some 130) _ = _
        simp only [Act.put, sL1, sL2, sL3, i64_w, i32_w]
        rfl
       refine one_ (i := 19) (N := some 133) (bb 23 1048575) rfl rfl (one_of HT_.out (by kernel_rfl)) (by decide) (fun K hK => ?_)
       refine goes_ Try.func53 (by kernel_rfl) rfl #[.agg #[.int .i64 t307, .int .i64 t308, .int .i64 t309, .int .i64 t310, .slice Ao31 t311.length co31, .slice Ao32 t314.length co32, .slice Ao33 t317.length co33, .int .i64 t320], .int .i64 a3] (by rfl) rfl rfl (by (try simp only [List.map_toArray, List.map_cons, List.map_nil]); first | done | rfl | (simp only [List.length_drop, List.length_take]; rfl)) ?_
       with_reducible refine (execute_Read.calls t307 t308 t309 t310 _ _ t311 _ _ t314 _ _ t317 t320 a3 t347 _ ?side1 ?side2 ?side3 ?side4 ?side5 ?side6 A100.out).mono ?_
       (case side1 => repeat (first | exact (Kd.R_reads' HO_322004.out).2.2 | (with_reducible refine Kd.C_alloc ?_ _) | (with_reducible refine Kd.C_drewN ?_ _) | (with_reducible refine Kd.C_drew ?_)))
       (case side2 => exact (Kd.R_reads' HO_322004.out).2.1)
       (case side3 => repeat (first | exact (Kd.R_reads' HO_322005.out).2.2 | (with_reducible refine Kd.C_alloc ?_ _) | (with_reducible refine Kd.C_drewN ?_ _) | (with_reducible refine Kd.C_drew ?_)))
       (case side4 => exact (Kd.R_reads' HO_322005.out).2.1)
       (case side5 => repeat (first | exact (Kd.R_reads' HO_322006.out).2.2 | (with_reducible refine Kd.C_alloc ?_ _) | (with_reducible refine Kd.C_drewN ?_ _) | (with_reducible refine Kd.C_drew ?_)))
       (case side6 => exact (Kd.R_reads' HO_322006.out).2.1)
       rintro e w103 ⟨rfl, hb⟩
       refine ⟨_, rfl, ?_⟩
       replace HO_322004 := As0 (Kd.R_below (RU HO_322004.out) hb)
       replace HO_322005 := As0 (Kd.R_below (RU HO_322005.out) hb)
       replace HO_322006 := As0 (Kd.R_below (RU HO_322006.out) hb)
       replace HO_342004 := As0 (Kd.R_below (RU HO_342004.out) hb)
       replace HO_342005 := As0 (Kd.R_below (RU HO_342005.out) hb)
       replace HO_342006 := As0 (Kd.R_below (RU HO_342006.out) hb)
       replace BK303 := As0 (blk_below (bU BK303.out) hb)
       replace BK321 := As0 (blk_below (bU BK321.out) hb)
       replace BK323 := As0 (blk_below (bU BK323.out) hb)
       replace BK326 := As0 (blk_below (bU BK326.out) hb)
       replace BK341 := As0 (blk_below (bU BK341.out) hb)
       replace HB := As0 (below_step (BU HB.out) hb)
       (try clear hb)
       (try clear hb2)
       (try clear hk)
       (try clear hi)
       refine hK.out _ _ ⟨(blk_cell BK303.out 0).trans rfl, (blk_cell BK303.out 1).trans rfl, (blk_cell BK303.out 2).trans rfl, (blk_cell BK303.out 3).trans rfl, (blk_cell BK326.out 0).trans rfl, (blk_cell BK326.out 1).trans rfl, (blk_cell BK326.out 2).trans rfl, (blk_cell BK326.out 3).trans rfl, (blk_cell BK326.out 4).trans rfl, (blk_cell BK326.out 5).trans rfl, (blk_cell BK326.out 6).trans rfl, (blk_cell BK341.out 0).trans rfl, (blk_cell BK341.out 1).trans rfl, (blk_cell BK341.out 2).trans rfl, (blk_cell BK341.out 3).trans rfl, (blk_cell BK341.out 4).trans rfl, (blk_cell BK341.out 5).trans rfl, (blk_cell BK341.out 6).trans rfl, (blk_cell BK341.out 7).trans rfl, (blk_cell BK321.out 0).trans rfl, (blk_cell BK321.out 1).trans rfl, (blk_cell BK321.out 2).trans rfl, (blk_cell BK321.out 3).trans rfl, (blk_cell BK321.out 4).trans rfl, (blk_cell BK321.out 5).trans rfl, (blk_cell BK321.out 6).trans rfl, (blk_cell BK321.out 7).trans rfl⟩ (fun hHeld => ?_)
       clear hK K
       refine norm_ (a' := ?_) ?_ ?_
       rotate_left
       ·show Act.put _ (some 133) _ = _
        simp only [Act.put, sL1, sL2, sL3, i64_w, i32_w]
        rfl
       refine pv HT_.out 20 134 (bb 23 2097151) ?_
       refine pv HT_.out 21 135 (bb 23 4194303) ?_
       refine pv HT_.out 22 8 (bb 23 8388607) ?_
       refine done_ (done_of HT_.out (by kernel_rfl)) ?_
       try go_wp2
       go_ret
       exact ⟨by first | rfl | (simp [errW_none, errW_some] <;> rfl) | (simp [*, errW_none, errW_some] <;> rfl), BU HB.out⟩

end Go.Proofs.Ytgkmagfajalnhaa.E
