-- Written by a program of this session (xprint), out of the translation. Not trusted: Lean checks it.
import Derived.Test.YtchlilkhgagdeaaX0
import Derived.Test.YtchlilkhgagdeaaX5
import Derived.Test.YtchlilkhgagdeaaX6
namespace Go.Proofs.Ytchlilkhgagdeaa.X
open Go.RowKit Go.Proofs.YtchlilkhgagdeaaW.PrintWords Go.Proofs.YtchlilkhgagdeaaW.PrintLast Go.Proofs.YtchlilkhgagdeaaW.PrintMore
attribute [local go_sem] max2_int min2_int max_two min_two max_three min_three max_four min_four   -- for this text's walks alone
set_option linter.unusedVariables false
set_option linter.unusedSimpArgs false

/-! ### regcertlaw13_AlignRows: function 4 -/
mutual
def regcertlaw13_AlignRows.j0 : Nat → List (S25) → List (S28) → Bool → Option (Bool)
 | 0, _, _, _ => none
 | k + 1, x0, x1, x24 => if x24 = true then ((regcertlaw13_awake.f k).bind fun t222 => (some t222)) else ((align_Code.f k x0 x1).bind fun bt223 => (if bt223.2.2 = 0 then (regcertlaw13_AlignRows.l0 k x0 x1 bt223.1 bt223.2.1 0 0 0) else (if bt223.2.2 = 20 then (if (bt223.1.length : Int) = 0 then (if bt223.2.1 ≥ 0 then (if bt223.2.1 ≤ (x1.length : Int) then (if bt223.2.1 = (x1.length : Int) then (some true) else (if 0 ≤ bt223.2.1 then (if bt223.2.1 < (x1.length : Int) then (some (((rd_T28 x1 bt223.2.1).f0) != 18)) else (none)) else (none))) else (some false)) else (some false)) else (some false)) else (some false))))
def regcertlaw13_AlignRows.l0 : Nat → List (S25) → List (S28) → List (S45) → Int → Int → Int → Int → Option (Bool)
 | 0, _, _, _, _, _, _, _ => none
 | k + 1, x0, x1, x5, x6, x8, x9, x10 => if x10 < (x5.length : Int) then (if 0 ≤ x10 then (if ((rd_T45 x5 x10).f0) = x8 then (if ((rd_T45 x5 x10).f2) = x9 then (if ((rd_T45 x5 x10).f1) < x8 then (regcertlaw13_AlignRows.j2 k x0 x1 x5 x6 x8 x9 x10 true) else (if ((rd_T45 x5 x10).f3) < x9 then (regcertlaw13_AlignRows.j2 k x0 x1 x5 x6 x8 x9 x10 true) else (if ((rd_T45 x5 x10).f1) > (x0.length : Int) then (regcertlaw13_AlignRows.j2 k x0 x1 x5 x6 x8 x9 x10 true) else (regcertlaw13_AlignRows.j2 k x0 x1 x5 x6 x8 x9 x10 (decide (((rd_T45 x5 x10).f3) > (x1.length : Int))))))) else (regcertlaw13_AlignRows.j2 k x0 x1 x5 x6 x8 x9 x10 true)) else (regcertlaw13_AlignRows.j2 k x0 x1 x5 x6 x8 x9 x10 true)) else (none)) else (some false)
def regcertlaw13_AlignRows.j2 : Nat → List (S25) → List (S28) → List (S45) → Int → Int → Int → Int → Bool → Option (Bool)
 | 0, _, _, _, _, _, _, _, _ => none
 | k + 1, x0, x1, x5, x6, x8, x9, x10, x125 => if x125 = true then (some false) else (regcertlaw13_AlignRows.l1 k x0 x1 x5 x6 x9 x10 x8)
def regcertlaw13_AlignRows.l1 : Nat → List (S25) → List (S28) → List (S45) → Int → Int → Int → Int → Option (Bool)
 | 0, _, _, _, _, _, _, _ => none
 | k + 1, x0, x1, x5, x6, x9, x10, x11 => if 0 ≤ x10 then (if x10 < (x5.length : Int) then (if x11 < ((rd_T45 x5 x10).f1) then (if 0 ≤ x11 then (if x11 < (x0.length : Int) then (if ((rd_T25 x0 x11).f0) = 2 then (regcertlaw13_AlignRows.l1 k x0 x1 x5 x6 x9 x10 (wrap64 (x11 + 1))) else (some false)) else (none)) else (none)) else (regcertlaw13_AlignRows.l2 k x0 x1 x5 x6 x10 x9)) else (none)) else (none)
def regcertlaw13_AlignRows.l2 : Nat → List (S25) → List (S28) → List (S45) → Int → Int → Int → Option (Bool)
 | 0, _, _, _, _, _, _ => none
 | k + 1, x0, x1, x5, x6, x10, x12 => if 0 ≤ x10 then (if x10 < (x5.length : Int) then (if x12 < ((rd_T45 x5 x10).f3) then (if 0 ≤ x12 then (if x12 < (x1.length : Int) then (if ((rd_T28 x1 x12).f0) = 18 then (regcertlaw13_AlignRows.l2 k x0 x1 x5 x6 x10 (wrap64 (x12 + 1))) else (some false)) else (none)) else (none)) else (if x10 = (wrap64 ((x5.length : Int) - 1)) then (if ((rd_T45 x5 x10).f1) = (x0.length : Int) then (if ((rd_T45 x5 x10).f3) = (x1.length : Int) then (if x6 = ((rd_T45 x5 x10).f3) then (if ((rd_T45 x5 x10).f4) = (-1) then (some (((rd_T45 x5 x10).f5) == (-1))) else (some false)) else (some false)) else (some false)) else (some false)) else (if ((rd_T45 x5 x10).f4) = ((rd_T45 x5 x10).f1) then (if ((rd_T45 x5 x10).f5) = ((rd_T45 x5 x10).f3) then (if ((rd_T45 x5 x10).f1) ≥ (x0.length : Int) then (regcertlaw13_AlignRows.j5 k x0 x1 x5 x6 ((rd_T45 x5 x10).f1) ((rd_T45 x5 x10).f3) x10 true) else (if ((rd_T45 x5 x10).f3) ≥ (x1.length : Int) then (regcertlaw13_AlignRows.j5 k x0 x1 x5 x6 ((rd_T45 x5 x10).f1) ((rd_T45 x5 x10).f3) x10 true) else (if 0 ≤ ((rd_T45 x5 x10).f1) then (if ((rd_T45 x5 x10).f1) < (x0.length : Int) then (if 0 ≤ ((rd_T45 x5 x10).f3) then (if ((rd_T45 x5 x10).f3) < (x1.length : Int) then ((align_Same.f ((rd_T25 x0 ((rd_T45 x5 x10).f1)).f0) ((rd_T25 x0 ((rd_T45 x5 x10).f1)).f1) ((rd_T25 x0 ((rd_T45 x5 x10).f1)).f2) ((rd_T25 x0 ((rd_T45 x5 x10).f1)).f3) ((rd_T25 x0 ((rd_T45 x5 x10).f1)).f4) ((rd_T28 x1 ((rd_T45 x5 x10).f3)).f0) ((rd_T28 x1 ((rd_T45 x5 x10).f3)).f1) ((rd_T28 x1 ((rd_T45 x5 x10).f3)).f2) ((rd_T28 x1 ((rd_T45 x5 x10).f3)).f3) ((rd_T28 x1 ((rd_T45 x5 x10).f3)).f4) ((rd_T28 x1 ((rd_T45 x5 x10).f3)).f5) ((rd_T28 x1 ((rd_T45 x5 x10).f3)).f6)).bind fun t247 => (regcertlaw13_AlignRows.j5 k x0 x1 x5 x6 ((rd_T45 x5 x10).f1) ((rd_T45 x5 x10).f3) x10 (!t247))) else (none)) else (none)) else (none)) else (none)))) else (regcertlaw13_AlignRows.j5 k x0 x1 x5 x6 ((rd_T45 x5 x10).f1) ((rd_T45 x5 x10).f3) x10 true)) else (regcertlaw13_AlignRows.j5 k x0 x1 x5 x6 ((rd_T45 x5 x10).f1) ((rd_T45 x5 x10).f3) x10 true)))) else (none)) else (none)
def regcertlaw13_AlignRows.j5 : Nat → List (S25) → List (S28) → List (S45) → Int → Int → Int → Int → Bool → Option (Bool)
 | 0, _, _, _, _, _, _, _, _ => none
 | k + 1, x0, x1, x5, x6, x8, x9, x10, x243 => if x243 = true then (some false) else (regcertlaw13_AlignRows.l0 k x0 x1 x5 x6 (wrap64 (x8 + 1)) (wrap64 (x9 + 1)) (wrap64 (x10 + 1)))
end
def regcertlaw13_AlignRows.f (k : Nat) (l0 : List (S25)) (l1 : List (S28)) : Option (Bool) := (regcertlaw13_awake.f k).bind fun t221 => (if t221 = true then (if (l0.length : Int) > 300 then (regcertlaw13_AlignRows.j0 k l0 l1 true) else (regcertlaw13_AlignRows.j0 k l0 l1 (decide ((l1.length : Int) > 300)))) else (regcertlaw13_AlignRows.j0 k l0 l1 true))
theorem regcertlaw13_AlignRows.mono_l : ∀ k, (∀ y0 y1 y2, LeO (regcertlaw13_AlignRows.j0 k y0 y1 y2) (regcertlaw13_AlignRows.j0 (k + 1) y0 y1 y2)) ∧ (∀ y0 y1 y2 y3 y4 y5 y6, LeO (regcertlaw13_AlignRows.l0 k y0 y1 y2 y3 y4 y5 y6) (regcertlaw13_AlignRows.l0 (k + 1) y0 y1 y2 y3 y4 y5 y6)) ∧ (∀ y0 y1 y2 y3 y4 y5 y6 y7, LeO (regcertlaw13_AlignRows.j2 k y0 y1 y2 y3 y4 y5 y6 y7) (regcertlaw13_AlignRows.j2 (k + 1) y0 y1 y2 y3 y4 y5 y6 y7)) ∧ (∀ y0 y1 y2 y3 y4 y5 y6, LeO (regcertlaw13_AlignRows.l1 k y0 y1 y2 y3 y4 y5 y6) (regcertlaw13_AlignRows.l1 (k + 1) y0 y1 y2 y3 y4 y5 y6)) ∧ (∀ y0 y1 y2 y3 y4 y5, LeO (regcertlaw13_AlignRows.l2 k y0 y1 y2 y3 y4 y5) (regcertlaw13_AlignRows.l2 (k + 1) y0 y1 y2 y3 y4 y5)) ∧ (∀ y0 y1 y2 y3 y4 y5 y6 y7, LeO (regcertlaw13_AlignRows.j5 k y0 y1 y2 y3 y4 y5 y6 y7) (regcertlaw13_AlignRows.j5 (k + 1) y0 y1 y2 y3 y4 y5 y6 y7))
 | 0 => ⟨fun _ _ _ r h => by simp [regcertlaw13_AlignRows.j0] at h, fun _ _ _ _ _ _ _ r h => by simp [regcertlaw13_AlignRows.l0] at h, fun _ _ _ _ _ _ _ _ r h => by simp [regcertlaw13_AlignRows.j2] at h, fun _ _ _ _ _ _ _ r h => by simp [regcertlaw13_AlignRows.l1] at h, fun _ _ _ _ _ _ r h => by simp [regcertlaw13_AlignRows.l2] at h, fun _ _ _ _ _ _ _ _ r h => by simp [regcertlaw13_AlignRows.j5] at h⟩
 | k + 1 => by
  obtain ⟨ih0, ih1, ih2, ih3, ih4, ih5⟩ := regcertlaw13_AlignRows.mono_l k
  refine ⟨?_, ?_, ?_, ?_, ?_, ?_⟩
  ·intro y0 y1 y2
   unfold regcertlaw13_AlignRows.j0
   repeat' first
   | (with_reducible exact ih0 _ _ _)
   | (with_reducible exact ih1 _ _ _ _ _ _ _)
   | (with_reducible exact ih2 _ _ _ _ _ _ _ _)
   | (with_reducible exact ih3 _ _ _ _ _ _ _)
   | (with_reducible exact ih4 _ _ _ _ _ _)
   | (with_reducible exact ih5 _ _ _ _ _ _ _ _)
   | (with_reducible exact align_Code.mono _ _ _)
   | (with_reducible exact regcertlaw13_awake.mono _)
   | (with_reducible exact LeO.refl _)
   | (with_reducible exact LeO.none _)
   | (with_reducible refine LeO.ite ?_ ?_)
   | (with_reducible refine LeO.bind ?_ (fun _ => ?_))
   | exact ih0 _ _ _
   | exact ih1 _ _ _ _ _ _ _
   | exact ih2 _ _ _ _ _ _ _ _
   | exact ih3 _ _ _ _ _ _ _
   | exact ih4 _ _ _ _ _ _
   | exact ih5 _ _ _ _ _ _ _ _
   | exact align_Code.mono _ _ _
   | exact regcertlaw13_awake.mono _
   | exact LeO.none _
   | refine LeO.ite ?_ ?_
   | refine LeO.bind ?_ (fun _ => ?_)
  ·intro y0 y1 y2 y3 y4 y5 y6
   unfold regcertlaw13_AlignRows.l0
   repeat' first
   | (with_reducible exact ih0 _ _ _)
   | (with_reducible exact ih1 _ _ _ _ _ _ _)
   | (with_reducible exact ih2 _ _ _ _ _ _ _ _)
   | (with_reducible exact ih3 _ _ _ _ _ _ _)
   | (with_reducible exact ih4 _ _ _ _ _ _)
   | (with_reducible exact ih5 _ _ _ _ _ _ _ _)
   | (with_reducible exact align_Code.mono _ _ _)
   | (with_reducible exact regcertlaw13_awake.mono _)
   | (with_reducible exact LeO.refl _)
   | (with_reducible exact LeO.none _)
   | (with_reducible refine LeO.ite ?_ ?_)
   | (with_reducible refine LeO.bind ?_ (fun _ => ?_))
   | exact ih0 _ _ _
   | exact ih1 _ _ _ _ _ _ _
   | exact ih2 _ _ _ _ _ _ _ _
   | exact ih3 _ _ _ _ _ _ _
   | exact ih4 _ _ _ _ _ _
   | exact ih5 _ _ _ _ _ _ _ _
   | exact align_Code.mono _ _ _
   | exact regcertlaw13_awake.mono _
   | exact LeO.none _
   | refine LeO.ite ?_ ?_
   | refine LeO.bind ?_ (fun _ => ?_)
  ·intro y0 y1 y2 y3 y4 y5 y6 y7
   unfold regcertlaw13_AlignRows.j2
   repeat' first
   | (with_reducible exact ih0 _ _ _)
   | (with_reducible exact ih1 _ _ _ _ _ _ _)
   | (with_reducible exact ih2 _ _ _ _ _ _ _ _)
   | (with_reducible exact ih3 _ _ _ _ _ _ _)
   | (with_reducible exact ih4 _ _ _ _ _ _)
   | (with_reducible exact ih5 _ _ _ _ _ _ _ _)
   | (with_reducible exact align_Code.mono _ _ _)
   | (with_reducible exact regcertlaw13_awake.mono _)
   | (with_reducible exact LeO.refl _)
   | (with_reducible exact LeO.none _)
   | (with_reducible refine LeO.ite ?_ ?_)
   | (with_reducible refine LeO.bind ?_ (fun _ => ?_))
   | exact ih0 _ _ _
   | exact ih1 _ _ _ _ _ _ _
   | exact ih2 _ _ _ _ _ _ _ _
   | exact ih3 _ _ _ _ _ _ _
   | exact ih4 _ _ _ _ _ _
   | exact ih5 _ _ _ _ _ _ _ _
   | exact align_Code.mono _ _ _
   | exact regcertlaw13_awake.mono _
   | exact LeO.none _
   | refine LeO.ite ?_ ?_
   | refine LeO.bind ?_ (fun _ => ?_)
  ·intro y0 y1 y2 y3 y4 y5 y6
   unfold regcertlaw13_AlignRows.l1
   repeat' first
   | (with_reducible exact ih0 _ _ _)
   | (with_reducible exact ih1 _ _ _ _ _ _ _)
   | (with_reducible exact ih2 _ _ _ _ _ _ _ _)
   | (with_reducible exact ih3 _ _ _ _ _ _ _)
   | (with_reducible exact ih4 _ _ _ _ _ _)
   | (with_reducible exact ih5 _ _ _ _ _ _ _ _)
   | (with_reducible exact align_Code.mono _ _ _)
   | (with_reducible exact regcertlaw13_awake.mono _)
   | (with_reducible exact LeO.refl _)
   | (with_reducible exact LeO.none _)
   | (with_reducible refine LeO.ite ?_ ?_)
   | (with_reducible refine LeO.bind ?_ (fun _ => ?_))
   | exact ih0 _ _ _
   | exact ih1 _ _ _ _ _ _ _
   | exact ih2 _ _ _ _ _ _ _ _
   | exact ih3 _ _ _ _ _ _ _
   | exact ih4 _ _ _ _ _ _
   | exact ih5 _ _ _ _ _ _ _ _
   | exact align_Code.mono _ _ _
   | exact regcertlaw13_awake.mono _
   | exact LeO.none _
   | refine LeO.ite ?_ ?_
   | refine LeO.bind ?_ (fun _ => ?_)
  ·intro y0 y1 y2 y3 y4 y5
   unfold regcertlaw13_AlignRows.l2
   repeat' first
   | (with_reducible exact ih0 _ _ _)
   | (with_reducible exact ih1 _ _ _ _ _ _ _)
   | (with_reducible exact ih2 _ _ _ _ _ _ _ _)
   | (with_reducible exact ih3 _ _ _ _ _ _ _)
   | (with_reducible exact ih4 _ _ _ _ _ _)
   | (with_reducible exact ih5 _ _ _ _ _ _ _ _)
   | (with_reducible exact align_Code.mono _ _ _)
   | (with_reducible exact regcertlaw13_awake.mono _)
   | (with_reducible exact LeO.refl _)
   | (with_reducible exact LeO.none _)
   | (with_reducible refine LeO.ite ?_ ?_)
   | (with_reducible refine LeO.bind ?_ (fun _ => ?_))
   | exact ih0 _ _ _
   | exact ih1 _ _ _ _ _ _ _
   | exact ih2 _ _ _ _ _ _ _ _
   | exact ih3 _ _ _ _ _ _ _
   | exact ih4 _ _ _ _ _ _
   | exact ih5 _ _ _ _ _ _ _ _
   | exact align_Code.mono _ _ _
   | exact regcertlaw13_awake.mono _
   | exact LeO.none _
   | refine LeO.ite ?_ ?_
   | refine LeO.bind ?_ (fun _ => ?_)
  ·intro y0 y1 y2 y3 y4 y5 y6 y7
   unfold regcertlaw13_AlignRows.j5
   repeat' first
   | (with_reducible exact ih0 _ _ _)
   | (with_reducible exact ih1 _ _ _ _ _ _ _)
   | (with_reducible exact ih2 _ _ _ _ _ _ _ _)
   | (with_reducible exact ih3 _ _ _ _ _ _ _)
   | (with_reducible exact ih4 _ _ _ _ _ _)
   | (with_reducible exact ih5 _ _ _ _ _ _ _ _)
   | (with_reducible exact align_Code.mono _ _ _)
   | (with_reducible exact regcertlaw13_awake.mono _)
   | (with_reducible exact LeO.refl _)
   | (with_reducible exact LeO.none _)
   | (with_reducible refine LeO.ite ?_ ?_)
   | (with_reducible refine LeO.bind ?_ (fun _ => ?_))
   | exact ih0 _ _ _
   | exact ih1 _ _ _ _ _ _ _
   | exact ih2 _ _ _ _ _ _ _ _
   | exact ih3 _ _ _ _ _ _ _
   | exact ih4 _ _ _ _ _ _
   | exact ih5 _ _ _ _ _ _ _ _
   | exact align_Code.mono _ _ _
   | exact regcertlaw13_awake.mono _
   | exact LeO.none _
   | refine LeO.ite ?_ ?_
   | refine LeO.bind ?_ (fun _ => ?_)
theorem regcertlaw13_AlignRows.mono : ∀ a0 a1 k, LeO (regcertlaw13_AlignRows.f k a0 a1) (regcertlaw13_AlignRows.f (k + 1) a0 a1) := by
 intro a0 a1 k
 obtain ⟨ih0, ih1, ih2, ih3, ih4, ih5⟩ := regcertlaw13_AlignRows.mono_l k
 unfold regcertlaw13_AlignRows.f
 repeat' first
   | (with_reducible exact ih0 _ _ _)
   | (with_reducible exact ih1 _ _ _ _ _ _ _)
   | (with_reducible exact ih2 _ _ _ _ _ _ _ _)
   | (with_reducible exact ih3 _ _ _ _ _ _ _)
   | (with_reducible exact ih4 _ _ _ _ _ _)
   | (with_reducible exact ih5 _ _ _ _ _ _ _ _)
   | (with_reducible exact align_Code.mono _ _ _)
   | (with_reducible exact regcertlaw13_awake.mono _)
   | (with_reducible exact LeO.refl _)
   | (with_reducible exact LeO.none _)
   | (with_reducible refine LeO.ite ?_ ?_)
   | (with_reducible refine LeO.bind ?_ (fun _ => ?_))
   | exact ih0 _ _ _
   | exact ih1 _ _ _ _ _ _ _
   | exact ih2 _ _ _ _ _ _ _ _
   | exact ih3 _ _ _ _ _ _ _
   | exact ih4 _ _ _ _ _ _
   | exact ih5 _ _ _ _ _ _ _ _
   | exact align_Code.mono _ _ _
   | exact regcertlaw13_awake.mono _
   | exact LeO.none _
   | refine LeO.ite ?_ ?_
   | refine LeO.bind ?_ (fun _ => ?_)
def regcertlaw13_AlignRows.T27 : Bool × List (List Nat × List Nat) := (true, [([], []), ([], []), ([0, 1], [0, 1]), ([2], [2]), ([3], [3]), ([], []), ([4, 5], [4, 5]), ([6], [6]), ([7], [7]), ([7], [7]), ([8, 9, 7], [7, 8, 9]), ([10, 7], [7, 10]), ([11, 7], [7, 11]), ([7], [7]), ([12, 13, 7], [7, 12, 13]), ([7, 14], [7, 14]), ([15, 7], [15]), ([16], [16]), ([16], [16]), ([18, 16], [16, 18]), ([17, 19, 16], [16, 17, 19]), ([16, 20], [16, 20]), ([21, 16], [21]), ([22], [22]), ([22], [22]), ([24, 22], [22, 24]), ([23, 25, 22], [22, 23, 25]), ([22, 26], [22, 26]), ([27, 22], [27]), ([28], [28]), ([28], [28]), ([29, 30, 28], [28, 29, 30]), ([31, 28], [28, 31]), ([28], [28]), ([28], [28]), ([33, 34, 28], [28, 33, 34]), ([35, 28], [28, 35]), ([32, 36, 28, 28], [28, 32, 36]), ([37, 28], [28, 37]), ([28, 38], [28, 38])])
def regcertlaw13_AlignRows.B27 : List Nat := [0, 0, 3, 7, 15, 0, 63, 127, 255, 255, 1023, 2047, 4095, 255, 16383, 32767, 65535, 131071, 131071, 393215, 1048575, 2097151, 4194303, 8388607, 8388607, 25165823, 67108863, 134217727, 268435455, 536870911, 536870911, 2147483647, 4294967295, 536870911, 536870911, 26306674687, 60666413055, 137438953471, 274877906943, 549755813887]
theorem regcertlaw13_AlignRows.tab27 : rtab .any (opsOf Try.f4 27) = regcertlaw13_AlignRows.T27 := by kernel_rfl
theorem regcertlaw13_AlignRows.bits27 : waitsOk regcertlaw13_AlignRows.T27.2 regcertlaw13_AlignRows.B27 = true := by kernel_rfl
set_option maxHeartbeats 8000000 in
set_option maxRecDepth 100000 in
theorem regcertlaw13_AlignRows.calls (k : Nat) (A0 : Option Addr) (c0 : Nat) (l0 : List (S25)) (A1 : Option Addr) (c1 : Nat) (l1 : List (S28)) (r : Bool) (w : World) (hr0 : Kd.C k25 w A0 l0.length l0) (hc0 : l0.length ≤ c0) (hr1 : Kd.C k28 w A1 l1.length l1) (hc1 : l1.length ≤ c1) (h : regcertlaw13_AlignRows.f k l0 l1 = some r) :
  Calls Try.prog 4 #[.slice A0 l0.length c0, .slice A1 l1.length c1] w fun e w' => e = .returned (.bool r) ∧ Below w.heap.size w w' := by
 have hu25 := Try.underlying25
 have hu28 := Try.underlying28
 have HR0 := As0 hr0
 have HC0 := As0 hc0
 clear hr0 hc0
 have HR1 := As0 hr1
 have HC1 := As0 hc1
 clear hr1 hc1
 have HB := As0 (Below.refl w.heap.size w)
 have H : ((regcertlaw13_awake.f k).bind fun t221 => (if t221 = true then (if (l0.length : Int) > 300 then (regcertlaw13_AlignRows.j0 k l0 l1 true) else (regcertlaw13_AlignRows.j0 k l0 l1 (decide ((l1.length : Int) > 300)))) else (regcertlaw13_AlignRows.j0 k l0 l1 true))) = some r := h
 clear h
 have HC3 := As0 H
 clear H
 go_enter Try.func4, Try.ntmps4
 go_upto_region 1 with (fail)
 go_cut [24] (fun v24 wc => ∃ (kq : Nat) (x24_2 : Bool), v24 = .bool x24_2 ∧ Aside0 (regcertlaw13_AlignRows.j0 kq l0 l1 x24_2 = some r) ∧ Aside0 (kq ≤ k) ∧ Aside0 (Below w.heap.size w wc))
 case first => as_aux_lemma =>
  have H := HC3.out
  clear HC3
  replace H := Option.bind_eq_some_iff.mp H
  obtain ⟨t221, A40, H⟩ := H
  replace H : (if t221 = true then (if (l0.length : Int) > 300 then (regcertlaw13_AlignRows.j0 k l0 l1 true) else (regcertlaw13_AlignRows.j0 k l0 l1 (decide ((l1.length : Int) > 300)))) else (regcertlaw13_AlignRows.j0 k l0 l1 true)) = some r := H
  have A4 := As0 A40
  clear A40
  by_cases c5 : t221 = true
  ·subst c5
   have H1 : (if (l0.length : Int) > 300 then (regcertlaw13_AlignRows.j0 k l0 l1 true) else (regcertlaw13_AlignRows.j0 k l0 l1 (decide ((l1.length : Int) > 300)))) = some r := by rw [if_pos rfl] at H; exact H
   clear H
   have H := H1
   clear H1
   by_cases c6 : (l0.length : Int) > 300
   ·rw [if_pos c6] at H
    have c6b0 : decide (300 < (l0.length : Int)) = true := decide_eq_true c6
    have c6b1 : decide (300 < l0.length) = true := decide_eq_true (by omega)
    clear c6
    (first | rw [c6b0] | (simp only [i64_w, i32_w]; rw [c6b0]) | skip)
    have H' := As0 H
    clear H
    go_wp2_with (first | ((with_reducible refine gate_callee (f := 8) rfl ?_); refine goesL_ (some 13) rfl rfl Try.func8 (by kernel_rfl) rfl #[] rfl (by (try simp only [List.map_toArray, List.map_cons, List.map_nil]); first | done | rfl | (simp only [List.length_drop, List.length_take]; rfl)) ?_; (with_reducible refine (regcertlaw13_awake.calls k  true _ A4.out).mono ?_); rintro e w7 ⟨rfl, hb⟩; refine ⟨_, rfl, ?_⟩; have n0_ := As0 (below_step (by repeat (first | (with_reducible first | exact HB.out | apply below_alloc | apply bdN | apply bd1) | exact HB.out)) hb); clear HB; have HB := n0_; clear n0_; (try clear hb); (try clear hb2); (try clear hk); (try clear hi)))
    go_meet
    case rel => exact ⟨_, (true), (by first | rfl | (simp; done) | (simp [*]; done)), H', ⟨by first | omega | exact Nat.le_refl _⟩, ⟨by repeat (first | (with_reducible first | exact HB.out | apply below_alloc | apply bdN | apply bd1) | exact HB.out)⟩⟩
   ·rw [if_neg c6] at H
    have c6b0 : decide (300 < (l0.length : Int)) = false := decide_eq_false c6
    have c6b1 : decide (300 < l0.length) = false := decide_eq_false (by omega)
    clear c6
    (first | rw [c6b0] | (simp only [i64_w, i32_w]; rw [c6b0]) | skip)
    have H' := As0 H
    clear H
    go_wp2_with (first | ((with_reducible refine gate_callee (f := 8) rfl ?_); refine goesL_ (some 13) rfl rfl Try.func8 (by kernel_rfl) rfl #[] rfl (by (try simp only [List.map_toArray, List.map_cons, List.map_nil]); first | done | rfl | (simp only [List.length_drop, List.length_take]; rfl)) ?_; (with_reducible refine (regcertlaw13_awake.calls k  true _ A4.out).mono ?_); rintro e w8 ⟨rfl, hb⟩; refine ⟨_, rfl, ?_⟩; have n0_ := As0 (below_step (by repeat (first | (with_reducible first | exact HB.out | apply below_alloc | apply bdN | apply bd1) | exact HB.out)) hb); clear HB; have HB := n0_; clear n0_; (try clear hb); (try clear hb2); (try clear hk); (try clear hi)))
    go_meet
    case rel => exact ⟨_, (decide ((l1.length : Int) > 300)), (by first | rfl | (simp; done) | (simp [*]; done)), H', ⟨by first | omega | exact Nat.le_refl _⟩, ⟨by repeat (first | (with_reducible first | exact HB.out | apply below_alloc | apply bdN | apply bd1) | exact HB.out)⟩⟩
  ·replace c5 := Bool.eq_false_iff.mpr c5
   subst c5
   have H1 : (regcertlaw13_AlignRows.j0 k l0 l1 true) = some r := by rw [if_neg (show ¬ (false = true) by decide)] at H; exact H
   clear H
   have H := H1
   clear H1
   have H' := As0 H
   clear H
   go_wp2_with (first | ((with_reducible refine gate_callee (f := 8) rfl ?_); refine goesL_ (some 13) rfl rfl Try.func8 (by kernel_rfl) rfl #[] rfl (by (try simp only [List.map_toArray, List.map_cons, List.map_nil]); first | done | rfl | (simp only [List.length_drop, List.length_take]; rfl)) ?_; (with_reducible refine (regcertlaw13_awake.calls k  false _ A4.out).mono ?_); rintro e w9 ⟨rfl, hb⟩; refine ⟨_, rfl, ?_⟩; have n0_ := As0 (below_step (by repeat (first | (with_reducible first | exact HB.out | apply below_alloc | apply bdN | apply bd1) | exact HB.out)) hb); clear HB; have HB := n0_; clear n0_; (try clear hb); (try clear hb2); (try clear hk); (try clear hi)))
   go_meet
   case rel => exact ⟨_, (true), (by first | rfl | (simp; done) | (simp [*]; done)), H', ⟨by first | omega | exact Nat.le_refl _⟩, ⟨by repeat (first | (with_reducible first | exact HB.out | apply below_alloc | apply bdN | apply bd1) | exact HB.out)⟩⟩
 case rest => as_aux_lemma =>
  clear HC3
  try clear c1
  try clear p2
  try clear c4
  try clear c5
  try clear c6
  try clear c6b0
  try clear c6b1
  try clear c8
  obtain ⟨kq, x24_2, rfl, HA, HJ2, HB⟩ := hcut
  cases kq with
  | zero => exact absurd HA.out (by simp [regcertlaw13_AlignRows.j0])
  | succ kj2 =>
   have H := HA.out
   clear HA
   simp only [regcertlaw13_AlignRows.j0] at H
   by_cases c10 : x24_2 = true
   ·subst c10
    have H1 : ((regcertlaw13_awake.f kj2).bind fun t222 => (some t222)) = some r := by rw [if_pos rfl] at H; exact H
    clear H
    have H := H1
    clear H1
    replace H := Option.bind_eq_some_iff.mp H
    obtain ⟨t222, A110, H⟩ := H
    replace H : (some t222) = some r := H
    have A11 := As0 A110
    clear A110
    obtain rfl := Option.some.inj H
    go_wp2_with (first | ((with_reducible refine gate_callee (f := 8) rfl ?_); refine goesL_ (some 25) rfl rfl Try.func8 (by kernel_rfl) rfl #[] rfl (by (try simp only [List.map_toArray, List.map_cons, List.map_nil]); first | done | rfl | (simp only [List.length_drop, List.length_take]; rfl)) ?_; (with_reducible refine (regcertlaw13_awake.calls kj2  t222 _ A11.out).mono ?_); rintro e w12 ⟨rfl, hb⟩; refine ⟨_, rfl, ?_⟩; have n0_ := As0 (below_step (by repeat (first | (with_reducible first | exact HB.out | apply below_alloc | apply bdN | apply bd1) | exact HB.out)) hb); clear HB; have HB := n0_; clear n0_; (try clear hb); (try clear hb2); (try clear hk); (try clear hi)))
    go_ret
    exact ⟨by first | rfl | (simp [errW_none, errW_some] <;> rfl) | (simp [*, errW_none, errW_some] <;> rfl), by repeat (first | (with_reducible first | exact HB.out | apply below_alloc | apply bdN | apply bd1) | exact HB.out)⟩
   ·replace c10 := Bool.eq_false_iff.mpr c10
    subst c10
    have H1 : ((align_Code.f kj2 l0 l1).bind fun bt223 => (if bt223.2.2 = 0 then (regcertlaw13_AlignRows.l0 kj2 l0 l1 bt223.1 bt223.2.1 0 0 0) else (if bt223.2.2 = 20 then (if (bt223.1.length : Int) = 0 then (if bt223.2.1 ≥ 0 then (if bt223.2.1 ≤ (l1.length : Int) then (if bt223.2.1 = (l1.length : Int) then (some true) else (if 0 ≤ bt223.2.1 then (if bt223.2.1 < (l1.length : Int) then (some (((rd_T28 l1 bt223.2.1).f0) != 18)) else (none)) else (none))) else (some false)) else (some false)) else (some false)) else (some false)))) = some r := by rw [if_neg (show ¬ (false = true) by decide)] at H; exact H
    clear H
    have H := H1
    clear H1
    replace H := Option.bind_eq_some_iff.mp H
    obtain ⟨⟨t223, t224, t225⟩, A130, H⟩ := H
    replace H : (if t225 = 0 then (regcertlaw13_AlignRows.l0 kj2 l0 l1 t223 t224 0 0 0) else (if t225 = 20 then (if (t223.length : Int) = 0 then (if t224 ≥ 0 then (if t224 ≤ (l1.length : Int) then (if t224 = (l1.length : Int) then (some true) else (if 0 ≤ t224 then (if t224 < (l1.length : Int) then (some (((rd_T28 l1 t224).f0) != 18)) else (none)) else (none))) else (some false)) else (some false)) else (some false)) else (some false))) = some r := H
    have A13 := As0 A130
    clear A130
    by_cases c14 : t225 = 0
    ·rw [if_pos c14] at H
     have c14b0 : (t225 == 0) = true := beq_iff_eq.mpr c14
     have c14b1 : (t225 != 0) = false := bne_eq_false_iff_eq.mpr c14
     clear c14
     have H' := As0 H
     clear H
     go_wp2_with (first | ((with_reducible refine gate_callee (f := 9) rfl ?_); refine goesL_ (some 29) rfl rfl Try.func9 (by kernel_rfl) rfl #[.slice A0 l0.length c0, .slice A1 l1.length c1] rfl (by (try simp only [List.map_toArray, List.map_cons, List.map_nil]); first | done | rfl | (simp only [List.length_drop, List.length_take]; rfl)) ?_; (with_reducible refine (align_Code.calls kj2 _ _ l0 _ _ l1 t223 t224 t225 _ ?side1 ?side2 ?side3 ?side4 A13.out).mono ?_); (case side1 => repeat (first | exact (Kd.C_below HR0.out HB.out) | (with_reducible refine Kd.C_alloc ?_ _) | (with_reducible refine Kd.C_drewN ?_ _) | (with_reducible refine Kd.C_drew ?_))); (case side2 => exact HC0.out); (case side3 => repeat (first | exact (Kd.C_below HR1.out HB.out) | (with_reducible refine Kd.C_alloc ?_ _) | (with_reducible refine Kd.C_drewN ?_ _) | (with_reducible refine Kd.C_drew ?_))); (case side4 => exact HC1.out); rintro e w15 ⟨v226, rfl, ho0, hb⟩; refine ⟨_, rfl, ?_⟩; have n0_ := As0 (Kd.R_lower ho0 (below_size (by repeat (first | (with_reducible first | exact HB.out | apply below_alloc | apply bdN | apply bd1) | exact HB.out)))); have n1_ := As0 (below_step (by repeat (first | (with_reducible first | exact HB.out | apply below_alloc | apply bdN | apply bd1) | exact HB.out)) hb); clear HB; have HO227 := n0_; have HB := n1_; clear n0_ n1_; (try clear hb); (try clear hb2); (try clear hk); (try clear hi); (try clear ho0)))
     go_loopg [8, 9, 10] kj2 (fun kq v8 v9 v10 w' => ∃ (x8_2 : Int) (x9_2 : Int) (x10_2 : Int), v8 = .int .i64 x8_2 ∧ v9 = .int .i64 x9_2 ∧ v10 = .int .i64 x10_2 ∧ Aside0 (regcertlaw13_AlignRows.l0 kq l0 l1 t223 t224 x8_2 x9_2 x10_2 = some r) ∧ Aside0 (kq ≤ kj2) ∧ Aside0 (Kd.R k45 45 w' w.heap.size (fun _ => True) v226 t223) ∧ Aside0 (Below w.heap.size w w'))
     case atStart => exact ⟨(0), (0), (0), (by first | rfl | (simp; done) | (simp [*]; done)), (by first | rfl | (simp; done) | (simp [*]; done)), (by first | rfl | (simp; done) | (simp [*]; done)), H', ⟨Nat.le_refl _⟩, ⟨by (with_reducible repeat (first | apply Kd.R_alloc | apply Kd.R_drewN | apply Kd.R_drew)); exact HO227.out⟩, ⟨by repeat (first | (with_reducible first | exact HB.out | apply below_alloc | apply bdN | apply bd1) | exact HB.out)⟩⟩
     case round => as_aux_lemma =>
      clear H'
      try clear c1
      try clear p2
      try clear c4
      try clear c5
      try clear c6
      try clear c6b0
      try clear c6b1
      try clear c8
      try clear c9
      try clear c10
      try clear c14
      try clear c14b0
      try clear c14b1
      try clear p2
      obtain ⟨x8_2, x9_2, x10_2, rfl, rfl, rfl, HA, HK2, HO_5, HB⟩ := hrel
      cases gk with
      | zero => exact absurd HA.out (by simp [regcertlaw13_AlignRows.l0])
      | succ k2 =>
       have H := HA.out
       clear HA
       simp only [regcertlaw13_AlignRows.l0] at H
       by_cases c16 : x10_2 < (t223.length : Int)
       ·rw [if_pos c16] at H
        have c16b0 : decide (x10_2 < (t223.length : Int)) = true := decide_eq_true c16
        clear c16
        have HC17 := As0 H
        clear H
        obtain ⟨Ao18, co18, eo18⟩ := Kd.R_slice HO_5.out
        subst eo18
        go_upto_region 11 with (fail)
        go_cut [125] (fun v125 wc => ∃ (kq : Nat) (x125_16 : Bool), v125 = .bool x125_16 ∧ Aside0 (regcertlaw13_AlignRows.j2 kq l0 l1 t223 t224 x8_2 x9_2 x10_2 x125_16 = some r) ∧ Aside0 (kq ≤ k2) ∧ Aside0 (Kd.R k45 45 wc w.heap.size (fun _ => True) (.slice Ao18 t223.length co18) t223) ∧ Aside0 (Below w.heap.size w wc))
        case first => as_aux_lemma =>
         have H := HC17.out
         clear HC17
         by_cases c19 : 0 ≤ x10_2
         ·as_aux_lemma =>
           rw [if_pos c19] at H
           have c19b0 : decide (0 ≤ x10_2) = true := decide_eq_true c19
           clear c19
           (first | rw [c19b0] | (simp only [i64_w, i32_w]; rw [c19b0]) | skip)
           by_cases c20 : ((rd_T45 t223 x10_2).f0) = x8_2
           ·rw [if_pos c20] at H
            have c20b0 : (((rd_T45 t223 x10_2).f0) == x8_2) = true := beq_iff_eq.mpr c20
            have c20b1 : (((rd_T45 t223 x10_2).f0) != x8_2) = false := bne_eq_false_iff_eq.mpr c20
            clear c20
            by_cases c21 : ((rd_T45 t223 x10_2).f2) = x9_2
            ·rw [if_pos c21] at H
             have c21b0 : (((rd_T45 t223 x10_2).f2) == x9_2) = true := beq_iff_eq.mpr c21
             have c21b1 : (((rd_T45 t223 x10_2).f2) != x9_2) = false := bne_eq_false_iff_eq.mpr c21
             clear c21
             by_cases c22 : ((rd_T45 t223 x10_2).f1) < x8_2
             ·rw [if_pos c22] at H
              have c22b0 : decide (((rd_T45 t223 x10_2).f1) < x8_2) = true := decide_eq_true c22
              clear c22
              have H' := As0 H
              clear H
              have p229 : 0 ≤ (x10_2 : Int) := of_decide_eq_true (by first | (with_reducible assumption) | assumption)
              have q229 : x10_2 < (t223.length : Int) := of_decide_eq_true (by first | (with_reducible assumption) | assumption)
              obtain ⟨ad229, e229, hx229_0, hx229_1, hx229_2, hx229_3, hx229_4, hx229_5⟩ := at_T45 (Kd.R_reads' HO_5.out).2.2 x10_2 p229 q229
              cases e229
              replace p229 := eq_true p229
              replace q229 := eq_true q229
              have p230 : 0 ≤ (x10_2 : Int) := of_decide_eq_true (by first | (with_reducible assumption) | assumption)
              have q230 : x10_2 < (t223.length : Int) := of_decide_eq_true (by first | (with_reducible assumption) | assumption)
              obtain ⟨ad230, e230, hx230_0, hx230_1, hx230_2, hx230_3, hx230_4, hx230_5⟩ := at_T45 (Kd.R_reads' HO_5.out).2.2 x10_2 p230 q230
              obtain rfl : ad229 = ad230 := (by injection e230)
              replace p230 := eq_true p230
              replace q230 := eq_true q230
              have p231 : 0 ≤ (x10_2 : Int) := of_decide_eq_true (by first | (with_reducible assumption) | assumption)
              have q231 : x10_2 < (t223.length : Int) := of_decide_eq_true (by first | (with_reducible assumption) | assumption)
              obtain ⟨ad231, e231, hx231_0, hx231_1, hx231_2, hx231_3, hx231_4, hx231_5⟩ := at_T45 (Kd.R_reads' HO_5.out).2.2 x10_2 p231 q231
              obtain rfl : ad229 = ad231 := (by injection e231)
              replace p231 := eq_true p231
              replace q231 := eq_true q231
              go_wp2
              go_meet
              case rel => exact ⟨_, (true), (by first | rfl | (simp; done) | (simp [*]; done)), H', ⟨by have := HJ2.out; have := HK2.out; first | omega | exact Nat.le_refl _⟩, ⟨by (with_reducible repeat (first | apply Kd.R_alloc | apply Kd.R_drewN | apply Kd.R_drew)); exact HO_5.out⟩, ⟨by repeat (first | (with_reducible first | exact HB.out | apply below_alloc | apply bdN | apply bd1) | exact HB.out)⟩⟩
             ·rw [if_neg c22] at H
              have c22b0 : decide (((rd_T45 t223 x10_2).f1) < x8_2) = false := decide_eq_false c22
              clear c22
              by_cases c23 : ((rd_T45 t223 x10_2).f3) < x9_2
              ·rw [if_pos c23] at H
               have c23b0 : decide (((rd_T45 t223 x10_2).f3) < x9_2) = true := decide_eq_true c23
               clear c23
               have H' := As0 H
               clear H
               have p229 : 0 ≤ (x10_2 : Int) := of_decide_eq_true (by first | (with_reducible assumption) | assumption)
               have q229 : x10_2 < (t223.length : Int) := of_decide_eq_true (by first | (with_reducible assumption) | assumption)
               obtain ⟨ad229, e229, hx229_0, hx229_1, hx229_2, hx229_3, hx229_4, hx229_5⟩ := at_T45 (Kd.R_reads' HO_5.out).2.2 x10_2 p229 q229
               cases e229
               replace p229 := eq_true p229
               replace q229 := eq_true q229
               have p230 : 0 ≤ (x10_2 : Int) := of_decide_eq_true (by first | (with_reducible assumption) | assumption)
               have q230 : x10_2 < (t223.length : Int) := of_decide_eq_true (by first | (with_reducible assumption) | assumption)
               obtain ⟨ad230, e230, hx230_0, hx230_1, hx230_2, hx230_3, hx230_4, hx230_5⟩ := at_T45 (Kd.R_reads' HO_5.out).2.2 x10_2 p230 q230
               obtain rfl : ad229 = ad230 := (by injection e230)
               replace p230 := eq_true p230
               replace q230 := eq_true q230
               have p231 : 0 ≤ (x10_2 : Int) := of_decide_eq_true (by first | (with_reducible assumption) | assumption)
               have q231 : x10_2 < (t223.length : Int) := of_decide_eq_true (by first | (with_reducible assumption) | assumption)
               obtain ⟨ad231, e231, hx231_0, hx231_1, hx231_2, hx231_3, hx231_4, hx231_5⟩ := at_T45 (Kd.R_reads' HO_5.out).2.2 x10_2 p231 q231
               obtain rfl : ad229 = ad231 := (by injection e231)
               replace p231 := eq_true p231
               replace q231 := eq_true q231
               have p232 : 0 ≤ (x10_2 : Int) := of_decide_eq_true (by first | (with_reducible assumption) | assumption)
               have q232 : x10_2 < (t223.length : Int) := of_decide_eq_true (by first | (with_reducible assumption) | assumption)
               obtain ⟨ad232, e232, hx232_0, hx232_1, hx232_2, hx232_3, hx232_4, hx232_5⟩ := at_T45 (Kd.R_reads' HO_5.out).2.2 x10_2 p232 q232
               obtain rfl : ad229 = ad232 := (by injection e232)
               replace p232 := eq_true p232
               replace q232 := eq_true q232
               go_wp2
               go_meet
               case rel => exact ⟨_, (true), (by first | rfl | (simp; done) | (simp [*]; done)), H', ⟨by have := HJ2.out; have := HK2.out; first | omega | exact Nat.le_refl _⟩, ⟨by (with_reducible repeat (first | apply Kd.R_alloc | apply Kd.R_drewN | apply Kd.R_drew)); exact HO_5.out⟩, ⟨by repeat (first | (with_reducible first | exact HB.out | apply below_alloc | apply bdN | apply bd1) | exact HB.out)⟩⟩
              ·rw [if_neg c23] at H
               have c23b0 : decide (((rd_T45 t223 x10_2).f3) < x9_2) = false := decide_eq_false c23
               clear c23
               by_cases c24 : ((rd_T45 t223 x10_2).f1) > (l0.length : Int)
               ·rw [if_pos c24] at H
                have c24b0 : decide ((l0.length : Int) < ((rd_T45 t223 x10_2).f1)) = true := decide_eq_true c24
                clear c24
                have H' := As0 H
                clear H
                have p229 : 0 ≤ (x10_2 : Int) := of_decide_eq_true (by first | (with_reducible assumption) | assumption)
                have q229 : x10_2 < (t223.length : Int) := of_decide_eq_true (by first | (with_reducible assumption) | assumption)
                obtain ⟨ad229, e229, hx229_0, hx229_1, hx229_2, hx229_3, hx229_4, hx229_5⟩ := at_T45 (Kd.R_reads' HO_5.out).2.2 x10_2 p229 q229
                cases e229
                replace p229 := eq_true p229
                replace q229 := eq_true q229
                have p230 : 0 ≤ (x10_2 : Int) := of_decide_eq_true (by first | (with_reducible assumption) | assumption)
                have q230 : x10_2 < (t223.length : Int) := of_decide_eq_true (by first | (with_reducible assumption) | assumption)
                obtain ⟨ad230, e230, hx230_0, hx230_1, hx230_2, hx230_3, hx230_4, hx230_5⟩ := at_T45 (Kd.R_reads' HO_5.out).2.2 x10_2 p230 q230
                obtain rfl : ad229 = ad230 := (by injection e230)
                replace p230 := eq_true p230
                replace q230 := eq_true q230
                have p231 : 0 ≤ (x10_2 : Int) := of_decide_eq_true (by first | (with_reducible assumption) | assumption)
                have q231 : x10_2 < (t223.length : Int) := of_decide_eq_true (by first | (with_reducible assumption) | assumption)
                obtain ⟨ad231, e231, hx231_0, hx231_1, hx231_2, hx231_3, hx231_4, hx231_5⟩ := at_T45 (Kd.R_reads' HO_5.out).2.2 x10_2 p231 q231
                obtain rfl : ad229 = ad231 := (by injection e231)
                replace p231 := eq_true p231
                replace q231 := eq_true q231
                have p232 : 0 ≤ (x10_2 : Int) := of_decide_eq_true (by first | (with_reducible assumption) | assumption)
                have q232 : x10_2 < (t223.length : Int) := of_decide_eq_true (by first | (with_reducible assumption) | assumption)
                obtain ⟨ad232, e232, hx232_0, hx232_1, hx232_2, hx232_3, hx232_4, hx232_5⟩ := at_T45 (Kd.R_reads' HO_5.out).2.2 x10_2 p232 q232
                obtain rfl : ad229 = ad232 := (by injection e232)
                replace p232 := eq_true p232
                replace q232 := eq_true q232
                have p233 : 0 ≤ (x10_2 : Int) := of_decide_eq_true (by first | (with_reducible assumption) | assumption)
                have q233 : x10_2 < (t223.length : Int) := of_decide_eq_true (by first | (with_reducible assumption) | assumption)
                obtain ⟨ad233, e233, hx233_0, hx233_1, hx233_2, hx233_3, hx233_4, hx233_5⟩ := at_T45 (Kd.R_reads' HO_5.out).2.2 x10_2 p233 q233
                obtain rfl : ad229 = ad233 := (by injection e233)
                replace p233 := eq_true p233
                replace q233 := eq_true q233
                go_wp2
                go_meet
                case rel => exact ⟨_, (true), (by first | rfl | (simp; done) | (simp [*]; done)), H', ⟨by have := HJ2.out; have := HK2.out; first | omega | exact Nat.le_refl _⟩, ⟨by (with_reducible repeat (first | apply Kd.R_alloc | apply Kd.R_drewN | apply Kd.R_drew)); exact HO_5.out⟩, ⟨by repeat (first | (with_reducible first | exact HB.out | apply below_alloc | apply bdN | apply bd1) | exact HB.out)⟩⟩
               ·rw [if_neg c24] at H
                have c24b0 : decide ((l0.length : Int) < ((rd_T45 t223 x10_2).f1)) = false := decide_eq_false c24
                clear c24
                have H' := As0 H
                clear H
                have p229 : 0 ≤ (x10_2 : Int) := of_decide_eq_true (by first | (with_reducible assumption) | assumption)
                have q229 : x10_2 < (t223.length : Int) := of_decide_eq_true (by first | (with_reducible assumption) | assumption)
                obtain ⟨ad229, e229, hx229_0, hx229_1, hx229_2, hx229_3, hx229_4, hx229_5⟩ := at_T45 (Kd.R_reads' HO_5.out).2.2 x10_2 p229 q229
                cases e229
                replace p229 := eq_true p229
                replace q229 := eq_true q229
                have p230 : 0 ≤ (x10_2 : Int) := of_decide_eq_true (by first | (with_reducible assumption) | assumption)
                have q230 : x10_2 < (t223.length : Int) := of_decide_eq_true (by first | (with_reducible assumption) | assumption)
                obtain ⟨ad230, e230, hx230_0, hx230_1, hx230_2, hx230_3, hx230_4, hx230_5⟩ := at_T45 (Kd.R_reads' HO_5.out).2.2 x10_2 p230 q230
                obtain rfl : ad229 = ad230 := (by injection e230)
                replace p230 := eq_true p230
                replace q230 := eq_true q230
                have p231 : 0 ≤ (x10_2 : Int) := of_decide_eq_true (by first | (with_reducible assumption) | assumption)
                have q231 : x10_2 < (t223.length : Int) := of_decide_eq_true (by first | (with_reducible assumption) | assumption)
                obtain ⟨ad231, e231, hx231_0, hx231_1, hx231_2, hx231_3, hx231_4, hx231_5⟩ := at_T45 (Kd.R_reads' HO_5.out).2.2 x10_2 p231 q231
                obtain rfl : ad229 = ad231 := (by injection e231)
                replace p231 := eq_true p231
                replace q231 := eq_true q231
                have p232 : 0 ≤ (x10_2 : Int) := of_decide_eq_true (by first | (with_reducible assumption) | assumption)
                have q232 : x10_2 < (t223.length : Int) := of_decide_eq_true (by first | (with_reducible assumption) | assumption)
                obtain ⟨ad232, e232, hx232_0, hx232_1, hx232_2, hx232_3, hx232_4, hx232_5⟩ := at_T45 (Kd.R_reads' HO_5.out).2.2 x10_2 p232 q232
                obtain rfl : ad229 = ad232 := (by injection e232)
                replace p232 := eq_true p232
                replace q232 := eq_true q232
                have p233 : 0 ≤ (x10_2 : Int) := of_decide_eq_true (by first | (with_reducible assumption) | assumption)
                have q233 : x10_2 < (t223.length : Int) := of_decide_eq_true (by first | (with_reducible assumption) | assumption)
                obtain ⟨ad233, e233, hx233_0, hx233_1, hx233_2, hx233_3, hx233_4, hx233_5⟩ := at_T45 (Kd.R_reads' HO_5.out).2.2 x10_2 p233 q233
                obtain rfl : ad229 = ad233 := (by injection e233)
                replace p233 := eq_true p233
                replace q233 := eq_true q233
                have p234 : 0 ≤ (x10_2 : Int) := of_decide_eq_true (by first | (with_reducible assumption) | assumption)
                have q234 : x10_2 < (t223.length : Int) := of_decide_eq_true (by first | (with_reducible assumption) | assumption)
                obtain ⟨ad234, e234, hx234_0, hx234_1, hx234_2, hx234_3, hx234_4, hx234_5⟩ := at_T45 (Kd.R_reads' HO_5.out).2.2 x10_2 p234 q234
                obtain rfl : ad229 = ad234 := (by injection e234)
                replace p234 := eq_true p234
                replace q234 := eq_true q234
                go_wp2
                go_meet
                case rel => exact ⟨_, (decide (((rd_T45 t223 x10_2).f3) > (l1.length : Int))), (by first | rfl | (simp; done) | (simp [*]; done)), H', ⟨by have := HJ2.out; have := HK2.out; first | omega | exact Nat.le_refl _⟩, ⟨by (with_reducible repeat (first | apply Kd.R_alloc | apply Kd.R_drewN | apply Kd.R_drew)); exact HO_5.out⟩, ⟨by repeat (first | (with_reducible first | exact HB.out | apply below_alloc | apply bdN | apply bd1) | exact HB.out)⟩⟩
            ·rw [if_neg c21] at H
             have c21b0 : (((rd_T45 t223 x10_2).f2) == x9_2) = false := beq_eq_false_iff_ne.mpr c21
             have c21b1 : (((rd_T45 t223 x10_2).f2) != x9_2) = true := bne_iff_ne.mpr c21
             have H' := As0 H
             clear H
             have p229 : 0 ≤ (x10_2 : Int) := of_decide_eq_true (by first | (with_reducible assumption) | assumption)
             have q229 : x10_2 < (t223.length : Int) := of_decide_eq_true (by first | (with_reducible assumption) | assumption)
             obtain ⟨ad229, e229, hx229_0, hx229_1, hx229_2, hx229_3, hx229_4, hx229_5⟩ := at_T45 (Kd.R_reads' HO_5.out).2.2 x10_2 p229 q229
             cases e229
             replace p229 := eq_true p229
             replace q229 := eq_true q229
             have p230 : 0 ≤ (x10_2 : Int) := of_decide_eq_true (by first | (with_reducible assumption) | assumption)
             have q230 : x10_2 < (t223.length : Int) := of_decide_eq_true (by first | (with_reducible assumption) | assumption)
             obtain ⟨ad230, e230, hx230_0, hx230_1, hx230_2, hx230_3, hx230_4, hx230_5⟩ := at_T45 (Kd.R_reads' HO_5.out).2.2 x10_2 p230 q230
             obtain rfl : ad229 = ad230 := (by injection e230)
             replace p230 := eq_true p230
             replace q230 := eq_true q230
             go_wp2
             go_meet
             case rel => exact ⟨_, (true), (by first | rfl | (simp; done) | (simp [*]; done)), H', ⟨by have := HJ2.out; have := HK2.out; first | omega | exact Nat.le_refl _⟩, ⟨by (with_reducible repeat (first | apply Kd.R_alloc | apply Kd.R_drewN | apply Kd.R_drew)); exact HO_5.out⟩, ⟨by repeat (first | (with_reducible first | exact HB.out | apply below_alloc | apply bdN | apply bd1) | exact HB.out)⟩⟩
           ·rw [if_neg c20] at H
            have c20b0 : (((rd_T45 t223 x10_2).f0) == x8_2) = false := beq_eq_false_iff_ne.mpr c20
            have c20b1 : (((rd_T45 t223 x10_2).f0) != x8_2) = true := bne_iff_ne.mpr c20
            have H' := As0 H
            clear H
            have p229 : 0 ≤ (x10_2 : Int) := of_decide_eq_true (by first | (with_reducible assumption) | assumption)
            have q229 : x10_2 < (t223.length : Int) := of_decide_eq_true (by first | (with_reducible assumption) | assumption)
            obtain ⟨ad229, e229, hx229_0, hx229_1, hx229_2, hx229_3, hx229_4, hx229_5⟩ := at_T45 (Kd.R_reads' HO_5.out).2.2 x10_2 p229 q229
            cases e229
            replace p229 := eq_true p229
            replace q229 := eq_true q229
            go_wp2
            go_meet
            case rel => exact ⟨_, (true), (by first | rfl | (simp; done) | (simp [*]; done)), H', ⟨by have := HJ2.out; have := HK2.out; first | omega | exact Nat.le_refl _⟩, ⟨by (with_reducible repeat (first | apply Kd.R_alloc | apply Kd.R_drewN | apply Kd.R_drew)); exact HO_5.out⟩, ⟨by repeat (first | (with_reducible first | exact HB.out | apply below_alloc | apply bdN | apply bd1) | exact HB.out)⟩⟩
         ·rw [if_neg c19] at H
          exact absurd H (by simp)
        case rest => as_aux_lemma =>
         clear HC17
         try clear c1
         try clear c2
         try clear p2
         try clear q2
         try clear hx2
         try clear c4
         try clear c5
         try clear c6
         try clear c6b0
         try clear c6b1
         try clear c8
         try clear c9
         try clear c10
         try clear c14
         try clear c14b0
         try clear c14b1
         try clear c16
         try clear c16b0
         try clear c19
         try clear c19b0
         try clear c20
         try clear c20b0
         try clear c20b1
         try clear c21
         try clear c21b0
         try clear c21b1
         try clear c22
         try clear c22b0
         try clear p22
         try clear q22
         try clear hx22
         try clear c23
         try clear c23b0
         try clear p23
         try clear q23
         try clear hx23
         try clear c24
         try clear c24b0
         try clear hx229_0
         try clear hx229_1
         try clear hx229_2
         try clear hx229_3
         try clear hx229_4
         try clear hx229_5
         try clear hx230_0
         try clear hx230_1
         try clear hx230_2
         try clear hx230_3
         try clear hx230_4
         try clear hx230_5
         try clear hx231_0
         try clear hx231_1
         try clear hx231_2
         try clear hx231_3
         try clear hx231_4
         try clear hx231_5
         try clear hx232_0
         try clear hx232_1
         try clear hx232_2
         try clear hx232_3
         try clear hx232_4
         try clear hx232_5
         try clear hx233_0
         try clear hx233_1
         try clear hx233_2
         try clear hx233_3
         try clear hx233_4
         try clear hx233_5
         try clear hx234_0
         try clear hx234_1
         try clear hx234_2
         try clear hx234_3
         try clear hx234_4
         try clear hx234_5
         try clear p2
         try clear p229
         try clear p230
         try clear p231
         try clear p232
         try clear p233
         try clear p234
         try clear q229
         try clear q230
         try clear q231
         try clear q232
         try clear q233
         try clear q234
         obtain ⟨kq, x125_16, rfl, HA, HJ16, HO_5, HB⟩ := hcut
         cases kq with
         | zero => exact absurd HA.out (by simp [regcertlaw13_AlignRows.j2])
         | succ kj16 =>
          have H := HA.out
          clear HA
          simp only [regcertlaw13_AlignRows.j2] at H
          by_cases c25 : x125_16 = true
          ·subst c25
           have H1 : (some false) = some r := by rw [if_pos rfl] at H; exact H
           clear H
           have H := H1
           clear H1
           obtain rfl := Option.some.inj H
           go_wp2
           go_ret
           exact ⟨by first | rfl | (simp [errW_none, errW_some] <;> rfl) | (simp [*, errW_none, errW_some] <;> rfl), by repeat (first | (with_reducible first | exact HB.out | apply below_alloc | apply bdN | apply bd1) | exact HB.out)⟩
          ·replace c25 := Bool.eq_false_iff.mpr c25
           subst c25
           have H1 : (regcertlaw13_AlignRows.l1 kj16 l0 l1 t223 t224 x9_2 x10_2 x8_2) = some r := by rw [if_neg (show ¬ (false = true) by decide)] at H; exact H
           clear H
           have H := H1
           clear H1
           have H' := As0 H
           clear H
           go_wp2
           go_loopg [11] kj16 (fun kq v11 w' => ∃ (x11_4 : Int), v11 = .int .i64 x11_4 ∧ Aside0 (regcertlaw13_AlignRows.l1 kq l0 l1 t223 t224 x9_2 x10_2 x11_4 = some r) ∧ Aside0 (kq ≤ kj16) ∧ Aside0 (Kd.R k45 45 w' w.heap.size (fun _ => True) (.slice Ao18 t223.length co18) t223) ∧ Aside0 (Below w.heap.size w w'))
           case atStart => exact ⟨(x8_2), (by first | rfl | (simp; done) | (simp [*]; done)), H', ⟨Nat.le_refl _⟩, ⟨by (with_reducible repeat (first | apply Kd.R_alloc | apply Kd.R_drewN | apply Kd.R_drew)); exact HO_5.out⟩, ⟨by repeat (first | (with_reducible first | exact HB.out | apply below_alloc | apply bdN | apply bd1) | exact HB.out)⟩⟩
           case round => as_aux_lemma =>
            clear H'
            try clear c1
            try clear c2
            try clear p2
            try clear q2
            try clear hx2
            try clear c4
            try clear c5
            try clear c6
            try clear c6b0
            try clear c6b1
            try clear c8
            try clear c9
            try clear c10
            try clear c14
            try clear c14b0
            try clear c14b1
            try clear c16
            try clear c16b0
            try clear c19
            try clear c19b0
            try clear c20
            try clear c20b0
            try clear c20b1
            try clear c21
            try clear c21b0
            try clear c21b1
            try clear c22
            try clear c22b0
            try clear p22
            try clear q22
            try clear hx22
            try clear c23
            try clear c23b0
            try clear p23
            try clear q23
            try clear hx23
            try clear c24
            try clear c24b0
            try clear c25
            try clear hx229_0
            try clear hx229_1
            try clear hx229_2
            try clear hx229_3
            try clear hx229_4
            try clear hx229_5
            try clear hx230_0
            try clear hx230_1
            try clear hx230_2
            try clear hx230_3
            try clear hx230_4
            try clear hx230_5
            try clear hx231_0
            try clear hx231_1
            try clear hx231_2
            try clear hx231_3
            try clear hx231_4
            try clear hx231_5
            try clear hx232_0
            try clear hx232_1
            try clear hx232_2
            try clear hx232_3
            try clear hx232_4
            try clear hx232_5
            try clear hx233_0
            try clear hx233_1
            try clear hx233_2
            try clear hx233_3
            try clear hx233_4
            try clear hx233_5
            try clear hx234_0
            try clear hx234_1
            try clear hx234_2
            try clear hx234_3
            try clear hx234_4
            try clear hx234_5
            try clear p2
            try clear p22
            try clear p229
            try clear p23
            try clear p230
            try clear p231
            try clear p232
            try clear p233
            try clear p234
            try clear q2
            try clear q22
            try clear q229
            try clear q23
            try clear q230
            try clear q231
            try clear q232
            try clear q233
            try clear q234
            obtain ⟨x11_4, rfl, HA, HK4, HO_5, HB⟩ := hrel
            cases gk with
            | zero => exact absurd HA.out (by simp [regcertlaw13_AlignRows.l1])
            | succ k4 =>
             have H := HA.out
             clear HA
             simp only [regcertlaw13_AlignRows.l1] at H
             by_cases c26 : 0 ≤ x10_2
             ·rw [if_pos c26] at H
              have c26b0 : decide (0 ≤ x10_2) = true := decide_eq_true c26
              clear c26
              by_cases c27 : x10_2 < (t223.length : Int)
              ·rw [if_pos c27] at H
               have c27b0 : decide (x10_2 < (t223.length : Int)) = true := decide_eq_true c27
               clear c27
               by_cases c28 : x11_4 < ((rd_T45 t223 x10_2).f1)
               ·as_aux_lemma =>
                 rw [if_pos c28] at H
                 have c28b0 : decide (x11_4 < ((rd_T45 t223 x10_2).f1)) = true := decide_eq_true c28
                 clear c28
                 by_cases c29 : 0 ≤ x11_4
                 ·rw [if_pos c29] at H
                  have c29b0 : decide (0 ≤ x11_4) = true := decide_eq_true c29
                  clear c29
                  by_cases c30 : x11_4 < (l0.length : Int)
                  ·rw [if_pos c30] at H
                   have c30b0 : decide (x11_4 < (l0.length : Int)) = true := decide_eq_true c30
                   clear c30
                   by_cases c31 : ((rd_T25 l0 x11_4).f0) = 2
                   ·rw [if_pos c31] at H
                    have c31b0 : (((rd_T25 l0 x11_4).f0) == 2) = true := beq_iff_eq.mpr c31
                    have c31b1 : (((rd_T25 l0 x11_4).f0) != 2) = false := bne_eq_false_iff_eq.mpr c31
                    clear c31
                    have H' := As0 H
                    clear H
                    have p235 : 0 ≤ (x10_2 : Int) := of_decide_eq_true (by first | (with_reducible assumption) | assumption)
                    have q235 : x10_2 < (t223.length : Int) := of_decide_eq_true (by first | (with_reducible assumption) | assumption)
                    obtain ⟨ad235, e235, hx235_0, hx235_1, hx235_2, hx235_3, hx235_4, hx235_5⟩ := at_T45 (Kd.R_reads' HO_5.out).2.2 x10_2 p235 q235
                    cases e235
                    replace p235 := eq_true p235
                    replace q235 := eq_true q235
                    have p236 : 0 ≤ (x11_4 : Int) := of_decide_eq_true (by first | (with_reducible assumption) | assumption)
                    have q236 : x11_4 < (l0.length : Int) := of_decide_eq_true (by first | (with_reducible assumption) | assumption)
                    obtain ⟨ad236, e236, hx236_0, hx236_1, hx236_2, hx236_3, hx236_4⟩ := at_T25 HR0.out x11_4 p236 q236
                    cases e236
                    replace hx236_0 := (HB.out.cell (wblt w hx236_0)).trans hx236_0
                    replace hx236_1 := (HB.out.cell (wblt w hx236_1)).trans hx236_1
                    replace hx236_2 := (HB.out.cell (wblt w hx236_2)).trans hx236_2
                    replace hx236_3 := (HB.out.cell (wblt w hx236_3)).trans hx236_3
                    replace hx236_4 := (HB.out.cell (wblt w hx236_4)).trans hx236_4
                    replace p236 := eq_true p236
                    replace q236 := eq_true q236
                    go_wp2
                    go_roundg k4
                    case measure => have := HJ2.out; have := HK2.out; have := HJ16.out; have := HK4.out; omega
                    case rel => exact ⟨(wrap64 (x11_4 + 1)), (by first | rfl | (simp; done) | (simp [*]; done)), H', ⟨by have := HJ2.out; have := HK2.out; have := HJ16.out; have := HK4.out; omega⟩, ⟨by (with_reducible repeat (first | apply Kd.R_alloc | apply Kd.R_drewN | apply Kd.R_drew)); exact HO_5.out⟩, ⟨by repeat (first | (with_reducible first | exact HB.out | apply below_alloc | apply bdN | apply bd1) | exact HB.out)⟩⟩
                   ·rw [if_neg c31] at H
                    have c31b0 : (((rd_T25 l0 x11_4).f0) == 2) = false := beq_eq_false_iff_ne.mpr c31
                    have c31b1 : (((rd_T25 l0 x11_4).f0) != 2) = true := bne_iff_ne.mpr c31
                    obtain rfl := Option.some.inj H
                    have p235 : 0 ≤ (x10_2 : Int) := of_decide_eq_true (by first | (with_reducible assumption) | assumption)
                    have q235 : x10_2 < (t223.length : Int) := of_decide_eq_true (by first | (with_reducible assumption) | assumption)
                    obtain ⟨ad235, e235, hx235_0, hx235_1, hx235_2, hx235_3, hx235_4, hx235_5⟩ := at_T45 (Kd.R_reads' HO_5.out).2.2 x10_2 p235 q235
                    cases e235
                    replace p235 := eq_true p235
                    replace q235 := eq_true q235
                    have p236 : 0 ≤ (x11_4 : Int) := of_decide_eq_true (by first | (with_reducible assumption) | assumption)
                    have q236 : x11_4 < (l0.length : Int) := of_decide_eq_true (by first | (with_reducible assumption) | assumption)
                    obtain ⟨ad236, e236, hx236_0, hx236_1, hx236_2, hx236_3, hx236_4⟩ := at_T25 HR0.out x11_4 p236 q236
                    cases e236
                    replace hx236_0 := (HB.out.cell (wblt w hx236_0)).trans hx236_0
                    replace hx236_1 := (HB.out.cell (wblt w hx236_1)).trans hx236_1
                    replace hx236_2 := (HB.out.cell (wblt w hx236_2)).trans hx236_2
                    replace hx236_3 := (HB.out.cell (wblt w hx236_3)).trans hx236_3
                    replace hx236_4 := (HB.out.cell (wblt w hx236_4)).trans hx236_4
                    replace p236 := eq_true p236
                    replace q236 := eq_true q236
                    go_wp2
                    go_ret
                    exact ⟨by first | rfl | (simp [errW_none, errW_some] <;> rfl) | (simp [*, errW_none, errW_some] <;> rfl), by repeat (first | (with_reducible first | exact HB.out | apply below_alloc | apply bdN | apply bd1) | exact HB.out)⟩
                  ·rw [if_neg c30] at H
                   exact absurd H (by simp)
                 ·rw [if_neg c29] at H
                  exact absurd H (by simp)
               ·rw [if_neg c28] at H
                have c28b0 : decide (x11_4 < ((rd_T45 t223 x10_2).f1)) = false := decide_eq_false c28
                clear c28
                have H' := As0 H
                clear H
                have p235 : 0 ≤ (x10_2 : Int) := of_decide_eq_true (by first | (with_reducible assumption) | assumption)
                have q235 : x10_2 < (t223.length : Int) := of_decide_eq_true (by first | (with_reducible assumption) | assumption)
                obtain ⟨ad235, e235, hx235_0, hx235_1, hx235_2, hx235_3, hx235_4, hx235_5⟩ := at_T45 (Kd.R_reads' HO_5.out).2.2 x10_2 p235 q235
                cases e235
                replace p235 := eq_true p235
                replace q235 := eq_true q235
                go_wp2
                go_loopg [12] k4 (fun kq v12 w' => ∃ (x12_5 : Int), v12 = .int .i64 x12_5 ∧ Aside0 (regcertlaw13_AlignRows.l2 kq l0 l1 t223 t224 x10_2 x12_5 = some r) ∧ Aside0 (kq ≤ k4) ∧ Aside0 (Kd.R k45 45 w' w.heap.size (fun _ => True) (.slice (some ad235) t223.length co18) t223) ∧ Aside0 (Below w.heap.size w w'))
                case atStart => exact ⟨(x9_2), (by first | rfl | (simp; done) | (simp [*]; done)), H', ⟨Nat.le_refl _⟩, ⟨by (with_reducible repeat (first | apply Kd.R_alloc | apply Kd.R_drewN | apply Kd.R_drew)); exact HO_5.out⟩, ⟨by repeat (first | (with_reducible first | exact HB.out | apply below_alloc | apply bdN | apply bd1) | exact HB.out)⟩⟩
                case round => as_aux_lemma =>
                 clear H'
                 try clear c1
                 try clear c2
                 try clear p2
                 try clear q2
                 try clear hx2
                 try clear c3
                 try clear c4
                 try clear c5
                 try clear c6
                 try clear c6b0
                 try clear c6b1
                 try clear p6
                 try clear c8
                 try clear c9
                 try clear c10
                 try clear c14
                 try clear c14b0
                 try clear c14b1
                 try clear c16
                 try clear c16b0
                 try clear c19
                 try clear c19b0
                 try clear c20
                 try clear c20b0
                 try clear c20b1
                 try clear c21
                 try clear c21b0
                 try clear c21b1
                 try clear c22
                 try clear c22b0
                 try clear p22
                 try clear q22
                 try clear hx22
                 try clear c23
                 try clear c23b0
                 try clear p23
                 try clear q23
                 try clear hx23
                 try clear c24
                 try clear c24b0
                 try clear c25
                 try clear c26
                 try clear c26b0
                 try clear c27
                 try clear c27b0
                 try clear c28
                 try clear c28b0
                 try clear c29
                 try clear c29b0
                 try clear c30
                 try clear c30b0
                 try clear c31
                 try clear c31b0
                 try clear c31b1
                 try clear hx229_0
                 try clear hx229_1
                 try clear hx229_2
                 try clear hx229_3
                 try clear hx229_4
                 try clear hx229_5
                 try clear hx230_0
                 try clear hx230_1
                 try clear hx230_2
                 try clear hx230_3
                 try clear hx230_4
                 try clear hx230_5
                 try clear hx231_0
                 try clear hx231_1
                 try clear hx231_2
                 try clear hx231_3
                 try clear hx231_4
                 try clear hx231_5
                 try clear hx232_0
                 try clear hx232_1
                 try clear hx232_2
                 try clear hx232_3
                 try clear hx232_4
                 try clear hx232_5
                 try clear hx233_0
                 try clear hx233_1
                 try clear hx233_2
                 try clear hx233_3
                 try clear hx233_4
                 try clear hx233_5
                 try clear hx234_0
                 try clear hx234_1
                 try clear hx234_2
                 try clear hx234_3
                 try clear hx234_4
                 try clear hx234_5
                 try clear hx235_0
                 try clear hx235_1
                 try clear hx235_2
                 try clear hx235_3
                 try clear hx235_4
                 try clear hx235_5
                 try clear hx236_0
                 try clear hx236_1
                 try clear hx236_2
                 try clear hx236_3
                 try clear hx236_4
                 try clear p2
                 try clear p22
                 try clear p229
                 try clear p23
                 try clear p230
                 try clear p231
                 try clear p232
                 try clear p233
                 try clear p234
                 try clear p235
                 try clear p236
                 try clear q2
                 try clear q22
                 try clear q229
                 try clear q23
                 try clear q230
                 try clear q231
                 try clear q232
                 try clear q233
                 try clear q234
                 try clear q235
                 try clear q236
                 obtain ⟨x12_5, rfl, HA, HK5, HO_5, HB⟩ := hrel
                 cases gk with
                 | zero => exact absurd HA.out (by simp [regcertlaw13_AlignRows.l2])
                 | succ k5 =>
                  have H := HA.out
                  clear HA
                  simp only [regcertlaw13_AlignRows.l2] at H
                  by_cases c32 : 0 ≤ x10_2
                  ·rw [if_pos c32] at H
                   have c32b0 : decide (0 ≤ x10_2) = true := decide_eq_true c32
                   clear c32
                   by_cases c33 : x10_2 < (t223.length : Int)
                   ·rw [if_pos c33] at H
                    have c33b0 : decide (x10_2 < (t223.length : Int)) = true := decide_eq_true c33
                    clear c33
                    by_cases c34 : x12_5 < ((rd_T45 t223 x10_2).f3)
                    ·as_aux_lemma =>
                      rw [if_pos c34] at H
                      have c34b0 : decide (x12_5 < ((rd_T45 t223 x10_2).f3)) = true := decide_eq_true c34
                      clear c34
                      by_cases c35 : 0 ≤ x12_5
                      ·rw [if_pos c35] at H
                       have c35b0 : decide (0 ≤ x12_5) = true := decide_eq_true c35
                       clear c35
                       by_cases c36 : x12_5 < (l1.length : Int)
                       ·rw [if_pos c36] at H
                        have c36b0 : decide (x12_5 < (l1.length : Int)) = true := decide_eq_true c36
                        clear c36
                        by_cases c37 : ((rd_T28 l1 x12_5).f0) = 18
                        ·rw [if_pos c37] at H
                         have c37b0 : (((rd_T28 l1 x12_5).f0) == 18) = true := beq_iff_eq.mpr c37
                         have c37b1 : (((rd_T28 l1 x12_5).f0) != 18) = false := bne_eq_false_iff_eq.mpr c37
                         clear c37
                         have H' := As0 H
                         clear H
                         have p237 : 0 ≤ (x10_2 : Int) := of_decide_eq_true (by first | (with_reducible assumption) | assumption)
                         have q237 : x10_2 < (t223.length : Int) := of_decide_eq_true (by first | (with_reducible assumption) | assumption)
                         obtain ⟨ad237, e237, hx237_0, hx237_1, hx237_2, hx237_3, hx237_4, hx237_5⟩ := at_T45 (Kd.R_reads' HO_5.out).2.2 x10_2 p237 q237
                         obtain rfl : ad235 = ad237 := (by injection e237)
                         replace p237 := eq_true p237
                         replace q237 := eq_true q237
                         have p238 : 0 ≤ (x12_5 : Int) := of_decide_eq_true (by first | (with_reducible assumption) | assumption)
                         have q238 : x12_5 < (l1.length : Int) := of_decide_eq_true (by first | (with_reducible assumption) | assumption)
                         obtain ⟨ad238, e238, hx238_0, hx238_1, hx238_2, hx238_3, hx238_4, hx238_5, hx238_6⟩ := at_T28 HR1.out x12_5 p238 q238
                         cases e238
                         replace hx238_0 := (HB.out.cell (wblt w hx238_0)).trans hx238_0
                         replace hx238_1 := (HB.out.cell (wblt w hx238_1)).trans hx238_1
                         replace hx238_2 := (HB.out.cell (wblt w hx238_2)).trans hx238_2
                         replace hx238_3 := (HB.out.cell (wblt w hx238_3)).trans hx238_3
                         replace hx238_4 := (HB.out.cell (wblt w hx238_4)).trans hx238_4
                         replace hx238_5 := (HB.out.cell (wblt w hx238_5)).trans hx238_5
                         replace hx238_6 := (HB.out.cell (wblt w hx238_6)).trans hx238_6
                         replace p238 := eq_true p238
                         replace q238 := eq_true q238
                         go_wp2
                         go_roundg k5
                         case measure => have := HJ2.out; have := HK2.out; have := HJ16.out; have := HK4.out; have := HK5.out; omega
                         case rel => exact ⟨(wrap64 (x12_5 + 1)), (by first | rfl | (simp; done) | (simp [*]; done)), H', ⟨by have := HJ2.out; have := HK2.out; have := HJ16.out; have := HK4.out; have := HK5.out; omega⟩, ⟨by (with_reducible repeat (first | apply Kd.R_alloc | apply Kd.R_drewN | apply Kd.R_drew)); exact HO_5.out⟩, ⟨by repeat (first | (with_reducible first | exact HB.out | apply below_alloc | apply bdN | apply bd1) | exact HB.out)⟩⟩
                        ·rw [if_neg c37] at H
                         have c37b0 : (((rd_T28 l1 x12_5).f0) == 18) = false := beq_eq_false_iff_ne.mpr c37
                         have c37b1 : (((rd_T28 l1 x12_5).f0) != 18) = true := bne_iff_ne.mpr c37
                         obtain rfl := Option.some.inj H
                         have p237 : 0 ≤ (x10_2 : Int) := of_decide_eq_true (by first | (with_reducible assumption) | assumption)
                         have q237 : x10_2 < (t223.length : Int) := of_decide_eq_true (by first | (with_reducible assumption) | assumption)
                         obtain ⟨ad237, e237, hx237_0, hx237_1, hx237_2, hx237_3, hx237_4, hx237_5⟩ := at_T45 (Kd.R_reads' HO_5.out).2.2 x10_2 p237 q237
                         obtain rfl : ad235 = ad237 := (by injection e237)
                         replace p237 := eq_true p237
                         replace q237 := eq_true q237
                         have p238 : 0 ≤ (x12_5 : Int) := of_decide_eq_true (by first | (with_reducible assumption) | assumption)
                         have q238 : x12_5 < (l1.length : Int) := of_decide_eq_true (by first | (with_reducible assumption) | assumption)
                         obtain ⟨ad238, e238, hx238_0, hx238_1, hx238_2, hx238_3, hx238_4, hx238_5, hx238_6⟩ := at_T28 HR1.out x12_5 p238 q238
                         cases e238
                         replace hx238_0 := (HB.out.cell (wblt w hx238_0)).trans hx238_0
                         replace hx238_1 := (HB.out.cell (wblt w hx238_1)).trans hx238_1
                         replace hx238_2 := (HB.out.cell (wblt w hx238_2)).trans hx238_2
                         replace hx238_3 := (HB.out.cell (wblt w hx238_3)).trans hx238_3
                         replace hx238_4 := (HB.out.cell (wblt w hx238_4)).trans hx238_4
                         replace hx238_5 := (HB.out.cell (wblt w hx238_5)).trans hx238_5
                         replace hx238_6 := (HB.out.cell (wblt w hx238_6)).trans hx238_6
                         replace p238 := eq_true p238
                         replace q238 := eq_true q238
                         go_wp2
                         go_ret
                         exact ⟨by first | rfl | (simp [errW_none, errW_some] <;> rfl) | (simp [*, errW_none, errW_some] <;> rfl), by repeat (first | (with_reducible first | exact HB.out | apply below_alloc | apply bdN | apply bd1) | exact HB.out)⟩
                       ·rw [if_neg c36] at H
                        exact absurd H (by simp)
                      ·rw [if_neg c35] at H
                       exact absurd H (by simp)
                    ·rw [if_neg c34] at H
                     have c34b0 : decide (x12_5 < ((rd_T45 t223 x10_2).f3)) = false := decide_eq_false c34
                     clear c34
                     by_cases c38 : x10_2 = (wrap64 ((t223.length : Int) - 1))
                     ·as_aux_lemma =>
                       rw [if_pos c38] at H
                       have c38b0 : (x10_2 == (wrap64 ((t223.length : Int) - 1))) = true := beq_iff_eq.mpr c38
                       have c38b1 : (x10_2 != (wrap64 ((t223.length : Int) - 1))) = false := bne_eq_false_iff_eq.mpr c38
                       clear c38
                       by_cases c39 : ((rd_T45 t223 x10_2).f1) = (l0.length : Int)
                       ·rw [if_pos c39] at H
                        have c39b0 : (((rd_T45 t223 x10_2).f1) == (l0.length : Int)) = true := beq_iff_eq.mpr c39
                        have c39b1 : (((rd_T45 t223 x10_2).f1) != (l0.length : Int)) = false := bne_eq_false_iff_eq.mpr c39
                        clear c39
                        by_cases c40 : ((rd_T45 t223 x10_2).f3) = (l1.length : Int)
                        ·rw [if_pos c40] at H
                         have c40b0 : (((rd_T45 t223 x10_2).f3) == (l1.length : Int)) = true := beq_iff_eq.mpr c40
                         have c40b1 : (((rd_T45 t223 x10_2).f3) != (l1.length : Int)) = false := bne_eq_false_iff_eq.mpr c40
                         clear c40
                         by_cases c41 : t224 = ((rd_T45 t223 x10_2).f3)
                         ·rw [if_pos c41] at H
                          have c41b0 : (t224 == ((rd_T45 t223 x10_2).f3)) = true := beq_iff_eq.mpr c41
                          have c41b1 : (t224 != ((rd_T45 t223 x10_2).f3)) = false := bne_eq_false_iff_eq.mpr c41
                          clear c41
                          by_cases c42 : ((rd_T45 t223 x10_2).f4) = (-1)
                          ·rw [if_pos c42] at H
                           have c42b0 : (((rd_T45 t223 x10_2).f4) == (-1)) = true := beq_iff_eq.mpr c42
                           have c42b1 : (((rd_T45 t223 x10_2).f4) != (-1)) = false := bne_eq_false_iff_eq.mpr c42
                           clear c42
                           obtain rfl := Option.some.inj H
                           have p237 : 0 ≤ (x10_2 : Int) := of_decide_eq_true (by first | (with_reducible assumption) | assumption)
                           have q237 : x10_2 < (t223.length : Int) := of_decide_eq_true (by first | (with_reducible assumption) | assumption)
                           obtain ⟨ad237, e237, hx237_0, hx237_1, hx237_2, hx237_3, hx237_4, hx237_5⟩ := at_T45 (Kd.R_reads' HO_5.out).2.2 x10_2 p237 q237
                           obtain rfl : ad235 = ad237 := (by injection e237)
                           replace p237 := eq_true p237
                           replace q237 := eq_true q237
                           have p239 : 0 ≤ (x10_2 : Int) := of_decide_eq_true (by first | (with_reducible assumption) | assumption)
                           have q239 : x10_2 < (t223.length : Int) := of_decide_eq_true (by first | (with_reducible assumption) | assumption)
                           obtain ⟨ad239, e239, hx239_0, hx239_1, hx239_2, hx239_3, hx239_4, hx239_5⟩ := at_T45 (Kd.R_reads' HO_5.out).2.2 x10_2 p239 q239
                           obtain rfl : ad235 = ad239 := (by injection e239)
                           replace p239 := eq_true p239
                           replace q239 := eq_true q239
                           have p240 : 0 ≤ (x10_2 : Int) := of_decide_eq_true (by first | (with_reducible assumption) | assumption)
                           have q240 : x10_2 < (t223.length : Int) := of_decide_eq_true (by first | (with_reducible assumption) | assumption)
                           obtain ⟨ad240, e240, hx240_0, hx240_1, hx240_2, hx240_3, hx240_4, hx240_5⟩ := at_T45 (Kd.R_reads' HO_5.out).2.2 x10_2 p240 q240
                           obtain rfl : ad235 = ad240 := (by injection e240)
                           replace p240 := eq_true p240
                           replace q240 := eq_true q240
                           have p241 : 0 ≤ (x10_2 : Int) := of_decide_eq_true (by first | (with_reducible assumption) | assumption)
                           have q241 : x10_2 < (t223.length : Int) := of_decide_eq_true (by first | (with_reducible assumption) | assumption)
                           obtain ⟨ad241, e241, hx241_0, hx241_1, hx241_2, hx241_3, hx241_4, hx241_5⟩ := at_T45 (Kd.R_reads' HO_5.out).2.2 x10_2 p241 q241
                           obtain rfl : ad235 = ad241 := (by injection e241)
                           replace p241 := eq_true p241
                           replace q241 := eq_true q241
                           have p242 : 0 ≤ (x10_2 : Int) := of_decide_eq_true (by first | (with_reducible assumption) | assumption)
                           have q242 : x10_2 < (t223.length : Int) := of_decide_eq_true (by first | (with_reducible assumption) | assumption)
                           obtain ⟨ad242, e242, hx242_0, hx242_1, hx242_2, hx242_3, hx242_4, hx242_5⟩ := at_T45 (Kd.R_reads' HO_5.out).2.2 x10_2 p242 q242
                           obtain rfl : ad235 = ad242 := (by injection e242)
                           replace p242 := eq_true p242
                           replace q242 := eq_true q242
                           go_wp2
                           go_ret
                           exact ⟨by first | rfl | (simp [errW_none, errW_some] <;> rfl) | (simp [*, errW_none, errW_some] <;> rfl), by repeat (first | (with_reducible first | exact HB.out | apply below_alloc | apply bdN | apply bd1) | exact HB.out)⟩
                          ·rw [if_neg c42] at H
                           have c42b0 : (((rd_T45 t223 x10_2).f4) == (-1)) = false := beq_eq_false_iff_ne.mpr c42
                           have c42b1 : (((rd_T45 t223 x10_2).f4) != (-1)) = true := bne_iff_ne.mpr c42
                           obtain rfl := Option.some.inj H
                           have p237 : 0 ≤ (x10_2 : Int) := of_decide_eq_true (by first | (with_reducible assumption) | assumption)
                           have q237 : x10_2 < (t223.length : Int) := of_decide_eq_true (by first | (with_reducible assumption) | assumption)
                           obtain ⟨ad237, e237, hx237_0, hx237_1, hx237_2, hx237_3, hx237_4, hx237_5⟩ := at_T45 (Kd.R_reads' HO_5.out).2.2 x10_2 p237 q237
                           obtain rfl : ad235 = ad237 := (by injection e237)
                           replace p237 := eq_true p237
                           replace q237 := eq_true q237
                           have p239 : 0 ≤ (x10_2 : Int) := of_decide_eq_true (by first | (with_reducible assumption) | assumption)
                           have q239 : x10_2 < (t223.length : Int) := of_decide_eq_true (by first | (with_reducible assumption) | assumption)
                           obtain ⟨ad239, e239, hx239_0, hx239_1, hx239_2, hx239_3, hx239_4, hx239_5⟩ := at_T45 (Kd.R_reads' HO_5.out).2.2 x10_2 p239 q239
                           obtain rfl : ad235 = ad239 := (by injection e239)
                           replace p239 := eq_true p239
                           replace q239 := eq_true q239
                           have p240 : 0 ≤ (x10_2 : Int) := of_decide_eq_true (by first | (with_reducible assumption) | assumption)
                           have q240 : x10_2 < (t223.length : Int) := of_decide_eq_true (by first | (with_reducible assumption) | assumption)
                           obtain ⟨ad240, e240, hx240_0, hx240_1, hx240_2, hx240_3, hx240_4, hx240_5⟩ := at_T45 (Kd.R_reads' HO_5.out).2.2 x10_2 p240 q240
                           obtain rfl : ad235 = ad240 := (by injection e240)
                           replace p240 := eq_true p240
                           replace q240 := eq_true q240
                           have p241 : 0 ≤ (x10_2 : Int) := of_decide_eq_true (by first | (with_reducible assumption) | assumption)
                           have q241 : x10_2 < (t223.length : Int) := of_decide_eq_true (by first | (with_reducible assumption) | assumption)
                           obtain ⟨ad241, e241, hx241_0, hx241_1, hx241_2, hx241_3, hx241_4, hx241_5⟩ := at_T45 (Kd.R_reads' HO_5.out).2.2 x10_2 p241 q241
                           obtain rfl : ad235 = ad241 := (by injection e241)
                           replace p241 := eq_true p241
                           replace q241 := eq_true q241
                           go_wp2
                           go_ret
                           exact ⟨by first | rfl | (simp [errW_none, errW_some] <;> rfl) | (simp [*, errW_none, errW_some] <;> rfl), by repeat (first | (with_reducible first | exact HB.out | apply below_alloc | apply bdN | apply bd1) | exact HB.out)⟩
                         ·rw [if_neg c41] at H
                          have c41b0 : (t224 == ((rd_T45 t223 x10_2).f3)) = false := beq_eq_false_iff_ne.mpr c41
                          have c41b1 : (t224 != ((rd_T45 t223 x10_2).f3)) = true := bne_iff_ne.mpr c41
                          obtain rfl := Option.some.inj H
                          have p237 : 0 ≤ (x10_2 : Int) := of_decide_eq_true (by first | (with_reducible assumption) | assumption)
                          have q237 : x10_2 < (t223.length : Int) := of_decide_eq_true (by first | (with_reducible assumption) | assumption)
                          obtain ⟨ad237, e237, hx237_0, hx237_1, hx237_2, hx237_3, hx237_4, hx237_5⟩ := at_T45 (Kd.R_reads' HO_5.out).2.2 x10_2 p237 q237
                          obtain rfl : ad235 = ad237 := (by injection e237)
                          replace p237 := eq_true p237
                          replace q237 := eq_true q237
                          have p239 : 0 ≤ (x10_2 : Int) := of_decide_eq_true (by first | (with_reducible assumption) | assumption)
                          have q239 : x10_2 < (t223.length : Int) := of_decide_eq_true (by first | (with_reducible assumption) | assumption)
                          obtain ⟨ad239, e239, hx239_0, hx239_1, hx239_2, hx239_3, hx239_4, hx239_5⟩ := at_T45 (Kd.R_reads' HO_5.out).2.2 x10_2 p239 q239
                          obtain rfl : ad235 = ad239 := (by injection e239)
                          replace p239 := eq_true p239
                          replace q239 := eq_true q239
                          have p240 : 0 ≤ (x10_2 : Int) := of_decide_eq_true (by first | (with_reducible assumption) | assumption)
                          have q240 : x10_2 < (t223.length : Int) := of_decide_eq_true (by first | (with_reducible assumption) | assumption)
                          obtain ⟨ad240, e240, hx240_0, hx240_1, hx240_2, hx240_3, hx240_4, hx240_5⟩ := at_T45 (Kd.R_reads' HO_5.out).2.2 x10_2 p240 q240
                          obtain rfl : ad235 = ad240 := (by injection e240)
                          replace p240 := eq_true p240
                          replace q240 := eq_true q240
                          go_wp2
                          go_ret
                          exact ⟨by first | rfl | (simp [errW_none, errW_some] <;> rfl) | (simp [*, errW_none, errW_some] <;> rfl), by repeat (first | (with_reducible first | exact HB.out | apply below_alloc | apply bdN | apply bd1) | exact HB.out)⟩
                        ·rw [if_neg c40] at H
                         have c40b0 : (((rd_T45 t223 x10_2).f3) == (l1.length : Int)) = false := beq_eq_false_iff_ne.mpr c40
                         have c40b1 : (((rd_T45 t223 x10_2).f3) != (l1.length : Int)) = true := bne_iff_ne.mpr c40
                         obtain rfl := Option.some.inj H
                         have p237 : 0 ≤ (x10_2 : Int) := of_decide_eq_true (by first | (with_reducible assumption) | assumption)
                         have q237 : x10_2 < (t223.length : Int) := of_decide_eq_true (by first | (with_reducible assumption) | assumption)
                         obtain ⟨ad237, e237, hx237_0, hx237_1, hx237_2, hx237_3, hx237_4, hx237_5⟩ := at_T45 (Kd.R_reads' HO_5.out).2.2 x10_2 p237 q237
                         obtain rfl : ad235 = ad237 := (by injection e237)
                         replace p237 := eq_true p237
                         replace q237 := eq_true q237
                         have p239 : 0 ≤ (x10_2 : Int) := of_decide_eq_true (by first | (with_reducible assumption) | assumption)
                         have q239 : x10_2 < (t223.length : Int) := of_decide_eq_true (by first | (with_reducible assumption) | assumption)
                         obtain ⟨ad239, e239, hx239_0, hx239_1, hx239_2, hx239_3, hx239_4, hx239_5⟩ := at_T45 (Kd.R_reads' HO_5.out).2.2 x10_2 p239 q239
                         obtain rfl : ad235 = ad239 := (by injection e239)
                         replace p239 := eq_true p239
                         replace q239 := eq_true q239
                         have p240 : 0 ≤ (x10_2 : Int) := of_decide_eq_true (by first | (with_reducible assumption) | assumption)
                         have q240 : x10_2 < (t223.length : Int) := of_decide_eq_true (by first | (with_reducible assumption) | assumption)
                         obtain ⟨ad240, e240, hx240_0, hx240_1, hx240_2, hx240_3, hx240_4, hx240_5⟩ := at_T45 (Kd.R_reads' HO_5.out).2.2 x10_2 p240 q240
                         obtain rfl : ad235 = ad240 := (by injection e240)
                         replace p240 := eq_true p240
                         replace q240 := eq_true q240
                         go_wp2
                         go_ret
                         exact ⟨by first | rfl | (simp [errW_none, errW_some] <;> rfl) | (simp [*, errW_none, errW_some] <;> rfl), by repeat (first | (with_reducible first | exact HB.out | apply below_alloc | apply bdN | apply bd1) | exact HB.out)⟩
                       ·rw [if_neg c39] at H
                        have c39b0 : (((rd_T45 t223 x10_2).f1) == (l0.length : Int)) = false := beq_eq_false_iff_ne.mpr c39
                        have c39b1 : (((rd_T45 t223 x10_2).f1) != (l0.length : Int)) = true := bne_iff_ne.mpr c39
                        obtain rfl := Option.some.inj H
                        have p237 : 0 ≤ (x10_2 : Int) := of_decide_eq_true (by first | (with_reducible assumption) | assumption)
                        have q237 : x10_2 < (t223.length : Int) := of_decide_eq_true (by first | (with_reducible assumption) | assumption)
                        obtain ⟨ad237, e237, hx237_0, hx237_1, hx237_2, hx237_3, hx237_4, hx237_5⟩ := at_T45 (Kd.R_reads' HO_5.out).2.2 x10_2 p237 q237
                        obtain rfl : ad235 = ad237 := (by injection e237)
                        replace p237 := eq_true p237
                        replace q237 := eq_true q237
                        have p239 : 0 ≤ (x10_2 : Int) := of_decide_eq_true (by first | (with_reducible assumption) | assumption)
                        have q239 : x10_2 < (t223.length : Int) := of_decide_eq_true (by first | (with_reducible assumption) | assumption)
                        obtain ⟨ad239, e239, hx239_0, hx239_1, hx239_2, hx239_3, hx239_4, hx239_5⟩ := at_T45 (Kd.R_reads' HO_5.out).2.2 x10_2 p239 q239
                        obtain rfl : ad235 = ad239 := (by injection e239)
                        replace p239 := eq_true p239
                        replace q239 := eq_true q239
                        have p240 : 0 ≤ (x10_2 : Int) := of_decide_eq_true (by first | (with_reducible assumption) | assumption)
                        have q240 : x10_2 < (t223.length : Int) := of_decide_eq_true (by first | (with_reducible assumption) | assumption)
                        obtain ⟨ad240, e240, hx240_0, hx240_1, hx240_2, hx240_3, hx240_4, hx240_5⟩ := at_T45 (Kd.R_reads' HO_5.out).2.2 x10_2 p240 q240
                        obtain rfl : ad235 = ad240 := (by injection e240)
                        replace p240 := eq_true p240
                        replace q240 := eq_true q240
                        go_wp2
                        go_ret
                        exact ⟨by first | rfl | (simp [errW_none, errW_some] <;> rfl) | (simp [*, errW_none, errW_some] <;> rfl), by repeat (first | (with_reducible first | exact HB.out | apply below_alloc | apply bdN | apply bd1) | exact HB.out)⟩
                     ·rw [if_neg c38] at H
                      have c38b0 : (x10_2 == (wrap64 ((t223.length : Int) - 1))) = false := beq_eq_false_iff_ne.mpr c38
                      have c38b1 : (x10_2 != (wrap64 ((t223.length : Int) - 1))) = true := bne_iff_ne.mpr c38
                      have HC43 := As0 H
                      clear H
                      have p237 : 0 ≤ (x10_2 : Int) := of_decide_eq_true (by first | (with_reducible assumption) | assumption)
                      have q237 : x10_2 < (t223.length : Int) := of_decide_eq_true (by first | (with_reducible assumption) | assumption)
                      obtain ⟨ad237, e237, hx237_0, hx237_1, hx237_2, hx237_3, hx237_4, hx237_5⟩ := at_T45 (Kd.R_reads' HO_5.out).2.2 x10_2 p237 q237
                      obtain rfl : ad235 = ad237 := (by injection e237)
                      replace p237 := eq_true p237
                      replace q237 := eq_true q237
                      have p239 : 0 ≤ (x10_2 : Int) := of_decide_eq_true (by first | (with_reducible assumption) | assumption)
                      have q239 : x10_2 < (t223.length : Int) := of_decide_eq_true (by first | (with_reducible assumption) | assumption)
                      obtain ⟨ad239, e239, hx239_0, hx239_1, hx239_2, hx239_3, hx239_4, hx239_5⟩ := at_T45 (Kd.R_reads' HO_5.out).2.2 x10_2 p239 q239
                      obtain rfl : ad235 = ad239 := (by injection e239)
                      replace p239 := eq_true p239
                      replace q239 := eq_true q239
                      have p240 : 0 ≤ (x10_2 : Int) := of_decide_eq_true (by first | (with_reducible assumption) | assumption)
                      have q240 : x10_2 < (t223.length : Int) := of_decide_eq_true (by first | (with_reducible assumption) | assumption)
                      obtain ⟨ad240, e240, hx240_0, hx240_1, hx240_2, hx240_3, hx240_4, hx240_5⟩ := at_T45 (Kd.R_reads' HO_5.out).2.2 x10_2 p240 q240
                      obtain rfl : ad235 = ad240 := (by injection e240)
                      replace p240 := eq_true p240
                      replace q240 := eq_true q240
                      go_upto_region 27 with (fail)
                      go_cut [243] (fun v243 wc => ∃ (kq : Nat) (x243_42 : Bool), v243 = .bool x243_42 ∧ Aside0 (regcertlaw13_AlignRows.j5 kq l0 l1 t223 t224 ((rd_T45 t223 x10_2).f1) ((rd_T45 t223 x10_2).f3) x10_2 x243_42 = some r) ∧ Aside0 (kq ≤ k5) ∧ Aside0 (Kd.R k45 45 wc w.heap.size (fun _ => True) (.slice (some ad235) t223.length co18) t223) ∧ Aside0 (Below w.heap.size w wc))
                      case first => as_aux_lemma =>
                       have H := HC43.out
                       clear HC43
                       by_cases c44 : ((rd_T45 t223 x10_2).f4) = ((rd_T45 t223 x10_2).f1)
                       ·rw [if_pos c44] at H
                        have c44b0 : (((rd_T45 t223 x10_2).f4) == ((rd_T45 t223 x10_2).f1)) = true := beq_iff_eq.mpr c44
                        have c44b1 : (((rd_T45 t223 x10_2).f4) != ((rd_T45 t223 x10_2).f1)) = false := bne_eq_false_iff_eq.mpr c44
                        clear c44
                        (first | rw [c44b0] | (simp only [i64_w, i32_w]; rw [c44b0]) | skip)
                        by_cases c45 : ((rd_T45 t223 x10_2).f5) = ((rd_T45 t223 x10_2).f3)
                        ·rw [if_pos c45] at H
                         have c45b0 : (((rd_T45 t223 x10_2).f5) == ((rd_T45 t223 x10_2).f3)) = true := beq_iff_eq.mpr c45
                         have c45b1 : (((rd_T45 t223 x10_2).f5) != ((rd_T45 t223 x10_2).f3)) = false := bne_eq_false_iff_eq.mpr c45
                         clear c45
                         by_cases c46 : ((rd_T45 t223 x10_2).f1) ≥ (l0.length : Int)
                         ·rw [if_pos c46] at H
                          have c46b0 : decide ((l0.length : Int) ≤ ((rd_T45 t223 x10_2).f1)) = true := decide_eq_true c46
                          clear c46
                          have H' := As0 H
                          clear H
                          try go_wp2
                          have n0_ := As0 (Kd.R_drew HO_5.out)
                          have n1_ := As0 (bd1 HB.out)
                          clear HO_5
                          clear HB
                          have HO_5 := n0_
                          have HB := n1_
                          clear n0_ n1_
                          have p243 : 0 ≤ (x10_2 : Int) := of_decide_eq_true (by first | (with_reducible assumption) | assumption)
                          have q243 : x10_2 < (t223.length : Int) := of_decide_eq_true (by first | (with_reducible assumption) | assumption)
                          obtain ⟨ad243, e243, hx243_0, hx243_1, hx243_2, hx243_3, hx243_4, hx243_5⟩ := at_T45 (Kd.R_reads' HO_5.out).2.2 x10_2 p243 q243
                          obtain rfl : ad235 = ad243 := (by injection e243)
                          replace p243 := eq_true p243
                          replace q243 := eq_true q243
                          have p244 : 0 ≤ (x10_2 : Int) := of_decide_eq_true (by first | (with_reducible assumption) | assumption)
                          have q244 : x10_2 < (t223.length : Int) := of_decide_eq_true (by first | (with_reducible assumption) | assumption)
                          obtain ⟨ad244, e244, hx244_0, hx244_1, hx244_2, hx244_3, hx244_4, hx244_5⟩ := at_T45 (Kd.R_reads' HO_5.out).2.2 x10_2 p244 q244
                          obtain rfl : ad235 = ad244 := (by injection e244)
                          replace p244 := eq_true p244
                          replace q244 := eq_true q244
                          refine start_ (n := 40) (S := fun w' => w'.cell? (ad235.add ((x10_2).toNat * 6)) = some (.int .i64 ((rd_T45 t223 x10_2).f0)) ∧ w'.cell? ⟨(ad235.add ((x10_2).toNat * 6)).block, (ad235.add ((x10_2).toNat * 6)).off + 1, none⟩ = some (.int .i64 ((rd_T45 t223 x10_2).f1)) ∧ w'.cell? ⟨(ad235.add ((x10_2).toNat * 6)).block, (ad235.add ((x10_2).toNat * 6)).off + 2, none⟩ = some (.int .i64 ((rd_T45 t223 x10_2).f2)) ∧ w'.cell? ⟨(ad235.add ((x10_2).toNat * 6)).block, (ad235.add ((x10_2).toNat * 6)).off + 3, none⟩ = some (.int .i64 ((rd_T45 t223 x10_2).f3)) ∧ w'.cell? ⟨(ad235.add ((x10_2).toNat * 6)).block, (ad235.add ((x10_2).toNat * 6)).off + 4, none⟩ = some (.int .i64 ((rd_T45 t223 x10_2).f4)) ∧ w'.cell? ⟨(ad235.add ((x10_2).toNat * 6)).block, (ad235.add ((x10_2).toNat * 6)).off + 5, none⟩ = some (.int .i64 ((rd_T45 t223 x10_2).f5)) ∧ w'.cell? (ad235.add ((x10_2).toNat * 6)) = some (.int .i64 ((rd_T45 t223 x10_2).f0)) ∧ w'.cell? ⟨(ad235.add ((x10_2).toNat * 6)).block, (ad235.add ((x10_2).toNat * 6)).off + 1, none⟩ = some (.int .i64 ((rd_T45 t223 x10_2).f1)) ∧ w'.cell? ⟨(ad235.add ((x10_2).toNat * 6)).block, (ad235.add ((x10_2).toNat * 6)).off + 2, none⟩ = some (.int .i64 ((rd_T45 t223 x10_2).f2)) ∧ w'.cell? ⟨(ad235.add ((x10_2).toNat * 6)).block, (ad235.add ((x10_2).toNat * 6)).off + 3, none⟩ = some (.int .i64 ((rd_T45 t223 x10_2).f3)) ∧ w'.cell? ⟨(ad235.add ((x10_2).toNat * 6)).block, (ad235.add ((x10_2).toNat * 6)).off + 4, none⟩ = some (.int .i64 ((rd_T45 t223 x10_2).f4)) ∧ w'.cell? ⟨(ad235.add ((x10_2).toNat * 6)).block, (ad235.add ((x10_2).toNat * 6)).off + 5, none⟩ = some (.int .i64 ((rd_T45 t223 x10_2).f5))) (ds := []) #[false, false, false, false, false, false, false, false, false, false, false, false, false, false, false, false, false, false, false, false, false, false, false, false, false, false, false, false, false, false, false, false, false, false, false, false, false, false, false, false] (by kernel_rfl) rfl rfl ⟨hx243_0, hx243_1, hx243_2, hx243_3, hx243_4, hx243_5, hx244_0, hx244_1, hx244_2, hx244_3, hx244_4, hx244_5⟩ (fun hHeld => ?_); refine with_tabW regcertlaw13_AlignRows.tab27 regcertlaw13_AlignRows.bits27 (fun HT_ HW_ => ?_)
                          generalize wr.drew = w47 at HO_5 HB hx243_0 hx243_1 hx243_2 hx243_3 hx243_4 hx243_5 hx244_0 hx244_1 hx244_2 hx244_3 hx244_4 hx244_5 hHeld ⊢
                          refine pure_ (i := 0) (N := some 204) (v := ?_) (a' := ?_) #[true, false, false, false, false, false, false, false, false, false, false, false, false, false, false, false, false, false, false, false, false, false, false, false, false, false, false, false, false, false, false, false, false, false, false, false, false, false, false, false] rfl rfl (any_of HT_.out (by kernel_rfl)) (fun _ _ _ h => h) (Or.inl ⟨by rfl, ?_⟩) ?_ ?_
                          rotate_left
                          ·intro w'
                           go_simp
                           with_reducible rfl
                          rotate_left
                          ·simp only [Act.put, sL1, sL2, sL3, i64_w, i32_w]
                           rfl
                          refine pure_ (i := 1) (N := some 205) (v := ?_) (a' := ?_) #[true, true, false, false, false, false, false, false, false, false, false, false, false, false, false, false, false, false, false, false, false, false, false, false, false, false, false, false, false, false, false, false, false, false, false, false, false, false, false, false] rfl rfl (any_of HT_.out (by kernel_rfl)) (fun _ _ _ h => h) (Or.inl ⟨by rfl, ?_⟩) ?_ ?_
                          rotate_left
                          ·intro w'
                           go_simp
                           with_reducible rfl
                          rotate_left
                          ·simp only [Act.put, sL1, sL2, sL3, i64_w, i32_w]
                           rfl
                          refine pure_ (i := 2) (N := some 206) (v := ?_) (a' := ?_) #[true, true, true, false, false, false, false, false, false, false, false, false, false, false, false, false, false, false, false, false, false, false, false, false, false, false, false, false, false, false, false, false, false, false, false, false, false, false, false, false] rfl rfl (any_of HT_.out (by kernel_rfl)) (fun _ _ _ h => h) (Or.inl ⟨by rfl, ?_⟩) ?_ ?_
                          rotate_left
                          ·intro w'
                           go_simp
                           with_reducible rfl
                          rotate_left
                          ·simp only [Act.put, sL1, sL2, sL3, i64_w, i32_w]
                           rfl
                          refine pure_ (i := 3) (N := some 207) (v := ?_) (a' := ?_) #[true, true, true, true, false, false, false, false, false, false, false, false, false, false, false, false, false, false, false, false, false, false, false, false, false, false, false, false, false, false, false, false, false, false, false, false, false, false, false, false] rfl rfl (any_of HT_.out (by kernel_rfl)) (fun _ _ _ h => h) (Or.inl ⟨by rfl, ?_⟩) ?_ ?_
                          rotate_left
                          ·intro w'
                           go_simp
                           with_reducible rfl
                          rotate_left
                          ·simp only [Act.put, sL1, sL2, sL3, i64_w, i32_w]
                           rfl
                          refine pure_ (i := 5) (N := some 209) (v := ?_) (a' := ?_) #[true, true, true, true, false, true, false, false, false, false, false, false, false, false, false, false, false, false, false, false, false, false, false, false, false, false, false, false, false, false, false, false, false, false, false, false, false, false, false, false] rfl rfl (any_of HT_.out (by kernel_rfl)) (fun _ _ _ h => h) (Or.inl ⟨by rfl, ?_⟩) ?_ ?_
                          rotate_left
                          ·intro w'
                           go_simp
                           with_reducible rfl
                          rotate_left
                          ·simp only [Act.put, sL1, sL2, sL3, i64_w, i32_w]
                           rfl
                          refine take_ (i := 4) (N := some 208) (v := ?_) (a' := ?_) #[true, true, true, true, true, true, false, false, false, false, false, false, false, false, false, false, false, false, false, false, false, false, false, false, false, false, false, false, false, false, false, false, false, false, false, false, false, false, false, false] rfl rfl (take_ofW HT_.out HW_.out (by kernel_rfl)) (fun _ _ _ h => h) (Or.inl ⟨by rfl, ?_⟩) hHeld ?_ ?_
                          rotate_left
                          ·rintro w' ⟨s0, s1, s2, s3, s4, s5, s6, s7, s8, s9, s10, s11⟩
                           go_simp
                           with_reducible rfl
                          rotate_left
                          ·simp only [Act.put, sL1, sL2, sL3, i64_w, i32_w]
                           rfl
                          refine pure_ (i := 6) (N := some 210) (v := ?_) (a' := ?_) #[true, true, true, true, true, true, true, false, false, false, false, false, false, false, false, false, false, false, false, false, false, false, false, false, false, false, false, false, false, false, false, false, false, false, false, false, false, false, false, false] rfl rfl (any_of HT_.out (by kernel_rfl)) (fun _ _ _ h => h) (Or.inl ⟨by rfl, ?_⟩) ?_ ?_
                          rotate_left
                          ·intro w'
                           go_simp
                           with_reducible rfl
                          rotate_left
                          ·simp only [Act.put, sL1, sL2, sL3, i64_w, i32_w]
                           rfl
                          refine pure_ (i := 7) (N := some 211) (v := ?_) (a' := ?_) #[true, true, true, true, true, true, true, true, false, false, false, false, false, false, false, false, false, false, false, false, false, false, false, false, false, false, false, false, false, false, false, false, false, false, false, false, false, false, false, false] rfl rfl (any_of HT_.out (by kernel_rfl)) (fun _ _ _ h => h) (Or.inl ⟨by rfl, ?_⟩) ?_ ?_
                          rotate_left
                          ·intro w'
                           go_simp
                           with_reducible rfl
                          rotate_left
                          ·simp only [Act.put, sL1, sL2, sL3, i64_w, i32_w]
                           rfl
                          refine pure_ (i := 8) (N := some 212) (v := ?_) (a' := ?_) #[true, true, true, true, true, true, true, true, true, false, false, false, false, false, false, false, false, false, false, false, false, false, false, false, false, false, false, false, false, false, false, false, false, false, false, false, false, false, false, false] rfl rfl (any_of HT_.out (by kernel_rfl)) (fun _ _ _ h => h) (Or.inl ⟨by rfl, ?_⟩) ?_ ?_
                          rotate_left
                          ·intro w'
                           go_simp
                           with_reducible rfl
                          rotate_left
                          ·simp only [Act.put, sL1, sL2, sL3, i64_w, i32_w]
                           rfl
                          refine pure_ (i := 9) (N := some 213) (v := ?_) (a' := ?_) #[true, true, true, true, true, true, true, true, true, true, false, false, false, false, false, false, false, false, false, false, false, false, false, false, false, false, false, false, false, false, false, false, false, false, false, false, false, false, false, false] rfl rfl (any_of HT_.out (by kernel_rfl)) (fun _ _ _ h => h) (Or.inl ⟨by rfl, ?_⟩) ?_ ?_
                          rotate_left
                          ·intro w'
                           go_simp
                           with_reducible rfl
                          rotate_left
                          ·simp only [Act.put, sL1, sL2, sL3, i64_w, i32_w]
                           rfl
                          refine pure_ (i := 10) (N := some 214) (v := ?_) (a' := ?_) #[true, true, true, true, true, true, true, true, true, true, true, false, false, false, false, false, false, false, false, false, false, false, false, false, false, false, false, false, false, false, false, false, false, false, false, false, false, false, false, false] rfl rfl (any_of HT_.out (by kernel_rfl)) (fun _ _ _ h => h) (Or.inl ⟨by rfl, ?_⟩) ?_ ?_
                          rotate_left
                          ·intro w'
                           go_simp
                           with_reducible rfl
                          rotate_left
                          ·simp only [Act.put, sL1, sL2, sL3, i64_w, i32_w]
                           rfl
                          refine pure_ (i := 11) (N := some 215) (v := ?_) (a' := ?_) #[true, true, true, true, true, true, true, true, true, true, true, true, false, false, false, false, false, false, false, false, false, false, false, false, false, false, false, false, false, false, false, false, false, false, false, false, false, false, false, false] rfl rfl (any_of HT_.out (by kernel_rfl)) (fun _ _ _ h => h) (Or.inl ⟨by rfl, ?_⟩) ?_ ?_
                          rotate_left
                          ·intro w'
                           go_simp
                           with_reducible rfl
                          rotate_left
                          ·simp only [Act.put, sL1, sL2, sL3, i64_w, i32_w]
                           rfl
                          refine pure_ (i := 13) (N := some 217) (v := ?_) (a' := ?_) #[true, true, true, true, true, true, true, true, true, true, true, true, false, true, false, false, false, false, false, false, false, false, false, false, false, false, false, false, false, false, false, false, false, false, false, false, false, false, false, false] rfl rfl (any_of HT_.out (by kernel_rfl)) (fun _ _ _ h => h) (Or.inl ⟨by rfl, ?_⟩) ?_ ?_
                          rotate_left
                          ·intro w'
                           go_simp
                           with_reducible rfl
                          rotate_left
                          ·simp only [Act.put, sL1, sL2, sL3, i64_w, i32_w]
                           rfl
                          refine take_ (i := 12) (N := some 216) (v := ?_) (a' := ?_) #[true, true, true, true, true, true, true, true, true, true, true, true, true, true, false, false, false, false, false, false, false, false, false, false, false, false, false, false, false, false, false, false, false, false, false, false, false, false, false, false] rfl rfl (take_ofW HT_.out HW_.out (by kernel_rfl)) (fun _ _ _ h => h) (Or.inl ⟨by rfl, ?_⟩) hHeld ?_ ?_
                          rotate_left
                          ·rintro w' ⟨s0, s1, s2, s3, s4, s5, s6, s7, s8, s9, s10, s11⟩
                           go_simp
                           with_reducible rfl
                          rotate_left
                          ·simp only [Act.put, sL1, sL2, sL3, i64_w, i32_w]
                           rfl
                          refine pure_ (i := 14) (N := some 218) (v := ?_) (a' := ?_) #[true, true, true, true, true, true, true, true, true, true, true, true, true, true, true, false, false, false, false, false, false, false, false, false, false, false, false, false, false, false, false, false, false, false, false, false, false, false, false, false] rfl rfl (any_of HT_.out (by kernel_rfl)) (fun _ _ _ h => h) (Or.inl ⟨by rfl, ?_⟩) ?_ ?_
                          rotate_left
                          ·intro w'
                           go_simp
                           with_reducible rfl
                          rotate_left
                          ·simp only [Act.put, sL1, sL2, sL3, i64_w, i32_w]
                           rfl
                          refine pure_ (i := 15) (N := some 219) (v := ?_) (a' := ?_) #[true, true, true, true, true, true, true, true, true, true, true, true, true, true, true, true, false, false, false, false, false, false, false, false, false, false, false, false, false, false, false, false, false, false, false, false, false, false, false, false] rfl rfl (any_of HT_.out (by kernel_rfl)) (fun _ _ _ h => h) (Or.inl ⟨by rfl, ?_⟩) ?_ ?_
                          rotate_left
                          ·intro w'
                           go_simp
                           with_reducible rfl
                          rotate_left
                          ·simp only [Act.put, sL1, sL2, sL3, i64_w, i32_w]
                           rfl
                          refine pure_ (i := 16) (N := some 220) (v := ?_) (a' := ?_) #[true, true, true, true, true, true, true, true, true, true, true, true, true, true, true, true, true, false, false, false, false, false, false, false, false, false, false, false, false, false, false, false, false, false, false, false, false, false, false, false] rfl rfl (any_of HT_.out (by kernel_rfl)) (fun _ _ _ h => h) (Or.inl ⟨by rfl, ?_⟩) ?_ ?_
                          rotate_left
                          ·intro w'
                           go_simp
                           with_reducible rfl
                          rotate_left
                          ·simp only [Act.put, sL1, sL2, sL3, i64_w, i32_w]
                           rfl
                          refine pure_ (i := 17) (N := some 221) (v := ?_) (a' := ?_) #[true, true, true, true, true, true, true, true, true, true, true, true, true, true, true, true, true, true, false, false, false, false, false, false, false, false, false, false, false, false, false, false, false, false, false, false, false, false, false, false] rfl rfl (any_of HT_.out (by kernel_rfl)) (fun _ _ _ h => h) (Or.inl ⟨by rfl, ?_⟩) ?_ ?_
                          rotate_left
                          ·intro w'
                           go_simp
                           with_reducible rfl
                          rotate_left
                          ·simp only [Act.put, sL1, sL2, sL3, i64_w, i32_w]
                           rfl
                          refine pure_ (i := 18) (N := some 222) (v := ?_) (a' := ?_) #[true, true, true, true, true, true, true, true, true, true, true, true, true, true, true, true, true, true, true, false, false, false, false, false, false, false, false, false, false, false, false, false, false, false, false, false, false, false, false, false] rfl rfl (any_of HT_.out (by kernel_rfl)) (fun _ _ _ h => h) (Or.inl ⟨by rfl, ?_⟩) ?_ ?_
                          rotate_left
                          ·intro w'
                           go_simp
                           with_reducible rfl
                          rotate_left
                          ·simp only [Act.put, sL1, sL2, sL3, i64_w, i32_w]
                           rfl
                          refine pure_ (i := 19) (N := some 223) (v := ?_) (a' := ?_) #[true, true, true, true, true, true, true, true, true, true, true, true, true, true, true, true, true, true, true, true, false, false, false, false, false, false, false, false, false, false, false, false, false, false, false, false, false, false, false, false] rfl rfl (any_of HT_.out (by kernel_rfl)) (fun _ _ _ h => h) (Or.inl ⟨by rfl, ?_⟩) ?_ ?_
                          rotate_left
                          ·intro w'
                           go_simp
                           with_reducible rfl
                          rotate_left
                          ·simp only [Act.put, sL1, sL2, sL3, i64_w, i32_w]
                           rfl
                          refine pure_ (i := 20) (N := some 224) (v := ?_) (a' := ?_) #[true, true, true, true, true, true, true, true, true, true, true, true, true, true, true, true, true, true, true, true, true, false, false, false, false, false, false, false, false, false, false, false, false, false, false, false, false, false, false, false] rfl rfl (any_of HT_.out (by kernel_rfl)) (fun _ _ _ h => h) (Or.inl ⟨by rfl, ?_⟩) ?_ ?_
                          rotate_left
                          ·intro w'
                           go_simp
                           with_reducible rfl
                          rotate_left
                          ·simp only [Act.put, sL1, sL2, sL3, i64_w, i32_w]
                           rfl
                          refine pure_ (i := 21) (N := some 225) (v := ?_) (a' := ?_) #[true, true, true, true, true, true, true, true, true, true, true, true, true, true, true, true, true, true, true, true, true, true, false, false, false, false, false, false, false, false, false, false, false, false, false, false, false, false, false, false] rfl rfl (any_of HT_.out (by kernel_rfl)) (fun _ _ _ h => h) (Or.inl ⟨by rfl, ?_⟩) ?_ ?_
                          rotate_left
                          ·intro w'
                           go_simp
                           with_reducible rfl
                          rotate_left
                          ·simp only [Act.put, sL1, sL2, sL3, i64_w, i32_w]
                           rfl
                          refine pure_ (i := 22) (N := some 226) (v := ?_) (a' := ?_) #[true, true, true, true, true, true, true, true, true, true, true, true, true, true, true, true, true, true, true, true, true, true, true, false, false, false, false, false, false, false, false, false, false, false, false, false, false, false, false, false] rfl rfl (any_of HT_.out (by kernel_rfl)) (fun _ _ _ h => h) (Or.inl ⟨by rfl, ?_⟩) ?_ ?_
                          rotate_left
                          ·intro w'
                           go_simp
                           with_reducible rfl
                          rotate_left
                          ·simp only [Act.put, sL1, sL2, sL3, i64_w, i32_w]
                           rfl
                          refine pure_ (i := 23) (N := some 227) (v := undef) (a' := ?_) #[true, true, true, true, true, true, true, true, true, true, true, true, true, true, true, true, true, true, true, true, true, true, true, true, false, false, false, false, false, false, false, false, false, false, false, false, false, false, false, false] rfl rfl (any_of HT_.out (by kernel_rfl)) (fun _ _ _ h => h) (Or.inr ⟨by rfl, rfl⟩) ?_ ?_
                          rotate_left
                          ·simp only [Act.put, sL1, sL2, sL3, i64_w, i32_w]
                           rfl
                          refine pure_ (i := 24) (N := some 228) (v := undef) (a' := ?_) #[true, true, true, true, true, true, true, true, true, true, true, true, true, true, true, true, true, true, true, true, true, true, true, true, true, false, false, false, false, false, false, false, false, false, false, false, false, false, false, false] rfl rfl (any_of HT_.out (by kernel_rfl)) (fun _ _ _ h => h) (Or.inr ⟨by rfl, rfl⟩) ?_ ?_
                          rotate_left
                          ·simp only [Act.put, sL1, sL2, sL3, i64_w, i32_w]
                           rfl
                          refine pure_ (i := 25) (N := some 229) (v := undef) (a' := ?_) #[true, true, true, true, true, true, true, true, true, true, true, true, true, true, true, true, true, true, true, true, true, true, true, true, true, true, false, false, false, false, false, false, false, false, false, false, false, false, false, false] rfl rfl (any_of HT_.out (by kernel_rfl)) (fun _ _ _ h => h) (Or.inr ⟨by rfl, rfl⟩) ?_ ?_
                          rotate_left
                          ·simp only [Act.put, sL1, sL2, sL3, i64_w, i32_w]
                           rfl
                          refine pure_ (i := 26) (N := some 230) (v := undef) (a' := ?_) #[true, true, true, true, true, true, true, true, true, true, true, true, true, true, true, true, true, true, true, true, true, true, true, true, true, true, true, false, false, false, false, false, false, false, false, false, false, false, false, false] rfl rfl (any_of HT_.out (by kernel_rfl)) (fun _ _ _ h => h) (Or.inr ⟨by rfl, rfl⟩) ?_ ?_
                          rotate_left
                          ·simp only [Act.put, sL1, sL2, sL3, i64_w, i32_w]
                           rfl
                          refine pure_ (i := 27) (N := some 231) (v := ?_) (a' := ?_) #[true, true, true, true, true, true, true, true, true, true, true, true, true, true, true, true, true, true, true, true, true, true, true, true, true, true, true, true, false, false, false, false, false, false, false, false, false, false, false, false] rfl rfl (any_of HT_.out (by kernel_rfl)) (fun _ _ _ h => h) (Or.inl ⟨by rfl, ?_⟩) ?_ ?_
                          rotate_left
                          ·intro w'
                           go_simp
                           with_reducible rfl
                          rotate_left
                          ·simp only [Act.put, sL1, sL2, sL3, i64_w, i32_w]
                           rfl
                          refine pure_ (i := 28) (N := some 232) (v := ?_) (a' := ?_) #[true, true, true, true, true, true, true, true, true, true, true, true, true, true, true, true, true, true, true, true, true, true, true, true, true, true, true, true, true, false, false, false, false, false, false, false, false, false, false, false] rfl rfl (any_of HT_.out (by kernel_rfl)) (fun _ _ _ h => h) (Or.inl ⟨by rfl, ?_⟩) ?_ ?_
                          rotate_left
                          ·intro w'
                           go_simp
                           with_reducible rfl
                          rotate_left
                          ·simp only [Act.put, sL1, sL2, sL3, i64_w, i32_w]
                           rfl
                          refine pure_ (i := 29) (N := some 233) (v := undef) (a' := ?_) #[true, true, true, true, true, true, true, true, true, true, true, true, true, true, true, true, true, true, true, true, true, true, true, true, true, true, true, true, true, true, false, false, false, false, false, false, false, false, false, false] rfl rfl (any_of HT_.out (by kernel_rfl)) (fun _ _ _ h => h) (Or.inr ⟨by rfl, rfl⟩) ?_ ?_
                          rotate_left
                          ·simp only [Act.put, sL1, sL2, sL3, i64_w, i32_w]
                           rfl
                          refine pure_ (i := 30) (N := some 234) (v := undef) (a' := ?_) #[true, true, true, true, true, true, true, true, true, true, true, true, true, true, true, true, true, true, true, true, true, true, true, true, true, true, true, true, true, true, true, false, false, false, false, false, false, false, false, false] rfl rfl (any_of HT_.out (by kernel_rfl)) (fun _ _ _ h => h) (Or.inr ⟨by rfl, rfl⟩) ?_ ?_
                          rotate_left
                          ·simp only [Act.put, sL1, sL2, sL3, i64_w, i32_w]
                           rfl
                          refine pure_ (i := 31) (N := some 235) (v := undef) (a' := ?_) #[true, true, true, true, true, true, true, true, true, true, true, true, true, true, true, true, true, true, true, true, true, true, true, true, true, true, true, true, true, true, true, true, false, false, false, false, false, false, false, false] rfl rfl (any_of HT_.out (by kernel_rfl)) (fun _ _ _ h => h) (Or.inr ⟨by rfl, rfl⟩) ?_ ?_
                          rotate_left
                          ·simp only [Act.put, sL1, sL2, sL3, i64_w, i32_w]
                           rfl
                          refine pure_ (i := 32) (N := some 236) (v := undef) (a' := ?_) #[true, true, true, true, true, true, true, true, true, true, true, true, true, true, true, true, true, true, true, true, true, true, true, true, true, true, true, true, true, true, true, true, true, false, false, false, false, false, false, false] rfl rfl (any_of HT_.out (by kernel_rfl)) (fun _ _ _ h => h) (Or.inr ⟨by rfl, rfl⟩) ?_ ?_
                          rotate_left
                          ·simp only [Act.put, sL1, sL2, sL3, i64_w, i32_w]
                           rfl
                          refine pure_ (i := 33) (N := some 237) (v := undef) (a' := ?_) #[true, true, true, true, true, true, true, true, true, true, true, true, true, true, true, true, true, true, true, true, true, true, true, true, true, true, true, true, true, true, true, true, true, true, false, false, false, false, false, false] rfl rfl (any_of HT_.out (by kernel_rfl)) (fun _ _ _ h => h) (Or.inr ⟨by rfl, rfl⟩) ?_ ?_
                          rotate_left
                          ·simp only [Act.put, sL1, sL2, sL3, i64_w, i32_w]
                           rfl
                          refine pure_ (i := 34) (N := some 238) (v := undef) (a' := ?_) #[true, true, true, true, true, true, true, true, true, true, true, true, true, true, true, true, true, true, true, true, true, true, true, true, true, true, true, true, true, true, true, true, true, true, true, false, false, false, false, false] rfl rfl (any_of HT_.out (by kernel_rfl)) (fun _ _ _ h => h) (Or.inr ⟨by rfl, rfl⟩) ?_ ?_
                          rotate_left
                          ·simp only [Act.put, sL1, sL2, sL3, i64_w, i32_w]
                           rfl
                          refine pure_ (i := 35) (N := some 239) (v := undef) (a' := ?_) #[true, true, true, true, true, true, true, true, true, true, true, true, true, true, true, true, true, true, true, true, true, true, true, true, true, true, true, true, true, true, true, true, true, true, true, true, false, false, false, false] rfl rfl (any_of HT_.out (by kernel_rfl)) (fun _ _ _ h => h) (Or.inr ⟨by rfl, rfl⟩) ?_ ?_
                          rotate_left
                          ·simp only [Act.put, sL1, sL2, sL3, i64_w, i32_w]
                           rfl
                          refine pure_ (i := 36) (N := some 240) (v := undef) (a' := ?_) #[true, true, true, true, true, true, true, true, true, true, true, true, true, true, true, true, true, true, true, true, true, true, true, true, true, true, true, true, true, true, true, true, true, true, true, true, true, false, false, false] rfl rfl (any_of HT_.out (by kernel_rfl)) (fun _ _ _ h => h) (Or.inr ⟨by rfl, rfl⟩) ?_ ?_
                          rotate_left
                          ·simp only [Act.put, sL1, sL2, sL3, i64_w, i32_w]
                           rfl
                          refine pure_ (i := 37) (N := some 241) (v := undef) (a' := ?_) #[true, true, true, true, true, true, true, true, true, true, true, true, true, true, true, true, true, true, true, true, true, true, true, true, true, true, true, true, true, true, true, true, true, true, true, true, true, true, false, false] rfl rfl (any_of HT_.out (by kernel_rfl)) (fun _ _ _ h => h) (Or.inr ⟨by rfl, rfl⟩) ?_ ?_
                          rotate_left
                          ·simp only [Act.put, sL1, sL2, sL3, i64_w, i32_w]
                           rfl
                          refine pure_ (i := 38) (N := some 242) (v := undef) (a' := ?_) #[true, true, true, true, true, true, true, true, true, true, true, true, true, true, true, true, true, true, true, true, true, true, true, true, true, true, true, true, true, true, true, true, true, true, true, true, true, true, true, false] rfl rfl (any_of HT_.out (by kernel_rfl)) (fun _ _ _ h => h) (Or.inr ⟨by rfl, rfl⟩) ?_ ?_
                          rotate_left
                          ·simp only [Act.put, sL1, sL2, sL3, i64_w, i32_w]
                           rfl
                          refine pure_ (i := 39) (N := some 243) (v := ?_) (a' := ?_) #[true, true, true, true, true, true, true, true, true, true, true, true, true, true, true, true, true, true, true, true, true, true, true, true, true, true, true, true, true, true, true, true, true, true, true, true, true, true, true, true] rfl rfl (any_of HT_.out (by kernel_rfl)) (fun _ _ _ h => h) (Or.inl ⟨by rfl, ?_⟩) ?_ ?_
                          rotate_left
                          ·intro w'
                           go_simp
                           with_reducible rfl
                          rotate_left
                          ·simp only [Act.put, sL1, sL2, sL3, i64_w, i32_w]
                           rfl
                          refine done_ (done_of HT_.out (by kernel_rfl)) ?_
                          try go_wp2
                          go_meet
                          case rel => exact ⟨_, (true), (by first | rfl | (simp; done) | (simp [*]; done)), H', ⟨by have := HJ2.out; have := HK2.out; have := HJ16.out; have := HK4.out; have := HK5.out; first | omega | exact Nat.le_refl _⟩, ⟨by (with_reducible repeat (first | apply Kd.R_alloc | apply Kd.R_drewN | apply Kd.R_drew)); exact HO_5.out⟩, ⟨by repeat (first | (with_reducible first | exact HB.out | apply below_alloc | apply bdN | apply bd1) | exact HB.out)⟩⟩
                         ·rw [if_neg c46] at H
                          have c46b0 : decide ((l0.length : Int) ≤ ((rd_T45 t223 x10_2).f1)) = false := decide_eq_false c46
                          clear c46
                          by_cases c48 : ((rd_T45 t223 x10_2).f3) ≥ (l1.length : Int)
                          ·rw [if_pos c48] at H
                           have c48b0 : decide ((l1.length : Int) ≤ ((rd_T45 t223 x10_2).f3)) = true := decide_eq_true c48
                           clear c48
                           have H' := As0 H
                           clear H
                           try go_wp2
                           have n0_ := As0 (Kd.R_drew HO_5.out)
                           have n1_ := As0 (bd1 HB.out)
                           clear HO_5
                           clear HB
                           have HO_5 := n0_
                           have HB := n1_
                           clear n0_ n1_
                           have p243 : 0 ≤ (x10_2 : Int) := of_decide_eq_true (by first | (with_reducible assumption) | assumption)
                           have q243 : x10_2 < (t223.length : Int) := of_decide_eq_true (by first | (with_reducible assumption) | assumption)
                           obtain ⟨ad243, e243, hx243_0, hx243_1, hx243_2, hx243_3, hx243_4, hx243_5⟩ := at_T45 (Kd.R_reads' HO_5.out).2.2 x10_2 p243 q243
                           obtain rfl : ad235 = ad243 := (by injection e243)
                           replace p243 := eq_true p243
                           replace q243 := eq_true q243
                           have p244 : 0 ≤ (x10_2 : Int) := of_decide_eq_true (by first | (with_reducible assumption) | assumption)
                           have q244 : x10_2 < (t223.length : Int) := of_decide_eq_true (by first | (with_reducible assumption) | assumption)
                           obtain ⟨ad244, e244, hx244_0, hx244_1, hx244_2, hx244_3, hx244_4, hx244_5⟩ := at_T45 (Kd.R_reads' HO_5.out).2.2 x10_2 p244 q244
                           obtain rfl : ad235 = ad244 := (by injection e244)
                           replace p244 := eq_true p244
                           replace q244 := eq_true q244
                           refine start_ (n := 40) (S := fun w' => w'.cell? (ad235.add ((x10_2).toNat * 6)) = some (.int .i64 ((rd_T45 t223 x10_2).f0)) ∧ w'.cell? ⟨(ad235.add ((x10_2).toNat * 6)).block, (ad235.add ((x10_2).toNat * 6)).off + 1, none⟩ = some (.int .i64 ((rd_T45 t223 x10_2).f1)) ∧ w'.cell? ⟨(ad235.add ((x10_2).toNat * 6)).block, (ad235.add ((x10_2).toNat * 6)).off + 2, none⟩ = some (.int .i64 ((rd_T45 t223 x10_2).f2)) ∧ w'.cell? ⟨(ad235.add ((x10_2).toNat * 6)).block, (ad235.add ((x10_2).toNat * 6)).off + 3, none⟩ = some (.int .i64 ((rd_T45 t223 x10_2).f3)) ∧ w'.cell? ⟨(ad235.add ((x10_2).toNat * 6)).block, (ad235.add ((x10_2).toNat * 6)).off + 4, none⟩ = some (.int .i64 ((rd_T45 t223 x10_2).f4)) ∧ w'.cell? ⟨(ad235.add ((x10_2).toNat * 6)).block, (ad235.add ((x10_2).toNat * 6)).off + 5, none⟩ = some (.int .i64 ((rd_T45 t223 x10_2).f5)) ∧ w'.cell? (ad235.add ((x10_2).toNat * 6)) = some (.int .i64 ((rd_T45 t223 x10_2).f0)) ∧ w'.cell? ⟨(ad235.add ((x10_2).toNat * 6)).block, (ad235.add ((x10_2).toNat * 6)).off + 1, none⟩ = some (.int .i64 ((rd_T45 t223 x10_2).f1)) ∧ w'.cell? ⟨(ad235.add ((x10_2).toNat * 6)).block, (ad235.add ((x10_2).toNat * 6)).off + 2, none⟩ = some (.int .i64 ((rd_T45 t223 x10_2).f2)) ∧ w'.cell? ⟨(ad235.add ((x10_2).toNat * 6)).block, (ad235.add ((x10_2).toNat * 6)).off + 3, none⟩ = some (.int .i64 ((rd_T45 t223 x10_2).f3)) ∧ w'.cell? ⟨(ad235.add ((x10_2).toNat * 6)).block, (ad235.add ((x10_2).toNat * 6)).off + 4, none⟩ = some (.int .i64 ((rd_T45 t223 x10_2).f4)) ∧ w'.cell? ⟨(ad235.add ((x10_2).toNat * 6)).block, (ad235.add ((x10_2).toNat * 6)).off + 5, none⟩ = some (.int .i64 ((rd_T45 t223 x10_2).f5))) (ds := []) #[false, false, false, false, false, false, false, false, false, false, false, false, false, false, false, false, false, false, false, false, false, false, false, false, false, false, false, false, false, false, false, false, false, false, false, false, false, false, false, false] (by kernel_rfl) rfl rfl ⟨hx243_0, hx243_1, hx243_2, hx243_3, hx243_4, hx243_5, hx244_0, hx244_1, hx244_2, hx244_3, hx244_4, hx244_5⟩ (fun hHeld => ?_); refine with_tabW regcertlaw13_AlignRows.tab27 regcertlaw13_AlignRows.bits27 (fun HT_ HW_ => ?_)
                           generalize wr.drew = w49 at HO_5 HB hx243_0 hx243_1 hx243_2 hx243_3 hx243_4 hx243_5 hx244_0 hx244_1 hx244_2 hx244_3 hx244_4 hx244_5 hHeld ⊢
                           refine pure_ (i := 0) (N := some 204) (v := ?_) (a' := ?_) #[true, false, false, false, false, false, false, false, false, false, false, false, false, false, false, false, false, false, false, false, false, false, false, false, false, false, false, false, false, false, false, false, false, false, false, false, false, false, false, false] rfl rfl (any_of HT_.out (by kernel_rfl)) (fun _ _ _ h => h) (Or.inl ⟨by rfl, ?_⟩) ?_ ?_
                           rotate_left
                           ·intro w'
                            go_simp
                            with_reducible rfl
                           rotate_left
                           ·simp only [Act.put, sL1, sL2, sL3, i64_w, i32_w]
                            rfl
                           refine pure_ (i := 1) (N := some 205) (v := ?_) (a' := ?_) #[true, true, false, false, false, false, false, false, false, false, false, false, false, false, false, false, false, false, false, false, false, false, false, false, false, false, false, false, false, false, false, false, false, false, false, false, false, false, false, false] rfl rfl (any_of HT_.out (by kernel_rfl)) (fun _ _ _ h => h) (Or.inl ⟨by rfl, ?_⟩) ?_ ?_
                           rotate_left
                           ·intro w'
                            go_simp
                            with_reducible rfl
                           rotate_left
                           ·simp only [Act.put, sL1, sL2, sL3, i64_w, i32_w]
                            rfl
                           refine pure_ (i := 2) (N := some 206) (v := ?_) (a' := ?_) #[true, true, true, false, false, false, false, false, false, false, false, false, false, false, false, false, false, false, false, false, false, false, false, false, false, false, false, false, false, false, false, false, false, false, false, false, false, false, false, false] rfl rfl (any_of HT_.out (by kernel_rfl)) (fun _ _ _ h => h) (Or.inl ⟨by rfl, ?_⟩) ?_ ?_
                           rotate_left
                           ·intro w'
                            go_simp
                            with_reducible rfl
                           rotate_left
                           ·simp only [Act.put, sL1, sL2, sL3, i64_w, i32_w]
                            rfl
                           refine pure_ (i := 3) (N := some 207) (v := ?_) (a' := ?_) #[true, true, true, true, false, false, false, false, false, false, false, false, false, false, false, false, false, false, false, false, false, false, false, false, false, false, false, false, false, false, false, false, false, false, false, false, false, false, false, false] rfl rfl (any_of HT_.out (by kernel_rfl)) (fun _ _ _ h => h) (Or.inl ⟨by rfl, ?_⟩) ?_ ?_
                           rotate_left
                           ·intro w'
                            go_simp
                            with_reducible rfl
                           rotate_left
                           ·simp only [Act.put, sL1, sL2, sL3, i64_w, i32_w]
                            rfl
                           refine pure_ (i := 5) (N := some 209) (v := ?_) (a' := ?_) #[true, true, true, true, false, true, false, false, false, false, false, false, false, false, false, false, false, false, false, false, false, false, false, false, false, false, false, false, false, false, false, false, false, false, false, false, false, false, false, false] rfl rfl (any_of HT_.out (by kernel_rfl)) (fun _ _ _ h => h) (Or.inl ⟨by rfl, ?_⟩) ?_ ?_
                           rotate_left
                           ·intro w'
                            go_simp
                            with_reducible rfl
                           rotate_left
                           ·simp only [Act.put, sL1, sL2, sL3, i64_w, i32_w]
                            rfl
                           refine take_ (i := 4) (N := some 208) (v := ?_) (a' := ?_) #[true, true, true, true, true, true, false, false, false, false, false, false, false, false, false, false, false, false, false, false, false, false, false, false, false, false, false, false, false, false, false, false, false, false, false, false, false, false, false, false] rfl rfl (take_ofW HT_.out HW_.out (by kernel_rfl)) (fun _ _ _ h => h) (Or.inl ⟨by rfl, ?_⟩) hHeld ?_ ?_
                           rotate_left
                           ·rintro w' ⟨s0, s1, s2, s3, s4, s5, s6, s7, s8, s9, s10, s11⟩
                            go_simp
                            with_reducible rfl
                           rotate_left
                           ·simp only [Act.put, sL1, sL2, sL3, i64_w, i32_w]
                            rfl
                           refine pure_ (i := 6) (N := some 210) (v := ?_) (a' := ?_) #[true, true, true, true, true, true, true, false, false, false, false, false, false, false, false, false, false, false, false, false, false, false, false, false, false, false, false, false, false, false, false, false, false, false, false, false, false, false, false, false] rfl rfl (any_of HT_.out (by kernel_rfl)) (fun _ _ _ h => h) (Or.inl ⟨by rfl, ?_⟩) ?_ ?_
                           rotate_left
                           ·intro w'
                            go_simp
                            with_reducible rfl
                           rotate_left
                           ·simp only [Act.put, sL1, sL2, sL3, i64_w, i32_w]
                            rfl
                           refine pure_ (i := 7) (N := some 211) (v := ?_) (a' := ?_) #[true, true, true, true, true, true, true, true, false, false, false, false, false, false, false, false, false, false, false, false, false, false, false, false, false, false, false, false, false, false, false, false, false, false, false, false, false, false, false, false] rfl rfl (any_of HT_.out (by kernel_rfl)) (fun _ _ _ h => h) (Or.inl ⟨by rfl, ?_⟩) ?_ ?_
                           rotate_left
                           ·intro w'
                            go_simp
                            with_reducible rfl
                           rotate_left
                           ·simp only [Act.put, sL1, sL2, sL3, i64_w, i32_w]
                            rfl
                           refine pure_ (i := 8) (N := some 212) (v := ?_) (a' := ?_) #[true, true, true, true, true, true, true, true, true, false, false, false, false, false, false, false, false, false, false, false, false, false, false, false, false, false, false, false, false, false, false, false, false, false, false, false, false, false, false, false] rfl rfl (any_of HT_.out (by kernel_rfl)) (fun _ _ _ h => h) (Or.inl ⟨by rfl, ?_⟩) ?_ ?_
                           rotate_left
                           ·intro w'
                            go_simp
                            with_reducible rfl
                           rotate_left
                           ·simp only [Act.put, sL1, sL2, sL3, i64_w, i32_w]
                            rfl
                           refine pure_ (i := 9) (N := some 213) (v := ?_) (a' := ?_) #[true, true, true, true, true, true, true, true, true, true, false, false, false, false, false, false, false, false, false, false, false, false, false, false, false, false, false, false, false, false, false, false, false, false, false, false, false, false, false, false] rfl rfl (any_of HT_.out (by kernel_rfl)) (fun _ _ _ h => h) (Or.inl ⟨by rfl, ?_⟩) ?_ ?_
                           rotate_left
                           ·intro w'
                            go_simp
                            with_reducible rfl
                           rotate_left
                           ·simp only [Act.put, sL1, sL2, sL3, i64_w, i32_w]
                            rfl
                           refine pure_ (i := 10) (N := some 214) (v := ?_) (a' := ?_) #[true, true, true, true, true, true, true, true, true, true, true, false, false, false, false, false, false, false, false, false, false, false, false, false, false, false, false, false, false, false, false, false, false, false, false, false, false, false, false, false] rfl rfl (any_of HT_.out (by kernel_rfl)) (fun _ _ _ h => h) (Or.inl ⟨by rfl, ?_⟩) ?_ ?_
                           rotate_left
                           ·intro w'
                            go_simp
                            with_reducible rfl
                           rotate_left
                           ·simp only [Act.put, sL1, sL2, sL3, i64_w, i32_w]
                            rfl
                           refine pure_ (i := 11) (N := some 215) (v := ?_) (a' := ?_) #[true, true, true, true, true, true, true, true, true, true, true, true, false, false, false, false, false, false, false, false, false, false, false, false, false, false, false, false, false, false, false, false, false, false, false, false, false, false, false, false] rfl rfl (any_of HT_.out (by kernel_rfl)) (fun _ _ _ h => h) (Or.inl ⟨by rfl, ?_⟩) ?_ ?_
                           rotate_left
                           ·intro w'
                            go_simp
                            with_reducible rfl
                           rotate_left
                           ·simp only [Act.put, sL1, sL2, sL3, i64_w, i32_w]
                            rfl
                           refine pure_ (i := 13) (N := some 217) (v := ?_) (a' := ?_) #[true, true, true, true, true, true, true, true, true, true, true, true, false, true, false, false, false, false, false, false, false, false, false, false, false, false, false, false, false, false, false, false, false, false, false, false, false, false, false, false] rfl rfl (any_of HT_.out (by kernel_rfl)) (fun _ _ _ h => h) (Or.inl ⟨by rfl, ?_⟩) ?_ ?_
                           rotate_left
                           ·intro w'
                            go_simp
                            with_reducible rfl
                           rotate_left
                           ·simp only [Act.put, sL1, sL2, sL3, i64_w, i32_w]
                            rfl
                           refine take_ (i := 12) (N := some 216) (v := ?_) (a' := ?_) #[true, true, true, true, true, true, true, true, true, true, true, true, true, true, false, false, false, false, false, false, false, false, false, false, false, false, false, false, false, false, false, false, false, false, false, false, false, false, false, false] rfl rfl (take_ofW HT_.out HW_.out (by kernel_rfl)) (fun _ _ _ h => h) (Or.inl ⟨by rfl, ?_⟩) hHeld ?_ ?_
                           rotate_left
                           ·rintro w' ⟨s0, s1, s2, s3, s4, s5, s6, s7, s8, s9, s10, s11⟩
                            go_simp
                            with_reducible rfl
                           rotate_left
                           ·simp only [Act.put, sL1, sL2, sL3, i64_w, i32_w]
                            rfl
                           refine pure_ (i := 14) (N := some 218) (v := ?_) (a' := ?_) #[true, true, true, true, true, true, true, true, true, true, true, true, true, true, true, false, false, false, false, false, false, false, false, false, false, false, false, false, false, false, false, false, false, false, false, false, false, false, false, false] rfl rfl (any_of HT_.out (by kernel_rfl)) (fun _ _ _ h => h) (Or.inl ⟨by rfl, ?_⟩) ?_ ?_
                           rotate_left
                           ·intro w'
                            go_simp
                            with_reducible rfl
                           rotate_left
                           ·simp only [Act.put, sL1, sL2, sL3, i64_w, i32_w]
                            rfl
                           refine pure_ (i := 15) (N := some 219) (v := ?_) (a' := ?_) #[true, true, true, true, true, true, true, true, true, true, true, true, true, true, true, true, false, false, false, false, false, false, false, false, false, false, false, false, false, false, false, false, false, false, false, false, false, false, false, false] rfl rfl (any_of HT_.out (by kernel_rfl)) (fun _ _ _ h => h) (Or.inl ⟨by rfl, ?_⟩) ?_ ?_
                           rotate_left
                           ·intro w'
                            go_simp
                            with_reducible rfl
                           rotate_left
                           ·simp only [Act.put, sL1, sL2, sL3, i64_w, i32_w]
                            rfl
                           refine pure_ (i := 16) (N := some 220) (v := ?_) (a' := ?_) #[true, true, true, true, true, true, true, true, true, true, true, true, true, true, true, true, true, false, false, false, false, false, false, false, false, false, false, false, false, false, false, false, false, false, false, false, false, false, false, false] rfl rfl (any_of HT_.out (by kernel_rfl)) (fun _ _ _ h => h) (Or.inl ⟨by rfl, ?_⟩) ?_ ?_
                           rotate_left
                           ·intro w'
                            go_simp
                            with_reducible rfl
                           rotate_left
                           ·simp only [Act.put, sL1, sL2, sL3, i64_w, i32_w]
                            rfl
                           refine pure_ (i := 17) (N := some 221) (v := ?_) (a' := ?_) #[true, true, true, true, true, true, true, true, true, true, true, true, true, true, true, true, true, true, false, false, false, false, false, false, false, false, false, false, false, false, false, false, false, false, false, false, false, false, false, false] rfl rfl (any_of HT_.out (by kernel_rfl)) (fun _ _ _ h => h) (Or.inl ⟨by rfl, ?_⟩) ?_ ?_
                           rotate_left
                           ·intro w'
                            go_simp
                            with_reducible rfl
                           rotate_left
                           ·simp only [Act.put, sL1, sL2, sL3, i64_w, i32_w]
                            rfl
                           refine pure_ (i := 18) (N := some 222) (v := ?_) (a' := ?_) #[true, true, true, true, true, true, true, true, true, true, true, true, true, true, true, true, true, true, true, false, false, false, false, false, false, false, false, false, false, false, false, false, false, false, false, false, false, false, false, false] rfl rfl (any_of HT_.out (by kernel_rfl)) (fun _ _ _ h => h) (Or.inl ⟨by rfl, ?_⟩) ?_ ?_
                           rotate_left
                           ·intro w'
                            go_simp
                            with_reducible rfl
                           rotate_left
                           ·simp only [Act.put, sL1, sL2, sL3, i64_w, i32_w]
                            rfl
                           refine pure_ (i := 19) (N := some 223) (v := ?_) (a' := ?_) #[true, true, true, true, true, true, true, true, true, true, true, true, true, true, true, true, true, true, true, true, false, false, false, false, false, false, false, false, false, false, false, false, false, false, false, false, false, false, false, false] rfl rfl (any_of HT_.out (by kernel_rfl)) (fun _ _ _ h => h) (Or.inl ⟨by rfl, ?_⟩) ?_ ?_
                           rotate_left
                           ·intro w'
                            go_simp
                            with_reducible rfl
                           rotate_left
                           ·simp only [Act.put, sL1, sL2, sL3, i64_w, i32_w]
                            rfl
                           refine pure_ (i := 20) (N := some 224) (v := ?_) (a' := ?_) #[true, true, true, true, true, true, true, true, true, true, true, true, true, true, true, true, true, true, true, true, true, false, false, false, false, false, false, false, false, false, false, false, false, false, false, false, false, false, false, false] rfl rfl (any_of HT_.out (by kernel_rfl)) (fun _ _ _ h => h) (Or.inl ⟨by rfl, ?_⟩) ?_ ?_
                           rotate_left
                           ·intro w'
                            go_simp
                            with_reducible rfl
                           rotate_left
                           ·simp only [Act.put, sL1, sL2, sL3, i64_w, i32_w]
                            rfl
                           refine pure_ (i := 21) (N := some 225) (v := ?_) (a' := ?_) #[true, true, true, true, true, true, true, true, true, true, true, true, true, true, true, true, true, true, true, true, true, true, false, false, false, false, false, false, false, false, false, false, false, false, false, false, false, false, false, false] rfl rfl (any_of HT_.out (by kernel_rfl)) (fun _ _ _ h => h) (Or.inl ⟨by rfl, ?_⟩) ?_ ?_
                           rotate_left
                           ·intro w'
                            go_simp
                            with_reducible rfl
                           rotate_left
                           ·simp only [Act.put, sL1, sL2, sL3, i64_w, i32_w]
                            rfl
                           refine pure_ (i := 22) (N := some 226) (v := ?_) (a' := ?_) #[true, true, true, true, true, true, true, true, true, true, true, true, true, true, true, true, true, true, true, true, true, true, true, false, false, false, false, false, false, false, false, false, false, false, false, false, false, false, false, false] rfl rfl (any_of HT_.out (by kernel_rfl)) (fun _ _ _ h => h) (Or.inl ⟨by rfl, ?_⟩) ?_ ?_
                           rotate_left
                           ·intro w'
                            go_simp
                            with_reducible rfl
                           rotate_left
                           ·simp only [Act.put, sL1, sL2, sL3, i64_w, i32_w]
                            rfl
                           refine pure_ (i := 23) (N := some 227) (v := ?_) (a' := ?_) #[true, true, true, true, true, true, true, true, true, true, true, true, true, true, true, true, true, true, true, true, true, true, true, true, false, false, false, false, false, false, false, false, false, false, false, false, false, false, false, false] rfl rfl (any_of HT_.out (by kernel_rfl)) (fun _ _ _ h => h) (Or.inl ⟨by rfl, ?_⟩) ?_ ?_
                           rotate_left
                           ·intro w'
                            go_simp
                            with_reducible rfl
                           rotate_left
                           ·simp only [Act.put, sL1, sL2, sL3, i64_w, i32_w]
                            rfl
                           refine pure_ (i := 24) (N := some 228) (v := ?_) (a' := ?_) #[true, true, true, true, true, true, true, true, true, true, true, true, true, true, true, true, true, true, true, true, true, true, true, true, true, false, false, false, false, false, false, false, false, false, false, false, false, false, false, false] rfl rfl (any_of HT_.out (by kernel_rfl)) (fun _ _ _ h => h) (Or.inl ⟨by rfl, ?_⟩) ?_ ?_
                           rotate_left
                           ·intro w'
                            go_simp
                            with_reducible rfl
                           rotate_left
                           ·simp only [Act.put, sL1, sL2, sL3, i64_w, i32_w]
                            rfl
                           refine pure_ (i := 25) (N := some 229) (v := ?_) (a' := ?_) #[true, true, true, true, true, true, true, true, true, true, true, true, true, true, true, true, true, true, true, true, true, true, true, true, true, true, false, false, false, false, false, false, false, false, false, false, false, false, false, false] rfl rfl (any_of HT_.out (by kernel_rfl)) (fun _ _ _ h => h) (Or.inl ⟨by rfl, ?_⟩) ?_ ?_
                           rotate_left
                           ·intro w'
                            go_simp
                            with_reducible rfl
                           rotate_left
                           ·simp only [Act.put, sL1, sL2, sL3, i64_w, i32_w]
                            rfl
                           refine pure_ (i := 26) (N := some 230) (v := ?_) (a' := ?_) #[true, true, true, true, true, true, true, true, true, true, true, true, true, true, true, true, true, true, true, true, true, true, true, true, true, true, true, false, false, false, false, false, false, false, false, false, false, false, false, false] rfl rfl (any_of HT_.out (by kernel_rfl)) (fun _ _ _ h => h) (Or.inl ⟨by rfl, ?_⟩) ?_ ?_
                           rotate_left
                           ·intro w'
                            go_simp
                            with_reducible rfl
                           rotate_left
                           ·simp only [Act.put, sL1, sL2, sL3, i64_w, i32_w]
                            rfl
                           refine pure_ (i := 27) (N := some 231) (v := ?_) (a' := ?_) #[true, true, true, true, true, true, true, true, true, true, true, true, true, true, true, true, true, true, true, true, true, true, true, true, true, true, true, true, false, false, false, false, false, false, false, false, false, false, false, false] rfl rfl (any_of HT_.out (by kernel_rfl)) (fun _ _ _ h => h) (Or.inl ⟨by rfl, ?_⟩) ?_ ?_
                           rotate_left
                           ·intro w'
                            go_simp
                            with_reducible rfl
                           rotate_left
                           ·simp only [Act.put, sL1, sL2, sL3, i64_w, i32_w]
                            rfl
                           refine pure_ (i := 28) (N := some 232) (v := ?_) (a' := ?_) #[true, true, true, true, true, true, true, true, true, true, true, true, true, true, true, true, true, true, true, true, true, true, true, true, true, true, true, true, true, false, false, false, false, false, false, false, false, false, false, false] rfl rfl (any_of HT_.out (by kernel_rfl)) (fun _ _ _ h => h) (Or.inl ⟨by rfl, ?_⟩) ?_ ?_
                           rotate_left
                           ·intro w'
                            go_simp
                            with_reducible rfl
                           rotate_left
                           ·simp only [Act.put, sL1, sL2, sL3, i64_w, i32_w]
                            rfl
                           refine pure_ (i := 29) (N := some 233) (v := undef) (a' := ?_) #[true, true, true, true, true, true, true, true, true, true, true, true, true, true, true, true, true, true, true, true, true, true, true, true, true, true, true, true, true, true, false, false, false, false, false, false, false, false, false, false] rfl rfl (any_of HT_.out (by kernel_rfl)) (fun _ _ _ h => h) (Or.inr ⟨by rfl, rfl⟩) ?_ ?_
                           rotate_left
                           ·simp only [Act.put, sL1, sL2, sL3, i64_w, i32_w]
                            rfl
                           refine pure_ (i := 30) (N := some 234) (v := undef) (a' := ?_) #[true, true, true, true, true, true, true, true, true, true, true, true, true, true, true, true, true, true, true, true, true, true, true, true, true, true, true, true, true, true, true, false, false, false, false, false, false, false, false, false] rfl rfl (any_of HT_.out (by kernel_rfl)) (fun _ _ _ h => h) (Or.inr ⟨by rfl, rfl⟩) ?_ ?_
                           rotate_left
                           ·simp only [Act.put, sL1, sL2, sL3, i64_w, i32_w]
                            rfl
                           refine pure_ (i := 31) (N := some 235) (v := undef) (a' := ?_) #[true, true, true, true, true, true, true, true, true, true, true, true, true, true, true, true, true, true, true, true, true, true, true, true, true, true, true, true, true, true, true, true, false, false, false, false, false, false, false, false] rfl rfl (any_of HT_.out (by kernel_rfl)) (fun _ _ _ h => h) (Or.inr ⟨by rfl, rfl⟩) ?_ ?_
                           rotate_left
                           ·simp only [Act.put, sL1, sL2, sL3, i64_w, i32_w]
                            rfl
                           refine pure_ (i := 32) (N := some 236) (v := undef) (a' := ?_) #[true, true, true, true, true, true, true, true, true, true, true, true, true, true, true, true, true, true, true, true, true, true, true, true, true, true, true, true, true, true, true, true, true, false, false, false, false, false, false, false] rfl rfl (any_of HT_.out (by kernel_rfl)) (fun _ _ _ h => h) (Or.inr ⟨by rfl, rfl⟩) ?_ ?_
                           rotate_left
                           ·simp only [Act.put, sL1, sL2, sL3, i64_w, i32_w]
                            rfl
                           refine pure_ (i := 33) (N := some 237) (v := undef) (a' := ?_) #[true, true, true, true, true, true, true, true, true, true, true, true, true, true, true, true, true, true, true, true, true, true, true, true, true, true, true, true, true, true, true, true, true, true, false, false, false, false, false, false] rfl rfl (any_of HT_.out (by kernel_rfl)) (fun _ _ _ h => h) (Or.inr ⟨by rfl, rfl⟩) ?_ ?_
                           rotate_left
                           ·simp only [Act.put, sL1, sL2, sL3, i64_w, i32_w]
                            rfl
                           refine pure_ (i := 34) (N := some 238) (v := undef) (a' := ?_) #[true, true, true, true, true, true, true, true, true, true, true, true, true, true, true, true, true, true, true, true, true, true, true, true, true, true, true, true, true, true, true, true, true, true, true, false, false, false, false, false] rfl rfl (any_of HT_.out (by kernel_rfl)) (fun _ _ _ h => h) (Or.inr ⟨by rfl, rfl⟩) ?_ ?_
                           rotate_left
                           ·simp only [Act.put, sL1, sL2, sL3, i64_w, i32_w]
                            rfl
                           refine pure_ (i := 35) (N := some 239) (v := undef) (a' := ?_) #[true, true, true, true, true, true, true, true, true, true, true, true, true, true, true, true, true, true, true, true, true, true, true, true, true, true, true, true, true, true, true, true, true, true, true, true, false, false, false, false] rfl rfl (any_of HT_.out (by kernel_rfl)) (fun _ _ _ h => h) (Or.inr ⟨by rfl, rfl⟩) ?_ ?_
                           rotate_left
                           ·simp only [Act.put, sL1, sL2, sL3, i64_w, i32_w]
                            rfl
                           refine pure_ (i := 36) (N := some 240) (v := undef) (a' := ?_) #[true, true, true, true, true, true, true, true, true, true, true, true, true, true, true, true, true, true, true, true, true, true, true, true, true, true, true, true, true, true, true, true, true, true, true, true, true, false, false, false] rfl rfl (any_of HT_.out (by kernel_rfl)) (fun _ _ _ h => h) (Or.inr ⟨by rfl, rfl⟩) ?_ ?_
                           rotate_left
                           ·simp only [Act.put, sL1, sL2, sL3, i64_w, i32_w]
                            rfl
                           refine pure_ (i := 37) (N := some 241) (v := undef) (a' := ?_) #[true, true, true, true, true, true, true, true, true, true, true, true, true, true, true, true, true, true, true, true, true, true, true, true, true, true, true, true, true, true, true, true, true, true, true, true, true, true, false, false] rfl rfl (any_of HT_.out (by kernel_rfl)) (fun _ _ _ h => h) (Or.inr ⟨by rfl, rfl⟩) ?_ ?_
                           rotate_left
                           ·simp only [Act.put, sL1, sL2, sL3, i64_w, i32_w]
                            rfl
                           refine pure_ (i := 38) (N := some 242) (v := undef) (a' := ?_) #[true, true, true, true, true, true, true, true, true, true, true, true, true, true, true, true, true, true, true, true, true, true, true, true, true, true, true, true, true, true, true, true, true, true, true, true, true, true, true, false] rfl rfl (any_of HT_.out (by kernel_rfl)) (fun _ _ _ h => h) (Or.inr ⟨by rfl, rfl⟩) ?_ ?_
                           rotate_left
                           ·simp only [Act.put, sL1, sL2, sL3, i64_w, i32_w]
                            rfl
                           refine pure_ (i := 39) (N := some 243) (v := ?_) (a' := ?_) #[true, true, true, true, true, true, true, true, true, true, true, true, true, true, true, true, true, true, true, true, true, true, true, true, true, true, true, true, true, true, true, true, true, true, true, true, true, true, true, true] rfl rfl (any_of HT_.out (by kernel_rfl)) (fun _ _ _ h => h) (Or.inl ⟨by rfl, ?_⟩) ?_ ?_
                           rotate_left
                           ·intro w'
                            go_simp
                            with_reducible rfl
                           rotate_left
                           ·simp only [Act.put, sL1, sL2, sL3, i64_w, i32_w]
                            rfl
                           refine done_ (done_of HT_.out (by kernel_rfl)) ?_
                           try go_wp2
                           go_meet
                           case rel => exact ⟨_, (true), (by first | rfl | (simp; done) | (simp [*]; done)), H', ⟨by have := HJ2.out; have := HK2.out; have := HJ16.out; have := HK4.out; have := HK5.out; first | omega | exact Nat.le_refl _⟩, ⟨by (with_reducible repeat (first | apply Kd.R_alloc | apply Kd.R_drewN | apply Kd.R_drew)); exact HO_5.out⟩, ⟨by repeat (first | (with_reducible first | exact HB.out | apply below_alloc | apply bdN | apply bd1) | exact HB.out)⟩⟩
                          ·rw [if_neg c48] at H
                           have c48b0 : decide ((l1.length : Int) ≤ ((rd_T45 t223 x10_2).f3)) = false := decide_eq_false c48
                           clear c48
                           by_cases c50 : 0 ≤ ((rd_T45 t223 x10_2).f1)
                           ·rw [if_pos c50] at H
                            have c50b0 : decide (0 ≤ ((rd_T45 t223 x10_2).f1)) = true := decide_eq_true c50
                            clear c50
                            by_cases c51 : ((rd_T45 t223 x10_2).f1) < (l0.length : Int)
                            ·rw [if_pos c51] at H
                             have c51b0 : decide (((rd_T45 t223 x10_2).f1) < (l0.length : Int)) = true := decide_eq_true c51
                             clear c51
                             by_cases c52 : 0 ≤ ((rd_T45 t223 x10_2).f3)
                             ·rw [if_pos c52] at H
                              have c52b0 : decide (0 ≤ ((rd_T45 t223 x10_2).f3)) = true := decide_eq_true c52
                              clear c52
                              by_cases c53 : ((rd_T45 t223 x10_2).f3) < (l1.length : Int)
                              ·rw [if_pos c53] at H
                               have c53b0 : decide (((rd_T45 t223 x10_2).f3) < (l1.length : Int)) = true := decide_eq_true c53
                               clear c53
                               replace H := Option.bind_eq_some_iff.mp H
                               obtain ⟨t247, A540, H⟩ := H
                               replace H : (regcertlaw13_AlignRows.j5 k5 l0 l1 t223 t224 ((rd_T45 t223 x10_2).f1) ((rd_T45 t223 x10_2).f3) x10_2 (!t247)) = some r := H
                               have A54 := As0 A540
                               clear A540
                               have H' := As0 H
                               clear H
                               try go_wp2
                               have n0_ := As0 (Kd.R_drew HO_5.out)
                               have n1_ := As0 (bd1 HB.out)
                               clear HO_5
                               clear HB
                               have HO_5 := n0_
                               have HB := n1_
                               clear n0_ n1_
                               have p243 : 0 ≤ (x10_2 : Int) := of_decide_eq_true (by first | (with_reducible assumption) | assumption)
                               have q243 : x10_2 < (t223.length : Int) := of_decide_eq_true (by first | (with_reducible assumption) | assumption)
                               obtain ⟨ad243, e243, hx243_0, hx243_1, hx243_2, hx243_3, hx243_4, hx243_5⟩ := at_T45 (Kd.R_reads' HO_5.out).2.2 x10_2 p243 q243
                               obtain rfl : ad235 = ad243 := (by injection e243)
                               replace p243 := eq_true p243
                               replace q243 := eq_true q243
                               have p244 : 0 ≤ (x10_2 : Int) := of_decide_eq_true (by first | (with_reducible assumption) | assumption)
                               have q244 : x10_2 < (t223.length : Int) := of_decide_eq_true (by first | (with_reducible assumption) | assumption)
                               obtain ⟨ad244, e244, hx244_0, hx244_1, hx244_2, hx244_3, hx244_4, hx244_5⟩ := at_T45 (Kd.R_reads' HO_5.out).2.2 x10_2 p244 q244
                               obtain rfl : ad235 = ad244 := (by injection e244)
                               replace p244 := eq_true p244
                               replace q244 := eq_true q244
                               have p245 : 0 ≤ (((rd_T45 t223 x10_2).f1) : Int) := of_decide_eq_true (by first | (with_reducible assumption) | assumption)
                               have q245 : ((rd_T45 t223 x10_2).f1) < (l0.length : Int) := of_decide_eq_true (by first | (with_reducible assumption) | assumption)
                               obtain ⟨ad245, e245, hx245_0, hx245_1, hx245_2, hx245_3, hx245_4⟩ := at_T25 HR0.out ((rd_T45 t223 x10_2).f1) p245 q245
                               have hw245_4 := hx245_4
                               have hw245_3 := hx245_3
                               have hw245_2 := hx245_2
                               have hw245_1 := hx245_1
                               have hw245_0 := hx245_0
                               cases e245
                               replace hx245_0 := (HB.out.cell (wblt w hx245_0)).trans hx245_0
                               replace hx245_1 := (HB.out.cell (wblt w hx245_1)).trans hx245_1
                               replace hx245_2 := (HB.out.cell (wblt w hx245_2)).trans hx245_2
                               replace hx245_3 := (HB.out.cell (wblt w hx245_3)).trans hx245_3
                               replace hx245_4 := (HB.out.cell (wblt w hx245_4)).trans hx245_4
                               replace p245 := eq_true p245
                               replace q245 := eq_true q245
                               have p246 : 0 ≤ (((rd_T45 t223 x10_2).f3) : Int) := of_decide_eq_true (by first | (with_reducible assumption) | assumption)
                               have q246 : ((rd_T45 t223 x10_2).f3) < (l1.length : Int) := of_decide_eq_true (by first | (with_reducible assumption) | assumption)
                               obtain ⟨ad246, e246, hx246_0, hx246_1, hx246_2, hx246_3, hx246_4, hx246_5, hx246_6⟩ := at_T28 HR1.out ((rd_T45 t223 x10_2).f3) p246 q246
                               have hw246_6 := hx246_6
                               have hw246_5 := hx246_5
                               have hw246_4 := hx246_4
                               have hw246_3 := hx246_3
                               have hw246_2 := hx246_2
                               have hw246_1 := hx246_1
                               have hw246_0 := hx246_0
                               cases e246
                               replace hx246_0 := (HB.out.cell (wblt w hx246_0)).trans hx246_0
                               replace hx246_1 := (HB.out.cell (wblt w hx246_1)).trans hx246_1
                               replace hx246_2 := (HB.out.cell (wblt w hx246_2)).trans hx246_2
                               replace hx246_3 := (HB.out.cell (wblt w hx246_3)).trans hx246_3
                               replace hx246_4 := (HB.out.cell (wblt w hx246_4)).trans hx246_4
                               replace hx246_5 := (HB.out.cell (wblt w hx246_5)).trans hx246_5
                               replace hx246_6 := (HB.out.cell (wblt w hx246_6)).trans hx246_6
                               replace p246 := eq_true p246
                               replace q246 := eq_true q246
                               refine start_ (n := 40) (S := fun w' => w'.cell? (ad235.add ((x10_2).toNat * 6)) = some (.int .i64 ((rd_T45 t223 x10_2).f0)) ∧ w'.cell? ⟨(ad235.add ((x10_2).toNat * 6)).block, (ad235.add ((x10_2).toNat * 6)).off + 1, none⟩ = some (.int .i64 ((rd_T45 t223 x10_2).f1)) ∧ w'.cell? ⟨(ad235.add ((x10_2).toNat * 6)).block, (ad235.add ((x10_2).toNat * 6)).off + 2, none⟩ = some (.int .i64 ((rd_T45 t223 x10_2).f2)) ∧ w'.cell? ⟨(ad235.add ((x10_2).toNat * 6)).block, (ad235.add ((x10_2).toNat * 6)).off + 3, none⟩ = some (.int .i64 ((rd_T45 t223 x10_2).f3)) ∧ w'.cell? ⟨(ad235.add ((x10_2).toNat * 6)).block, (ad235.add ((x10_2).toNat * 6)).off + 4, none⟩ = some (.int .i64 ((rd_T45 t223 x10_2).f4)) ∧ w'.cell? ⟨(ad235.add ((x10_2).toNat * 6)).block, (ad235.add ((x10_2).toNat * 6)).off + 5, none⟩ = some (.int .i64 ((rd_T45 t223 x10_2).f5)) ∧ w'.cell? (ad235.add ((x10_2).toNat * 6)) = some (.int .i64 ((rd_T45 t223 x10_2).f0)) ∧ w'.cell? ⟨(ad235.add ((x10_2).toNat * 6)).block, (ad235.add ((x10_2).toNat * 6)).off + 1, none⟩ = some (.int .i64 ((rd_T45 t223 x10_2).f1)) ∧ w'.cell? ⟨(ad235.add ((x10_2).toNat * 6)).block, (ad235.add ((x10_2).toNat * 6)).off + 2, none⟩ = some (.int .i64 ((rd_T45 t223 x10_2).f2)) ∧ w'.cell? ⟨(ad235.add ((x10_2).toNat * 6)).block, (ad235.add ((x10_2).toNat * 6)).off + 3, none⟩ = some (.int .i64 ((rd_T45 t223 x10_2).f3)) ∧ w'.cell? ⟨(ad235.add ((x10_2).toNat * 6)).block, (ad235.add ((x10_2).toNat * 6)).off + 4, none⟩ = some (.int .i64 ((rd_T45 t223 x10_2).f4)) ∧ w'.cell? ⟨(ad235.add ((x10_2).toNat * 6)).block, (ad235.add ((x10_2).toNat * 6)).off + 5, none⟩ = some (.int .i64 ((rd_T45 t223 x10_2).f5)) ∧ w'.cell? (ad245.add ((((rd_T45 t223 x10_2).f1)).toNat * 5)) = some (.int .i64 ((rd_T25 l0 ((rd_T45 t223 x10_2).f1)).f0)) ∧ w'.cell? ⟨(ad245.add ((((rd_T45 t223 x10_2).f1)).toNat * 5)).block, (ad245.add ((((rd_T45 t223 x10_2).f1)).toNat * 5)).off + 1, none⟩ = some (.int .i64 ((rd_T25 l0 ((rd_T45 t223 x10_2).f1)).f1)) ∧ w'.cell? ⟨(ad245.add ((((rd_T45 t223 x10_2).f1)).toNat * 5)).block, (ad245.add ((((rd_T45 t223 x10_2).f1)).toNat * 5)).off + 2, none⟩ = some (.int .i64 ((rd_T25 l0 ((rd_T45 t223 x10_2).f1)).f2)) ∧ w'.cell? ⟨(ad245.add ((((rd_T45 t223 x10_2).f1)).toNat * 5)).block, (ad245.add ((((rd_T45 t223 x10_2).f1)).toNat * 5)).off + 3, none⟩ = some (.int .i64 ((rd_T25 l0 ((rd_T45 t223 x10_2).f1)).f3)) ∧ w'.cell? ⟨(ad245.add ((((rd_T45 t223 x10_2).f1)).toNat * 5)).block, (ad245.add ((((rd_T45 t223 x10_2).f1)).toNat * 5)).off + 4, none⟩ = some (.int .i64 ((rd_T25 l0 ((rd_T45 t223 x10_2).f1)).f4)) ∧ w'.cell? (ad246.add ((((rd_T45 t223 x10_2).f3)).toNat * 7)) = some (.int .i64 ((rd_T28 l1 ((rd_T45 t223 x10_2).f3)).f0)) ∧ w'.cell? ⟨(ad246.add ((((rd_T45 t223 x10_2).f3)).toNat * 7)).block, (ad246.add ((((rd_T45 t223 x10_2).f3)).toNat * 7)).off + 1, none⟩ = some (.int .i64 ((rd_T28 l1 ((rd_T45 t223 x10_2).f3)).f1)) ∧ w'.cell? ⟨(ad246.add ((((rd_T45 t223 x10_2).f3)).toNat * 7)).block, (ad246.add ((((rd_T45 t223 x10_2).f3)).toNat * 7)).off + 2, none⟩ = some (.int .i64 ((rd_T28 l1 ((rd_T45 t223 x10_2).f3)).f2)) ∧ w'.cell? ⟨(ad246.add ((((rd_T45 t223 x10_2).f3)).toNat * 7)).block, (ad246.add ((((rd_T45 t223 x10_2).f3)).toNat * 7)).off + 3, none⟩ = some (.int .i64 ((rd_T28 l1 ((rd_T45 t223 x10_2).f3)).f3)) ∧ w'.cell? ⟨(ad246.add ((((rd_T45 t223 x10_2).f3)).toNat * 7)).block, (ad246.add ((((rd_T45 t223 x10_2).f3)).toNat * 7)).off + 4, none⟩ = some (.int .i64 ((rd_T28 l1 ((rd_T45 t223 x10_2).f3)).f4)) ∧ w'.cell? ⟨(ad246.add ((((rd_T45 t223 x10_2).f3)).toNat * 7)).block, (ad246.add ((((rd_T45 t223 x10_2).f3)).toNat * 7)).off + 5, none⟩ = some (.int .i64 ((rd_T28 l1 ((rd_T45 t223 x10_2).f3)).f5)) ∧ w'.cell? ⟨(ad246.add ((((rd_T45 t223 x10_2).f3)).toNat * 7)).block, (ad246.add ((((rd_T45 t223 x10_2).f3)).toNat * 7)).off + 6, none⟩ = some (.int .i64 ((rd_T28 l1 ((rd_T45 t223 x10_2).f3)).f6))) (ds := []) #[false, false, false, false, false, false, false, false, false, false, false, false, false, false, false, false, false, false, false, false, false, false, false, false, false, false, false, false, false, false, false, false, false, false, false, false, false, false, false, false] (by kernel_rfl) rfl rfl ⟨hx243_0, hx243_1, hx243_2, hx243_3, hx243_4, hx243_5, hx244_0, hx244_1, hx244_2, hx244_3, hx244_4, hx244_5, ((HB.out.cell (wblt w hw245_0)).trans hw245_0), ((HB.out.cell (wblt w hw245_1)).trans hw245_1), ((HB.out.cell (wblt w hw245_2)).trans hw245_2), ((HB.out.cell (wblt w hw245_3)).trans hw245_3), ((HB.out.cell (wblt w hw245_4)).trans hw245_4), ((HB.out.cell (wblt w hw246_0)).trans hw246_0), ((HB.out.cell (wblt w hw246_1)).trans hw246_1), ((HB.out.cell (wblt w hw246_2)).trans hw246_2), ((HB.out.cell (wblt w hw246_3)).trans hw246_3), ((HB.out.cell (wblt w hw246_4)).trans hw246_4), ((HB.out.cell (wblt w hw246_5)).trans hw246_5), ((HB.out.cell (wblt w hw246_6)).trans hw246_6)⟩ (fun hHeld => ?_); refine with_tabW regcertlaw13_AlignRows.tab27 regcertlaw13_AlignRows.bits27 (fun HT_ HW_ => ?_)
                               generalize wr.drew = w55 at HO_5 HB hx243_0 hx243_1 hx243_2 hx243_3 hx243_4 hx243_5 hx244_0 hx244_1 hx244_2 hx244_3 hx244_4 hx244_5 hx245_0 hx245_1 hx245_2 hx245_3 hx245_4 hx246_0 hx246_1 hx246_2 hx246_3 hx246_4 hx246_5 hx246_6 hHeld ⊢
                               refine pure_ (i := 0) (N := some 204) (v := ?_) (a' := ?_) #[true, false, false, false, false, false, false, false, false, false, false, false, false, false, false, false, false, false, false, false, false, false, false, false, false, false, false, false, false, false, false, false, false, false, false, false, false, false, false, false] rfl rfl (any_of HT_.out (by kernel_rfl)) (fun _ _ _ h => h) (Or.inl ⟨by rfl, ?_⟩) ?_ ?_
                               rotate_left
                               ·intro w'
                                go_simp
                                with_reducible rfl
                               rotate_left
                               ·simp only [Act.put, sL1, sL2, sL3, i64_w, i32_w]
                                rfl
                               refine pure_ (i := 1) (N := some 205) (v := ?_) (a' := ?_) #[true, true, false, false, false, false, false, false, false, false, false, false, false, false, false, false, false, false, false, false, false, false, false, false, false, false, false, false, false, false, false, false, false, false, false, false, false, false, false, false] rfl rfl (any_of HT_.out (by kernel_rfl)) (fun _ _ _ h => h) (Or.inl ⟨by rfl, ?_⟩) ?_ ?_
                               rotate_left
                               ·intro w'
                                go_simp
                                with_reducible rfl
                               rotate_left
                               ·simp only [Act.put, sL1, sL2, sL3, i64_w, i32_w]
                                rfl
                               refine pure_ (i := 2) (N := some 206) (v := ?_) (a' := ?_) #[true, true, true, false, false, false, false, false, false, false, false, false, false, false, false, false, false, false, false, false, false, false, false, false, false, false, false, false, false, false, false, false, false, false, false, false, false, false, false, false] rfl rfl (any_of HT_.out (by kernel_rfl)) (fun _ _ _ h => h) (Or.inl ⟨by rfl, ?_⟩) ?_ ?_
                               rotate_left
                               ·intro w'
                                go_simp
                                with_reducible rfl
                               rotate_left
                               ·simp only [Act.put, sL1, sL2, sL3, i64_w, i32_w]
                                rfl
                               refine pure_ (i := 3) (N := some 207) (v := ?_) (a' := ?_) #[true, true, true, true, false, false, false, false, false, false, false, false, false, false, false, false, false, false, false, false, false, false, false, false, false, false, false, false, false, false, false, false, false, false, false, false, false, false, false, false] rfl rfl (any_of HT_.out (by kernel_rfl)) (fun _ _ _ h => h) (Or.inl ⟨by rfl, ?_⟩) ?_ ?_
                               rotate_left
                               ·intro w'
                                go_simp
                                with_reducible rfl
                               rotate_left
                               ·simp only [Act.put, sL1, sL2, sL3, i64_w, i32_w]
                                rfl
                               refine pure_ (i := 5) (N := some 209) (v := ?_) (a' := ?_) #[true, true, true, true, false, true, false, false, false, false, false, false, false, false, false, false, false, false, false, false, false, false, false, false, false, false, false, false, false, false, false, false, false, false, false, false, false, false, false, false] rfl rfl (any_of HT_.out (by kernel_rfl)) (fun _ _ _ h => h) (Or.inl ⟨by rfl, ?_⟩) ?_ ?_
                               rotate_left
                               ·intro w'
                                go_simp
                                with_reducible rfl
                               rotate_left
                               ·simp only [Act.put, sL1, sL2, sL3, i64_w, i32_w]
                                rfl
                               refine take_ (i := 4) (N := some 208) (v := ?_) (a' := ?_) #[true, true, true, true, true, true, false, false, false, false, false, false, false, false, false, false, false, false, false, false, false, false, false, false, false, false, false, false, false, false, false, false, false, false, false, false, false, false, false, false] rfl rfl (take_ofW HT_.out HW_.out (by kernel_rfl)) (fun _ _ _ h => h) (Or.inl ⟨by rfl, ?_⟩) hHeld ?_ ?_
                               rotate_left
                               ·rintro w' ⟨s0, s1, s2, s3, s4, s5, s6, s7, s8, s9, s10, s11, s12, s13, s14, s15, s16, s17, s18, s19, s20, s21, s22, s23⟩
                                go_simp
                                with_reducible rfl
                               rotate_left
                               ·simp only [Act.put, sL1, sL2, sL3, i64_w, i32_w]
                                rfl
                               refine pure_ (i := 6) (N := some 210) (v := ?_) (a' := ?_) #[true, true, true, true, true, true, true, false, false, false, false, false, false, false, false, false, false, false, false, false, false, false, false, false, false, false, false, false, false, false, false, false, false, false, false, false, false, false, false, false] rfl rfl (any_of HT_.out (by kernel_rfl)) (fun _ _ _ h => h) (Or.inl ⟨by rfl, ?_⟩) ?_ ?_
                               rotate_left
                               ·intro w'
                                go_simp
                                with_reducible rfl
                               rotate_left
                               ·simp only [Act.put, sL1, sL2, sL3, i64_w, i32_w]
                                rfl
                               refine pure_ (i := 7) (N := some 211) (v := ?_) (a' := ?_) #[true, true, true, true, true, true, true, true, false, false, false, false, false, false, false, false, false, false, false, false, false, false, false, false, false, false, false, false, false, false, false, false, false, false, false, false, false, false, false, false] rfl rfl (any_of HT_.out (by kernel_rfl)) (fun _ _ _ h => h) (Or.inl ⟨by rfl, ?_⟩) ?_ ?_
                               rotate_left
                               ·intro w'
                                go_simp
                                with_reducible rfl
                               rotate_left
                               ·simp only [Act.put, sL1, sL2, sL3, i64_w, i32_w]
                                rfl
                               refine pure_ (i := 8) (N := some 212) (v := ?_) (a' := ?_) #[true, true, true, true, true, true, true, true, true, false, false, false, false, false, false, false, false, false, false, false, false, false, false, false, false, false, false, false, false, false, false, false, false, false, false, false, false, false, false, false] rfl rfl (any_of HT_.out (by kernel_rfl)) (fun _ _ _ h => h) (Or.inl ⟨by rfl, ?_⟩) ?_ ?_
                               rotate_left
                               ·intro w'
                                go_simp
                                with_reducible rfl
                               rotate_left
                               ·simp only [Act.put, sL1, sL2, sL3, i64_w, i32_w]
                                rfl
                               refine pure_ (i := 9) (N := some 213) (v := ?_) (a' := ?_) #[true, true, true, true, true, true, true, true, true, true, false, false, false, false, false, false, false, false, false, false, false, false, false, false, false, false, false, false, false, false, false, false, false, false, false, false, false, false, false, false] rfl rfl (any_of HT_.out (by kernel_rfl)) (fun _ _ _ h => h) (Or.inl ⟨by rfl, ?_⟩) ?_ ?_
                               rotate_left
                               ·intro w'
                                go_simp
                                with_reducible rfl
                               rotate_left
                               ·simp only [Act.put, sL1, sL2, sL3, i64_w, i32_w]
                                rfl
                               refine pure_ (i := 10) (N := some 214) (v := ?_) (a' := ?_) #[true, true, true, true, true, true, true, true, true, true, true, false, false, false, false, false, false, false, false, false, false, false, false, false, false, false, false, false, false, false, false, false, false, false, false, false, false, false, false, false] rfl rfl (any_of HT_.out (by kernel_rfl)) (fun _ _ _ h => h) (Or.inl ⟨by rfl, ?_⟩) ?_ ?_
                               rotate_left
                               ·intro w'
                                go_simp
                                with_reducible rfl
                               rotate_left
                               ·simp only [Act.put, sL1, sL2, sL3, i64_w, i32_w]
                                rfl
                               refine pure_ (i := 11) (N := some 215) (v := ?_) (a' := ?_) #[true, true, true, true, true, true, true, true, true, true, true, true, false, false, false, false, false, false, false, false, false, false, false, false, false, false, false, false, false, false, false, false, false, false, false, false, false, false, false, false] rfl rfl (any_of HT_.out (by kernel_rfl)) (fun _ _ _ h => h) (Or.inl ⟨by rfl, ?_⟩) ?_ ?_
                               rotate_left
                               ·intro w'
                                go_simp
                                with_reducible rfl
                               rotate_left
                               ·simp only [Act.put, sL1, sL2, sL3, i64_w, i32_w]
                                rfl
                               refine pure_ (i := 13) (N := some 217) (v := ?_) (a' := ?_) #[true, true, true, true, true, true, true, true, true, true, true, true, false, true, false, false, false, false, false, false, false, false, false, false, false, false, false, false, false, false, false, false, false, false, false, false, false, false, false, false] rfl rfl (any_of HT_.out (by kernel_rfl)) (fun _ _ _ h => h) (Or.inl ⟨by rfl, ?_⟩) ?_ ?_
                               rotate_left
                               ·intro w'
                                go_simp
                                with_reducible rfl
                               rotate_left
                               ·simp only [Act.put, sL1, sL2, sL3, i64_w, i32_w]
                                rfl
                               refine take_ (i := 12) (N := some 216) (v := ?_) (a' := ?_) #[true, true, true, true, true, true, true, true, true, true, true, true, true, true, false, false, false, false, false, false, false, false, false, false, false, false, false, false, false, false, false, false, false, false, false, false, false, false, false, false] rfl rfl (take_ofW HT_.out HW_.out (by kernel_rfl)) (fun _ _ _ h => h) (Or.inl ⟨by rfl, ?_⟩) hHeld ?_ ?_
                               rotate_left
                               ·rintro w' ⟨s0, s1, s2, s3, s4, s5, s6, s7, s8, s9, s10, s11, s12, s13, s14, s15, s16, s17, s18, s19, s20, s21, s22, s23⟩
                                go_simp
                                with_reducible rfl
                               rotate_left
                               ·simp only [Act.put, sL1, sL2, sL3, i64_w, i32_w]
                                rfl
                               refine pure_ (i := 14) (N := some 218) (v := ?_) (a' := ?_) #[true, true, true, true, true, true, true, true, true, true, true, true, true, true, true, false, false, false, false, false, false, false, false, false, false, false, false, false, false, false, false, false, false, false, false, false, false, false, false, false] rfl rfl (any_of HT_.out (by kernel_rfl)) (fun _ _ _ h => h) (Or.inl ⟨by rfl, ?_⟩) ?_ ?_
                               rotate_left
                               ·intro w'
                                go_simp
                                with_reducible rfl
                               rotate_left
                               ·simp only [Act.put, sL1, sL2, sL3, i64_w, i32_w]
                                rfl
                               refine pure_ (i := 15) (N := some 219) (v := ?_) (a' := ?_) #[true, true, true, true, true, true, true, true, true, true, true, true, true, true, true, true, false, false, false, false, false, false, false, false, false, false, false, false, false, false, false, false, false, false, false, false, false, false, false, false] rfl rfl (any_of HT_.out (by kernel_rfl)) (fun _ _ _ h => h) (Or.inl ⟨by rfl, ?_⟩) ?_ ?_
                               rotate_left
                               ·intro w'
                                go_simp
                                with_reducible rfl
                               rotate_left
                               ·simp only [Act.put, sL1, sL2, sL3, i64_w, i32_w]
                                rfl
                               refine pure_ (i := 16) (N := some 220) (v := ?_) (a' := ?_) #[true, true, true, true, true, true, true, true, true, true, true, true, true, true, true, true, true, false, false, false, false, false, false, false, false, false, false, false, false, false, false, false, false, false, false, false, false, false, false, false] rfl rfl (any_of HT_.out (by kernel_rfl)) (fun _ _ _ h => h) (Or.inl ⟨by rfl, ?_⟩) ?_ ?_
                               rotate_left
                               ·intro w'
                                go_simp
                                with_reducible rfl
                               rotate_left
                               ·simp only [Act.put, sL1, sL2, sL3, i64_w, i32_w]
                                rfl
                               refine pure_ (i := 17) (N := some 221) (v := ?_) (a' := ?_) #[true, true, true, true, true, true, true, true, true, true, true, true, true, true, true, true, true, true, false, false, false, false, false, false, false, false, false, false, false, false, false, false, false, false, false, false, false, false, false, false] rfl rfl (any_of HT_.out (by kernel_rfl)) (fun _ _ _ h => h) (Or.inl ⟨by rfl, ?_⟩) ?_ ?_
                               rotate_left
                               ·intro w'
                                go_simp
                                with_reducible rfl
                               rotate_left
                               ·simp only [Act.put, sL1, sL2, sL3, i64_w, i32_w]
                                rfl
                               refine pure_ (i := 18) (N := some 222) (v := ?_) (a' := ?_) #[true, true, true, true, true, true, true, true, true, true, true, true, true, true, true, true, true, true, true, false, false, false, false, false, false, false, false, false, false, false, false, false, false, false, false, false, false, false, false, false] rfl rfl (any_of HT_.out (by kernel_rfl)) (fun _ _ _ h => h) (Or.inl ⟨by rfl, ?_⟩) ?_ ?_
                               rotate_left
                               ·intro w'
                                go_simp
                                with_reducible rfl
                               rotate_left
                               ·simp only [Act.put, sL1, sL2, sL3, i64_w, i32_w]
                                rfl
                               refine pure_ (i := 19) (N := some 223) (v := ?_) (a' := ?_) #[true, true, true, true, true, true, true, true, true, true, true, true, true, true, true, true, true, true, true, true, false, false, false, false, false, false, false, false, false, false, false, false, false, false, false, false, false, false, false, false] rfl rfl (any_of HT_.out (by kernel_rfl)) (fun _ _ _ h => h) (Or.inl ⟨by rfl, ?_⟩) ?_ ?_
                               rotate_left
                               ·intro w'
                                go_simp
                                with_reducible rfl
                               rotate_left
                               ·simp only [Act.put, sL1, sL2, sL3, i64_w, i32_w]
                                rfl
                               refine pure_ (i := 20) (N := some 224) (v := ?_) (a' := ?_) #[true, true, true, true, true, true, true, true, true, true, true, true, true, true, true, true, true, true, true, true, true, false, false, false, false, false, false, false, false, false, false, false, false, false, false, false, false, false, false, false] rfl rfl (any_of HT_.out (by kernel_rfl)) (fun _ _ _ h => h) (Or.inl ⟨by rfl, ?_⟩) ?_ ?_
                               rotate_left
                               ·intro w'
                                go_simp
                                with_reducible rfl
                               rotate_left
                               ·simp only [Act.put, sL1, sL2, sL3, i64_w, i32_w]
                                rfl
                               refine pure_ (i := 21) (N := some 225) (v := ?_) (a' := ?_) #[true, true, true, true, true, true, true, true, true, true, true, true, true, true, true, true, true, true, true, true, true, true, false, false, false, false, false, false, false, false, false, false, false, false, false, false, false, false, false, false] rfl rfl (any_of HT_.out (by kernel_rfl)) (fun _ _ _ h => h) (Or.inl ⟨by rfl, ?_⟩) ?_ ?_
                               rotate_left
                               ·intro w'
                                go_simp
                                with_reducible rfl
                               rotate_left
                               ·simp only [Act.put, sL1, sL2, sL3, i64_w, i32_w]
                                rfl
                               refine pure_ (i := 22) (N := some 226) (v := ?_) (a' := ?_) #[true, true, true, true, true, true, true, true, true, true, true, true, true, true, true, true, true, true, true, true, true, true, true, false, false, false, false, false, false, false, false, false, false, false, false, false, false, false, false, false] rfl rfl (any_of HT_.out (by kernel_rfl)) (fun _ _ _ h => h) (Or.inl ⟨by rfl, ?_⟩) ?_ ?_
                               rotate_left
                               ·intro w'
                                go_simp
                                with_reducible rfl
                               rotate_left
                               ·simp only [Act.put, sL1, sL2, sL3, i64_w, i32_w]
                                rfl
                               refine pure_ (i := 23) (N := some 227) (v := ?_) (a' := ?_) #[true, true, true, true, true, true, true, true, true, true, true, true, true, true, true, true, true, true, true, true, true, true, true, true, false, false, false, false, false, false, false, false, false, false, false, false, false, false, false, false] rfl rfl (any_of HT_.out (by kernel_rfl)) (fun _ _ _ h => h) (Or.inl ⟨by rfl, ?_⟩) ?_ ?_
                               rotate_left
                               ·intro w'
                                go_simp
                                with_reducible rfl
                               rotate_left
                               ·simp only [Act.put, sL1, sL2, sL3, i64_w, i32_w]
                                rfl
                               refine pure_ (i := 24) (N := some 228) (v := ?_) (a' := ?_) #[true, true, true, true, true, true, true, true, true, true, true, true, true, true, true, true, true, true, true, true, true, true, true, true, true, false, false, false, false, false, false, false, false, false, false, false, false, false, false, false] rfl rfl (any_of HT_.out (by kernel_rfl)) (fun _ _ _ h => h) (Or.inl ⟨by rfl, ?_⟩) ?_ ?_
                               rotate_left
                               ·intro w'
                                go_simp
                                with_reducible rfl
                               rotate_left
                               ·simp only [Act.put, sL1, sL2, sL3, i64_w, i32_w]
                                rfl
                               refine pure_ (i := 25) (N := some 229) (v := ?_) (a' := ?_) #[true, true, true, true, true, true, true, true, true, true, true, true, true, true, true, true, true, true, true, true, true, true, true, true, true, true, false, false, false, false, false, false, false, false, false, false, false, false, false, false] rfl rfl (any_of HT_.out (by kernel_rfl)) (fun _ _ _ h => h) (Or.inl ⟨by rfl, ?_⟩) ?_ ?_
                               rotate_left
                               ·intro w'
                                go_simp
                                with_reducible rfl
                               rotate_left
                               ·simp only [Act.put, sL1, sL2, sL3, i64_w, i32_w]
                                rfl
                               refine pure_ (i := 26) (N := some 230) (v := ?_) (a' := ?_) #[true, true, true, true, true, true, true, true, true, true, true, true, true, true, true, true, true, true, true, true, true, true, true, true, true, true, true, false, false, false, false, false, false, false, false, false, false, false, false, false] rfl rfl (any_of HT_.out (by kernel_rfl)) (fun _ _ _ h => h) (Or.inl ⟨by rfl, ?_⟩) ?_ ?_
                               rotate_left
                               ·intro w'
                                go_simp
                                with_reducible rfl
                               rotate_left
                               ·simp only [Act.put, sL1, sL2, sL3, i64_w, i32_w]
                                rfl
                               refine pure_ (i := 27) (N := some 231) (v := ?_) (a' := ?_) #[true, true, true, true, true, true, true, true, true, true, true, true, true, true, true, true, true, true, true, true, true, true, true, true, true, true, true, true, false, false, false, false, false, false, false, false, false, false, false, false] rfl rfl (any_of HT_.out (by kernel_rfl)) (fun _ _ _ h => h) (Or.inl ⟨by rfl, ?_⟩) ?_ ?_
                               rotate_left
                               ·intro w'
                                go_simp
                                with_reducible rfl
                               rotate_left
                               ·simp only [Act.put, sL1, sL2, sL3, i64_w, i32_w]
                                rfl
                               refine pure_ (i := 28) (N := some 232) (v := ?_) (a' := ?_) #[true, true, true, true, true, true, true, true, true, true, true, true, true, true, true, true, true, true, true, true, true, true, true, true, true, true, true, true, true, false, false, false, false, false, false, false, false, false, false, false] rfl rfl (any_of HT_.out (by kernel_rfl)) (fun _ _ _ h => h) (Or.inl ⟨by rfl, ?_⟩) ?_ ?_
                               rotate_left
                               ·intro w'
                                go_simp
                                with_reducible rfl
                               rotate_left
                               ·simp only [Act.put, sL1, sL2, sL3, i64_w, i32_w]
                                rfl
                               refine pure_ (i := 29) (N := some 233) (v := ?_) (a' := ?_) #[true, true, true, true, true, true, true, true, true, true, true, true, true, true, true, true, true, true, true, true, true, true, true, true, true, true, true, true, true, true, false, false, false, false, false, false, false, false, false, false] rfl rfl (any_of HT_.out (by kernel_rfl)) (fun _ _ _ h => h) (Or.inl ⟨by rfl, ?_⟩) ?_ ?_
                               rotate_left
                               ·intro w'
                                go_simp
                                with_reducible rfl
                               rotate_left
                               ·simp only [Act.put, sL1, sL2, sL3, i64_w, i32_w]
                                rfl
                               refine pure_ (i := 30) (N := some 234) (v := ?_) (a' := ?_) #[true, true, true, true, true, true, true, true, true, true, true, true, true, true, true, true, true, true, true, true, true, true, true, true, true, true, true, true, true, true, true, false, false, false, false, false, false, false, false, false] rfl rfl (any_of HT_.out (by kernel_rfl)) (fun _ _ _ h => h) (Or.inl ⟨by rfl, ?_⟩) ?_ ?_
                               rotate_left
                               ·intro w'
                                go_simp
                                with_reducible rfl
                               rotate_left
                               ·simp only [Act.put, sL1, sL2, sL3, i64_w, i32_w]
                                rfl
                               refine pure_ (i := 31) (N := some 235) (v := ?_) (a' := ?_) #[true, true, true, true, true, true, true, true, true, true, true, true, true, true, true, true, true, true, true, true, true, true, true, true, true, true, true, true, true, true, true, true, false, false, false, false, false, false, false, false] rfl rfl (any_of HT_.out (by kernel_rfl)) (fun _ _ _ h => h) (Or.inl ⟨by rfl, ?_⟩) ?_ ?_
                               rotate_left
                               ·intro w'
                                go_simp
                                with_reducible rfl
                               rotate_left
                               ·simp only [Act.put, sL1, sL2, sL3, i64_w, i32_w]
                                rfl
                               refine pure_ (i := 33) (N := some 237) (v := ?_) (a' := ?_) #[true, true, true, true, true, true, true, true, true, true, true, true, true, true, true, true, true, true, true, true, true, true, true, true, true, true, true, true, true, true, true, true, false, true, false, false, false, false, false, false] rfl rfl (any_of HT_.out (by kernel_rfl)) (fun _ _ _ h => h) (Or.inl ⟨by rfl, ?_⟩) ?_ ?_
                               rotate_left
                               ·intro w'
                                go_simp
                                with_reducible rfl
                               rotate_left
                               ·simp only [Act.put, sL1, sL2, sL3, i64_w, i32_w]
                                rfl
                               refine pure_ (i := 34) (N := some 238) (v := ?_) (a' := ?_) #[true, true, true, true, true, true, true, true, true, true, true, true, true, true, true, true, true, true, true, true, true, true, true, true, true, true, true, true, true, true, true, true, false, true, true, false, false, false, false, false] rfl rfl (any_of HT_.out (by kernel_rfl)) (fun _ _ _ h => h) (Or.inl ⟨by rfl, ?_⟩) ?_ ?_
                               rotate_left
                               ·intro w'
                                go_simp
                                with_reducible rfl
                               rotate_left
                               ·simp only [Act.put, sL1, sL2, sL3, i64_w, i32_w]
                                rfl
                               refine pure_ (i := 35) (N := some 239) (v := ?_) (a' := ?_) #[true, true, true, true, true, true, true, true, true, true, true, true, true, true, true, true, true, true, true, true, true, true, true, true, true, true, true, true, true, true, true, true, false, true, true, true, false, false, false, false] rfl rfl (any_of HT_.out (by kernel_rfl)) (fun _ _ _ h => h) (Or.inl ⟨by rfl, ?_⟩) ?_ ?_
                               rotate_left
                               ·intro w'
                                go_simp
                                with_reducible rfl
                               rotate_left
                               ·simp only [Act.put, sL1, sL2, sL3, i64_w, i32_w]
                                rfl
                               refine take_ (i := 32) (N := some 236) (v := ?_) (a' := ?_) #[true, true, true, true, true, true, true, true, true, true, true, true, true, true, true, true, true, true, true, true, true, true, true, true, true, true, true, true, true, true, true, true, true, true, true, true, false, false, false, false] rfl rfl (take_ofW HT_.out HW_.out (by kernel_rfl)) (fun _ _ _ h => h) (Or.inl ⟨by rfl, ?_⟩) hHeld ?_ ?_
                               rotate_left
                               ·rintro w' ⟨s0, s1, s2, s3, s4, s5, s6, s7, s8, s9, s10, s11, s12, s13, s14, s15, s16, s17, s18, s19, s20, s21, s22, s23⟩
                                go_simp
                                with_reducible rfl
                               rotate_left
                               ·simp only [Act.put, sL1, sL2, sL3, i64_w, i32_w]
                                rfl
                               refine take_ (i := 36) (N := some 240) (v := ?_) (a' := ?_) #[true, true, true, true, true, true, true, true, true, true, true, true, true, true, true, true, true, true, true, true, true, true, true, true, true, true, true, true, true, true, true, true, true, true, true, true, true, false, false, false] rfl rfl (take_ofW HT_.out HW_.out (by kernel_rfl)) (fun _ _ _ h => h) (Or.inl ⟨by rfl, ?_⟩) hHeld ?_ ?_
                               rotate_left
                               ·rintro w' ⟨s0, s1, s2, s3, s4, s5, s6, s7, s8, s9, s10, s11, s12, s13, s14, s15, s16, s17, s18, s19, s20, s21, s22, s23⟩
                                go_simp
                                with_reducible rfl
                               rotate_left
                               ·simp only [Act.put, sL1, sL2, sL3, i64_w, i32_w]
                                rfl
                               refine one_ (i := 37) (N := some 241) #[true, true, true, true, true, true, true, true, true, true, true, true, true, true, true, true, true, true, true, true, true, true, true, true, true, true, true, true, true, true, true, true, true, true, true, true, true, true, false, false] rfl rfl (one_of HT_.out (by kernel_rfl)) (by decide) (fun K hK => ?_)
                               refine goes_ Try.func13 (by kernel_rfl) rfl #[.agg #[.int .i64 ((rd_T25 l0 ((rd_T45 t223 x10_2).f1)).f0), .int .i64 ((rd_T25 l0 ((rd_T45 t223 x10_2).f1)).f1), .int .i64 ((rd_T25 l0 ((rd_T45 t223 x10_2).f1)).f2), .int .i64 ((rd_T25 l0 ((rd_T45 t223 x10_2).f1)).f3), .int .i64 ((rd_T25 l0 ((rd_T45 t223 x10_2).f1)).f4)], .agg #[.int .i64 ((rd_T28 l1 ((rd_T45 t223 x10_2).f3)).f0), .int .i64 ((rd_T28 l1 ((rd_T45 t223 x10_2).f3)).f1), .int .i64 ((rd_T28 l1 ((rd_T45 t223 x10_2).f3)).f2), .int .i64 ((rd_T28 l1 ((rd_T45 t223 x10_2).f3)).f3), .int .i64 ((rd_T28 l1 ((rd_T45 t223 x10_2).f3)).f4), .int .i64 ((rd_T28 l1 ((rd_T45 t223 x10_2).f3)).f5), .int .i64 ((rd_T28 l1 ((rd_T45 t223 x10_2).f3)).f6)]] (by rfl) rfl rfl (by (try simp only [List.map_toArray, List.map_cons, List.map_nil]); first | done | rfl | (simp only [List.length_drop, List.length_take]; rfl)) ?_
                               with_reducible refine (align_Same.calls ((rd_T25 l0 ((rd_T45 t223 x10_2).f1)).f0) ((rd_T25 l0 ((rd_T45 t223 x10_2).f1)).f1) ((rd_T25 l0 ((rd_T45 t223 x10_2).f1)).f2) ((rd_T25 l0 ((rd_T45 t223 x10_2).f1)).f3) ((rd_T25 l0 ((rd_T45 t223 x10_2).f1)).f4) ((rd_T28 l1 ((rd_T45 t223 x10_2).f3)).f0) ((rd_T28 l1 ((rd_T45 t223 x10_2).f3)).f1) ((rd_T28 l1 ((rd_T45 t223 x10_2).f3)).f2) ((rd_T28 l1 ((rd_T45 t223 x10_2).f3)).f3) ((rd_T28 l1 ((rd_T45 t223 x10_2).f3)).f4) ((rd_T28 l1 ((rd_T45 t223 x10_2).f3)).f5) ((rd_T28 l1 ((rd_T45 t223 x10_2).f3)).f6) t247 _ A54.out).mono ?_
                               rintro e w56 ⟨rfl, hb⟩
                               have HS0_ := (hb.cell (World.block_lt_of_cell? _ _ (hHeld.1))).trans (hHeld.1)
                               have HS1_ := (hb.cell (World.block_lt_of_cell? _ _ (hHeld.2.1))).trans (hHeld.2.1)
                               have HS2_ := (hb.cell (World.block_lt_of_cell? _ _ (hHeld.2.2.1))).trans (hHeld.2.2.1)
                               have HS3_ := (hb.cell (World.block_lt_of_cell? _ _ (hHeld.2.2.2.1))).trans (hHeld.2.2.2.1)
                               have HS4_ := (hb.cell (World.block_lt_of_cell? _ _ (hHeld.2.2.2.2.1))).trans (hHeld.2.2.2.2.1)
                               have HS5_ := (hb.cell (World.block_lt_of_cell? _ _ (hHeld.2.2.2.2.2.1))).trans (hHeld.2.2.2.2.2.1)
                               have HS6_ := (hb.cell (World.block_lt_of_cell? _ _ (hHeld.2.2.2.2.2.2.1))).trans (hHeld.2.2.2.2.2.2.1)
                               have HS7_ := (hb.cell (World.block_lt_of_cell? _ _ (hHeld.2.2.2.2.2.2.2.1))).trans (hHeld.2.2.2.2.2.2.2.1)
                               have HS8_ := (hb.cell (World.block_lt_of_cell? _ _ (hHeld.2.2.2.2.2.2.2.2.1))).trans (hHeld.2.2.2.2.2.2.2.2.1)
                               have HS9_ := (hb.cell (World.block_lt_of_cell? _ _ (hHeld.2.2.2.2.2.2.2.2.2.1))).trans (hHeld.2.2.2.2.2.2.2.2.2.1)
                               have HS10_ := (hb.cell (World.block_lt_of_cell? _ _ (hHeld.2.2.2.2.2.2.2.2.2.2.1))).trans (hHeld.2.2.2.2.2.2.2.2.2.2.1)
                               have HS11_ := (hb.cell (World.block_lt_of_cell? _ _ (hHeld.2.2.2.2.2.2.2.2.2.2.2.1))).trans (hHeld.2.2.2.2.2.2.2.2.2.2.2.1)
                               refine ⟨_, rfl, ?_⟩
                               have n0_ := As0 (Kd.R_below (by (with_reducible repeat (first | apply Kd.R_alloc | apply Kd.R_drewN | apply Kd.R_drew)); exact HO_5.out) hb)
                               have n1_ := As0 (below_step (by repeat (first | (with_reducible first | exact HB.out | apply below_alloc | apply bdN | apply bd1) | exact HB.out)) hb)
                               clear HO_5
                               clear HB
                               have HO_5 := n0_
                               have HB := n1_
                               clear n0_ n1_
                               (try clear hb)
                               (try clear hb2)
                               (try clear hk)
                               (try clear hi)
                               refine hK.out _ _ ⟨HS0_, HS1_, HS2_, HS3_, HS4_, HS5_, HS6_, HS7_, HS8_, HS9_, HS10_, HS11_, ((HB.out.cell (wblt w hw245_0)).trans hw245_0), ((HB.out.cell (wblt w hw245_1)).trans hw245_1), ((HB.out.cell (wblt w hw245_2)).trans hw245_2), ((HB.out.cell (wblt w hw245_3)).trans hw245_3), ((HB.out.cell (wblt w hw245_4)).trans hw245_4), ((HB.out.cell (wblt w hw246_0)).trans hw246_0), ((HB.out.cell (wblt w hw246_1)).trans hw246_1), ((HB.out.cell (wblt w hw246_2)).trans hw246_2), ((HB.out.cell (wblt w hw246_3)).trans hw246_3), ((HB.out.cell (wblt w hw246_4)).trans hw246_4), ((HB.out.cell (wblt w hw246_5)).trans hw246_5), ((HB.out.cell (wblt w hw246_6)).trans hw246_6)⟩ (fun hHeld => ?_)
                               clear hK K
                               refine norm_ (a' := ?_) ?_ ?_
                               rotate_left
                               ·show Act.put _ (some 241) _ = _
                                simp only [Act.put, sL1, sL2, sL3, i64_w, i32_w]
                                rfl
                               refine pure_ (i := 38) (N := some 242) (v := ?_) (a' := ?_) #[true, true, true, true, true, true, true, true, true, true, true, true, true, true, true, true, true, true, true, true, true, true, true, true, true, true, true, true, true, true, true, true, true, true, true, true, true, true, true, false] rfl rfl (any_of HT_.out (by kernel_rfl)) (fun _ _ _ h => h) (Or.inl ⟨by rfl, ?_⟩) ?_ ?_
                               rotate_left
                               ·intro w'
                                go_simp
                                with_reducible rfl
                               rotate_left
                               ·simp only [Act.put, sL1, sL2, sL3, i64_w, i32_w]
                                rfl
                               refine pure_ (i := 39) (N := some 243) (v := ?_) (a' := ?_) #[true, true, true, true, true, true, true, true, true, true, true, true, true, true, true, true, true, true, true, true, true, true, true, true, true, true, true, true, true, true, true, true, true, true, true, true, true, true, true, true] rfl rfl (any_of HT_.out (by kernel_rfl)) (fun _ _ _ h => h) (Or.inl ⟨by rfl, ?_⟩) ?_ ?_
                               rotate_left
                               ·intro w'
                                go_simp
                                with_reducible rfl
                               rotate_left
                               ·simp only [Act.put, sL1, sL2, sL3, i64_w, i32_w]
                                rfl
                               refine done_ (done_of HT_.out (by kernel_rfl)) ?_
                               try go_wp2
                               go_meet
                               case rel => exact ⟨_, (!t247), (by first | rfl | (simp; done) | (simp [*]; done)), H', ⟨by have := HJ2.out; have := HK2.out; have := HJ16.out; have := HK4.out; have := HK5.out; first | omega | exact Nat.le_refl _⟩, ⟨by (with_reducible repeat (first | apply Kd.R_alloc | apply Kd.R_drewN | apply Kd.R_drew)); exact HO_5.out⟩, ⟨by repeat (first | (with_reducible first | exact HB.out | apply below_alloc | apply bdN | apply bd1) | exact HB.out)⟩⟩
                              ·rw [if_neg c53] at H
                               exact absurd H (by simp)
                             ·rw [if_neg c52] at H
                              exact absurd H (by simp)
                            ·rw [if_neg c51] at H
                             exact absurd H (by simp)
                           ·rw [if_neg c50] at H
                            exact absurd H (by simp)
                        ·rw [if_neg c45] at H
                         have c45b0 : (((rd_T45 t223 x10_2).f5) == ((rd_T45 t223 x10_2).f3)) = false := beq_eq_false_iff_ne.mpr c45
                         have c45b1 : (((rd_T45 t223 x10_2).f5) != ((rd_T45 t223 x10_2).f3)) = true := bne_iff_ne.mpr c45
                         have H' := As0 H
                         clear H
                         try go_wp2
                         have n0_ := As0 (Kd.R_drew HO_5.out)
                         have n1_ := As0 (bd1 HB.out)
                         clear HO_5
                         clear HB
                         have HO_5 := n0_
                         have HB := n1_
                         clear n0_ n1_
                         have p243 : 0 ≤ (x10_2 : Int) := of_decide_eq_true (by first | (with_reducible assumption) | assumption)
                         have q243 : x10_2 < (t223.length : Int) := of_decide_eq_true (by first | (with_reducible assumption) | assumption)
                         obtain ⟨ad243, e243, hx243_0, hx243_1, hx243_2, hx243_3, hx243_4, hx243_5⟩ := at_T45 (Kd.R_reads' HO_5.out).2.2 x10_2 p243 q243
                         obtain rfl : ad235 = ad243 := (by injection e243)
                         replace p243 := eq_true p243
                         replace q243 := eq_true q243
                         have p244 : 0 ≤ (x10_2 : Int) := of_decide_eq_true (by first | (with_reducible assumption) | assumption)
                         have q244 : x10_2 < (t223.length : Int) := of_decide_eq_true (by first | (with_reducible assumption) | assumption)
                         obtain ⟨ad244, e244, hx244_0, hx244_1, hx244_2, hx244_3, hx244_4, hx244_5⟩ := at_T45 (Kd.R_reads' HO_5.out).2.2 x10_2 p244 q244
                         obtain rfl : ad235 = ad244 := (by injection e244)
                         replace p244 := eq_true p244
                         replace q244 := eq_true q244
                         refine start_ (n := 40) (S := fun w' => w'.cell? (ad235.add ((x10_2).toNat * 6)) = some (.int .i64 ((rd_T45 t223 x10_2).f0)) ∧ w'.cell? ⟨(ad235.add ((x10_2).toNat * 6)).block, (ad235.add ((x10_2).toNat * 6)).off + 1, none⟩ = some (.int .i64 ((rd_T45 t223 x10_2).f1)) ∧ w'.cell? ⟨(ad235.add ((x10_2).toNat * 6)).block, (ad235.add ((x10_2).toNat * 6)).off + 2, none⟩ = some (.int .i64 ((rd_T45 t223 x10_2).f2)) ∧ w'.cell? ⟨(ad235.add ((x10_2).toNat * 6)).block, (ad235.add ((x10_2).toNat * 6)).off + 3, none⟩ = some (.int .i64 ((rd_T45 t223 x10_2).f3)) ∧ w'.cell? ⟨(ad235.add ((x10_2).toNat * 6)).block, (ad235.add ((x10_2).toNat * 6)).off + 4, none⟩ = some (.int .i64 ((rd_T45 t223 x10_2).f4)) ∧ w'.cell? ⟨(ad235.add ((x10_2).toNat * 6)).block, (ad235.add ((x10_2).toNat * 6)).off + 5, none⟩ = some (.int .i64 ((rd_T45 t223 x10_2).f5)) ∧ w'.cell? (ad235.add ((x10_2).toNat * 6)) = some (.int .i64 ((rd_T45 t223 x10_2).f0)) ∧ w'.cell? ⟨(ad235.add ((x10_2).toNat * 6)).block, (ad235.add ((x10_2).toNat * 6)).off + 1, none⟩ = some (.int .i64 ((rd_T45 t223 x10_2).f1)) ∧ w'.cell? ⟨(ad235.add ((x10_2).toNat * 6)).block, (ad235.add ((x10_2).toNat * 6)).off + 2, none⟩ = some (.int .i64 ((rd_T45 t223 x10_2).f2)) ∧ w'.cell? ⟨(ad235.add ((x10_2).toNat * 6)).block, (ad235.add ((x10_2).toNat * 6)).off + 3, none⟩ = some (.int .i64 ((rd_T45 t223 x10_2).f3)) ∧ w'.cell? ⟨(ad235.add ((x10_2).toNat * 6)).block, (ad235.add ((x10_2).toNat * 6)).off + 4, none⟩ = some (.int .i64 ((rd_T45 t223 x10_2).f4)) ∧ w'.cell? ⟨(ad235.add ((x10_2).toNat * 6)).block, (ad235.add ((x10_2).toNat * 6)).off + 5, none⟩ = some (.int .i64 ((rd_T45 t223 x10_2).f5))) (ds := []) #[false, false, false, false, false, false, false, false, false, false, false, false, false, false, false, false, false, false, false, false, false, false, false, false, false, false, false, false, false, false, false, false, false, false, false, false, false, false, false, false] (by kernel_rfl) rfl rfl ⟨hx243_0, hx243_1, hx243_2, hx243_3, hx243_4, hx243_5, hx244_0, hx244_1, hx244_2, hx244_3, hx244_4, hx244_5⟩ (fun hHeld => ?_); refine with_tabW regcertlaw13_AlignRows.tab27 regcertlaw13_AlignRows.bits27 (fun HT_ HW_ => ?_)
                         generalize wr.drew = w57 at HO_5 HB hx243_0 hx243_1 hx243_2 hx243_3 hx243_4 hx243_5 hx244_0 hx244_1 hx244_2 hx244_3 hx244_4 hx244_5 hHeld ⊢
                         refine pure_ (i := 0) (N := some 204) (v := ?_) (a' := ?_) #[true, false, false, false, false, false, false, false, false, false, false, false, false, false, false, false, false, false, false, false, false, false, false, false, false, false, false, false, false, false, false, false, false, false, false, false, false, false, false, false] rfl rfl (any_of HT_.out (by kernel_rfl)) (fun _ _ _ h => h) (Or.inl ⟨by rfl, ?_⟩) ?_ ?_
                         rotate_left
                         ·intro w'
                          go_simp
                          with_reducible rfl
                         rotate_left
                         ·simp only [Act.put, sL1, sL2, sL3, i64_w, i32_w]
                          rfl
                         refine pure_ (i := 1) (N := some 205) (v := ?_) (a' := ?_) #[true, true, false, false, false, false, false, false, false, false, false, false, false, false, false, false, false, false, false, false, false, false, false, false, false, false, false, false, false, false, false, false, false, false, false, false, false, false, false, false] rfl rfl (any_of HT_.out (by kernel_rfl)) (fun _ _ _ h => h) (Or.inl ⟨by rfl, ?_⟩) ?_ ?_
                         rotate_left
                         ·intro w'
                          go_simp
                          with_reducible rfl
                         rotate_left
                         ·simp only [Act.put, sL1, sL2, sL3, i64_w, i32_w]
                          rfl
                         refine pure_ (i := 2) (N := some 206) (v := ?_) (a' := ?_) #[true, true, true, false, false, false, false, false, false, false, false, false, false, false, false, false, false, false, false, false, false, false, false, false, false, false, false, false, false, false, false, false, false, false, false, false, false, false, false, false] rfl rfl (any_of HT_.out (by kernel_rfl)) (fun _ _ _ h => h) (Or.inl ⟨by rfl, ?_⟩) ?_ ?_
                         rotate_left
                         ·intro w'
                          go_simp
                          with_reducible rfl
                         rotate_left
                         ·simp only [Act.put, sL1, sL2, sL3, i64_w, i32_w]
                          rfl
                         refine pure_ (i := 3) (N := some 207) (v := ?_) (a' := ?_) #[true, true, true, true, false, false, false, false, false, false, false, false, false, false, false, false, false, false, false, false, false, false, false, false, false, false, false, false, false, false, false, false, false, false, false, false, false, false, false, false] rfl rfl (any_of HT_.out (by kernel_rfl)) (fun _ _ _ h => h) (Or.inl ⟨by rfl, ?_⟩) ?_ ?_
                         rotate_left
                         ·intro w'
                          go_simp
                          with_reducible rfl
                         rotate_left
                         ·simp only [Act.put, sL1, sL2, sL3, i64_w, i32_w]
                          rfl
                         refine pure_ (i := 5) (N := some 209) (v := ?_) (a' := ?_) #[true, true, true, true, false, true, false, false, false, false, false, false, false, false, false, false, false, false, false, false, false, false, false, false, false, false, false, false, false, false, false, false, false, false, false, false, false, false, false, false] rfl rfl (any_of HT_.out (by kernel_rfl)) (fun _ _ _ h => h) (Or.inl ⟨by rfl, ?_⟩) ?_ ?_
                         rotate_left
                         ·intro w'
                          go_simp
                          with_reducible rfl
                         rotate_left
                         ·simp only [Act.put, sL1, sL2, sL3, i64_w, i32_w]
                          rfl
                         refine take_ (i := 4) (N := some 208) (v := ?_) (a' := ?_) #[true, true, true, true, true, true, false, false, false, false, false, false, false, false, false, false, false, false, false, false, false, false, false, false, false, false, false, false, false, false, false, false, false, false, false, false, false, false, false, false] rfl rfl (take_ofW HT_.out HW_.out (by kernel_rfl)) (fun _ _ _ h => h) (Or.inl ⟨by rfl, ?_⟩) hHeld ?_ ?_
                         rotate_left
                         ·rintro w' ⟨s0, s1, s2, s3, s4, s5, s6, s7, s8, s9, s10, s11⟩
                          go_simp
                          with_reducible rfl
                         rotate_left
                         ·simp only [Act.put, sL1, sL2, sL3, i64_w, i32_w]
                          rfl
                         refine pure_ (i := 6) (N := some 210) (v := ?_) (a' := ?_) #[true, true, true, true, true, true, true, false, false, false, false, false, false, false, false, false, false, false, false, false, false, false, false, false, false, false, false, false, false, false, false, false, false, false, false, false, false, false, false, false] rfl rfl (any_of HT_.out (by kernel_rfl)) (fun _ _ _ h => h) (Or.inl ⟨by rfl, ?_⟩) ?_ ?_
                         rotate_left
                         ·intro w'
                          go_simp
                          with_reducible rfl
                         rotate_left
                         ·simp only [Act.put, sL1, sL2, sL3, i64_w, i32_w]
                          rfl
                         refine pure_ (i := 7) (N := some 211) (v := ?_) (a' := ?_) #[true, true, true, true, true, true, true, true, false, false, false, false, false, false, false, false, false, false, false, false, false, false, false, false, false, false, false, false, false, false, false, false, false, false, false, false, false, false, false, false] rfl rfl (any_of HT_.out (by kernel_rfl)) (fun _ _ _ h => h) (Or.inl ⟨by rfl, ?_⟩) ?_ ?_
                         rotate_left
                         ·intro w'
                          go_simp
                          with_reducible rfl
                         rotate_left
                         ·simp only [Act.put, sL1, sL2, sL3, i64_w, i32_w]
                          rfl
                         refine pure_ (i := 8) (N := some 212) (v := ?_) (a' := ?_) #[true, true, true, true, true, true, true, true, true, false, false, false, false, false, false, false, false, false, false, false, false, false, false, false, false, false, false, false, false, false, false, false, false, false, false, false, false, false, false, false] rfl rfl (any_of HT_.out (by kernel_rfl)) (fun _ _ _ h => h) (Or.inl ⟨by rfl, ?_⟩) ?_ ?_
                         rotate_left
                         ·intro w'
                          go_simp
                          with_reducible rfl
                         rotate_left
                         ·simp only [Act.put, sL1, sL2, sL3, i64_w, i32_w]
                          rfl
                         refine pure_ (i := 9) (N := some 213) (v := ?_) (a' := ?_) #[true, true, true, true, true, true, true, true, true, true, false, false, false, false, false, false, false, false, false, false, false, false, false, false, false, false, false, false, false, false, false, false, false, false, false, false, false, false, false, false] rfl rfl (any_of HT_.out (by kernel_rfl)) (fun _ _ _ h => h) (Or.inl ⟨by rfl, ?_⟩) ?_ ?_
                         rotate_left
                         ·intro w'
                          go_simp
                          with_reducible rfl
                         rotate_left
                         ·simp only [Act.put, sL1, sL2, sL3, i64_w, i32_w]
                          rfl
                         refine pure_ (i := 10) (N := some 214) (v := ?_) (a' := ?_) #[true, true, true, true, true, true, true, true, true, true, true, false, false, false, false, false, false, false, false, false, false, false, false, false, false, false, false, false, false, false, false, false, false, false, false, false, false, false, false, false] rfl rfl (any_of HT_.out (by kernel_rfl)) (fun _ _ _ h => h) (Or.inl ⟨by rfl, ?_⟩) ?_ ?_
                         rotate_left
                         ·intro w'
                          go_simp
                          with_reducible rfl
                         rotate_left
                         ·simp only [Act.put, sL1, sL2, sL3, i64_w, i32_w]
                          rfl
                         refine pure_ (i := 11) (N := some 215) (v := ?_) (a' := ?_) #[true, true, true, true, true, true, true, true, true, true, true, true, false, false, false, false, false, false, false, false, false, false, false, false, false, false, false, false, false, false, false, false, false, false, false, false, false, false, false, false] rfl rfl (any_of HT_.out (by kernel_rfl)) (fun _ _ _ h => h) (Or.inl ⟨by rfl, ?_⟩) ?_ ?_
                         rotate_left
                         ·intro w'
                          go_simp
                          with_reducible rfl
                         rotate_left
                         ·simp only [Act.put, sL1, sL2, sL3, i64_w, i32_w]
                          rfl
                         refine pure_ (i := 13) (N := some 217) (v := ?_) (a' := ?_) #[true, true, true, true, true, true, true, true, true, true, true, true, false, true, false, false, false, false, false, false, false, false, false, false, false, false, false, false, false, false, false, false, false, false, false, false, false, false, false, false] rfl rfl (any_of HT_.out (by kernel_rfl)) (fun _ _ _ h => h) (Or.inl ⟨by rfl, ?_⟩) ?_ ?_
                         rotate_left
                         ·intro w'
                          go_simp
                          with_reducible rfl
                         rotate_left
                         ·simp only [Act.put, sL1, sL2, sL3, i64_w, i32_w]
                          rfl
                         refine take_ (i := 12) (N := some 216) (v := ?_) (a' := ?_) #[true, true, true, true, true, true, true, true, true, true, true, true, true, true, false, false, false, false, false, false, false, false, false, false, false, false, false, false, false, false, false, false, false, false, false, false, false, false, false, false] rfl rfl (take_ofW HT_.out HW_.out (by kernel_rfl)) (fun _ _ _ h => h) (Or.inl ⟨by rfl, ?_⟩) hHeld ?_ ?_
                         rotate_left
                         ·rintro w' ⟨s0, s1, s2, s3, s4, s5, s6, s7, s8, s9, s10, s11⟩
                          go_simp
                          with_reducible rfl
                         rotate_left
                         ·simp only [Act.put, sL1, sL2, sL3, i64_w, i32_w]
                          rfl
                         refine pure_ (i := 14) (N := some 218) (v := ?_) (a' := ?_) #[true, true, true, true, true, true, true, true, true, true, true, true, true, true, true, false, false, false, false, false, false, false, false, false, false, false, false, false, false, false, false, false, false, false, false, false, false, false, false, false] rfl rfl (any_of HT_.out (by kernel_rfl)) (fun _ _ _ h => h) (Or.inl ⟨by rfl, ?_⟩) ?_ ?_
                         rotate_left
                         ·intro w'
                          go_simp
                          with_reducible rfl
                         rotate_left
                         ·simp only [Act.put, sL1, sL2, sL3, i64_w, i32_w]
                          rfl
                         refine pure_ (i := 15) (N := some 219) (v := ?_) (a' := ?_) #[true, true, true, true, true, true, true, true, true, true, true, true, true, true, true, true, false, false, false, false, false, false, false, false, false, false, false, false, false, false, false, false, false, false, false, false, false, false, false, false] rfl rfl (any_of HT_.out (by kernel_rfl)) (fun _ _ _ h => h) (Or.inl ⟨by rfl, ?_⟩) ?_ ?_
                         rotate_left
                         ·intro w'
                          go_simp
                          with_reducible rfl
                         rotate_left
                         ·simp only [Act.put, sL1, sL2, sL3, i64_w, i32_w]
                          rfl
                         refine pure_ (i := 16) (N := some 220) (v := ?_) (a' := ?_) #[true, true, true, true, true, true, true, true, true, true, true, true, true, true, true, true, true, false, false, false, false, false, false, false, false, false, false, false, false, false, false, false, false, false, false, false, false, false, false, false] rfl rfl (any_of HT_.out (by kernel_rfl)) (fun _ _ _ h => h) (Or.inl ⟨by rfl, ?_⟩) ?_ ?_
                         rotate_left
                         ·intro w'
                          go_simp
                          with_reducible rfl
                         rotate_left
                         ·simp only [Act.put, sL1, sL2, sL3, i64_w, i32_w]
                          rfl
                         refine pure_ (i := 17) (N := some 221) (v := undef) (a' := ?_) #[true, true, true, true, true, true, true, true, true, true, true, true, true, true, true, true, true, true, false, false, false, false, false, false, false, false, false, false, false, false, false, false, false, false, false, false, false, false, false, false] rfl rfl (any_of HT_.out (by kernel_rfl)) (fun _ _ _ h => h) (Or.inr ⟨by rfl, rfl⟩) ?_ ?_
                         rotate_left
                         ·simp only [Act.put, sL1, sL2, sL3, i64_w, i32_w]
                          rfl
                         refine pure_ (i := 18) (N := some 222) (v := undef) (a' := ?_) #[true, true, true, true, true, true, true, true, true, true, true, true, true, true, true, true, true, true, true, false, false, false, false, false, false, false, false, false, false, false, false, false, false, false, false, false, false, false, false, false] rfl rfl (any_of HT_.out (by kernel_rfl)) (fun _ _ _ h => h) (Or.inr ⟨by rfl, rfl⟩) ?_ ?_
                         rotate_left
                         ·simp only [Act.put, sL1, sL2, sL3, i64_w, i32_w]
                          rfl
                         refine pure_ (i := 19) (N := some 223) (v := undef) (a' := ?_) #[true, true, true, true, true, true, true, true, true, true, true, true, true, true, true, true, true, true, true, true, false, false, false, false, false, false, false, false, false, false, false, false, false, false, false, false, false, false, false, false] rfl rfl (any_of HT_.out (by kernel_rfl)) (fun _ _ _ h => h) (Or.inr ⟨by rfl, rfl⟩) ?_ ?_
                         rotate_left
                         ·simp only [Act.put, sL1, sL2, sL3, i64_w, i32_w]
                          rfl
                         refine pure_ (i := 20) (N := some 224) (v := undef) (a' := ?_) #[true, true, true, true, true, true, true, true, true, true, true, true, true, true, true, true, true, true, true, true, true, false, false, false, false, false, false, false, false, false, false, false, false, false, false, false, false, false, false, false] rfl rfl (any_of HT_.out (by kernel_rfl)) (fun _ _ _ h => h) (Or.inr ⟨by rfl, rfl⟩) ?_ ?_
                         rotate_left
                         ·simp only [Act.put, sL1, sL2, sL3, i64_w, i32_w]
                          rfl
                         refine pure_ (i := 21) (N := some 225) (v := ?_) (a' := ?_) #[true, true, true, true, true, true, true, true, true, true, true, true, true, true, true, true, true, true, true, true, true, true, false, false, false, false, false, false, false, false, false, false, false, false, false, false, false, false, false, false] rfl rfl (any_of HT_.out (by kernel_rfl)) (fun _ _ _ h => h) (Or.inl ⟨by rfl, ?_⟩) ?_ ?_
                         rotate_left
                         ·intro w'
                          go_simp
                          with_reducible rfl
                         rotate_left
                         ·simp only [Act.put, sL1, sL2, sL3, i64_w, i32_w]
                          rfl
                         refine pure_ (i := 22) (N := some 226) (v := ?_) (a' := ?_) #[true, true, true, true, true, true, true, true, true, true, true, true, true, true, true, true, true, true, true, true, true, true, true, false, false, false, false, false, false, false, false, false, false, false, false, false, false, false, false, false] rfl rfl (any_of HT_.out (by kernel_rfl)) (fun _ _ _ h => h) (Or.inl ⟨by rfl, ?_⟩) ?_ ?_
                         rotate_left
                         ·intro w'
                          go_simp
                          with_reducible rfl
                         rotate_left
                         ·simp only [Act.put, sL1, sL2, sL3, i64_w, i32_w]
                          rfl
                         refine pure_ (i := 23) (N := some 227) (v := undef) (a' := ?_) #[true, true, true, true, true, true, true, true, true, true, true, true, true, true, true, true, true, true, true, true, true, true, true, true, false, false, false, false, false, false, false, false, false, false, false, false, false, false, false, false] rfl rfl (any_of HT_.out (by kernel_rfl)) (fun _ _ _ h => h) (Or.inr ⟨by rfl, rfl⟩) ?_ ?_
                         rotate_left
                         ·simp only [Act.put, sL1, sL2, sL3, i64_w, i32_w]
                          rfl
                         refine pure_ (i := 24) (N := some 228) (v := undef) (a' := ?_) #[true, true, true, true, true, true, true, true, true, true, true, true, true, true, true, true, true, true, true, true, true, true, true, true, true, false, false, false, false, false, false, false, false, false, false, false, false, false, false, false] rfl rfl (any_of HT_.out (by kernel_rfl)) (fun _ _ _ h => h) (Or.inr ⟨by rfl, rfl⟩) ?_ ?_
                         rotate_left
                         ·simp only [Act.put, sL1, sL2, sL3, i64_w, i32_w]
                          rfl
                         refine pure_ (i := 25) (N := some 229) (v := undef) (a' := ?_) #[true, true, true, true, true, true, true, true, true, true, true, true, true, true, true, true, true, true, true, true, true, true, true, true, true, true, false, false, false, false, false, false, false, false, false, false, false, false, false, false] rfl rfl (any_of HT_.out (by kernel_rfl)) (fun _ _ _ h => h) (Or.inr ⟨by rfl, rfl⟩) ?_ ?_
                         rotate_left
                         ·simp only [Act.put, sL1, sL2, sL3, i64_w, i32_w]
                          rfl
                         refine pure_ (i := 26) (N := some 230) (v := undef) (a' := ?_) #[true, true, true, true, true, true, true, true, true, true, true, true, true, true, true, true, true, true, true, true, true, true, true, true, true, true, true, false, false, false, false, false, false, false, false, false, false, false, false, false] rfl rfl (any_of HT_.out (by kernel_rfl)) (fun _ _ _ h => h) (Or.inr ⟨by rfl, rfl⟩) ?_ ?_
                         rotate_left
                         ·simp only [Act.put, sL1, sL2, sL3, i64_w, i32_w]
                          rfl
                         refine pure_ (i := 27) (N := some 231) (v := ?_) (a' := ?_) #[true, true, true, true, true, true, true, true, true, true, true, true, true, true, true, true, true, true, true, true, true, true, true, true, true, true, true, true, false, false, false, false, false, false, false, false, false, false, false, false] rfl rfl (any_of HT_.out (by kernel_rfl)) (fun _ _ _ h => h) (Or.inl ⟨by rfl, ?_⟩) ?_ ?_
                         rotate_left
                         ·intro w'
                          go_simp
                          with_reducible rfl
                         rotate_left
                         ·simp only [Act.put, sL1, sL2, sL3, i64_w, i32_w]
                          rfl
                         refine pure_ (i := 28) (N := some 232) (v := ?_) (a' := ?_) #[true, true, true, true, true, true, true, true, true, true, true, true, true, true, true, true, true, true, true, true, true, true, true, true, true, true, true, true, true, false, false, false, false, false, false, false, false, false, false, false] rfl rfl (any_of HT_.out (by kernel_rfl)) (fun _ _ _ h => h) (Or.inl ⟨by rfl, ?_⟩) ?_ ?_
                         rotate_left
                         ·intro w'
                          go_simp
                          with_reducible rfl
                         rotate_left
                         ·simp only [Act.put, sL1, sL2, sL3, i64_w, i32_w]
                          rfl
                         refine pure_ (i := 29) (N := some 233) (v := undef) (a' := ?_) #[true, true, true, true, true, true, true, true, true, true, true, true, true, true, true, true, true, true, true, true, true, true, true, true, true, true, true, true, true, true, false, false, false, false, false, false, false, false, false, false] rfl rfl (any_of HT_.out (by kernel_rfl)) (fun _ _ _ h => h) (Or.inr ⟨by rfl, rfl⟩) ?_ ?_
                         rotate_left
                         ·simp only [Act.put, sL1, sL2, sL3, i64_w, i32_w]
                          rfl
                         refine pure_ (i := 30) (N := some 234) (v := undef) (a' := ?_) #[true, true, true, true, true, true, true, true, true, true, true, true, true, true, true, true, true, true, true, true, true, true, true, true, true, true, true, true, true, true, true, false, false, false, false, false, false, false, false, false] rfl rfl (any_of HT_.out (by kernel_rfl)) (fun _ _ _ h => h) (Or.inr ⟨by rfl, rfl⟩) ?_ ?_
                         rotate_left
                         ·simp only [Act.put, sL1, sL2, sL3, i64_w, i32_w]
                          rfl
                         refine pure_ (i := 31) (N := some 235) (v := undef) (a' := ?_) #[true, true, true, true, true, true, true, true, true, true, true, true, true, true, true, true, true, true, true, true, true, true, true, true, true, true, true, true, true, true, true, true, false, false, false, false, false, false, false, false] rfl rfl (any_of HT_.out (by kernel_rfl)) (fun _ _ _ h => h) (Or.inr ⟨by rfl, rfl⟩) ?_ ?_
                         rotate_left
                         ·simp only [Act.put, sL1, sL2, sL3, i64_w, i32_w]
                          rfl
                         refine pure_ (i := 32) (N := some 236) (v := undef) (a' := ?_) #[true, true, true, true, true, true, true, true, true, true, true, true, true, true, true, true, true, true, true, true, true, true, true, true, true, true, true, true, true, true, true, true, true, false, false, false, false, false, false, false] rfl rfl (any_of HT_.out (by kernel_rfl)) (fun _ _ _ h => h) (Or.inr ⟨by rfl, rfl⟩) ?_ ?_
                         rotate_left
                         ·simp only [Act.put, sL1, sL2, sL3, i64_w, i32_w]
                          rfl
                         refine pure_ (i := 33) (N := some 237) (v := undef) (a' := ?_) #[true, true, true, true, true, true, true, true, true, true, true, true, true, true, true, true, true, true, true, true, true, true, true, true, true, true, true, true, true, true, true, true, true, true, false, false, false, false, false, false] rfl rfl (any_of HT_.out (by kernel_rfl)) (fun _ _ _ h => h) (Or.inr ⟨by rfl, rfl⟩) ?_ ?_
                         rotate_left
                         ·simp only [Act.put, sL1, sL2, sL3, i64_w, i32_w]
                          rfl
                         refine pure_ (i := 34) (N := some 238) (v := undef) (a' := ?_) #[true, true, true, true, true, true, true, true, true, true, true, true, true, true, true, true, true, true, true, true, true, true, true, true, true, true, true, true, true, true, true, true, true, true, true, false, false, false, false, false] rfl rfl (any_of HT_.out (by kernel_rfl)) (fun _ _ _ h => h) (Or.inr ⟨by rfl, rfl⟩) ?_ ?_
                         rotate_left
                         ·simp only [Act.put, sL1, sL2, sL3, i64_w, i32_w]
                          rfl
                         refine pure_ (i := 35) (N := some 239) (v := undef) (a' := ?_) #[true, true, true, true, true, true, true, true, true, true, true, true, true, true, true, true, true, true, true, true, true, true, true, true, true, true, true, true, true, true, true, true, true, true, true, true, false, false, false, false] rfl rfl (any_of HT_.out (by kernel_rfl)) (fun _ _ _ h => h) (Or.inr ⟨by rfl, rfl⟩) ?_ ?_
                         rotate_left
                         ·simp only [Act.put, sL1, sL2, sL3, i64_w, i32_w]
                          rfl
                         refine pure_ (i := 36) (N := some 240) (v := undef) (a' := ?_) #[true, true, true, true, true, true, true, true, true, true, true, true, true, true, true, true, true, true, true, true, true, true, true, true, true, true, true, true, true, true, true, true, true, true, true, true, true, false, false, false] rfl rfl (any_of HT_.out (by kernel_rfl)) (fun _ _ _ h => h) (Or.inr ⟨by rfl, rfl⟩) ?_ ?_
                         rotate_left
                         ·simp only [Act.put, sL1, sL2, sL3, i64_w, i32_w]
                          rfl
                         refine pure_ (i := 37) (N := some 241) (v := undef) (a' := ?_) #[true, true, true, true, true, true, true, true, true, true, true, true, true, true, true, true, true, true, true, true, true, true, true, true, true, true, true, true, true, true, true, true, true, true, true, true, true, true, false, false] rfl rfl (any_of HT_.out (by kernel_rfl)) (fun _ _ _ h => h) (Or.inr ⟨by rfl, rfl⟩) ?_ ?_
                         rotate_left
                         ·simp only [Act.put, sL1, sL2, sL3, i64_w, i32_w]
                          rfl
                         refine pure_ (i := 38) (N := some 242) (v := undef) (a' := ?_) #[true, true, true, true, true, true, true, true, true, true, true, true, true, true, true, true, true, true, true, true, true, true, true, true, true, true, true, true, true, true, true, true, true, true, true, true, true, true, true, false] rfl rfl (any_of HT_.out (by kernel_rfl)) (fun _ _ _ h => h) (Or.inr ⟨by rfl, rfl⟩) ?_ ?_
                         rotate_left
                         ·simp only [Act.put, sL1, sL2, sL3, i64_w, i32_w]
                          rfl
                         refine pure_ (i := 39) (N := some 243) (v := ?_) (a' := ?_) #[true, true, true, true, true, true, true, true, true, true, true, true, true, true, true, true, true, true, true, true, true, true, true, true, true, true, true, true, true, true, true, true, true, true, true, true, true, true, true, true] rfl rfl (any_of HT_.out (by kernel_rfl)) (fun _ _ _ h => h) (Or.inl ⟨by rfl, ?_⟩) ?_ ?_
                         rotate_left
                         ·intro w'
                          go_simp
                          with_reducible rfl
                         rotate_left
                         ·simp only [Act.put, sL1, sL2, sL3, i64_w, i32_w]
                          rfl
                         refine done_ (done_of HT_.out (by kernel_rfl)) ?_
                         try go_wp2
                         go_meet
                         case rel => exact ⟨_, (true), (by first | rfl | (simp; done) | (simp [*]; done)), H', ⟨by have := HJ2.out; have := HK2.out; have := HJ16.out; have := HK4.out; have := HK5.out; first | omega | exact Nat.le_refl _⟩, ⟨by (with_reducible repeat (first | apply Kd.R_alloc | apply Kd.R_drewN | apply Kd.R_drew)); exact HO_5.out⟩, ⟨by repeat (first | (with_reducible first | exact HB.out | apply below_alloc | apply bdN | apply bd1) | exact HB.out)⟩⟩
                       ·as_aux_lemma =>
                         rw [if_neg c44] at H
                         have c44b0 : (((rd_T45 t223 x10_2).f4) == ((rd_T45 t223 x10_2).f1)) = false := beq_eq_false_iff_ne.mpr c44
                         have c44b1 : (((rd_T45 t223 x10_2).f4) != ((rd_T45 t223 x10_2).f1)) = true := bne_iff_ne.mpr c44
                         (first | rw [c44b0] | (simp only [i64_w, i32_w]; rw [c44b0]) | skip)
                         have H' := As0 H
                         clear H
                         try go_wp2
                         have n0_ := As0 (Kd.R_drew HO_5.out)
                         have n1_ := As0 (bd1 HB.out)
                         clear HO_5
                         clear HB
                         have HO_5 := n0_
                         have HB := n1_
                         clear n0_ n1_
                         have p243 : 0 ≤ (x10_2 : Int) := of_decide_eq_true (by first | (with_reducible assumption) | assumption)
                         have q243 : x10_2 < (t223.length : Int) := of_decide_eq_true (by first | (with_reducible assumption) | assumption)
                         obtain ⟨ad243, e243, hx243_0, hx243_1, hx243_2, hx243_3, hx243_4, hx243_5⟩ := at_T45 (Kd.R_reads' HO_5.out).2.2 x10_2 p243 q243
                         obtain rfl : ad235 = ad243 := (by injection e243)
                         replace p243 := eq_true p243
                         replace q243 := eq_true q243
                         refine start_ (n := 40) (S := fun w' => w'.cell? (ad235.add ((x10_2).toNat * 6)) = some (.int .i64 ((rd_T45 t223 x10_2).f0)) ∧ w'.cell? ⟨(ad235.add ((x10_2).toNat * 6)).block, (ad235.add ((x10_2).toNat * 6)).off + 1, none⟩ = some (.int .i64 ((rd_T45 t223 x10_2).f1)) ∧ w'.cell? ⟨(ad235.add ((x10_2).toNat * 6)).block, (ad235.add ((x10_2).toNat * 6)).off + 2, none⟩ = some (.int .i64 ((rd_T45 t223 x10_2).f2)) ∧ w'.cell? ⟨(ad235.add ((x10_2).toNat * 6)).block, (ad235.add ((x10_2).toNat * 6)).off + 3, none⟩ = some (.int .i64 ((rd_T45 t223 x10_2).f3)) ∧ w'.cell? ⟨(ad235.add ((x10_2).toNat * 6)).block, (ad235.add ((x10_2).toNat * 6)).off + 4, none⟩ = some (.int .i64 ((rd_T45 t223 x10_2).f4)) ∧ w'.cell? ⟨(ad235.add ((x10_2).toNat * 6)).block, (ad235.add ((x10_2).toNat * 6)).off + 5, none⟩ = some (.int .i64 ((rd_T45 t223 x10_2).f5))) (ds := []) #[false, false, false, false, false, false, false, false, false, false, false, false, false, false, false, false, false, false, false, false, false, false, false, false, false, false, false, false, false, false, false, false, false, false, false, false, false, false, false, false] (by kernel_rfl) rfl rfl ⟨hx243_0, hx243_1, hx243_2, hx243_3, hx243_4, hx243_5⟩ (fun hHeld => ?_); refine with_tabW regcertlaw13_AlignRows.tab27 regcertlaw13_AlignRows.bits27 (fun HT_ HW_ => ?_)
                         generalize wr.drew = w58 at HO_5 HB hx243_0 hx243_1 hx243_2 hx243_3 hx243_4 hx243_5 hHeld ⊢
                         refine pure_ (i := 0) (N := some 204) (v := ?_) (a' := ?_) #[true, false, false, false, false, false, false, false, false, false, false, false, false, false, false, false, false, false, false, false, false, false, false, false, false, false, false, false, false, false, false, false, false, false, false, false, false, false, false, false] rfl rfl (any_of HT_.out (by kernel_rfl)) (fun _ _ _ h => h) (Or.inl ⟨by rfl, ?_⟩) ?_ ?_
                         rotate_left
                         ·intro w'
                          go_simp
                          with_reducible rfl
                         rotate_left
                         ·simp only [Act.put, sL1, sL2, sL3, i64_w, i32_w]
                          rfl
                         refine pure_ (i := 1) (N := some 205) (v := ?_) (a' := ?_) #[true, true, false, false, false, false, false, false, false, false, false, false, false, false, false, false, false, false, false, false, false, false, false, false, false, false, false, false, false, false, false, false, false, false, false, false, false, false, false, false] rfl rfl (any_of HT_.out (by kernel_rfl)) (fun _ _ _ h => h) (Or.inl ⟨by rfl, ?_⟩) ?_ ?_
                         rotate_left
                         ·intro w'
                          go_simp
                          with_reducible rfl
                         rotate_left
                         ·simp only [Act.put, sL1, sL2, sL3, i64_w, i32_w]
                          rfl
                         refine pure_ (i := 2) (N := some 206) (v := ?_) (a' := ?_) #[true, true, true, false, false, false, false, false, false, false, false, false, false, false, false, false, false, false, false, false, false, false, false, false, false, false, false, false, false, false, false, false, false, false, false, false, false, false, false, false] rfl rfl (any_of HT_.out (by kernel_rfl)) (fun _ _ _ h => h) (Or.inl ⟨by rfl, ?_⟩) ?_ ?_
                         rotate_left
                         ·intro w'
                          go_simp
                          with_reducible rfl
                         rotate_left
                         ·simp only [Act.put, sL1, sL2, sL3, i64_w, i32_w]
                          rfl
                         refine pure_ (i := 3) (N := some 207) (v := ?_) (a' := ?_) #[true, true, true, true, false, false, false, false, false, false, false, false, false, false, false, false, false, false, false, false, false, false, false, false, false, false, false, false, false, false, false, false, false, false, false, false, false, false, false, false] rfl rfl (any_of HT_.out (by kernel_rfl)) (fun _ _ _ h => h) (Or.inl ⟨by rfl, ?_⟩) ?_ ?_
                         rotate_left
                         ·intro w'
                          go_simp
                          with_reducible rfl
                         rotate_left
                         ·simp only [Act.put, sL1, sL2, sL3, i64_w, i32_w]
                          rfl
                         refine pure_ (i := 5) (N := some 209) (v := ?_) (a' := ?_) #[true, true, true, true, false, true, false, false, false, false, false, false, false, false, false, false, false, false, false, false, false, false, false, false, false, false, false, false, false, false, false, false, false, false, false, false, false, false, false, false] rfl rfl (any_of HT_.out (by kernel_rfl)) (fun _ _ _ h => h) (Or.inl ⟨by rfl, ?_⟩) ?_ ?_
                         rotate_left
                         ·intro w'
                          go_simp
                          with_reducible rfl
                         rotate_left
                         ·simp only [Act.put, sL1, sL2, sL3, i64_w, i32_w]
                          rfl
                         refine take_ (i := 4) (N := some 208) (v := ?_) (a' := ?_) #[true, true, true, true, true, true, false, false, false, false, false, false, false, false, false, false, false, false, false, false, false, false, false, false, false, false, false, false, false, false, false, false, false, false, false, false, false, false, false, false] rfl rfl (take_ofW HT_.out HW_.out (by kernel_rfl)) (fun _ _ _ h => h) (Or.inl ⟨by rfl, ?_⟩) hHeld ?_ ?_
                         rotate_left
                         ·rintro w' ⟨s0, s1, s2, s3, s4, s5⟩
                          go_simp
                          with_reducible rfl
                         rotate_left
                         ·simp only [Act.put, sL1, sL2, sL3, i64_w, i32_w]
                          rfl
                         refine pure_ (i := 6) (N := some 210) (v := ?_) (a' := ?_) #[true, true, true, true, true, true, true, false, false, false, false, false, false, false, false, false, false, false, false, false, false, false, false, false, false, false, false, false, false, false, false, false, false, false, false, false, false, false, false, false] rfl rfl (any_of HT_.out (by kernel_rfl)) (fun _ _ _ h => h) (Or.inl ⟨by rfl, ?_⟩) ?_ ?_
                         rotate_left
                         ·intro w'
                          go_simp
                          with_reducible rfl
                         rotate_left
                         ·simp only [Act.put, sL1, sL2, sL3, i64_w, i32_w]
                          rfl
                         refine pure_ (i := 7) (N := some 211) (v := ?_) (a' := ?_) #[true, true, true, true, true, true, true, true, false, false, false, false, false, false, false, false, false, false, false, false, false, false, false, false, false, false, false, false, false, false, false, false, false, false, false, false, false, false, false, false] rfl rfl (any_of HT_.out (by kernel_rfl)) (fun _ _ _ h => h) (Or.inl ⟨by rfl, ?_⟩) ?_ ?_
                         rotate_left
                         ·intro w'
                          go_simp
                          with_reducible rfl
                         rotate_left
                         ·simp only [Act.put, sL1, sL2, sL3, i64_w, i32_w]
                          rfl
                         refine pure_ (i := 8) (N := some 212) (v := undef) (a' := ?_) #[true, true, true, true, true, true, true, true, true, false, false, false, false, false, false, false, false, false, false, false, false, false, false, false, false, false, false, false, false, false, false, false, false, false, false, false, false, false, false, false] rfl rfl (any_of HT_.out (by kernel_rfl)) (fun _ _ _ h => h) (Or.inr ⟨by rfl, rfl⟩) ?_ ?_
                         rotate_left
                         ·simp only [Act.put, sL1, sL2, sL3, i64_w, i32_w]
                          rfl
                         refine pure_ (i := 9) (N := some 213) (v := undef) (a' := ?_) #[true, true, true, true, true, true, true, true, true, true, false, false, false, false, false, false, false, false, false, false, false, false, false, false, false, false, false, false, false, false, false, false, false, false, false, false, false, false, false, false] rfl rfl (any_of HT_.out (by kernel_rfl)) (fun _ _ _ h => h) (Or.inr ⟨by rfl, rfl⟩) ?_ ?_
                         rotate_left
                         ·simp only [Act.put, sL1, sL2, sL3, i64_w, i32_w]
                          rfl
                         refine pure_ (i := 10) (N := some 214) (v := undef) (a' := ?_) #[true, true, true, true, true, true, true, true, true, true, true, false, false, false, false, false, false, false, false, false, false, false, false, false, false, false, false, false, false, false, false, false, false, false, false, false, false, false, false, false] rfl rfl (any_of HT_.out (by kernel_rfl)) (fun _ _ _ h => h) (Or.inr ⟨by rfl, rfl⟩) ?_ ?_
                         rotate_left
                         ·simp only [Act.put, sL1, sL2, sL3, i64_w, i32_w]
                          rfl
                         refine pure_ (i := 11) (N := some 215) (v := undef) (a' := ?_) #[true, true, true, true, true, true, true, true, true, true, true, true, false, false, false, false, false, false, false, false, false, false, false, false, false, false, false, false, false, false, false, false, false, false, false, false, false, false, false, false] rfl rfl (any_of HT_.out (by kernel_rfl)) (fun _ _ _ h => h) (Or.inr ⟨by rfl, rfl⟩) ?_ ?_
                         rotate_left
                         ·simp only [Act.put, sL1, sL2, sL3, i64_w, i32_w]
                          rfl
                         refine pure_ (i := 12) (N := some 216) (v := undef) (a' := ?_) #[true, true, true, true, true, true, true, true, true, true, true, true, true, false, false, false, false, false, false, false, false, false, false, false, false, false, false, false, false, false, false, false, false, false, false, false, false, false, false, false] rfl rfl (any_of HT_.out (by kernel_rfl)) (fun _ _ _ h => h) (Or.inr ⟨by rfl, rfl⟩) ?_ ?_
                         rotate_left
                         ·simp only [Act.put, sL1, sL2, sL3, i64_w, i32_w]
                          rfl
                         refine pure_ (i := 13) (N := some 217) (v := undef) (a' := ?_) #[true, true, true, true, true, true, true, true, true, true, true, true, true, true, false, false, false, false, false, false, false, false, false, false, false, false, false, false, false, false, false, false, false, false, false, false, false, false, false, false] rfl rfl (any_of HT_.out (by kernel_rfl)) (fun _ _ _ h => h) (Or.inr ⟨by rfl, rfl⟩) ?_ ?_
                         rotate_left
                         ·simp only [Act.put, sL1, sL2, sL3, i64_w, i32_w]
                          rfl
                         refine pure_ (i := 14) (N := some 218) (v := undef) (a' := ?_) #[true, true, true, true, true, true, true, true, true, true, true, true, true, true, true, false, false, false, false, false, false, false, false, false, false, false, false, false, false, false, false, false, false, false, false, false, false, false, false, false] rfl rfl (any_of HT_.out (by kernel_rfl)) (fun _ _ _ h => h) (Or.inr ⟨by rfl, rfl⟩) ?_ ?_
                         rotate_left
                         ·simp only [Act.put, sL1, sL2, sL3, i64_w, i32_w]
                          rfl
                         refine pure_ (i := 15) (N := some 219) (v := ?_) (a' := ?_) #[true, true, true, true, true, true, true, true, true, true, true, true, true, true, true, true, false, false, false, false, false, false, false, false, false, false, false, false, false, false, false, false, false, false, false, false, false, false, false, false] rfl rfl (any_of HT_.out (by kernel_rfl)) (fun _ _ _ h => h) (Or.inl ⟨by rfl, ?_⟩) ?_ ?_
                         rotate_left
                         ·intro w'
                          go_simp
                          with_reducible rfl
                         rotate_left
                         ·simp only [Act.put, sL1, sL2, sL3, i64_w, i32_w]
                          rfl
                         refine pure_ (i := 16) (N := some 220) (v := ?_) (a' := ?_) #[true, true, true, true, true, true, true, true, true, true, true, true, true, true, true, true, true, false, false, false, false, false, false, false, false, false, false, false, false, false, false, false, false, false, false, false, false, false, false, false] rfl rfl (any_of HT_.out (by kernel_rfl)) (fun _ _ _ h => h) (Or.inl ⟨by rfl, ?_⟩) ?_ ?_
                         rotate_left
                         ·intro w'
                          go_simp
                          with_reducible rfl
                         rotate_left
                         ·simp only [Act.put, sL1, sL2, sL3, i64_w, i32_w]
                          rfl
                         refine pure_ (i := 17) (N := some 221) (v := undef) (a' := ?_) #[true, true, true, true, true, true, true, true, true, true, true, true, true, true, true, true, true, true, false, false, false, false, false, false, false, false, false, false, false, false, false, false, false, false, false, false, false, false, false, false] rfl rfl (any_of HT_.out (by kernel_rfl)) (fun _ _ _ h => h) (Or.inr ⟨by rfl, rfl⟩) ?_ ?_
                         rotate_left
                         ·simp only [Act.put, sL1, sL2, sL3, i64_w, i32_w]
                          rfl
                         refine pure_ (i := 18) (N := some 222) (v := undef) (a' := ?_) #[true, true, true, true, true, true, true, true, true, true, true, true, true, true, true, true, true, true, true, false, false, false, false, false, false, false, false, false, false, false, false, false, false, false, false, false, false, false, false, false] rfl rfl (any_of HT_.out (by kernel_rfl)) (fun _ _ _ h => h) (Or.inr ⟨by rfl, rfl⟩) ?_ ?_
                         rotate_left
                         ·simp only [Act.put, sL1, sL2, sL3, i64_w, i32_w]
                          rfl
                         refine pure_ (i := 19) (N := some 223) (v := undef) (a' := ?_) #[true, true, true, true, true, true, true, true, true, true, true, true, true, true, true, true, true, true, true, true, false, false, false, false, false, false, false, false, false, false, false, false, false, false, false, false, false, false, false, false] rfl rfl (any_of HT_.out (by kernel_rfl)) (fun _ _ _ h => h) (Or.inr ⟨by rfl, rfl⟩) ?_ ?_
                         rotate_left
                         ·simp only [Act.put, sL1, sL2, sL3, i64_w, i32_w]
                          rfl
                         refine pure_ (i := 20) (N := some 224) (v := undef) (a' := ?_) #[true, true, true, true, true, true, true, true, true, true, true, true, true, true, true, true, true, true, true, true, true, false, false, false, false, false, false, false, false, false, false, false, false, false, false, false, false, false, false, false] rfl rfl (any_of HT_.out (by kernel_rfl)) (fun _ _ _ h => h) (Or.inr ⟨by rfl, rfl⟩) ?_ ?_
                         rotate_left
                         ·simp only [Act.put, sL1, sL2, sL3, i64_w, i32_w]
                          rfl
                         refine pure_ (i := 21) (N := some 225) (v := ?_) (a' := ?_) #[true, true, true, true, true, true, true, true, true, true, true, true, true, true, true, true, true, true, true, true, true, true, false, false, false, false, false, false, false, false, false, false, false, false, false, false, false, false, false, false] rfl rfl (any_of HT_.out (by kernel_rfl)) (fun _ _ _ h => h) (Or.inl ⟨by rfl, ?_⟩) ?_ ?_
                         rotate_left
                         ·intro w'
                          go_simp
                          with_reducible rfl
                         rotate_left
                         ·simp only [Act.put, sL1, sL2, sL3, i64_w, i32_w]
                          rfl
                         refine pure_ (i := 22) (N := some 226) (v := ?_) (a' := ?_) #[true, true, true, true, true, true, true, true, true, true, true, true, true, true, true, true, true, true, true, true, true, true, true, false, false, false, false, false, false, false, false, false, false, false, false, false, false, false, false, false] rfl rfl (any_of HT_.out (by kernel_rfl)) (fun _ _ _ h => h) (Or.inl ⟨by rfl, ?_⟩) ?_ ?_
                         rotate_left
                         ·intro w'
                          go_simp
                          with_reducible rfl
                         rotate_left
                         ·simp only [Act.put, sL1, sL2, sL3, i64_w, i32_w]
                          rfl
                         refine pure_ (i := 23) (N := some 227) (v := undef) (a' := ?_) #[true, true, true, true, true, true, true, true, true, true, true, true, true, true, true, true, true, true, true, true, true, true, true, true, false, false, false, false, false, false, false, false, false, false, false, false, false, false, false, false] rfl rfl (any_of HT_.out (by kernel_rfl)) (fun _ _ _ h => h) (Or.inr ⟨by rfl, rfl⟩) ?_ ?_
                         rotate_left
                         ·simp only [Act.put, sL1, sL2, sL3, i64_w, i32_w]
                          rfl
                         refine pure_ (i := 24) (N := some 228) (v := undef) (a' := ?_) #[true, true, true, true, true, true, true, true, true, true, true, true, true, true, true, true, true, true, true, true, true, true, true, true, true, false, false, false, false, false, false, false, false, false, false, false, false, false, false, false] rfl rfl (any_of HT_.out (by kernel_rfl)) (fun _ _ _ h => h) (Or.inr ⟨by rfl, rfl⟩) ?_ ?_
                         rotate_left
                         ·simp only [Act.put, sL1, sL2, sL3, i64_w, i32_w]
                          rfl
                         refine pure_ (i := 25) (N := some 229) (v := undef) (a' := ?_) #[true, true, true, true, true, true, true, true, true, true, true, true, true, true, true, true, true, true, true, true, true, true, true, true, true, true, false, false, false, false, false, false, false, false, false, false, false, false, false, false] rfl rfl (any_of HT_.out (by kernel_rfl)) (fun _ _ _ h => h) (Or.inr ⟨by rfl, rfl⟩) ?_ ?_
                         rotate_left
                         ·simp only [Act.put, sL1, sL2, sL3, i64_w, i32_w]
                          rfl
                         refine pure_ (i := 26) (N := some 230) (v := undef) (a' := ?_) #[true, true, true, true, true, true, true, true, true, true, true, true, true, true, true, true, true, true, true, true, true, true, true, true, true, true, true, false, false, false, false, false, false, false, false, false, false, false, false, false] rfl rfl (any_of HT_.out (by kernel_rfl)) (fun _ _ _ h => h) (Or.inr ⟨by rfl, rfl⟩) ?_ ?_
                         rotate_left
                         ·simp only [Act.put, sL1, sL2, sL3, i64_w, i32_w]
                          rfl
                         refine pure_ (i := 27) (N := some 231) (v := ?_) (a' := ?_) #[true, true, true, true, true, true, true, true, true, true, true, true, true, true, true, true, true, true, true, true, true, true, true, true, true, true, true, true, false, false, false, false, false, false, false, false, false, false, false, false] rfl rfl (any_of HT_.out (by kernel_rfl)) (fun _ _ _ h => h) (Or.inl ⟨by rfl, ?_⟩) ?_ ?_
                         rotate_left
                         ·intro w'
                          go_simp
                          with_reducible rfl
                         rotate_left
                         ·simp only [Act.put, sL1, sL2, sL3, i64_w, i32_w]
                          rfl
                         refine pure_ (i := 28) (N := some 232) (v := ?_) (a' := ?_) #[true, true, true, true, true, true, true, true, true, true, true, true, true, true, true, true, true, true, true, true, true, true, true, true, true, true, true, true, true, false, false, false, false, false, false, false, false, false, false, false] rfl rfl (any_of HT_.out (by kernel_rfl)) (fun _ _ _ h => h) (Or.inl ⟨by rfl, ?_⟩) ?_ ?_
                         rotate_left
                         ·intro w'
                          go_simp
                          with_reducible rfl
                         rotate_left
                         ·simp only [Act.put, sL1, sL2, sL3, i64_w, i32_w]
                          rfl
                         refine pure_ (i := 29) (N := some 233) (v := undef) (a' := ?_) #[true, true, true, true, true, true, true, true, true, true, true, true, true, true, true, true, true, true, true, true, true, true, true, true, true, true, true, true, true, true, false, false, false, false, false, false, false, false, false, false] rfl rfl (any_of HT_.out (by kernel_rfl)) (fun _ _ _ h => h) (Or.inr ⟨by rfl, rfl⟩) ?_ ?_
                         rotate_left
                         ·simp only [Act.put, sL1, sL2, sL3, i64_w, i32_w]
                          rfl
                         refine pure_ (i := 30) (N := some 234) (v := undef) (a' := ?_) #[true, true, true, true, true, true, true, true, true, true, true, true, true, true, true, true, true, true, true, true, true, true, true, true, true, true, true, true, true, true, true, false, false, false, false, false, false, false, false, false] rfl rfl (any_of HT_.out (by kernel_rfl)) (fun _ _ _ h => h) (Or.inr ⟨by rfl, rfl⟩) ?_ ?_
                         rotate_left
                         ·simp only [Act.put, sL1, sL2, sL3, i64_w, i32_w]
                          rfl
                         refine pure_ (i := 31) (N := some 235) (v := undef) (a' := ?_) #[true, true, true, true, true, true, true, true, true, true, true, true, true, true, true, true, true, true, true, true, true, true, true, true, true, true, true, true, true, true, true, true, false, false, false, false, false, false, false, false] rfl rfl (any_of HT_.out (by kernel_rfl)) (fun _ _ _ h => h) (Or.inr ⟨by rfl, rfl⟩) ?_ ?_
                         rotate_left
                         ·simp only [Act.put, sL1, sL2, sL3, i64_w, i32_w]
                          rfl
                         refine pure_ (i := 32) (N := some 236) (v := undef) (a' := ?_) #[true, true, true, true, true, true, true, true, true, true, true, true, true, true, true, true, true, true, true, true, true, true, true, true, true, true, true, true, true, true, true, true, true, false, false, false, false, false, false, false] rfl rfl (any_of HT_.out (by kernel_rfl)) (fun _ _ _ h => h) (Or.inr ⟨by rfl, rfl⟩) ?_ ?_
                         rotate_left
                         ·simp only [Act.put, sL1, sL2, sL3, i64_w, i32_w]
                          rfl
                         refine pure_ (i := 33) (N := some 237) (v := undef) (a' := ?_) #[true, true, true, true, true, true, true, true, true, true, true, true, true, true, true, true, true, true, true, true, true, true, true, true, true, true, true, true, true, true, true, true, true, true, false, false, false, false, false, false] rfl rfl (any_of HT_.out (by kernel_rfl)) (fun _ _ _ h => h) (Or.inr ⟨by rfl, rfl⟩) ?_ ?_
                         rotate_left
                         ·simp only [Act.put, sL1, sL2, sL3, i64_w, i32_w]
                          rfl
                         refine pure_ (i := 34) (N := some 238) (v := undef) (a' := ?_) #[true, true, true, true, true, true, true, true, true, true, true, true, true, true, true, true, true, true, true, true, true, true, true, true, true, true, true, true, true, true, true, true, true, true, true, false, false, false, false, false] rfl rfl (any_of HT_.out (by kernel_rfl)) (fun _ _ _ h => h) (Or.inr ⟨by rfl, rfl⟩) ?_ ?_
                         rotate_left
                         ·simp only [Act.put, sL1, sL2, sL3, i64_w, i32_w]
                          rfl
                         refine pure_ (i := 35) (N := some 239) (v := undef) (a' := ?_) #[true, true, true, true, true, true, true, true, true, true, true, true, true, true, true, true, true, true, true, true, true, true, true, true, true, true, true, true, true, true, true, true, true, true, true, true, false, false, false, false] rfl rfl (any_of HT_.out (by kernel_rfl)) (fun _ _ _ h => h) (Or.inr ⟨by rfl, rfl⟩) ?_ ?_
                         rotate_left
                         ·simp only [Act.put, sL1, sL2, sL3, i64_w, i32_w]
                          rfl
                         refine pure_ (i := 36) (N := some 240) (v := undef) (a' := ?_) #[true, true, true, true, true, true, true, true, true, true, true, true, true, true, true, true, true, true, true, true, true, true, true, true, true, true, true, true, true, true, true, true, true, true, true, true, true, false, false, false] rfl rfl (any_of HT_.out (by kernel_rfl)) (fun _ _ _ h => h) (Or.inr ⟨by rfl, rfl⟩) ?_ ?_
                         rotate_left
                         ·simp only [Act.put, sL1, sL2, sL3, i64_w, i32_w]
                          rfl
                         refine pure_ (i := 37) (N := some 241) (v := undef) (a' := ?_) #[true, true, true, true, true, true, true, true, true, true, true, true, true, true, true, true, true, true, true, true, true, true, true, true, true, true, true, true, true, true, true, true, true, true, true, true, true, true, false, false] rfl rfl (any_of HT_.out (by kernel_rfl)) (fun _ _ _ h => h) (Or.inr ⟨by rfl, rfl⟩) ?_ ?_
                         rotate_left
                         ·simp only [Act.put, sL1, sL2, sL3, i64_w, i32_w]
                          rfl
                         refine pure_ (i := 38) (N := some 242) (v := undef) (a' := ?_) #[true, true, true, true, true, true, true, true, true, true, true, true, true, true, true, true, true, true, true, true, true, true, true, true, true, true, true, true, true, true, true, true, true, true, true, true, true, true, true, false] rfl rfl (any_of HT_.out (by kernel_rfl)) (fun _ _ _ h => h) (Or.inr ⟨by rfl, rfl⟩) ?_ ?_
                         rotate_left
                         ·simp only [Act.put, sL1, sL2, sL3, i64_w, i32_w]
                          rfl
                         refine pure_ (i := 39) (N := some 243) (v := ?_) (a' := ?_) #[true, true, true, true, true, true, true, true, true, true, true, true, true, true, true, true, true, true, true, true, true, true, true, true, true, true, true, true, true, true, true, true, true, true, true, true, true, true, true, true] rfl rfl (any_of HT_.out (by kernel_rfl)) (fun _ _ _ h => h) (Or.inl ⟨by rfl, ?_⟩) ?_ ?_
                         rotate_left
                         ·intro w'
                          go_simp
                          with_reducible rfl
                         rotate_left
                         ·simp only [Act.put, sL1, sL2, sL3, i64_w, i32_w]
                          rfl
                         refine done_ (done_of HT_.out (by kernel_rfl)) ?_
                         try go_wp2
                         go_meet
                         case rel => exact ⟨_, (true), (by first | rfl | (simp; done) | (simp [*]; done)), H', ⟨by have := HJ2.out; have := HK2.out; have := HJ16.out; have := HK4.out; have := HK5.out; first | omega | exact Nat.le_refl _⟩, ⟨by (with_reducible repeat (first | apply Kd.R_alloc | apply Kd.R_drewN | apply Kd.R_drew)); exact HO_5.out⟩, ⟨by repeat (first | (with_reducible first | exact HB.out | apply below_alloc | apply bdN | apply bd1) | exact HB.out)⟩⟩
                      case rest => as_aux_lemma =>
                       clear HC43
                       try clear c1
                       try clear p2
                       try clear q2
                       try clear hx2
                       try clear c4
                       try clear c5
                       try clear c13
                       try clear p24
                       try clear q24
                       try clear hx24
                       try clear c44
                       try clear c44b0
                       try clear c44b1
                       try clear c45
                       try clear c45b0
                       try clear c45b1
                       try clear c50
                       try clear c51
                       try clear c52
                       try clear c53
                       try clear hx243_0
                       try clear hx243_1
                       try clear hx243_2
                       try clear hx243_3
                       try clear hx243_4
                       try clear hx243_5
                       try clear hx244_0
                       try clear hx244_1
                       try clear hx244_2
                       try clear hx244_3
                       try clear hx244_4
                       try clear hx244_5
                       try clear p243
                       try clear p244
                       try clear q243
                       try clear q244
                       obtain ⟨kq, x243_42, rfl, HA, HJ42, HO_5, HB⟩ := hcut
                       cases kq with
                       | zero => exact absurd HA.out (by simp [regcertlaw13_AlignRows.j5])
                       | succ kj42 =>
                        have H := HA.out
                        clear HA
                        simp only [regcertlaw13_AlignRows.j5] at H
                        by_cases c59 : x243_42 = true
                        ·subst c59
                         have H1 : (some false) = some r := by rw [if_pos rfl] at H; exact H
                         clear H
                         have H := H1
                         clear H1
                         obtain rfl := Option.some.inj H
                         go_wp2
                         go_ret
                         exact ⟨by first | rfl | (simp [errW_none, errW_some] <;> rfl) | (simp [*, errW_none, errW_some] <;> rfl), by repeat (first | (with_reducible first | exact HB.out | apply below_alloc | apply bdN | apply bd1) | exact HB.out)⟩
                        ·replace c59 := Bool.eq_false_iff.mpr c59
                         subst c59
                         have H1 : (regcertlaw13_AlignRows.l0 kj42 l0 l1 t223 t224 (wrap64 (((rd_T45 t223 x10_2).f1) + 1)) (wrap64 (((rd_T45 t223 x10_2).f3) + 1)) (wrap64 (x10_2 + 1))) = some r := by rw [if_neg (show ¬ (false = true) by decide)] at H; exact H
                         clear H
                         have H := H1
                         clear H1
                         have H' := As0 H
                         clear H
                         go_wp2
                         go_roundg kj42
                         case measure => have := HJ2.out; have := HK2.out; have := HJ16.out; have := HK4.out; have := HK5.out; have := HJ42.out; omega
                         case rel => exact ⟨(wrap64 (((rd_T45 t223 x10_2).f1) + 1)), (wrap64 (((rd_T45 t223 x10_2).f3) + 1)), (wrap64 (x10_2 + 1)), (by first | rfl | (simp; done) | (simp [*]; done)), (by first | rfl | (simp; done) | (simp [*]; done)), (by first | rfl | (simp; done) | (simp [*]; done)), H', ⟨by have := HJ2.out; have := HK2.out; have := HJ16.out; have := HK4.out; have := HK5.out; have := HJ42.out; omega⟩, ⟨by (with_reducible repeat (first | apply Kd.R_alloc | apply Kd.R_drewN | apply Kd.R_drew)); exact HO_5.out⟩, ⟨by repeat (first | (with_reducible first | exact HB.out | apply below_alloc | apply bdN | apply bd1) | exact HB.out)⟩⟩
                   ·rw [if_neg c33] at H
                    exact absurd H (by simp)
                  ·rw [if_neg c32] at H
                   exact absurd H (by simp)
              ·rw [if_neg c27] at H
               exact absurd H (by simp)
             ·rw [if_neg c26] at H
              exact absurd H (by simp)
       ·rw [if_neg c16] at H
        have c16b0 : decide (x10_2 < (t223.length : Int)) = false := decide_eq_false c16
        clear c16
        obtain rfl := Option.some.inj H
        obtain ⟨Ao60, co60, eo60⟩ := Kd.R_slice HO_5.out
        subst eo60
        go_wp2
        go_ret
        exact ⟨by first | rfl | (simp [errW_none, errW_some] <;> rfl) | (simp [*, errW_none, errW_some] <;> rfl), by repeat (first | (with_reducible first | exact HB.out | apply below_alloc | apply bdN | apply bd1) | exact HB.out)⟩
    ·as_aux_lemma =>
      rw [if_neg c14] at H
      have c14b0 : (t225 == 0) = false := beq_eq_false_iff_ne.mpr c14
      have c14b1 : (t225 != 0) = true := bne_iff_ne.mpr c14
      by_cases c61 : t225 = 20
      ·rw [if_pos c61] at H
       have c61b0 : (t225 == 20) = true := beq_iff_eq.mpr c61
       have c61b1 : (t225 != 20) = false := bne_eq_false_iff_eq.mpr c61
       clear c61
       by_cases c62 : (t223.length : Int) = 0
       ·rw [if_pos c62] at H
        have c62b0 : ((t223.length : Int) == 0) = true := beq_iff_eq.mpr c62
        have c62b1 : ((t223.length : Int) != 0) = false := bne_eq_false_iff_eq.mpr c62
        clear c62
        by_cases c63 : t224 ≥ 0
        ·rw [if_pos c63] at H
         have c63b0 : decide (0 ≤ t224) = true := decide_eq_true c63
         clear c63
         by_cases c64 : t224 ≤ (l1.length : Int)
         ·rw [if_pos c64] at H
          have c64b0 : decide (t224 ≤ (l1.length : Int)) = true := decide_eq_true c64
          clear c64
          by_cases c65 : t224 = (l1.length : Int)
          ·rw [if_pos c65] at H
           have c65b0 : (t224 == (l1.length : Int)) = true := beq_iff_eq.mpr c65
           have c65b1 : (t224 != (l1.length : Int)) = false := bne_eq_false_iff_eq.mpr c65
           clear c65
           obtain rfl := Option.some.inj H
           go_wp2_with (first | ((with_reducible refine gate_callee (f := 9) rfl ?_); refine goesL_ (some 29) rfl rfl Try.func9 (by kernel_rfl) rfl #[.slice A0 l0.length c0, .slice A1 l1.length c1] rfl (by (try simp only [List.map_toArray, List.map_cons, List.map_nil]); first | done | rfl | (simp only [List.length_drop, List.length_take]; rfl)) ?_; (with_reducible refine (align_Code.calls kj2 _ _ l0 _ _ l1 t223 t224 t225 _ ?side1 ?side2 ?side3 ?side4 A13.out).mono ?_); (case side1 => repeat (first | exact (Kd.C_below HR0.out HB.out) | (with_reducible refine Kd.C_alloc ?_ _) | (with_reducible refine Kd.C_drewN ?_ _) | (with_reducible refine Kd.C_drew ?_))); (case side2 => exact HC0.out); (case side3 => repeat (first | exact (Kd.C_below HR1.out HB.out) | (with_reducible refine Kd.C_alloc ?_ _) | (with_reducible refine Kd.C_drewN ?_ _) | (with_reducible refine Kd.C_drew ?_))); (case side4 => exact HC1.out); rintro e w66 ⟨v226, rfl, ho0, hb⟩; refine ⟨_, rfl, ?_⟩; have n0_ := As0 (Kd.R_lower ho0 (below_size (by repeat (first | (with_reducible first | exact HB.out | apply below_alloc | apply bdN | apply bd1) | exact HB.out)))); have n1_ := As0 (below_step (by repeat (first | (with_reducible first | exact HB.out | apply below_alloc | apply bdN | apply bd1) | exact HB.out)) hb); clear HB; have HO227 := n0_; have HB := n1_; clear n0_ n1_; (try clear hb); (try clear hb2); (try clear hk); (try clear hi); (try clear ho0); obtain ⟨Ao67, co67, eo67⟩ := Kd.R_slice HO227.out; subst eo67))
           go_ret
           exact ⟨by first | rfl | (simp [errW_none, errW_some] <;> rfl) | (simp [*, errW_none, errW_some] <;> rfl), by repeat (first | (with_reducible first | exact HB.out | apply below_alloc | apply bdN | apply bd1) | exact HB.out)⟩
          ·rw [if_neg c65] at H
           have c65b0 : (t224 == (l1.length : Int)) = false := beq_eq_false_iff_ne.mpr c65
           have c65b1 : (t224 != (l1.length : Int)) = true := bne_iff_ne.mpr c65
           by_cases c68 : 0 ≤ t224
           ·rw [if_pos c68] at H
            have c68b0 : decide (0 ≤ t224) = true := decide_eq_true c68
            clear c68
            by_cases c69 : t224 < (l1.length : Int)
            ·rw [if_pos c69] at H
             have c69b0 : decide (t224 < (l1.length : Int)) = true := decide_eq_true c69
             clear c69
             obtain rfl := Option.some.inj H
             go_wp2_with (first | ((with_reducible refine gate_callee (f := 9) rfl ?_); refine goesL_ (some 29) rfl rfl Try.func9 (by kernel_rfl) rfl #[.slice A0 l0.length c0, .slice A1 l1.length c1] rfl (by (try simp only [List.map_toArray, List.map_cons, List.map_nil]); first | done | rfl | (simp only [List.length_drop, List.length_take]; rfl)) ?_; (with_reducible refine (align_Code.calls kj2 _ _ l0 _ _ l1 t223 t224 t225 _ ?side1 ?side2 ?side3 ?side4 A13.out).mono ?_); (case side1 => repeat (first | exact (Kd.C_below HR0.out HB.out) | (with_reducible refine Kd.C_alloc ?_ _) | (with_reducible refine Kd.C_drewN ?_ _) | (with_reducible refine Kd.C_drew ?_))); (case side2 => exact HC0.out); (case side3 => repeat (first | exact (Kd.C_below HR1.out HB.out) | (with_reducible refine Kd.C_alloc ?_ _) | (with_reducible refine Kd.C_drewN ?_ _) | (with_reducible refine Kd.C_drew ?_))); (case side4 => exact HC1.out); rintro e w70 ⟨v226, rfl, ho0, hb⟩; refine ⟨_, rfl, ?_⟩; have n0_ := As0 (Kd.R_lower ho0 (below_size (by repeat (first | (with_reducible first | exact HB.out | apply below_alloc | apply bdN | apply bd1) | exact HB.out)))); have n1_ := As0 (below_step (by repeat (first | (with_reducible first | exact HB.out | apply below_alloc | apply bdN | apply bd1) | exact HB.out)) hb); clear HB; have HO227 := n0_; have HB := n1_; clear n0_ n1_; (try clear hb); (try clear hb2); (try clear hk); (try clear hi); (try clear ho0); obtain ⟨Ao71, co71, eo71⟩ := Kd.R_slice HO227.out; subst eo71; have p228 : 0 ≤ (t224 : Int) := of_decide_eq_true (by first | (with_reducible assumption) | assumption); have q228 : t224 < (l1.length : Int) := of_decide_eq_true (by first | (with_reducible assumption) | assumption); obtain ⟨ad228, e228, hx228_0, hx228_1, hx228_2, hx228_3, hx228_4, hx228_5, hx228_6⟩ := at_T28 HR1.out t224 p228 q228; cases e228; replace hx228_0 := (HB.out.cell (wblt w hx228_0)).trans hx228_0; replace hx228_1 := (HB.out.cell (wblt w hx228_1)).trans hx228_1; replace hx228_2 := (HB.out.cell (wblt w hx228_2)).trans hx228_2; replace hx228_3 := (HB.out.cell (wblt w hx228_3)).trans hx228_3; replace hx228_4 := (HB.out.cell (wblt w hx228_4)).trans hx228_4; replace hx228_5 := (HB.out.cell (wblt w hx228_5)).trans hx228_5; replace hx228_6 := (HB.out.cell (wblt w hx228_6)).trans hx228_6; replace p228 := eq_true p228; replace q228 := eq_true q228))
             go_ret
             exact ⟨by first | rfl | (simp [errW_none, errW_some] <;> rfl) | (simp [*, errW_none, errW_some] <;> rfl), by repeat (first | (with_reducible first | exact HB.out | apply below_alloc | apply bdN | apply bd1) | exact HB.out)⟩
            ·rw [if_neg c69] at H
             exact absurd H (by simp)
           ·rw [if_neg c68] at H
            exact absurd H (by simp)
         ·rw [if_neg c64] at H
          have c64b0 : decide (t224 ≤ (l1.length : Int)) = false := decide_eq_false c64
          clear c64
          obtain rfl := Option.some.inj H
          go_wp2_with (first | ((with_reducible refine gate_callee (f := 9) rfl ?_); refine goesL_ (some 29) rfl rfl Try.func9 (by kernel_rfl) rfl #[.slice A0 l0.length c0, .slice A1 l1.length c1] rfl (by (try simp only [List.map_toArray, List.map_cons, List.map_nil]); first | done | rfl | (simp only [List.length_drop, List.length_take]; rfl)) ?_; (with_reducible refine (align_Code.calls kj2 _ _ l0 _ _ l1 t223 t224 t225 _ ?side1 ?side2 ?side3 ?side4 A13.out).mono ?_); (case side1 => repeat (first | exact (Kd.C_below HR0.out HB.out) | (with_reducible refine Kd.C_alloc ?_ _) | (with_reducible refine Kd.C_drewN ?_ _) | (with_reducible refine Kd.C_drew ?_))); (case side2 => exact HC0.out); (case side3 => repeat (first | exact (Kd.C_below HR1.out HB.out) | (with_reducible refine Kd.C_alloc ?_ _) | (with_reducible refine Kd.C_drewN ?_ _) | (with_reducible refine Kd.C_drew ?_))); (case side4 => exact HC1.out); rintro e w72 ⟨v226, rfl, ho0, hb⟩; refine ⟨_, rfl, ?_⟩; have n0_ := As0 (Kd.R_lower ho0 (below_size (by repeat (first | (with_reducible first | exact HB.out | apply below_alloc | apply bdN | apply bd1) | exact HB.out)))); have n1_ := As0 (below_step (by repeat (first | (with_reducible first | exact HB.out | apply below_alloc | apply bdN | apply bd1) | exact HB.out)) hb); clear HB; have HO227 := n0_; have HB := n1_; clear n0_ n1_; (try clear hb); (try clear hb2); (try clear hk); (try clear hi); (try clear ho0); obtain ⟨Ao73, co73, eo73⟩ := Kd.R_slice HO227.out; subst eo73))
          go_ret
          exact ⟨by first | rfl | (simp [errW_none, errW_some] <;> rfl) | (simp [*, errW_none, errW_some] <;> rfl), by repeat (first | (with_reducible first | exact HB.out | apply below_alloc | apply bdN | apply bd1) | exact HB.out)⟩
        ·rw [if_neg c63] at H
         have c63b0 : decide (0 ≤ t224) = false := decide_eq_false c63
         clear c63
         obtain rfl := Option.some.inj H
         go_wp2_with (first | ((with_reducible refine gate_callee (f := 9) rfl ?_); refine goesL_ (some 29) rfl rfl Try.func9 (by kernel_rfl) rfl #[.slice A0 l0.length c0, .slice A1 l1.length c1] rfl (by (try simp only [List.map_toArray, List.map_cons, List.map_nil]); first | done | rfl | (simp only [List.length_drop, List.length_take]; rfl)) ?_; (with_reducible refine (align_Code.calls kj2 _ _ l0 _ _ l1 t223 t224 t225 _ ?side1 ?side2 ?side3 ?side4 A13.out).mono ?_); (case side1 => repeat (first | exact (Kd.C_below HR0.out HB.out) | (with_reducible refine Kd.C_alloc ?_ _) | (with_reducible refine Kd.C_drewN ?_ _) | (with_reducible refine Kd.C_drew ?_))); (case side2 => exact HC0.out); (case side3 => repeat (first | exact (Kd.C_below HR1.out HB.out) | (with_reducible refine Kd.C_alloc ?_ _) | (with_reducible refine Kd.C_drewN ?_ _) | (with_reducible refine Kd.C_drew ?_))); (case side4 => exact HC1.out); rintro e w74 ⟨v226, rfl, ho0, hb⟩; refine ⟨_, rfl, ?_⟩; have n0_ := As0 (Kd.R_lower ho0 (below_size (by repeat (first | (with_reducible first | exact HB.out | apply below_alloc | apply bdN | apply bd1) | exact HB.out)))); have n1_ := As0 (below_step (by repeat (first | (with_reducible first | exact HB.out | apply below_alloc | apply bdN | apply bd1) | exact HB.out)) hb); clear HB; have HO227 := n0_; have HB := n1_; clear n0_ n1_; (try clear hb); (try clear hb2); (try clear hk); (try clear hi); (try clear ho0); obtain ⟨Ao75, co75, eo75⟩ := Kd.R_slice HO227.out; subst eo75))
         go_ret
         exact ⟨by first | rfl | (simp [errW_none, errW_some] <;> rfl) | (simp [*, errW_none, errW_some] <;> rfl), by repeat (first | (with_reducible first | exact HB.out | apply below_alloc | apply bdN | apply bd1) | exact HB.out)⟩
       ·rw [if_neg c62] at H
        have c62b0 : ((t223.length : Int) == 0) = false := beq_eq_false_iff_ne.mpr c62
        have c62b1 : ((t223.length : Int) != 0) = true := bne_iff_ne.mpr c62
        have c62b2 : ¬ (t223 = []) := fun h_ => c62 (by rw [h_]; rfl)
        obtain rfl := Option.some.inj H
        go_wp2_with (first | ((with_reducible refine gate_callee (f := 9) rfl ?_); refine goesL_ (some 29) rfl rfl Try.func9 (by kernel_rfl) rfl #[.slice A0 l0.length c0, .slice A1 l1.length c1] rfl (by (try simp only [List.map_toArray, List.map_cons, List.map_nil]); first | done | rfl | (simp only [List.length_drop, List.length_take]; rfl)) ?_; (with_reducible refine (align_Code.calls kj2 _ _ l0 _ _ l1 t223 t224 t225 _ ?side1 ?side2 ?side3 ?side4 A13.out).mono ?_); (case side1 => repeat (first | exact (Kd.C_below HR0.out HB.out) | (with_reducible refine Kd.C_alloc ?_ _) | (with_reducible refine Kd.C_drewN ?_ _) | (with_reducible refine Kd.C_drew ?_))); (case side2 => exact HC0.out); (case side3 => repeat (first | exact (Kd.C_below HR1.out HB.out) | (with_reducible refine Kd.C_alloc ?_ _) | (with_reducible refine Kd.C_drewN ?_ _) | (with_reducible refine Kd.C_drew ?_))); (case side4 => exact HC1.out); rintro e w76 ⟨v226, rfl, ho0, hb⟩; refine ⟨_, rfl, ?_⟩; have n0_ := As0 (Kd.R_lower ho0 (below_size (by repeat (first | (with_reducible first | exact HB.out | apply below_alloc | apply bdN | apply bd1) | exact HB.out)))); have n1_ := As0 (below_step (by repeat (first | (with_reducible first | exact HB.out | apply below_alloc | apply bdN | apply bd1) | exact HB.out)) hb); clear HB; have HO227 := n0_; have HB := n1_; clear n0_ n1_; (try clear hb); (try clear hb2); (try clear hk); (try clear hi); (try clear ho0); obtain ⟨Ao77, co77, eo77⟩ := Kd.R_slice HO227.out; subst eo77))
        go_ret
        exact ⟨by first | rfl | (simp [errW_none, errW_some] <;> rfl) | (simp [*, errW_none, errW_some] <;> rfl), by repeat (first | (with_reducible first | exact HB.out | apply below_alloc | apply bdN | apply bd1) | exact HB.out)⟩
      ·rw [if_neg c61] at H
       have c61b0 : (t225 == 20) = false := beq_eq_false_iff_ne.mpr c61
       have c61b1 : (t225 != 20) = true := bne_iff_ne.mpr c61
       obtain rfl := Option.some.inj H
       go_wp2_with (first | ((with_reducible refine gate_callee (f := 9) rfl ?_); refine goesL_ (some 29) rfl rfl Try.func9 (by kernel_rfl) rfl #[.slice A0 l0.length c0, .slice A1 l1.length c1] rfl (by (try simp only [List.map_toArray, List.map_cons, List.map_nil]); first | done | rfl | (simp only [List.length_drop, List.length_take]; rfl)) ?_; (with_reducible refine (align_Code.calls kj2 _ _ l0 _ _ l1 t223 t224 t225 _ ?side1 ?side2 ?side3 ?side4 A13.out).mono ?_); (case side1 => repeat (first | exact (Kd.C_below HR0.out HB.out) | (with_reducible refine Kd.C_alloc ?_ _) | (with_reducible refine Kd.C_drewN ?_ _) | (with_reducible refine Kd.C_drew ?_))); (case side2 => exact HC0.out); (case side3 => repeat (first | exact (Kd.C_below HR1.out HB.out) | (with_reducible refine Kd.C_alloc ?_ _) | (with_reducible refine Kd.C_drewN ?_ _) | (with_reducible refine Kd.C_drew ?_))); (case side4 => exact HC1.out); rintro e w78 ⟨v226, rfl, ho0, hb⟩; refine ⟨_, rfl, ?_⟩; have n0_ := As0 (Kd.R_lower ho0 (below_size (by repeat (first | (with_reducible first | exact HB.out | apply below_alloc | apply bdN | apply bd1) | exact HB.out)))); have n1_ := As0 (below_step (by repeat (first | (with_reducible first | exact HB.out | apply below_alloc | apply bdN | apply bd1) | exact HB.out)) hb); clear HB; have HO227 := n0_; have HB := n1_; clear n0_ n1_; (try clear hb); (try clear hb2); (try clear hk); (try clear hi); (try clear ho0)))
       go_ret
       exact ⟨by first | rfl | (simp [errW_none, errW_some] <;> rfl) | (simp [*, errW_none, errW_some] <;> rfl), by repeat (first | (with_reducible first | exact HB.out | apply below_alloc | apply bdN | apply bd1) | exact HB.out)⟩
 
end Go.Proofs.Ytchlilkhgagdeaa.X
