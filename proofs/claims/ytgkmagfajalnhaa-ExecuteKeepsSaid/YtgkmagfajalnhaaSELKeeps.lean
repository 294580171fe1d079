-- Written by a program of this session (xprint), out of the translation. Not trusted: Lean checks it.
import Derived.Test.YtgkmagfajalnhaaSE0
import Derived.Test.YtgkmagfajalnhaaSEAwk
import Derived.Test.YtgkmagfajalnhaaSEChk
import Derived.Test.YtgkmagfajalnhaaSEStepE
import Derived.Test.YtgkmagfajalnhaaSERCopy
namespace Go.Proofs.Ytgkmagfajalnhaa.E
open Go.RowKit Go.Proofs.YtgkmagfajalnhaaW.PrintWords Go.Proofs.YtgkmagfajalnhaaW.PrintLast Go.Proofs.YtgkmagfajalnhaaW.PrintMore
attribute [local go_sem] max2_int min2_int max_two min_two max_three min_three max_four min_four   -- for this text's walks alone
set_option linter.unusedVariables false
set_option linter.unusedSimpArgs false

/-! ### regcertlaw10_ExecuteKeeps: function 18 -/
mutual
def regcertlaw10_ExecuteKeeps.j0 : Nat → List Int → Int → Bool → Int → Int → Int → List (S69) → Option (Bool)
 | 0, _, _, _, _, _, _, _ => none
 | k + 1, x1, x2, x31, x242000, x242001, x242002, x242003 => if x31 = true then ((regcertlaw10_awake.f k).bind fun t244 => (some t244)) else ((some (([] : List Int) : List Int)).bind fun y245 => (if y245.length + x1.length < 17592186044416 then ((some (y245 ++ x1 : List Int)).bind fun y248 => ((execute_Exec.f k x242000 x242001 x242002 x242003 y248 (Int.tmod (wrap64 (x2)) 60)).bind fun bt251 => ((regcertref09_Copy.f bt251.1 bt251.2.1 bt251.2.2.1 bt251.2.2.2.1 bt251.2.2.2.2.1 bt251.2.2.2.2.2.1 bt251.2.2.2.2.2.2.1 bt251.2.2.2.2.2.2.2.1).bind fun bt267 => ((execute_Step.f x242000 x242001 x242002 x242003 bt251.1 bt251.2.1 bt251.2.2.1 bt251.2.2.2.1 bt251.2.2.2.2.1 bt251.2.2.2.2.2.1 bt251.2.2.2.2.2.2.1 bt251.2.2.2.2.2.2.2.1).bind fun bt282 => (regcertlaw10_ExecuteKeeps.l0 k x1 y248 0 bt251.1 bt251.2.1 bt251.2.2.1 bt251.2.2.2.1 bt251.2.2.2.2.1 bt251.2.2.2.2.2.1 bt251.2.2.2.2.2.2.1 bt251.2.2.2.2.2.2.2.1 bt267.1 bt267.2.1 bt267.2.2.1 bt267.2.2.2.1 bt267.2.2.2.2.1 bt267.2.2.2.2.2.1 bt267.2.2.2.2.2.2.1 bt267.2.2.2.2.2.2.2 bt282.1 bt282.2.1 bt282.2.2.1 bt282.2.2.2.1 bt282.2.2.2.2.1 bt282.2.2.2.2.2.1 bt282.2.2.2.2.2.2.1 bt282.2.2.2.2.2.2.2))))) else (none)))
def regcertlaw10_ExecuteKeeps.l0 : Nat → List Int → List Int → Int → Int → Int → Int → Int → List Int → List Int → List Int → Int → Int → Int → Int → Int → List Int → List Int → List Int → Int → Int → Int → Int → Int → List Int → List Int → List Int → Int → Option (Bool)
 | 0, _, _, _, _, _, _, _, _, _, _, _, _, _, _, _, _, _, _, _, _, _, _, _, _, _, _, _ => none
 | k + 1, x1, x7, x12, x267000, x267001, x267002, x267003, x267004, x267005, x267006, x267007, x282000, x282001, x282002, x282003, x282004, x282005, x282006, x282007, x297000, x297001, x297002, x297003, x297004, x297005, x297006, x297007 => if x12 < (x297004.length : Int) then (if 0 ≤ x12 then (regcertlaw10_ExecuteKeeps.l0 k x1 x7 (wrap64 (x12 + 1)) x267000 x267001 x267002 x267003 x267004 x267005 x267006 x267007 x282000 x282001 x282002 x282003 x282004 x282005 x282006 x282007 x297000 x297001 x297002 x297003 (x297004.set (x12 : Int).toNat (wrap64 ((rd x297004 x12) + 1))) x297005 x297006 x297007) else (none)) else (regcertlaw10_ExecuteKeeps.l1 k x1 x7 0 x267000 x267001 x267002 x267003 x267004 x267005 x267006 x267007 x282000 x282001 x282002 x282003 x282004 x282005 x282006 x282007 x297000 x297001 x297002 x297003 x297004 x297005 x297006 x297007)
def regcertlaw10_ExecuteKeeps.l1 : Nat → List Int → List Int → Int → Int → Int → Int → Int → List Int → List Int → List Int → Int → Int → Int → Int → Int → List Int → List Int → List Int → Int → Int → Int → Int → Int → List Int → List Int → List Int → Int → Option (Bool)
 | 0, _, _, _, _, _, _, _, _, _, _, _, _, _, _, _, _, _, _, _, _, _, _, _, _, _, _, _ => none
 | k + 1, x1, x7, x13, x267000, x267001, x267002, x267003, x267004, x267005, x267006, x267007, x282000, x282001, x282002, x282003, x282004, x282005, x282006, x282007, x297000, x297001, x297002, x297003, x297004, x297005, x297006, x297007 => if x13 < (x297005.length : Int) then (if 0 ≤ x13 then (regcertlaw10_ExecuteKeeps.l1 k x1 x7 (wrap64 (x13 + 1)) x267000 x267001 x267002 x267003 x267004 x267005 x267006 x267007 x282000 x282001 x282002 x282003 x282004 x282005 x282006 x282007 x297000 x297001 x297002 x297003 x297004 (x297005.set (x13 : Int).toNat (wrap64 ((rd x297005 x13) + 1))) x297006 x297007) else (none)) else (regcertlaw10_ExecuteKeeps.l2 k x1 x7 0 x267000 x267001 x267002 x267003 x267004 x267005 x267006 x267007 x282000 x282001 x282002 x282003 x282004 x282005 x282006 x282007 x297000 x297001 x297002 x297003 x297004 x297005 x297006 x297007)
def regcertlaw10_ExecuteKeeps.l2 : Nat → List Int → List Int → Int → Int → Int → Int → Int → List Int → List Int → List Int → Int → Int → Int → Int → Int → List Int → List Int → List Int → Int → Int → Int → Int → Int → List Int → List Int → List Int → Int → Option (Bool)
 | 0, _, _, _, _, _, _, _, _, _, _, _, _, _, _, _, _, _, _, _, _, _, _, _, _, _, _, _ => none
 | k + 1, x1, x7, x14, x267000, x267001, x267002, x267003, x267004, x267005, x267006, x267007, x282000, x282001, x282002, x282003, x282004, x282005, x282006, x282007, x297000, x297001, x297002, x297003, x297004, x297005, x297006, x297007 => if x14 < (x297006.length : Int) then (if 0 ≤ x14 then (regcertlaw10_ExecuteKeeps.l2 k x1 x7 (wrap64 (x14 + 1)) x267000 x267001 x267002 x267003 x267004 x267005 x267006 x267007 x282000 x282001 x282002 x282003 x282004 x282005 x282006 x282007 x297000 x297001 x297002 x297003 x297004 x297005 (x297006.set (x14 : Int).toNat (wrap64 ((rd x297006 x14) + 1))) x297007) else (none)) else ((regcertref09_Same.f k x267000 x267001 x267002 x267003 x267004 x267005 x267006 x267007 x282000 x282001 x282002 x282003 x282004 x282005 x282006 x282007).bind fun t303 => (regcertlaw10_ExecuteKeeps.l3 k x1 x7 t303 0 x267000 x267001 x267002 x267003 x267004 x267005 x267006 x267007))
def regcertlaw10_ExecuteKeeps.l3 : Nat → List Int → List Int → Bool → Int → Int → Int → Int → Int → List Int → List Int → List Int → Int → Option (Bool)
 | 0, _, _, _, _, _, _, _, _, _, _, _, _ => none
 | k + 1, x1, x7, x15, x16, x267000, x267001, x267002, x267003, x267004, x267005, x267006, x267007 => if x16 < (x267005.length : Int) then (if 0 ≤ x16 then (regcertlaw10_ExecuteKeeps.l3 k x1 x7 x15 (wrap64 (x16 + 1)) x267000 x267001 x267002 x267003 x267004 (x267005.set (x16 : Int).toNat (wrap64 ((rd x267005 x16) + 1))) x267006 x267007) else (none)) else (if x15 = true then ((regcertref09_Values.f k x7 x1).bind fun t306 => (some t306)) else (none))
end
def regcertlaw10_ExecuteKeeps.f (k : Nat) (a0_0 : Int) (a0_1 : Int) (a0_2 : Int) (l0_3 : List (S69)) (l1 : List Int) (a2 : Int) : Option (Bool) := (regcertlaw10_awake.f k).bind fun t242 => (if t242 = true then ((regcertref10_Right.f k a0_0 a0_1 a0_2 l0_3 l1 0).bind fun t243 => (if t243 = true then (regcertlaw10_ExecuteKeeps.j0 k l1 a2 ((l1.length : Int) != a0_0) a0_0 a0_1 a0_2 l0_3) else (regcertlaw10_ExecuteKeeps.j0 k l1 a2 true a0_0 a0_1 a0_2 l0_3))) else (regcertlaw10_ExecuteKeeps.j0 k l1 a2 true a0_0 a0_1 a0_2 l0_3))
theorem regcertlaw10_ExecuteKeeps.mono_l : ∀ k, (∀ y0 y1 y2 y3 y4 y5 y6, LeO (regcertlaw10_ExecuteKeeps.j0 k y0 y1 y2 y3 y4 y5 y6) (regcertlaw10_ExecuteKeeps.j0 (k + 1) y0 y1 y2 y3 y4 y5 y6)) ∧ (∀ y0 y1 y2 y3 y4 y5 y6 y7 y8 y9 y10 y11 y12 y13 y14 y15 y16 y17 y18 y19 y20 y21 y22 y23 y24 y25 y26, LeO (regcertlaw10_ExecuteKeeps.l0 k y0 y1 y2 y3 y4 y5 y6 y7 y8 y9 y10 y11 y12 y13 y14 y15 y16 y17 y18 y19 y20 y21 y22 y23 y24 y25 y26) (regcertlaw10_ExecuteKeeps.l0 (k + 1) y0 y1 y2 y3 y4 y5 y6 y7 y8 y9 y10 y11 y12 y13 y14 y15 y16 y17 y18 y19 y20 y21 y22 y23 y24 y25 y26)) ∧ (∀ y0 y1 y2 y3 y4 y5 y6 y7 y8 y9 y10 y11 y12 y13 y14 y15 y16 y17 y18 y19 y20 y21 y22 y23 y24 y25 y26, LeO (regcertlaw10_ExecuteKeeps.l1 k y0 y1 y2 y3 y4 y5 y6 y7 y8 y9 y10 y11 y12 y13 y14 y15 y16 y17 y18 y19 y20 y21 y22 y23 y24 y25 y26) (regcertlaw10_ExecuteKeeps.l1 (k + 1) y0 y1 y2 y3 y4 y5 y6 y7 y8 y9 y10 y11 y12 y13 y14 y15 y16 y17 y18 y19 y20 y21 y22 y23 y24 y25 y26)) ∧ (∀ y0 y1 y2 y3 y4 y5 y6 y7 y8 y9 y10 y11 y12 y13 y14 y15 y16 y17 y18 y19 y20 y21 y22 y23 y24 y25 y26, LeO (regcertlaw10_ExecuteKeeps.l2 k y0 y1 y2 y3 y4 y5 y6 y7 y8 y9 y10 y11 y12 y13 y14 y15 y16 y17 y18 y19 y20 y21 y22 y23 y24 y25 y26) (regcertlaw10_ExecuteKeeps.l2 (k + 1) y0 y1 y2 y3 y4 y5 y6 y7 y8 y9 y10 y11 y12 y13 y14 y15 y16 y17 y18 y19 y20 y21 y22 y23 y24 y25 y26)) ∧ (∀ y0 y1 y2 y3 y4 y5 y6 y7 y8 y9 y10 y11, LeO (regcertlaw10_ExecuteKeeps.l3 k y0 y1 y2 y3 y4 y5 y6 y7 y8 y9 y10 y11) (regcertlaw10_ExecuteKeeps.l3 (k + 1) y0 y1 y2 y3 y4 y5 y6 y7 y8 y9 y10 y11))
 | 0 => ⟨fun _ _ _ _ _ _ _ r h => by simp [regcertlaw10_ExecuteKeeps.j0] at h, fun _ _ _ _ _ _ _ _ _ _ _ _ _ _ _ _ _ _ _ _ _ _ _ _ _ _ _ r h => by simp [regcertlaw10_ExecuteKeeps.l0] at h, fun _ _ _ _ _ _ _ _ _ _ _ _ _ _ _ _ _ _ _ _ _ _ _ _ _ _ _ r h => by simp [regcertlaw10_ExecuteKeeps.l1] at h, fun _ _ _ _ _ _ _ _ _ _ _ _ _ _ _ _ _ _ _ _ _ _ _ _ _ _ _ r h => by simp [regcertlaw10_ExecuteKeeps.l2] at h, fun _ _ _ _ _ _ _ _ _ _ _ _ r h => by simp [regcertlaw10_ExecuteKeeps.l3] at h⟩
 | k + 1 => by
  obtain ⟨ih0, ih1, ih2, ih3, ih4⟩ := regcertlaw10_ExecuteKeeps.mono_l k
  refine ⟨?_, ?_, ?_, ?_, ?_⟩
  ·intro y0 y1 y2 y3 y4 y5 y6
   unfold regcertlaw10_ExecuteKeeps.j0
   repeat' first
   | (with_reducible exact ih0 _ _ _ _ _ _ _)
   | (with_reducible exact ih1 _ _ _ _ _ _ _ _ _ _ _ _ _ _ _ _ _ _ _ _ _ _ _ _ _ _ _)
   | (with_reducible exact ih2 _ _ _ _ _ _ _ _ _ _ _ _ _ _ _ _ _ _ _ _ _ _ _ _ _ _ _)
   | (with_reducible exact ih3 _ _ _ _ _ _ _ _ _ _ _ _ _ _ _ _ _ _ _ _ _ _ _ _ _ _ _)
   | (with_reducible exact ih4 _ _ _ _ _ _ _ _ _ _ _ _)
   | (with_reducible exact execute_Exec.mono _ _ _ _ _ _ _)
   | (with_reducible exact regcertlaw10_awake.mono _)
   | (with_reducible exact regcertref09_Same.mono _ _ _ _ _ _ _ _ _ _ _ _ _ _ _ _ _)
   | (with_reducible exact regcertref09_Values.mono _ _ _)
   | (with_reducible exact regcertref10_Right.mono _ _ _ _ _ _ _)
   | (with_reducible exact LeO.refl _)
   | (with_reducible exact LeO.none _)
   | (with_reducible refine LeO.ite ?_ ?_)
   | (with_reducible refine LeO.bind ?_ (fun _ => ?_))
   | exact ih0 _ _ _ _ _ _ _
   | exact ih1 _ _ _ _ _ _ _ _ _ _ _ _ _ _ _ _ _ _ _ _ _ _ _ _ _ _ _
   | exact ih2 _ _ _ _ _ _ _ _ _ _ _ _ _ _ _ _ _ _ _ _ _ _ _ _ _ _ _
   | exact ih3 _ _ _ _ _ _ _ _ _ _ _ _ _ _ _ _ _ _ _ _ _ _ _ _ _ _ _
   | exact ih4 _ _ _ _ _ _ _ _ _ _ _ _
   | exact execute_Exec.mono _ _ _ _ _ _ _
   | exact regcertlaw10_awake.mono _
   | exact regcertref09_Same.mono _ _ _ _ _ _ _ _ _ _ _ _ _ _ _ _ _
   | exact regcertref09_Values.mono _ _ _
   | exact regcertref10_Right.mono _ _ _ _ _ _ _
   | exact LeO.none _
   | refine LeO.ite ?_ ?_
   | refine LeO.bind ?_ (fun _ => ?_)
  ·intro y0 y1 y2 y3 y4 y5 y6 y7 y8 y9 y10 y11 y12 y13 y14 y15 y16 y17 y18 y19 y20 y21 y22 y23 y24 y25 y26
   unfold regcertlaw10_ExecuteKeeps.l0
   repeat' first
   | (with_reducible exact ih0 _ _ _ _ _ _ _)
   | (with_reducible exact ih1 _ _ _ _ _ _ _ _ _ _ _ _ _ _ _ _ _ _ _ _ _ _ _ _ _ _ _)
   | (with_reducible exact ih2 _ _ _ _ _ _ _ _ _ _ _ _ _ _ _ _ _ _ _ _ _ _ _ _ _ _ _)
   | (with_reducible exact ih3 _ _ _ _ _ _ _ _ _ _ _ _ _ _ _ _ _ _ _ _ _ _ _ _ _ _ _)
   | (with_reducible exact ih4 _ _ _ _ _ _ _ _ _ _ _ _)
   | (with_reducible exact execute_Exec.mono _ _ _ _ _ _ _)
   | (with_reducible exact regcertlaw10_awake.mono _)
   | (with_reducible exact regcertref09_Same.mono _ _ _ _ _ _ _ _ _ _ _ _ _ _ _ _ _)
   | (with_reducible exact regcertref09_Values.mono _ _ _)
   | (with_reducible exact regcertref10_Right.mono _ _ _ _ _ _ _)
   | (with_reducible exact LeO.refl _)
   | (with_reducible exact LeO.none _)
   | (with_reducible refine LeO.ite ?_ ?_)
   | (with_reducible refine LeO.bind ?_ (fun _ => ?_))
   | exact ih0 _ _ _ _ _ _ _
   | exact ih1 _ _ _ _ _ _ _ _ _ _ _ _ _ _ _ _ _ _ _ _ _ _ _ _ _ _ _
   | exact ih2 _ _ _ _ _ _ _ _ _ _ _ _ _ _ _ _ _ _ _ _ _ _ _ _ _ _ _
   | exact ih3 _ _ _ _ _ _ _ _ _ _ _ _ _ _ _ _ _ _ _ _ _ _ _ _ _ _ _
   | exact ih4 _ _ _ _ _ _ _ _ _ _ _ _
   | exact execute_Exec.mono _ _ _ _ _ _ _
   | exact regcertlaw10_awake.mono _
   | exact regcertref09_Same.mono _ _ _ _ _ _ _ _ _ _ _ _ _ _ _ _ _
   | exact regcertref09_Values.mono _ _ _
   | exact regcertref10_Right.mono _ _ _ _ _ _ _
   | exact LeO.none _
   | refine LeO.ite ?_ ?_
   | refine LeO.bind ?_ (fun _ => ?_)
  ·intro y0 y1 y2 y3 y4 y5 y6 y7 y8 y9 y10 y11 y12 y13 y14 y15 y16 y17 y18 y19 y20 y21 y22 y23 y24 y25 y26
   unfold regcertlaw10_ExecuteKeeps.l1
   repeat' first
   | (with_reducible exact ih0 _ _ _ _ _ _ _)
   | (with_reducible exact ih1 _ _ _ _ _ _ _ _ _ _ _ _ _ _ _ _ _ _ _ _ _ _ _ _ _ _ _)
   | (with_reducible exact ih2 _ _ _ _ _ _ _ _ _ _ _ _ _ _ _ _ _ _ _ _ _ _ _ _ _ _ _)
   | (with_reducible exact ih3 _ _ _ _ _ _ _ _ _ _ _ _ _ _ _ _ _ _ _ _ _ _ _ _ _ _ _)
   | (with_reducible exact ih4 _ _ _ _ _ _ _ _ _ _ _ _)
   | (with_reducible exact execute_Exec.mono _ _ _ _ _ _ _)
   | (with_reducible exact regcertlaw10_awake.mono _)
   | (with_reducible exact regcertref09_Same.mono _ _ _ _ _ _ _ _ _ _ _ _ _ _ _ _ _)
   | (with_reducible exact regcertref09_Values.mono _ _ _)
   | (with_reducible exact regcertref10_Right.mono _ _ _ _ _ _ _)
   | (with_reducible exact LeO.refl _)
   | (with_reducible exact LeO.none _)
   | (with_reducible refine LeO.ite ?_ ?_)
   | (with_reducible refine LeO.bind ?_ (fun _ => ?_))
   | exact ih0 _ _ _ _ _ _ _
   | exact ih1 _ _ _ _ _ _ _ _ _ _ _ _ _ _ _ _ _ _ _ _ _ _ _ _ _ _ _
   | exact ih2 _ _ _ _ _ _ _ _ _ _ _ _ _ _ _ _ _ _ _ _ _ _ _ _ _ _ _
   | exact ih3 _ _ _ _ _ _ _ _ _ _ _ _ _ _ _ _ _ _ _ _ _ _ _ _ _ _ _
   | exact ih4 _ _ _ _ _ _ _ _ _ _ _ _
   | exact execute_Exec.mono _ _ _ _ _ _ _
   | exact regcertlaw10_awake.mono _
   | exact regcertref09_Same.mono _ _ _ _ _ _ _ _ _ _ _ _ _ _ _ _ _
   | exact regcertref09_Values.mono _ _ _
   | exact regcertref10_Right.mono _ _ _ _ _ _ _
   | exact LeO.none _
   | refine LeO.ite ?_ ?_
   | refine LeO.bind ?_ (fun _ => ?_)
  ·intro y0 y1 y2 y3 y4 y5 y6 y7 y8 y9 y10 y11 y12 y13 y14 y15 y16 y17 y18 y19 y20 y21 y22 y23 y24 y25 y26
   unfold regcertlaw10_ExecuteKeeps.l2
   repeat' first
   | (with_reducible exact ih0 _ _ _ _ _ _ _)
   | (with_reducible exact ih1 _ _ _ _ _ _ _ _ _ _ _ _ _ _ _ _ _ _ _ _ _ _ _ _ _ _ _)
   | (with_reducible exact ih2 _ _ _ _ _ _ _ _ _ _ _ _ _ _ _ _ _ _ _ _ _ _ _ _ _ _ _)
   | (with_reducible exact ih3 _ _ _ _ _ _ _ _ _ _ _ _ _ _ _ _ _ _ _ _ _ _ _ _ _ _ _)
   | (with_reducible exact ih4 _ _ _ _ _ _ _ _ _ _ _ _)
   | (with_reducible exact execute_Exec.mono _ _ _ _ _ _ _)
   | (with_reducible exact regcertlaw10_awake.mono _)
   | (with_reducible exact regcertref09_Same.mono _ _ _ _ _ _ _ _ _ _ _ _ _ _ _ _ _)
   | (with_reducible exact regcertref09_Values.mono _ _ _)
   | (with_reducible exact regcertref10_Right.mono _ _ _ _ _ _ _)
   | (with_reducible exact LeO.refl _)
   | (with_reducible exact LeO.none _)
   | (with_reducible refine LeO.ite ?_ ?_)
   | (with_reducible refine LeO.bind ?_ (fun _ => ?_))
   | exact ih0 _ _ _ _ _ _ _
   | exact ih1 _ _ _ _ _ _ _ _ _ _ _ _ _ _ _ _ _ _ _ _ _ _ _ _ _ _ _
   | exact ih2 _ _ _ _ _ _ _ _ _ _ _ _ _ _ _ _ _ _ _ _ _ _ _ _ _ _ _
   | exact ih3 _ _ _ _ _ _ _ _ _ _ _ _ _ _ _ _ _ _ _ _ _ _ _ _ _ _ _
   | exact ih4 _ _ _ _ _ _ _ _ _ _ _ _
   | exact execute_Exec.mono _ _ _ _ _ _ _
   | exact regcertlaw10_awake.mono _
   | exact regcertref09_Same.mono _ _ _ _ _ _ _ _ _ _ _ _ _ _ _ _ _
   | exact regcertref09_Values.mono _ _ _
   | exact regcertref10_Right.mono _ _ _ _ _ _ _
   | exact LeO.none _
   | refine LeO.ite ?_ ?_
   | refine LeO.bind ?_ (fun _ => ?_)
  ·intro y0 y1 y2 y3 y4 y5 y6 y7 y8 y9 y10 y11
   unfold regcertlaw10_ExecuteKeeps.l3
   repeat' first
   | (with_reducible exact ih0 _ _ _ _ _ _ _)
   | (with_reducible exact ih1 _ _ _ _ _ _ _ _ _ _ _ _ _ _ _ _ _ _ _ _ _ _ _ _ _ _ _)
   | (with_reducible exact ih2 _ _ _ _ _ _ _ _ _ _ _ _ _ _ _ _ _ _ _ _ _ _ _ _ _ _ _)
   | (with_reducible exact ih3 _ _ _ _ _ _ _ _ _ _ _ _ _ _ _ _ _ _ _ _ _ _ _ _ _ _ _)
   | (with_reducible exact ih4 _ _ _ _ _ _ _ _ _ _ _ _)
   | (with_reducible exact execute_Exec.mono _ _ _ _ _ _ _)
   | (with_reducible exact regcertlaw10_awake.mono _)
   | (with_reducible exact regcertref09_Same.mono _ _ _ _ _ _ _ _ _ _ _ _ _ _ _ _ _)
   | (with_reducible exact regcertref09_Values.mono _ _ _)
   | (with_reducible exact regcertref10_Right.mono _ _ _ _ _ _ _)
   | (with_reducible exact LeO.refl _)
   | (with_reducible exact LeO.none _)
   | (with_reducible refine LeO.ite ?_ ?_)
   | (with_reducible refine LeO.bind ?_ (fun _ => ?_))
   | exact ih0 _ _ _ _ _ _ _
   | exact ih1 _ _ _ _ _ _ _ _ _ _ _ _ _ _ _ _ _ _ _ _ _ _ _ _ _ _ _
   | exact ih2 _ _ _ _ _ _ _ _ _ _ _ _ _ _ _ _ _ _ _ _ _ _ _ _ _ _ _
   | exact ih3 _ _ _ _ _ _ _ _ _ _ _ _ _ _ _ _ _ _ _ _ _ _ _ _ _ _ _
   | exact ih4 _ _ _ _ _ _ _ _ _ _ _ _
   | exact execute_Exec.mono _ _ _ _ _ _ _
   | exact regcertlaw10_awake.mono _
   | exact regcertref09_Same.mono _ _ _ _ _ _ _ _ _ _ _ _ _ _ _ _ _
   | exact regcertref09_Values.mono _ _ _
   | exact regcertref10_Right.mono _ _ _ _ _ _ _
   | exact LeO.none _
   | refine LeO.ite ?_ ?_
   | refine LeO.bind ?_ (fun _ => ?_)
theorem regcertlaw10_ExecuteKeeps.mono : ∀ a0 a1 a2 a3 a4 a5 k, LeO (regcertlaw10_ExecuteKeeps.f k a0 a1 a2 a3 a4 a5) (regcertlaw10_ExecuteKeeps.f (k + 1) a0 a1 a2 a3 a4 a5) := by
 intro a0 a1 a2 a3 a4 a5 k
 obtain ⟨ih0, ih1, ih2, ih3, ih4⟩ := regcertlaw10_ExecuteKeeps.mono_l k
 unfold regcertlaw10_ExecuteKeeps.f
 repeat' first
   | (with_reducible exact ih0 _ _ _ _ _ _ _)
   | (with_reducible exact ih1 _ _ _ _ _ _ _ _ _ _ _ _ _ _ _ _ _ _ _ _ _ _ _ _ _ _ _)
   | (with_reducible exact ih2 _ _ _ _ _ _ _ _ _ _ _ _ _ _ _ _ _ _ _ _ _ _ _ _ _ _ _)
   | (with_reducible exact ih3 _ _ _ _ _ _ _ _ _ _ _ _ _ _ _ _ _ _ _ _ _ _ _ _ _ _ _)
   | (with_reducible exact ih4 _ _ _ _ _ _ _ _ _ _ _ _)
   | (with_reducible exact execute_Exec.mono _ _ _ _ _ _ _)
   | (with_reducible exact regcertlaw10_awake.mono _)
   | (with_reducible exact regcertref09_Same.mono _ _ _ _ _ _ _ _ _ _ _ _ _ _ _ _ _)
   | (with_reducible exact regcertref09_Values.mono _ _ _)
   | (with_reducible exact regcertref10_Right.mono _ _ _ _ _ _ _)
   | (with_reducible exact LeO.refl _)
   | (with_reducible exact LeO.none _)
   | (with_reducible refine LeO.ite ?_ ?_)
   | (with_reducible refine LeO.bind ?_ (fun _ => ?_))
   | exact ih0 _ _ _ _ _ _ _
   | exact ih1 _ _ _ _ _ _ _ _ _ _ _ _ _ _ _ _ _ _ _ _ _ _ _ _ _ _ _
   | exact ih2 _ _ _ _ _ _ _ _ _ _ _ _ _ _ _ _ _ _ _ _ _ _ _ _ _ _ _
   | exact ih3 _ _ _ _ _ _ _ _ _ _ _ _ _ _ _ _ _ _ _ _ _ _ _ _ _ _ _
   | exact ih4 _ _ _ _ _ _ _ _ _ _ _ _
   | exact execute_Exec.mono _ _ _ _ _ _ _
   | exact regcertlaw10_awake.mono _
   | exact regcertref09_Same.mono _ _ _ _ _ _ _ _ _ _ _ _ _ _ _ _ _
   | exact regcertref09_Values.mono _ _ _
   | exact regcertref10_Right.mono _ _ _ _ _ _ _
   | exact LeO.none _
   | refine LeO.ite ?_ ?_
   | refine LeO.bind ?_ (fun _ => ?_)
set_option maxHeartbeats 8000000 in
set_option maxRecDepth 100000 in
theorem regcertlaw10_ExecuteKeeps.calls (k : Nat) (a0_0 : Int) (a0_1 : Int) (a0_2 : Int) (A0_3 : Option Addr) (c0_3 : Nat) (l0_3 : List (S69)) (A1 : Option Addr) (c1 : Nat) (l1 : List Int) (a2 : Int) (r : Bool) (w : World) (hr0_3 : Kd.C k69 w A0_3 l0_3.length l0_3) (hc0_3 : l0_3.length ≤ c0_3) (hr1 : Kd.C (Kd.int .i64) w A1 l1.length l1) (hc1 : l1.length ≤ c1) (h : regcertlaw10_ExecuteKeeps.f k a0_0 a0_1 a0_2 l0_3 l1 a2 = some r) :
  Calls Try.prog 18 #[.agg #[.int .i64 a0_0, .int .i64 a0_1, .int .i64 a0_2, .slice A0_3 l0_3.length c0_3], .slice A1 l1.length c1, .int .u8 a2] w fun e w' => e = .returned (.bool r) ∧ Below w.heap.size w w' := by
 have hu63 := Try.underlying63
 have hu39 := Try.underlying39
 have HR0_3 := As0 hr0_3
 have HC0_3 := As0 hc0_3
 clear hr0_3 hc0_3
 have HR1 := As0 hr1
 have HC1 := As0 hc1
 clear hr1 hc1
 have HB := As0 (Below.refl w.heap.size w)
 have H : ((regcertlaw10_awake.f k).bind fun t242 => (if t242 = true then ((regcertref10_Right.f k a0_0 a0_1 a0_2 l0_3 l1 0).bind fun t243 => (if t243 = true then (regcertlaw10_ExecuteKeeps.j0 k l1 a2 ((l1.length : Int) != a0_0) a0_0 a0_1 a0_2 l0_3) else (regcertlaw10_ExecuteKeeps.j0 k l1 a2 true a0_0 a0_1 a0_2 l0_3))) else (regcertlaw10_ExecuteKeeps.j0 k l1 a2 true a0_0 a0_1 a0_2 l0_3))) = some r := h
 clear h
 have HC4 := As0 H
 clear H
 go_enter Try.func18, Try.ntmps18
 go_upto_region 1 with (first | ((with_reducible refine gate_dst (N := 3) rfl ?_); (try (refine gate_guard (by rfl) ?_; dsimp only)); refine box_event ?hg (N := 3) ?hd (cs := #[.int .i64 a0_0, .int .i64 a0_1, .int .i64 a0_2, .slice A0_3 l0_3.length c0_3]) (t := 63) ?hr ?_; (case hd => rfl); (case hg => rfl); (case hr => first | (go_simp; done) | (go_simp; rfl)); intro gb241 hg w5 hbox hb; have n0_ := As0 (below_step (by repeat (first | (with_reducible first | exact HB.out | apply below_alloc | apply bdN | apply bd1) | exact HB.out)) hb); have n1_ := As0 (hbox); have n2_ := As0 ((by rw [hg]; exact (below_size (by repeat (first | (with_reducible first | exact HB.out | apply below_alloc | apply bdN | apply bd1) | exact HB.out))) : w.heap.size ≤ gb241)); have n3_ := As0 ((by rw [hg]; exact (below_size (by repeat (first | (with_reducible first | exact HB.out | apply below_alloc | apply bdN | apply bd1) | exact HB.out))) : w.heap.size ≤ gb241)); clear HB; have HB := n0_; have BK241 := n1_; have GW241 := n2_; have GE241 := n3_; clear n0_ n1_ n2_ n3_ hb hbox hg))
 (try simp only [Act.put, sL1, sL2, sL3])
 go_cut [31] (fun v31 wc => ∃ (kq : Nat) (x31_3 : Bool), v31 = .bool x31_3 ∧ Aside0 (regcertlaw10_ExecuteKeeps.j0 kq l1 a2 x31_3 a0_0 a0_1 a0_2 l0_3 = some r) ∧ Aside0 (kq ≤ k) ∧ Aside0 (wc.heap[gb241]? = some (.cells #[.int .i64 a0_0, .int .i64 a0_1, .int .i64 a0_2, (.slice A0_3 l0_3.length c0_3)] 63 (0, 0))) ∧ Aside0 (Below w.heap.size w wc))
 case first =>
  have H := HC4.out
  clear HC4
  replace H := Option.bind_eq_some_iff.mp H
  obtain ⟨t242, A60, H⟩ := H
  replace H : (if t242 = true then ((regcertref10_Right.f k a0_0 a0_1 a0_2 l0_3 l1 0).bind fun t243 => (if t243 = true then (regcertlaw10_ExecuteKeeps.j0 k l1 a2 ((l1.length : Int) != a0_0) a0_0 a0_1 a0_2 l0_3) else (regcertlaw10_ExecuteKeeps.j0 k l1 a2 true a0_0 a0_1 a0_2 l0_3))) else (regcertlaw10_ExecuteKeeps.j0 k l1 a2 true a0_0 a0_1 a0_2 l0_3)) = some r := H
  have A6 := As0 A60
  clear A60
  by_cases c7 : t242 = true
  ·subst c7
   have H1 : ((regcertref10_Right.f k a0_0 a0_1 a0_2 l0_3 l1 0).bind fun t243 => (if t243 = true then (regcertlaw10_ExecuteKeeps.j0 k l1 a2 ((l1.length : Int) != a0_0) a0_0 a0_1 a0_2 l0_3) else (regcertlaw10_ExecuteKeeps.j0 k l1 a2 true a0_0 a0_1 a0_2 l0_3))) = some r := by rw [if_pos rfl] at H; exact H
   clear H
   have H := H1
   clear H1
   replace H := Option.bind_eq_some_iff.mp H
   obtain ⟨t243, A80, H⟩ := H
   replace H : (if t243 = true then (regcertlaw10_ExecuteKeeps.j0 k l1 a2 ((l1.length : Int) != a0_0) a0_0 a0_1 a0_2 l0_3) else (regcertlaw10_ExecuteKeeps.j0 k l1 a2 true a0_0 a0_1 a0_2 l0_3)) = some r := H
   have A8 := As0 A80
   clear A80
   by_cases c9 : t243 = true
   ·subst c9
    have H1 : (regcertlaw10_ExecuteKeeps.j0 k l1 a2 ((l1.length : Int) != a0_0) a0_0 a0_1 a0_2 l0_3) = some r := by rw [if_pos rfl] at H; exact H
    clear H
    have H := H1
    clear H1
    have H' := As0 H
    clear H
    go_wp2_with (first | ((with_reducible refine gate_callee (f := 44) rfl ?_); refine goesL_ (some 17) rfl rfl Try.func44 (by kernel_rfl) rfl #[] rfl (by (try simp only [List.map_toArray, List.map_cons, List.map_nil]); first | done | rfl | (simp only [List.length_drop, List.length_take]; rfl)) ?_; (with_reducible refine (regcertlaw10_awake.calls k  true _ A6.out).mono ?_); rintro e w10 ⟨rfl, hb⟩; refine ⟨_, rfl, ?_⟩; have n0_ := As0 (blk_below (g := gb241) (o := .cells #[.int .i64 a0_0, .int .i64 a0_1, .int .i64 a0_2, .slice A0_3 l0_3.length c0_3] 63 (0, 0)) (by (with_reducible repeat (first | refine blk_drewN ?_ _ | refine blk_drew ?_ | refine blk_alloc ?_ _)); exact BK241.out) hb); have n1_ := As0 (below_step (by repeat (first | (with_reducible first | exact HB.out | apply below_alloc | apply bdN | apply bd1 | refine below_set ?_ GE241.out) | exact HB.out)) hb); clear BK241 HB; have BK241 := n0_; have HB := n1_; clear n0_ n1_; (try clear hb); (try clear hb2); (try clear hk); (try clear hi); have hcz11_0 : w10.cell? ⟨gb241, 0, none⟩ = some (.int .i64 a0_0) := (blk_cell BK241.out 0).trans rfl; have hcz11_1 : w10.cell? ⟨gb241, 1, none⟩ = some (.int .i64 a0_1) := (blk_cell BK241.out 1).trans rfl; have hcz11_2 : w10.cell? ⟨gb241, 2, none⟩ = some (.int .i64 a0_2) := (blk_cell BK241.out 2).trans rfl; have hcz11_3 : w10.cell? ⟨gb241, 3, none⟩ = some (.slice A0_3 l0_3.length c0_3) := (blk_cell BK241.out 3).trans rfl; have hfz11_0 := blk_frozen BK241.out 0; have hfz11_1 := blk_frozen BK241.out 1; have hfz11_2 := blk_frozen BK241.out 2; have hfz11_3 := blk_frozen BK241.out 3) | (go_at_call 45; (with_reducible refine (regcertref10_Right.calls k a0_0 a0_1 a0_2 _ _ l0_3 _ _ l1 0 true _ ?side1 ?side2 ?side3 ?side4 A8.out).mono ?_); (case side1 => repeat (first | exact (Kd.C_below HR0_3.out HB.out) | (with_reducible refine Kd.C_alloc ?_ _) | (with_reducible refine Kd.C_drewN ?_ _) | (with_reducible refine Kd.C_drew ?_))); (case side2 => exact HC0_3.out); (case side3 => repeat (first | exact (Kd.C_below HR1.out HB.out) | (with_reducible refine Kd.C_alloc ?_ _) | (with_reducible refine Kd.C_drewN ?_ _) | (with_reducible refine Kd.C_drew ?_))); (case side4 => exact HC1.out); rintro e w12 ⟨rfl, hb⟩; have n0_ := As0 (blk_below (g := gb241) (o := .cells #[.int .i64 a0_0, .int .i64 a0_1, .int .i64 a0_2, .slice A0_3 l0_3.length c0_3] 63 (0, 0)) (by (with_reducible repeat (first | refine blk_drewN ?_ _ | refine blk_drew ?_ | refine blk_alloc ?_ _)); exact BK241.out) hb); have n1_ := As0 (below_step (by repeat (first | (with_reducible first | exact HB.out | apply below_alloc | apply bdN | apply bd1 | refine below_set ?_ GE241.out) | exact HB.out)) hb); clear BK241 HB; have BK241 := n0_; have HB := n1_; clear n0_ n1_; (try clear hb); (try clear hb2); (try clear hk); (try clear hi); have hcz13_0 : w12.cell? ⟨gb241, 0, none⟩ = some (.int .i64 a0_0) := (blk_cell BK241.out 0).trans rfl; have hcz13_1 : w12.cell? ⟨gb241, 1, none⟩ = some (.int .i64 a0_1) := (blk_cell BK241.out 1).trans rfl; have hcz13_2 : w12.cell? ⟨gb241, 2, none⟩ = some (.int .i64 a0_2) := (blk_cell BK241.out 2).trans rfl; have hcz13_3 : w12.cell? ⟨gb241, 3, none⟩ = some (.slice A0_3 l0_3.length c0_3) := (blk_cell BK241.out 3).trans rfl; have hfz13_0 := blk_frozen BK241.out 0; have hfz13_1 := blk_frozen BK241.out 1; have hfz13_2 := blk_frozen BK241.out 2; have hfz13_3 := blk_frozen BK241.out 3))
    go_meet
    case rel => exact ⟨_, (((l1.length : Int) != a0_0)), (by first | rfl | (simp; done) | (simp [*]; done)), H', ⟨by first | omega | exact Nat.le_refl _⟩, ⟨by (with_reducible repeat (first | refine blk_drewN ?_ _ | refine blk_drew ?_ | refine blk_alloc ?_ _)); exact BK241.out⟩, ⟨by repeat (first | (with_reducible first | exact HB.out | apply below_alloc | apply bdN | apply bd1 | refine below_set ?_ GE241.out) | exact HB.out)⟩⟩
   ·replace c9 := Bool.eq_false_iff.mpr c9
    subst c9
    have H1 : (regcertlaw10_ExecuteKeeps.j0 k l1 a2 true a0_0 a0_1 a0_2 l0_3) = some r := by rw [if_neg (show ¬ (false = true) by decide)] at H; exact H
    clear H
    have H := H1
    clear H1
    have H' := As0 H
    clear H
    go_wp2_with (first | ((with_reducible refine gate_callee (f := 44) rfl ?_); refine goesL_ (some 17) rfl rfl Try.func44 (by kernel_rfl) rfl #[] rfl (by (try simp only [List.map_toArray, List.map_cons, List.map_nil]); first | done | rfl | (simp only [List.length_drop, List.length_take]; rfl)) ?_; (with_reducible refine (regcertlaw10_awake.calls k  true _ A6.out).mono ?_); rintro e w14 ⟨rfl, hb⟩; refine ⟨_, rfl, ?_⟩; have n0_ := As0 (blk_below (g := gb241) (o := .cells #[.int .i64 a0_0, .int .i64 a0_1, .int .i64 a0_2, .slice A0_3 l0_3.length c0_3] 63 (0, 0)) (by (with_reducible repeat (first | refine blk_drewN ?_ _ | refine blk_drew ?_ | refine blk_alloc ?_ _)); exact BK241.out) hb); have n1_ := As0 (below_step (by repeat (first | (with_reducible first | exact HB.out | apply below_alloc | apply bdN | apply bd1 | refine below_set ?_ GE241.out) | exact HB.out)) hb); clear BK241 HB; have BK241 := n0_; have HB := n1_; clear n0_ n1_; (try clear hb); (try clear hb2); (try clear hk); (try clear hi); have hcz15_0 : w14.cell? ⟨gb241, 0, none⟩ = some (.int .i64 a0_0) := (blk_cell BK241.out 0).trans rfl; have hcz15_1 : w14.cell? ⟨gb241, 1, none⟩ = some (.int .i64 a0_1) := (blk_cell BK241.out 1).trans rfl; have hcz15_2 : w14.cell? ⟨gb241, 2, none⟩ = some (.int .i64 a0_2) := (blk_cell BK241.out 2).trans rfl; have hcz15_3 : w14.cell? ⟨gb241, 3, none⟩ = some (.slice A0_3 l0_3.length c0_3) := (blk_cell BK241.out 3).trans rfl; have hfz15_0 := blk_frozen BK241.out 0; have hfz15_1 := blk_frozen BK241.out 1; have hfz15_2 := blk_frozen BK241.out 2; have hfz15_3 := blk_frozen BK241.out 3) | (go_at_call 45; (with_reducible refine (regcertref10_Right.calls k a0_0 a0_1 a0_2 _ _ l0_3 _ _ l1 0 false _ ?side1 ?side2 ?side3 ?side4 A8.out).mono ?_); (case side1 => repeat (first | exact (Kd.C_below HR0_3.out HB.out) | (with_reducible refine Kd.C_alloc ?_ _) | (with_reducible refine Kd.C_drewN ?_ _) | (with_reducible refine Kd.C_drew ?_))); (case side2 => exact HC0_3.out); (case side3 => repeat (first | exact (Kd.C_below HR1.out HB.out) | (with_reducible refine Kd.C_alloc ?_ _) | (with_reducible refine Kd.C_drewN ?_ _) | (with_reducible refine Kd.C_drew ?_))); (case side4 => exact HC1.out); rintro e w16 ⟨rfl, hb⟩; have n0_ := As0 (blk_below (g := gb241) (o := .cells #[.int .i64 a0_0, .int .i64 a0_1, .int .i64 a0_2, .slice A0_3 l0_3.length c0_3] 63 (0, 0)) (by (with_reducible repeat (first | refine blk_drewN ?_ _ | refine blk_drew ?_ | refine blk_alloc ?_ _)); exact BK241.out) hb); have n1_ := As0 (below_step (by repeat (first | (with_reducible first | exact HB.out | apply below_alloc | apply bdN | apply bd1 | refine below_set ?_ GE241.out) | exact HB.out)) hb); clear BK241 HB; have BK241 := n0_; have HB := n1_; clear n0_ n1_; (try clear hb); (try clear hb2); (try clear hk); (try clear hi)))
    go_meet
    case rel => exact ⟨_, (true), (by first | rfl | (simp; done) | (simp [*]; done)), H', ⟨by first | omega | exact Nat.le_refl _⟩, ⟨by (with_reducible repeat (first | refine blk_drewN ?_ _ | refine blk_drew ?_ | refine blk_alloc ?_ _)); exact BK241.out⟩, ⟨by repeat (first | (with_reducible first | exact HB.out | apply below_alloc | apply bdN | apply bd1 | refine below_set ?_ GE241.out) | exact HB.out)⟩⟩
  ·replace c7 := Bool.eq_false_iff.mpr c7
   subst c7
   have H1 : (regcertlaw10_ExecuteKeeps.j0 k l1 a2 true a0_0 a0_1 a0_2 l0_3) = some r := by rw [if_neg (show ¬ (false = true) by decide)] at H; exact H
   clear H
   have H := H1
   clear H1
   have H' := As0 H
   clear H
   go_wp2_with (first | ((with_reducible refine gate_callee (f := 44) rfl ?_); refine goesL_ (some 17) rfl rfl Try.func44 (by kernel_rfl) rfl #[] rfl (by (try simp only [List.map_toArray, List.map_cons, List.map_nil]); first | done | rfl | (simp only [List.length_drop, List.length_take]; rfl)) ?_; (with_reducible refine (regcertlaw10_awake.calls k  false _ A6.out).mono ?_); rintro e w17 ⟨rfl, hb⟩; refine ⟨_, rfl, ?_⟩; have n0_ := As0 (blk_below (g := gb241) (o := .cells #[.int .i64 a0_0, .int .i64 a0_1, .int .i64 a0_2, .slice A0_3 l0_3.length c0_3] 63 (0, 0)) (by (with_reducible repeat (first | refine blk_drewN ?_ _ | refine blk_drew ?_ | refine blk_alloc ?_ _)); exact BK241.out) hb); have n1_ := As0 (below_step (by repeat (first | (with_reducible first | exact HB.out | apply below_alloc | apply bdN | apply bd1 | refine below_set ?_ GE241.out) | exact HB.out)) hb); clear BK241 HB; have BK241 := n0_; have HB := n1_; clear n0_ n1_; (try clear hb); (try clear hb2); (try clear hk); (try clear hi)))
   go_meet
   case rel => exact ⟨_, (true), (by first | rfl | (simp; done) | (simp [*]; done)), H', ⟨by first | omega | exact Nat.le_refl _⟩, ⟨by (with_reducible repeat (first | refine blk_drewN ?_ _ | refine blk_drew ?_ | refine blk_alloc ?_ _)); exact BK241.out⟩, ⟨by repeat (first | (with_reducible first | exact HB.out | apply below_alloc | apply bdN | apply bd1 | refine below_set ?_ GE241.out) | exact HB.out)⟩⟩
 case rest =>
  clear HC4
  try clear c1
  try clear p2
  try clear c4
  try clear c7
  try clear c9
  try clear hcz11_0
  try clear hcz11_1
  try clear hcz11_2
  try clear hcz11_3
  try clear hcz13_0
  try clear hcz13_1
  try clear hcz13_2
  try clear hcz13_3
  try clear hcz15_0
  try clear hcz15_1
  try clear hcz15_2
  try clear hcz15_3
  try clear hfz11_0
  try clear hfz11_1
  try clear hfz11_2
  try clear hfz11_3
  try clear hfz13_0
  try clear hfz13_1
  try clear hfz13_2
  try clear hfz13_3
  try clear hfz15_0
  try clear hfz15_1
  try clear hfz15_2
  try clear hfz15_3
  obtain ⟨kq, x31_3, rfl, HA, HJ3, BK241, HB⟩ := hcut
  cases kq with
  | zero => exact absurd HA.out (by simp [regcertlaw10_ExecuteKeeps.j0])
  | succ kj3 =>
   have H := HA.out
   clear HA
   simp only [regcertlaw10_ExecuteKeeps.j0] at H
   by_cases c18 : x31_3 = true
   ·subst c18
    have H1 : ((regcertlaw10_awake.f kj3).bind fun t244 => (some t244)) = some r := by rw [if_pos rfl] at H; exact H
    clear H
    have H := H1
    clear H1
    replace H := Option.bind_eq_some_iff.mp H
    obtain ⟨t244, A190, H⟩ := H
    replace H : (some t244) = some r := H
    have A19 := As0 A190
    clear A190
    obtain rfl := Option.some.inj H
    go_wp2_with (first | ((with_reducible refine gate_callee (f := 44) rfl ?_); refine goesL_ (some 32) rfl rfl Try.func44 (by kernel_rfl) rfl #[] rfl (by (try simp only [List.map_toArray, List.map_cons, List.map_nil]); first | done | rfl | (simp only [List.length_drop, List.length_take]; rfl)) ?_; (with_reducible refine (regcertlaw10_awake.calls kj3  t244 _ A19.out).mono ?_); rintro e w20 ⟨rfl, hb⟩; refine ⟨_, rfl, ?_⟩; have n0_ := As0 (blk_below (g := gb241) (o := .cells #[.int .i64 a0_0, .int .i64 a0_1, .int .i64 a0_2, .slice A0_3 l0_3.length c0_3] 63 (0, 0)) (by (with_reducible repeat (first | refine blk_drewN ?_ _ | refine blk_drew ?_ | refine blk_alloc ?_ _)); exact BK241.out) hb); have n1_ := As0 (below_step (by repeat (first | (with_reducible first | exact HB.out | apply below_alloc | apply bdN | apply bd1 | refine below_set ?_ GE241.out) | exact HB.out)) hb); clear BK241 HB; have BK241 := n0_; have HB := n1_; clear n0_ n1_; (try clear hb); (try clear hb2); (try clear hk); (try clear hi)))
    go_ret
    exact ⟨by first | rfl | (simp [errW_none, errW_some] <;> rfl) | (simp [*, errW_none, errW_some] <;> rfl), by repeat (first | (with_reducible first | exact HB.out | apply below_alloc | apply bdN | apply bd1 | refine below_set ?_ GE241.out) | exact HB.out)⟩
   ·replace c18 := Bool.eq_false_iff.mpr c18
    subst c18
    have H1 : ((some (([] : List Int) : List Int)).bind fun y245 => (if y245.length + l1.length < 17592186044416 then ((some (y245 ++ l1 : List Int)).bind fun y248 => ((execute_Exec.f kj3 a0_0 a0_1 a0_2 l0_3 y248 (Int.tmod (wrap64 (a2)) 60)).bind fun bt251 => ((regcertref09_Copy.f bt251.1 bt251.2.1 bt251.2.2.1 bt251.2.2.2.1 bt251.2.2.2.2.1 bt251.2.2.2.2.2.1 bt251.2.2.2.2.2.2.1 bt251.2.2.2.2.2.2.2.1).bind fun bt267 => ((execute_Step.f a0_0 a0_1 a0_2 l0_3 bt251.1 bt251.2.1 bt251.2.2.1 bt251.2.2.2.1 bt251.2.2.2.2.1 bt251.2.2.2.2.2.1 bt251.2.2.2.2.2.2.1 bt251.2.2.2.2.2.2.2.1).bind fun bt282 => (regcertlaw10_ExecuteKeeps.l0 kj3 l1 y248 0 bt251.1 bt251.2.1 bt251.2.2.1 bt251.2.2.2.1 bt251.2.2.2.2.1 bt251.2.2.2.2.2.1 bt251.2.2.2.2.2.2.1 bt251.2.2.2.2.2.2.2.1 bt267.1 bt267.2.1 bt267.2.2.1 bt267.2.2.2.1 bt267.2.2.2.2.1 bt267.2.2.2.2.2.1 bt267.2.2.2.2.2.2.1 bt267.2.2.2.2.2.2.2 bt282.1 bt282.2.1 bt282.2.2.1 bt282.2.2.2.1 bt282.2.2.2.2.1 bt282.2.2.2.2.2.1 bt282.2.2.2.2.2.2.1 bt282.2.2.2.2.2.2.2))))) else (none))) = some r := by rw [if_neg (show ¬ (false = true) by decide)] at H; exact H
    clear H
    have H := H1
    clear H1
    obtain ⟨y245, hy245⟩ : ∃ y_ : List Int, y_ = (([] : List Int)) := ⟨_, rfl⟩
    replace H : (if y245.length + l1.length < 17592186044416 then ((some (y245 ++ l1 : List Int)).bind fun y248 => ((execute_Exec.f kj3 a0_0 a0_1 a0_2 l0_3 y248 (Int.tmod (wrap64 (a2)) 60)).bind fun bt251 => ((regcertref09_Copy.f bt251.1 bt251.2.1 bt251.2.2.1 bt251.2.2.2.1 bt251.2.2.2.2.1 bt251.2.2.2.2.2.1 bt251.2.2.2.2.2.2.1 bt251.2.2.2.2.2.2.2.1).bind fun bt267 => ((execute_Step.f a0_0 a0_1 a0_2 l0_3 bt251.1 bt251.2.1 bt251.2.2.1 bt251.2.2.2.1 bt251.2.2.2.2.1 bt251.2.2.2.2.2.1 bt251.2.2.2.2.2.2.1 bt251.2.2.2.2.2.2.2.1).bind fun bt282 => (regcertlaw10_ExecuteKeeps.l0 kj3 l1 y248 0 bt251.1 bt251.2.1 bt251.2.2.1 bt251.2.2.2.1 bt251.2.2.2.2.1 bt251.2.2.2.2.2.1 bt251.2.2.2.2.2.2.1 bt251.2.2.2.2.2.2.2.1 bt267.1 bt267.2.1 bt267.2.2.1 bt267.2.2.2.1 bt267.2.2.2.2.1 bt267.2.2.2.2.2.1 bt267.2.2.2.2.2.2.1 bt267.2.2.2.2.2.2.2 bt282.1 bt282.2.1 bt282.2.2.1 bt282.2.2.2.1 bt282.2.2.2.2.1 bt282.2.2.2.2.2.1 bt282.2.2.2.2.2.2.1 bt282.2.2.2.2.2.2.2))))) else (none)) = some r := by first | (rw [hy245]; with_reducible exact H) | (have H2_ := (Option.bind_some _ _).symm.trans H; rw [hy245]; with_reducible exact H2_) | (have H2_ := (Option.bind_some _ _).symm.trans H; with_reducible exact H2_) | with_reducible exact H | (rw [hy245]; exact H) | exact H
    have Ny245 := As0 hy245
    clear hy245
    by_cases c21 : y245.length + l1.length < 17592186044416
    ·rw [if_pos c21] at H
     have LMc21 := As0 c21
     clear c21
     obtain ⟨y248, hy248⟩ : ∃ y_ : List Int, y_ = (y245 ++ l1) := ⟨_, rfl⟩
     replace H : ((execute_Exec.f kj3 a0_0 a0_1 a0_2 l0_3 y248 (Int.tmod (wrap64 (a2)) 60)).bind fun bt251 => ((regcertref09_Copy.f bt251.1 bt251.2.1 bt251.2.2.1 bt251.2.2.2.1 bt251.2.2.2.2.1 bt251.2.2.2.2.2.1 bt251.2.2.2.2.2.2.1 bt251.2.2.2.2.2.2.2.1).bind fun bt267 => ((execute_Step.f a0_0 a0_1 a0_2 l0_3 bt251.1 bt251.2.1 bt251.2.2.1 bt251.2.2.2.1 bt251.2.2.2.2.1 bt251.2.2.2.2.2.1 bt251.2.2.2.2.2.2.1 bt251.2.2.2.2.2.2.2.1).bind fun bt282 => (regcertlaw10_ExecuteKeeps.l0 kj3 l1 y248 0 bt251.1 bt251.2.1 bt251.2.2.1 bt251.2.2.2.1 bt251.2.2.2.2.1 bt251.2.2.2.2.2.1 bt251.2.2.2.2.2.2.1 bt251.2.2.2.2.2.2.2.1 bt267.1 bt267.2.1 bt267.2.2.1 bt267.2.2.2.1 bt267.2.2.2.2.1 bt267.2.2.2.2.2.1 bt267.2.2.2.2.2.2.1 bt267.2.2.2.2.2.2.2 bt282.1 bt282.2.1 bt282.2.2.1 bt282.2.2.2.1 bt282.2.2.2.2.1 bt282.2.2.2.2.2.1 bt282.2.2.2.2.2.2.1 bt282.2.2.2.2.2.2.2)))) = some r := by first | (rw [hy248]; with_reducible exact H) | (have H2_ := (Option.bind_some _ _).symm.trans H; rw [hy248]; with_reducible exact H2_) | (have H2_ := (Option.bind_some _ _).symm.trans H; with_reducible exact H2_) | with_reducible exact H | (rw [hy248]; exact H) | exact H
     have Ny248 := As0 hy248
     clear hy248
     replace H := Option.bind_eq_some_iff.mp H
     obtain ⟨⟨t251, t252, t253, t254, t255, t258, t261, t264, t265⟩, A220, H⟩ := H
     replace H : ((regcertref09_Copy.f t251 t252 t253 t254 t255 t258 t261 t264).bind fun bt267 => ((execute_Step.f a0_0 a0_1 a0_2 l0_3 t251 t252 t253 t254 t255 t258 t261 t264).bind fun bt282 => (regcertlaw10_ExecuteKeeps.l0 kj3 l1 y248 0 t251 t252 t253 t254 t255 t258 t261 t264 bt267.1 bt267.2.1 bt267.2.2.1 bt267.2.2.2.1 bt267.2.2.2.2.1 bt267.2.2.2.2.2.1 bt267.2.2.2.2.2.2.1 bt267.2.2.2.2.2.2.2 bt282.1 bt282.2.1 bt282.2.2.1 bt282.2.2.2.1 bt282.2.2.2.2.1 bt282.2.2.2.2.2.1 bt282.2.2.2.2.2.2.1 bt282.2.2.2.2.2.2.2))) = some r := H
     have A22 := As0 A220
     clear A220
     replace H := Option.bind_eq_some_iff.mp H
     obtain ⟨⟨t267, t268, t269, t270, t271, t274, t277, t280⟩, A230, H⟩ := H
     replace H : ((execute_Step.f a0_0 a0_1 a0_2 l0_3 t251 t252 t253 t254 t255 t258 t261 t264).bind fun bt282 => (regcertlaw10_ExecuteKeeps.l0 kj3 l1 y248 0 t251 t252 t253 t254 t255 t258 t261 t264 t267 t268 t269 t270 t271 t274 t277 t280 bt282.1 bt282.2.1 bt282.2.2.1 bt282.2.2.2.1 bt282.2.2.2.2.1 bt282.2.2.2.2.2.1 bt282.2.2.2.2.2.2.1 bt282.2.2.2.2.2.2.2)) = some r := H
     have A23 := As0 A230
     clear A230
     replace H := Option.bind_eq_some_iff.mp H
     obtain ⟨⟨t282, t283, t284, t285, t286, t289, t292, t295⟩, A240, H⟩ := H
     replace H : (regcertlaw10_ExecuteKeeps.l0 kj3 l1 y248 0 t251 t252 t253 t254 t255 t258 t261 t264 t267 t268 t269 t270 t271 t274 t277 t280 t282 t283 t284 t285 t286 t289 t292 t295) = some r := H
     have A24 := As0 A240
     clear A240
     have H' := As0 H
     clear H
     go_wp2_with (first | ((with_reducible refine gate_dst (N := 33) rfl ?_); (try (refine gate_guard (by rfl) ?_; dsimp only)); refine Kd.R_lit (Kd.int .i64) _ 2 ?hg (N := 33) ?hd (xs := ([] : List Int)) (inner := []) (ok := fun _ => True) (okp := fun _ => True) ?hr ?hp (fun _ hk => hk) trivial (Below.refl _ _) (Nat.le_refl _) (by simp) ?_; (case hd => rfl); (case hg => rfl); (case hr => first | (go_simp; done) | (go_simp; rfl)); (case hp => exact (Reps.none _ _)); intro v246 w25 ho26 hb hg_ hnew_; clear hg_ hnew_; (first | rw [← Ny245.out] at ho26 | (simp only [Int.reduceToNat] at ho26; rw [← Ny245.out] at ho26)); have n0_ := As0 (Kd.R_lower ho26 (below_size (by repeat (first | (with_reducible first | exact HB.out | apply below_alloc | apply bdN | apply bd1 | refine below_set ?_ GE241.out) | exact HB.out)))); have n1_ := As0 (blk_below (g := gb241) (o := .cells #[.int .i64 a0_0, .int .i64 a0_1, .int .i64 a0_2, .slice A0_3 l0_3.length c0_3] 63 (0, 0)) (by (with_reducible repeat (first | refine blk_drewN ?_ _ | refine blk_drew ?_ | refine blk_alloc ?_ _)); exact BK241.out) hb); have n2_ := As0 (below_step (by repeat (first | (with_reducible first | exact HB.out | apply below_alloc | apply bdN | apply bd1 | refine below_set ?_ GE241.out) | exact HB.out)) hb); clear BK241 HB; have HO247 := n0_; have BK241 := n1_; have HB := n2_; clear n0_ n1_ n2_ hb ho26) | ((with_reducible refine gate_builtin (b := .append) (xs := #[.tmp 33, .tmp 34]) rfl ?_); (try (refine gate_guard (by rfl) ?_; dsimp only)); at_builtin; refine Kd.R_append_rows (Kd.int .i64) (w0 := w) w.heap.size rfl (.tmp 33) (.tmp 34) 35 2 (.int .i64 0) 8 rfl Try.underlying35 info2 rfl (by decide) (by omega) v246 y245 l1 _ _ _ (fun _ => True) (fun _ => False) rfl rfl ?aO ?aR (fun _ _ h => h) (fun _ h => h.elim) ?aF ?aB ?aS ?aL ?_; (case aR => repeat (first | exact (Kd.C_below HR1.out HB.out) | (with_reducible refine Kd.C_alloc ?_ _) | (with_reducible refine Kd.C_drewN ?_ _) | (with_reducible refine Kd.C_drew ?_))); (case aB => exact (by repeat (first | (with_reducible first | exact HB.out | apply below_alloc | apply bdN | apply bd1 | refine below_set ?_ GE241.out) | exact HB.out))); (case aF => exact (fun _ _ => trivial)); (case aO => exact (by (with_reducible repeat (first | apply Kd.R_alloc | apply Kd.R_drewN | apply Kd.R_drew)); exact HO247.out)); (case aS => exact (below_size (by repeat (first | (with_reducible first | exact HB.out | apply below_alloc | apply bdN | apply bd1 | refine below_set ?_ GE241.out) | exact HB.out)))); (case aL => have := LMc21.out; omega); intro v249 w27 ho hb hg hat; rw [← Ny248.out] at ho; have n0_ := As0 (blk_grown (g := gb241) (o := .cells #[.int .i64 a0_0, .int .i64 a0_1, .int .i64 a0_2, .slice A0_3 l0_3.length c0_3] 63 (0, 0)) (by (with_reducible repeat (first | refine blk_drewN ?_ _ | refine blk_drew ?_ | refine blk_alloc ?_ _)); exact BK241.out) hg (Kd.R_ne HO247.out BK241.out (by decide))); have n1_ := As0 (hb); have n2_ := As0 (ho); clear BK241 HB HO247; have BK241 := n0_; have HB := n1_; have HO250 := n2_; clear n0_ n1_ n2_ ho hb hg hat; have hcz28_0 : w27.cell? ⟨gb241, 0, none⟩ = some (.int .i64 a0_0) := (blk_cell BK241.out 0).trans rfl; have hcz28_1 : w27.cell? ⟨gb241, 1, none⟩ = some (.int .i64 a0_1) := (blk_cell BK241.out 1).trans rfl; have hcz28_2 : w27.cell? ⟨gb241, 2, none⟩ = some (.int .i64 a0_2) := (blk_cell BK241.out 2).trans rfl; have hcz28_3 : w27.cell? ⟨gb241, 3, none⟩ = some (.slice A0_3 l0_3.length c0_3) := (blk_cell BK241.out 3).trans rfl; have hfz28_0 := blk_frozen BK241.out 0; have hfz28_1 := blk_frozen BK241.out 1; have hfz28_2 := blk_frozen BK241.out 2; have hfz28_3 := blk_frozen BK241.out 3; obtain ⟨Ao29, co29, eo29⟩ := Kd.R_slice HO250.out; subst eo29) | ((with_reducible refine gate_callee (f := 46) rfl ?_); refine goesL_ (some 42) rfl rfl Try.func46 (by kernel_rfl) rfl #[.agg #[.int .i64 a0_0, .int .i64 a0_1, .int .i64 a0_2, .slice A0_3 l0_3.length c0_3], .slice Ao29 y248.length co29, .int .i64 (Int.tmod (wrap64 (a2)) 60)] rfl (by (try simp only [List.map_toArray, List.map_cons, List.map_nil]); first | done | rfl | (simp only [List.length_drop, List.length_take]; rfl)) ?_; (with_reducible refine (execute_Exec.calls kj3 a0_0 a0_1 a0_2 _ _ l0_3 _ _ y248 (Int.tmod (wrap64 (a2)) 60) t251 t252 t253 t254 t255 t258 t261 t264 t265 _ ?side1 ?side2 ?side3 ?side4 A22.out).mono ?_); (case side1 => repeat (first | exact (Kd.C_below HR0_3.out HB.out) | (with_reducible refine Kd.C_alloc ?_ _) | (with_reducible refine Kd.C_drewN ?_ _) | (with_reducible refine Kd.C_drew ?_))); (case side2 => exact HC0_3.out); (case side3 => repeat (first | exact (Kd.R_reads' HO250.out).2.2 | (with_reducible refine Kd.C_alloc ?_ _) | (with_reducible refine Kd.C_drewN ?_ _) | (with_reducible refine Kd.C_drew ?_))); (case side4 => exact (Kd.R_reads' HO250.out).2.1); rintro e w30 ⟨v256, v259, v262, rfl, ho0, ho1, ho2, hb⟩; refine ⟨_, rfl, ?_⟩; have n0_ := As0 (Kd.R_mono (Kd.R_told (Kd.R_told (Kd.R_told (Kd.R_old (by (with_reducible repeat (first | apply Kd.R_alloc | apply Kd.R_drewN | apply Kd.R_drew)); exact HO250.out) hb) (Kd.R_base ho0)) (Kd.R_base ho1)) (Kd.R_base ho2)) (fun _ h_ => h_.1)); have n1_ := As0 (Kd.R_lower (Kd.R_new' ho0 (Kd.R_lt (by (with_reducible repeat (first | apply Kd.R_alloc | apply Kd.R_drewN | apply Kd.R_drew)); exact HO250.out))) (below_size (by repeat (first | (with_reducible first | exact HB.out | apply below_alloc | apply bdN | apply bd1 | refine below_set ?_ GE241.out) | exact HB.out)))); have n2_ := As0 (Kd.R_lower (Kd.R_new' ho1 (Kd.R_lt (by (with_reducible repeat (first | apply Kd.R_alloc | apply Kd.R_drewN | apply Kd.R_drew)); exact HO250.out))) (below_size (by repeat (first | (with_reducible first | exact HB.out | apply below_alloc | apply bdN | apply bd1 | refine below_set ?_ GE241.out) | exact HB.out)))); have n3_ := As0 (Kd.R_lower (Kd.R_new' ho2 (Kd.R_lt (by (with_reducible repeat (first | apply Kd.R_alloc | apply Kd.R_drewN | apply Kd.R_drew)); exact HO250.out))) (below_size (by repeat (first | (with_reducible first | exact HB.out | apply below_alloc | apply bdN | apply bd1 | refine below_set ?_ GE241.out) | exact HB.out)))); have n4_ := As0 (blk_below (g := gb241) (o := .cells #[.int .i64 a0_0, .int .i64 a0_1, .int .i64 a0_2, .slice A0_3 l0_3.length c0_3] 63 (0, 0)) (by (with_reducible repeat (first | refine blk_drewN ?_ _ | refine blk_drew ?_ | refine blk_alloc ?_ _)); exact BK241.out) hb); have n5_ := As0 (below_step (by repeat (first | (with_reducible first | exact HB.out | apply below_alloc | apply bdN | apply bd1 | refine below_set ?_ GE241.out) | exact HB.out)) hb); clear HO250 BK241 HB; have HO250 := n0_; have HO257 := n1_; have HO260 := n2_; have HO263 := n3_; have BK241 := n4_; have HB := n5_; clear n0_ n1_ n2_ n3_ n4_ n5_; (try clear hb); (try clear hb2); (try clear hk); (try clear hi); (try clear ho0); (try clear ho1); (try clear ho2)) | ((with_reducible refine gate_dst (N := 8) rfl ?_); (try (refine gate_guard (by rfl) ?_; dsimp only)); refine box_event ?hg (N := 8) ?hd (cs := #[.int .i64 0, .int .i64 0, .int .i64 0, .int .i64 0, .slice none 0 0, .slice none 0 0, .slice none 0 0, .int .i64 0]) (t := 39) ?hr ?_; (case hd => rfl); (case hg => rfl); (case hr => first | (go_simp; done) | (go_simp; rfl)); intro gb266 hg w31 hbox hb; have n0_ := As0 (Kd.R_below (by (with_reducible repeat (first | apply Kd.R_alloc | apply Kd.R_drewN | apply Kd.R_drew)); exact HO250.out) hb); have n1_ := As0 (Kd.R_below (by (with_reducible repeat (first | apply Kd.R_alloc | apply Kd.R_drewN | apply Kd.R_drew)); exact HO257.out) hb); have n2_ := As0 (Kd.R_below (by (with_reducible repeat (first | apply Kd.R_alloc | apply Kd.R_drewN | apply Kd.R_drew)); exact HO260.out) hb); have n3_ := As0 (Kd.R_below (by (with_reducible repeat (first | apply Kd.R_alloc | apply Kd.R_drewN | apply Kd.R_drew)); exact HO263.out) hb); have n4_ := As0 (blk_below (g := gb241) (o := .cells #[.int .i64 a0_0, .int .i64 a0_1, .int .i64 a0_2, .slice A0_3 l0_3.length c0_3] 63 (0, 0)) (by (with_reducible repeat (first | refine blk_drewN ?_ _ | refine blk_drew ?_ | refine blk_alloc ?_ _)); exact BK241.out) hb); have n5_ := As0 (below_step (by repeat (first | (with_reducible first | exact HB.out | apply below_alloc | apply bdN | apply bd1 | refine below_set ?_ GE241.out) | exact HB.out)) hb); have n6_ := As0 (hbox); have n7_ := As0 ((by rw [hg]; exact (below_size (by repeat (first | (with_reducible first | exact HB.out | apply below_alloc | apply bdN | apply bd1 | refine below_set ?_ GE241.out) | exact HB.out))) : w.heap.size ≤ gb266)); have n8_ := As0 ((by rw [hg]; exact (below_size (by repeat (first | (with_reducible first | exact HB.out | apply below_alloc | apply bdN | apply bd1 | refine below_set ?_ GE241.out) | exact HB.out))) : w.heap.size ≤ gb266)); have n9_ := As0 ((by rw [hg]; exact Nat.ne_of_lt (blk_lt (g := gb241) (o := .cells #[.int .i64 a0_0, .int .i64 a0_1, .int .i64 a0_2, .slice A0_3 l0_3.length c0_3] 63 (0, 0)) (by (with_reducible repeat (first | refine blk_drewN ?_ _ | refine blk_drew ?_ | refine blk_alloc ?_ _)); exact BK241.out)) : gb241 ≠ gb266)); have n10_ := As0 ((by rw [hg]; exact Nat.ne_of_gt (blk_lt (g := gb241) (o := .cells #[.int .i64 a0_0, .int .i64 a0_1, .int .i64 a0_2, .slice A0_3 l0_3.length c0_3] 63 (0, 0)) (by (with_reducible repeat (first | refine blk_drewN ?_ _ | refine blk_drew ?_ | refine blk_alloc ?_ _)); exact BK241.out)) : gb266 ≠ gb241)); clear HO250 HO257 HO260 HO263 BK241 HB; have HO250 := n0_; have HO257 := n1_; have HO260 := n2_; have HO263 := n3_; have BK241 := n4_; have HB := n5_; have BK266 := n6_; have GW266 := n7_; have GE266 := n8_; have NB241_266 := n9_; have NB266_241 := n10_; clear n0_ n1_ n2_ n3_ n4_ n5_ n6_ n7_ n8_ n9_ n10_ hb hbox hg; have hnb32 := NB266_241.out; have hnc32 := NB241_266.out; have hcz33_0 : w31.cell? ⟨gb266, 0, none⟩ = some (.int .i64 0) := (blk_cell BK266.out 0).trans rfl; have hcz33_1 : w31.cell? ⟨gb266, 1, none⟩ = some (.int .i64 0) := (blk_cell BK266.out 1).trans rfl; have hcz33_2 : w31.cell? ⟨gb266, 2, none⟩ = some (.int .i64 0) := (blk_cell BK266.out 2).trans rfl; have hcz33_3 : w31.cell? ⟨gb266, 3, none⟩ = some (.int .i64 0) := (blk_cell BK266.out 3).trans rfl; have hcz33_4 : w31.cell? ⟨gb266, 4, none⟩ = some (.slice none 0 0) := (blk_cell BK266.out 4).trans rfl; have hcz33_5 : w31.cell? ⟨gb266, 5, none⟩ = some (.slice none 0 0) := (blk_cell BK266.out 5).trans rfl; have hcz33_6 : w31.cell? ⟨gb266, 6, none⟩ = some (.slice none 0 0) := (blk_cell BK266.out 6).trans rfl; have hcz33_7 : w31.cell? ⟨gb266, 7, none⟩ = some (.int .i64 0) := (blk_cell BK266.out 7).trans rfl; have hfz33_0 := blk_frozen BK266.out 0; have hfz33_1 := blk_frozen BK266.out 1; have hfz33_2 := blk_frozen BK266.out 2; have hfz33_3 := blk_frozen BK266.out 3; have hfz33_4 := blk_frozen BK266.out 4; have hfz33_5 := blk_frozen BK266.out 5; have hfz33_6 := blk_frozen BK266.out 6; have hfz33_7 := blk_frozen BK266.out 7; obtain ⟨Ao34, co34, eo34⟩ := Kd.R_slice HO257.out; subst eo34; obtain ⟨Ao35, co35, eo35⟩ := Kd.R_slice HO260.out; subst eo35; obtain ⟨Ao36, co36, eo36⟩ := Kd.R_slice HO263.out; subst eo36) | ((with_reducible refine gate_callee (f := 38) rfl ?_); refine goesL_ (some 46) rfl rfl Try.func38 (by kernel_rfl) rfl #[.agg #[.int .i64 t251, .int .i64 t252, .int .i64 t253, .int .i64 t254, .slice Ao34 t255.length co34, .slice Ao35 t258.length co35, .slice Ao36 t261.length co36, .int .i64 t264]] rfl (by (try simp only [List.map_toArray, List.map_cons, List.map_nil]); first | done | rfl | (simp only [List.length_drop, List.length_take]; rfl)) ?_; (with_reducible refine (regcertref09_Copy.calls t251 t252 t253 t254 _ _ t255 _ _ t258 _ _ t261 t264 t267 t268 t269 t270 t271 t274 t277 t280 _ ?side1 ?side2 ?side3 ?side4 ?side5 ?side6 A23.out).mono ?_); (case side1 => refine (Kd.R_reads' (e := 2) (base := w.heap.size) (ok := fun k_ => ((some k_ ≠ (.slice Ao35 t258.length co35 : Value).ownBlock ∧ some k_ ≠ (.slice Ao36 t261.length co36 : Value).ownBlock) ∧ some k_ ≠ (.slice Ao29 y248.length co29 : Value).ownBlock)) (n := t255.length) (c := co34) ?_).2.2; exact (by (with_reducible repeat (first | apply Kd.R_alloc | apply Kd.R_drewN | apply Kd.R_drew)); exact (Kd.R_mono (RF gb266 7 (RF gb266 6 (RF gb266 5 (RF gb266 4 (RF gb266 3 (RF gb266 2 (RF gb266 1 (RF gb266 0 (Kd.R_types HO257.out BK266.out (by decide)) (.int .i64 t251)) (.int .i64 t252)) (.int .i64 t253)) (.int .i64 t254)) (.slice Ao34 t255.length co34)) (.slice Ao35 t258.length co35)) (.slice Ao36 t261.length co36)) (.int .i64 t264)) (fun _ h_ => h_.1)))); (case side2 => exact (Kd.R_reads' HO257.out).2.1); (case side3 => refine (Kd.R_reads' (e := 2) (base := w.heap.size) (ok := fun k_ => ((some k_ ≠ (.slice Ao34 t255.length co34 : Value).ownBlock ∧ some k_ ≠ (.slice Ao36 t261.length co36 : Value).ownBlock) ∧ some k_ ≠ (.slice Ao29 y248.length co29 : Value).ownBlock)) (n := t258.length) (c := co35) ?_).2.2; exact (by (with_reducible repeat (first | apply Kd.R_alloc | apply Kd.R_drewN | apply Kd.R_drew)); exact (Kd.R_mono (RF gb266 7 (RF gb266 6 (RF gb266 5 (RF gb266 4 (RF gb266 3 (RF gb266 2 (RF gb266 1 (RF gb266 0 (Kd.R_types HO260.out BK266.out (by decide)) (.int .i64 t251)) (.int .i64 t252)) (.int .i64 t253)) (.int .i64 t254)) (.slice Ao34 t255.length co34)) (.slice Ao35 t258.length co35)) (.slice Ao36 t261.length co36)) (.int .i64 t264)) (fun _ h_ => h_.1)))); (case side4 => exact (Kd.R_reads' HO260.out).2.1); (case side5 => refine (Kd.R_reads' (e := 2) (base := w.heap.size) (ok := fun k_ => ((some k_ ≠ (.slice Ao34 t255.length co34 : Value).ownBlock ∧ some k_ ≠ (.slice Ao35 t258.length co35 : Value).ownBlock) ∧ some k_ ≠ (.slice Ao29 y248.length co29 : Value).ownBlock)) (n := t261.length) (c := co36) ?_).2.2; exact (by (with_reducible repeat (first | apply Kd.R_alloc | apply Kd.R_drewN | apply Kd.R_drew)); exact (Kd.R_mono (RF gb266 7 (RF gb266 6 (RF gb266 5 (RF gb266 4 (RF gb266 3 (RF gb266 2 (RF gb266 1 (RF gb266 0 (Kd.R_types HO263.out BK266.out (by decide)) (.int .i64 t251)) (.int .i64 t252)) (.int .i64 t253)) (.int .i64 t254)) (.slice Ao34 t255.length co34)) (.slice Ao35 t258.length co35)) (.slice Ao36 t261.length co36)) (.int .i64 t264)) (fun _ h_ => h_.1)))); (case side6 => exact (Kd.R_reads' HO263.out).2.1); rintro e w37 ⟨v272, v275, v278, rfl, ho0, ho1, ho2, hb⟩; refine ⟨_, rfl, ?_⟩; have n0_ := As0 (Kd.R_mono (Kd.R_told (Kd.R_told (Kd.R_told (Kd.R_old (by (with_reducible repeat (first | apply Kd.R_alloc | apply Kd.R_drewN | apply Kd.R_drew)); exact (Kd.R_mono (RF gb266 7 (RF gb266 6 (RF gb266 5 (RF gb266 4 (RF gb266 3 (RF gb266 2 (RF gb266 1 (RF gb266 0 (Kd.R_types HO250.out BK266.out (by decide)) (.int .i64 t251)) (.int .i64 t252)) (.int .i64 t253)) (.int .i64 t254)) (.slice Ao34 t255.length co34)) (.slice Ao35 t258.length co35)) (.slice Ao36 t261.length co36)) (.int .i64 t264)) (fun _ h_ => h_.1))) hb) (Kd.R_base ho0)) (Kd.R_base ho1)) (Kd.R_base ho2)) (fun _ h_ => h_.1)); have n1_ := As0 (Kd.R_mono (Kd.R_told (Kd.R_told (Kd.R_told (Kd.R_old (by (with_reducible repeat (first | apply Kd.R_alloc | apply Kd.R_drewN | apply Kd.R_drew)); exact (Kd.R_mono (RF gb266 7 (RF gb266 6 (RF gb266 5 (RF gb266 4 (RF gb266 3 (RF gb266 2 (RF gb266 1 (RF gb266 0 (Kd.R_types HO257.out BK266.out (by decide)) (.int .i64 t251)) (.int .i64 t252)) (.int .i64 t253)) (.int .i64 t254)) (.slice Ao34 t255.length co34)) (.slice Ao35 t258.length co35)) (.slice Ao36 t261.length co36)) (.int .i64 t264)) (fun _ h_ => h_.1))) hb) (Kd.R_base ho0)) (Kd.R_base ho1)) (Kd.R_base ho2)) (fun _ h_ => h_.1)); have n2_ := As0 (Kd.R_mono (Kd.R_told (Kd.R_told (Kd.R_told (Kd.R_old (by (with_reducible repeat (first | apply Kd.R_alloc | apply Kd.R_drewN | apply Kd.R_drew)); exact (Kd.R_mono (RF gb266 7 (RF gb266 6 (RF gb266 5 (RF gb266 4 (RF gb266 3 (RF gb266 2 (RF gb266 1 (RF gb266 0 (Kd.R_types HO260.out BK266.out (by decide)) (.int .i64 t251)) (.int .i64 t252)) (.int .i64 t253)) (.int .i64 t254)) (.slice Ao34 t255.length co34)) (.slice Ao35 t258.length co35)) (.slice Ao36 t261.length co36)) (.int .i64 t264)) (fun _ h_ => h_.1))) hb) (Kd.R_base ho0)) (Kd.R_base ho1)) (Kd.R_base ho2)) (fun _ h_ => h_.1)); have n3_ := As0 (Kd.R_mono (Kd.R_told (Kd.R_told (Kd.R_told (Kd.R_old (by (with_reducible repeat (first | apply Kd.R_alloc | apply Kd.R_drewN | apply Kd.R_drew)); exact (Kd.R_mono (RF gb266 7 (RF gb266 6 (RF gb266 5 (RF gb266 4 (RF gb266 3 (RF gb266 2 (RF gb266 1 (RF gb266 0 (Kd.R_types HO263.out BK266.out (by decide)) (.int .i64 t251)) (.int .i64 t252)) (.int .i64 t253)) (.int .i64 t254)) (.slice Ao34 t255.length co34)) (.slice Ao35 t258.length co35)) (.slice Ao36 t261.length co36)) (.int .i64 t264)) (fun _ h_ => h_.1))) hb) (Kd.R_base ho0)) (Kd.R_base ho1)) (Kd.R_base ho2)) (fun _ h_ => h_.1)); have n4_ := As0 (Kd.R_lower (Kd.R_new' (Kd.R_new' (Kd.R_new' (Kd.R_new' ho0 (Kd.R_lt (by (with_reducible repeat (first | apply Kd.R_alloc | apply Kd.R_drewN | apply Kd.R_drew)); exact (Kd.R_mono (RF gb266 7 (RF gb266 6 (RF gb266 5 (RF gb266 4 (RF gb266 3 (RF gb266 2 (RF gb266 1 (RF gb266 0 (Kd.R_types HO250.out BK266.out (by decide)) (.int .i64 t251)) (.int .i64 t252)) (.int .i64 t253)) (.int .i64 t254)) (.slice Ao34 t255.length co34)) (.slice Ao35 t258.length co35)) (.slice Ao36 t261.length co36)) (.int .i64 t264)) (fun _ h_ => h_.1))))) (Kd.R_lt (by (with_reducible repeat (first | apply Kd.R_alloc | apply Kd.R_drewN | apply Kd.R_drew)); exact (Kd.R_mono (RF gb266 7 (RF gb266 6 (RF gb266 5 (RF gb266 4 (RF gb266 3 (RF gb266 2 (RF gb266 1 (RF gb266 0 (Kd.R_types HO257.out BK266.out (by decide)) (.int .i64 t251)) (.int .i64 t252)) (.int .i64 t253)) (.int .i64 t254)) (.slice Ao34 t255.length co34)) (.slice Ao35 t258.length co35)) (.slice Ao36 t261.length co36)) (.int .i64 t264)) (fun _ h_ => h_.1))))) (Kd.R_lt (by (with_reducible repeat (first | apply Kd.R_alloc | apply Kd.R_drewN | apply Kd.R_drew)); exact (Kd.R_mono (RF gb266 7 (RF gb266 6 (RF gb266 5 (RF gb266 4 (RF gb266 3 (RF gb266 2 (RF gb266 1 (RF gb266 0 (Kd.R_types HO260.out BK266.out (by decide)) (.int .i64 t251)) (.int .i64 t252)) (.int .i64 t253)) (.int .i64 t254)) (.slice Ao34 t255.length co34)) (.slice Ao35 t258.length co35)) (.slice Ao36 t261.length co36)) (.int .i64 t264)) (fun _ h_ => h_.1))))) (Kd.R_lt (by (with_reducible repeat (first | apply Kd.R_alloc | apply Kd.R_drewN | apply Kd.R_drew)); exact (Kd.R_mono (RF gb266 7 (RF gb266 6 (RF gb266 5 (RF gb266 4 (RF gb266 3 (RF gb266 2 (RF gb266 1 (RF gb266 0 (Kd.R_types HO263.out BK266.out (by decide)) (.int .i64 t251)) (.int .i64 t252)) (.int .i64 t253)) (.int .i64 t254)) (.slice Ao34 t255.length co34)) (.slice Ao35 t258.length co35)) (.slice Ao36 t261.length co36)) (.int .i64 t264)) (fun _ h_ => h_.1))))) (below_size (by repeat (first | (with_reducible first | exact HB.out | apply below_alloc | apply bdN | apply bd1 | refine below_set ?_ GE241.out | refine below_set ?_ GE266.out) | exact HB.out)))); have n5_ := As0 (Kd.R_lower (Kd.R_new' (Kd.R_new' (Kd.R_new' (Kd.R_new' ho1 (Kd.R_lt (by (with_reducible repeat (first | apply Kd.R_alloc | apply Kd.R_drewN | apply Kd.R_drew)); exact (Kd.R_mono (RF gb266 7 (RF gb266 6 (RF gb266 5 (RF gb266 4 (RF gb266 3 (RF gb266 2 (RF gb266 1 (RF gb266 0 (Kd.R_types HO250.out BK266.out (by decide)) (.int .i64 t251)) (.int .i64 t252)) (.int .i64 t253)) (.int .i64 t254)) (.slice Ao34 t255.length co34)) (.slice Ao35 t258.length co35)) (.slice Ao36 t261.length co36)) (.int .i64 t264)) (fun _ h_ => h_.1))))) (Kd.R_lt (by (with_reducible repeat (first | apply Kd.R_alloc | apply Kd.R_drewN | apply Kd.R_drew)); exact (Kd.R_mono (RF gb266 7 (RF gb266 6 (RF gb266 5 (RF gb266 4 (RF gb266 3 (RF gb266 2 (RF gb266 1 (RF gb266 0 (Kd.R_types HO257.out BK266.out (by decide)) (.int .i64 t251)) (.int .i64 t252)) (.int .i64 t253)) (.int .i64 t254)) (.slice Ao34 t255.length co34)) (.slice Ao35 t258.length co35)) (.slice Ao36 t261.length co36)) (.int .i64 t264)) (fun _ h_ => h_.1))))) (Kd.R_lt (by (with_reducible repeat (first | apply Kd.R_alloc | apply Kd.R_drewN | apply Kd.R_drew)); exact (Kd.R_mono (RF gb266 7 (RF gb266 6 (RF gb266 5 (RF gb266 4 (RF gb266 3 (RF gb266 2 (RF gb266 1 (RF gb266 0 (Kd.R_types HO260.out BK266.out (by decide)) (.int .i64 t251)) (.int .i64 t252)) (.int .i64 t253)) (.int .i64 t254)) (.slice Ao34 t255.length co34)) (.slice Ao35 t258.length co35)) (.slice Ao36 t261.length co36)) (.int .i64 t264)) (fun _ h_ => h_.1))))) (Kd.R_lt (by (with_reducible repeat (first | apply Kd.R_alloc | apply Kd.R_drewN | apply Kd.R_drew)); exact (Kd.R_mono (RF gb266 7 (RF gb266 6 (RF gb266 5 (RF gb266 4 (RF gb266 3 (RF gb266 2 (RF gb266 1 (RF gb266 0 (Kd.R_types HO263.out BK266.out (by decide)) (.int .i64 t251)) (.int .i64 t252)) (.int .i64 t253)) (.int .i64 t254)) (.slice Ao34 t255.length co34)) (.slice Ao35 t258.length co35)) (.slice Ao36 t261.length co36)) (.int .i64 t264)) (fun _ h_ => h_.1))))) (below_size (by repeat (first | (with_reducible first | exact HB.out | apply below_alloc | apply bdN | apply bd1 | refine below_set ?_ GE241.out | refine below_set ?_ GE266.out) | exact HB.out)))); have n6_ := As0 (Kd.R_lower (Kd.R_new' (Kd.R_new' (Kd.R_new' (Kd.R_new' ho2 (Kd.R_lt (by (with_reducible repeat (first | apply Kd.R_alloc | apply Kd.R_drewN | apply Kd.R_drew)); exact (Kd.R_mono (RF gb266 7 (RF gb266 6 (RF gb266 5 (RF gb266 4 (RF gb266 3 (RF gb266 2 (RF gb266 1 (RF gb266 0 (Kd.R_types HO250.out BK266.out (by decide)) (.int .i64 t251)) (.int .i64 t252)) (.int .i64 t253)) (.int .i64 t254)) (.slice Ao34 t255.length co34)) (.slice Ao35 t258.length co35)) (.slice Ao36 t261.length co36)) (.int .i64 t264)) (fun _ h_ => h_.1))))) (Kd.R_lt (by (with_reducible repeat (first | apply Kd.R_alloc | apply Kd.R_drewN | apply Kd.R_drew)); exact (Kd.R_mono (RF gb266 7 (RF gb266 6 (RF gb266 5 (RF gb266 4 (RF gb266 3 (RF gb266 2 (RF gb266 1 (RF gb266 0 (Kd.R_types HO257.out BK266.out (by decide)) (.int .i64 t251)) (.int .i64 t252)) (.int .i64 t253)) (.int .i64 t254)) (.slice Ao34 t255.length co34)) (.slice Ao35 t258.length co35)) (.slice Ao36 t261.length co36)) (.int .i64 t264)) (fun _ h_ => h_.1))))) (Kd.R_lt (by (with_reducible repeat (first | apply Kd.R_alloc | apply Kd.R_drewN | apply Kd.R_drew)); exact (Kd.R_mono (RF gb266 7 (RF gb266 6 (RF gb266 5 (RF gb266 4 (RF gb266 3 (RF gb266 2 (RF gb266 1 (RF gb266 0 (Kd.R_types HO260.out BK266.out (by decide)) (.int .i64 t251)) (.int .i64 t252)) (.int .i64 t253)) (.int .i64 t254)) (.slice Ao34 t255.length co34)) (.slice Ao35 t258.length co35)) (.slice Ao36 t261.length co36)) (.int .i64 t264)) (fun _ h_ => h_.1))))) (Kd.R_lt (by (with_reducible repeat (first | apply Kd.R_alloc | apply Kd.R_drewN | apply Kd.R_drew)); exact (Kd.R_mono (RF gb266 7 (RF gb266 6 (RF gb266 5 (RF gb266 4 (RF gb266 3 (RF gb266 2 (RF gb266 1 (RF gb266 0 (Kd.R_types HO263.out BK266.out (by decide)) (.int .i64 t251)) (.int .i64 t252)) (.int .i64 t253)) (.int .i64 t254)) (.slice Ao34 t255.length co34)) (.slice Ao35 t258.length co35)) (.slice Ao36 t261.length co36)) (.int .i64 t264)) (fun _ h_ => h_.1))))) (below_size (by repeat (first | (with_reducible first | exact HB.out | apply below_alloc | apply bdN | apply bd1 | refine below_set ?_ GE241.out | refine below_set ?_ GE266.out) | exact HB.out)))); have n7_ := As0 (blk_below (g := gb241) (o := .cells #[.int .i64 a0_0, .int .i64 a0_1, .int .i64 a0_2, .slice A0_3 l0_3.length c0_3] 63 (0, 0)) (by (with_reducible repeat (first | refine blk_drewN ?_ _ | refine blk_drew ?_ | refine blk_alloc ?_ _)); refine blk_far ?_ NB241_266.out _; (with_reducible repeat (first | refine blk_drewN ?_ _ | refine blk_drew ?_ | refine blk_alloc ?_ _)); refine blk_far ?_ NB241_266.out _; (with_reducible repeat (first | refine blk_drewN ?_ _ | refine blk_drew ?_ | refine blk_alloc ?_ _)); refine blk_far ?_ NB241_266.out _; (with_reducible repeat (first | refine blk_drewN ?_ _ | refine blk_drew ?_ | refine blk_alloc ?_ _)); refine blk_far ?_ NB241_266.out _; (with_reducible repeat (first | refine blk_drewN ?_ _ | refine blk_drew ?_ | refine blk_alloc ?_ _)); refine blk_far ?_ NB241_266.out _; (with_reducible repeat (first | refine blk_drewN ?_ _ | refine blk_drew ?_ | refine blk_alloc ?_ _)); refine blk_far ?_ NB241_266.out _; (with_reducible repeat (first | refine blk_drewN ?_ _ | refine blk_drew ?_ | refine blk_alloc ?_ _)); refine blk_far ?_ NB241_266.out _; (with_reducible repeat (first | refine blk_drewN ?_ _ | refine blk_drew ?_ | refine blk_alloc ?_ _)); refine blk_far ?_ NB241_266.out _; (with_reducible repeat (first | refine blk_drewN ?_ _ | refine blk_drew ?_ | refine blk_alloc ?_ _)); exact BK241.out) hb); have n8_ := As0 (blk_below (g := gb266) (o := .cells #[.int .i64 t251, .int .i64 t252, .int .i64 t253, .int .i64 t254, .slice Ao34 t255.length co34, .slice Ao35 t258.length co35, .slice Ao36 t261.length co36, .int .i64 t264] 39 (0, 0)) (by (with_reducible repeat (first | refine blk_drewN ?_ _ | refine blk_drew ?_ | refine blk_alloc ?_ _)); refine blk_put (cs := #[.int .i64 t251, .int .i64 t252, .int .i64 t253, .int .i64 t254, .slice Ao34 t255.length co34, .slice Ao35 t258.length co35, .slice Ao36 t261.length co36, .int .i64 0]) ?_ 7 _ rfl; (with_reducible repeat (first | refine blk_drewN ?_ _ | refine blk_drew ?_ | refine blk_alloc ?_ _)); refine blk_put (cs := #[.int .i64 t251, .int .i64 t252, .int .i64 t253, .int .i64 t254, .slice Ao34 t255.length co34, .slice Ao35 t258.length co35, .slice none 0 0, .int .i64 0]) ?_ 6 _ rfl; (with_reducible repeat (first | refine blk_drewN ?_ _ | refine blk_drew ?_ | refine blk_alloc ?_ _)); refine blk_put (cs := #[.int .i64 t251, .int .i64 t252, .int .i64 t253, .int .i64 t254, .slice Ao34 t255.length co34, .slice none 0 0, .slice none 0 0, .int .i64 0]) ?_ 5 _ rfl; (with_reducible repeat (first | refine blk_drewN ?_ _ | refine blk_drew ?_ | refine blk_alloc ?_ _)); refine blk_put (cs := #[.int .i64 t251, .int .i64 t252, .int .i64 t253, .int .i64 t254, .slice none 0 0, .slice none 0 0, .slice none 0 0, .int .i64 0]) ?_ 4 _ rfl; (with_reducible repeat (first | refine blk_drewN ?_ _ | refine blk_drew ?_ | refine blk_alloc ?_ _)); refine blk_put (cs := #[.int .i64 t251, .int .i64 t252, .int .i64 t253, .int .i64 0, .slice none 0 0, .slice none 0 0, .slice none 0 0, .int .i64 0]) ?_ 3 _ rfl; (with_reducible repeat (first | refine blk_drewN ?_ _ | refine blk_drew ?_ | refine blk_alloc ?_ _)); refine blk_put (cs := #[.int .i64 t251, .int .i64 t252, .int .i64 0, .int .i64 0, .slice none 0 0, .slice none 0 0, .slice none 0 0, .int .i64 0]) ?_ 2 _ rfl; (with_reducible repeat (first | refine blk_drewN ?_ _ | refine blk_drew ?_ | refine blk_alloc ?_ _)); refine blk_put (cs := #[.int .i64 t251, .int .i64 0, .int .i64 0, .int .i64 0, .slice none 0 0, .slice none 0 0, .slice none 0 0, .int .i64 0]) ?_ 1 _ rfl; (with_reducible repeat (first | refine blk_drewN ?_ _ | refine blk_drew ?_ | refine blk_alloc ?_ _)); refine blk_put (cs := #[.int .i64 0, .int .i64 0, .int .i64 0, .int .i64 0, .slice none 0 0, .slice none 0 0, .slice none 0 0, .int .i64 0]) ?_ 0 _ rfl; (with_reducible repeat (first | refine blk_drewN ?_ _ | refine blk_drew ?_ | refine blk_alloc ?_ _)); exact BK266.out) hb); have n9_ := As0 (below_step (by repeat (first | (with_reducible first | exact HB.out | apply below_alloc | apply bdN | apply bd1 | refine below_set ?_ GE241.out | refine below_set ?_ GE266.out) | exact HB.out)) hb); clear HO250 HO257 HO260 HO263 BK241 BK266 HB; have HO250 := n0_; have HO257 := n1_; have HO260 := n2_; have HO263 := n3_; have HO273 := n4_; have HO276 := n5_; have HO279 := n6_; have BK241 := n7_; have BK266 := n8_; have HB := n9_; clear n0_ n1_ n2_ n3_ n4_ n5_ n6_ n7_ n8_ n9_; (try clear hb); (try clear hb2); (try clear hk); (try clear hi); (try clear ho0); (try clear ho1); (try clear ho2)) | ((with_reducible refine gate_dst (N := 10) rfl ?_); (try (refine gate_guard (by rfl) ?_; dsimp only)); refine box_event ?hg (N := 10) ?hd (cs := #[.int .i64 0, .int .i64 0, .int .i64 0, .int .i64 0, .slice none 0 0, .slice none 0 0, .slice none 0 0, .int .i64 0]) (t := 39) ?hr ?_; (case hd => rfl); (case hg => rfl); (case hr => first | (go_simp; done) | (go_simp; rfl)); intro gb281 hg w38 hbox hb; have n0_ := As0 (Kd.R_below (by (with_reducible repeat (first | apply Kd.R_alloc | apply Kd.R_drewN | apply Kd.R_drew)); exact HO250.out) hb); have n1_ := As0 (Kd.R_below (by (with_reducible repeat (first | apply Kd.R_alloc | apply Kd.R_drewN | apply Kd.R_drew)); exact HO257.out) hb); have n2_ := As0 (Kd.R_below (by (with_reducible repeat (first | apply Kd.R_alloc | apply Kd.R_drewN | apply Kd.R_drew)); exact HO260.out) hb); have n3_ := As0 (Kd.R_below (by (with_reducible repeat (first | apply Kd.R_alloc | apply Kd.R_drewN | apply Kd.R_drew)); exact HO263.out) hb); have n4_ := As0 (Kd.R_below (by (with_reducible repeat (first | apply Kd.R_alloc | apply Kd.R_drewN | apply Kd.R_drew)); exact HO273.out) hb); have n5_ := As0 (Kd.R_below (by (with_reducible repeat (first | apply Kd.R_alloc | apply Kd.R_drewN | apply Kd.R_drew)); exact HO276.out) hb); have n6_ := As0 (Kd.R_below (by (with_reducible repeat (first | apply Kd.R_alloc | apply Kd.R_drewN | apply Kd.R_drew)); exact HO279.out) hb); have n7_ := As0 (blk_below (g := gb241) (o := .cells #[.int .i64 a0_0, .int .i64 a0_1, .int .i64 a0_2, .slice A0_3 l0_3.length c0_3] 63 (0, 0)) (by (with_reducible repeat (first | refine blk_drewN ?_ _ | refine blk_drew ?_ | refine blk_alloc ?_ _)); exact BK241.out) hb); have n8_ := As0 (blk_below (g := gb266) (o := .cells #[.int .i64 t251, .int .i64 t252, .int .i64 t253, .int .i64 t254, .slice Ao34 t255.length co34, .slice Ao35 t258.length co35, .slice Ao36 t261.length co36, .int .i64 t264] 39 (0, 0)) (by (with_reducible repeat (first | refine blk_drewN ?_ _ | refine blk_drew ?_ | refine blk_alloc ?_ _)); exact BK266.out) hb); have n9_ := As0 (below_step (by repeat (first | (with_reducible first | exact HB.out | apply below_alloc | apply bdN | apply bd1 | refine below_set ?_ GE241.out | refine below_set ?_ GE266.out) | exact HB.out)) hb); have n10_ := As0 (hbox); have n11_ := As0 ((by rw [hg]; exact (below_size (by repeat (first | (with_reducible first | exact HB.out | apply below_alloc | apply bdN | apply bd1 | refine below_set ?_ GE241.out | refine below_set ?_ GE266.out) | exact HB.out))) : w.heap.size ≤ gb281)); have n12_ := As0 ((by rw [hg]; exact (below_size (by repeat (first | (with_reducible first | exact HB.out | apply below_alloc | apply bdN | apply bd1 | refine below_set ?_ GE241.out | refine below_set ?_ GE266.out) | exact HB.out))) : w.heap.size ≤ gb281)); have n13_ := As0 ((by rw [hg]; exact Nat.ne_of_lt (blk_lt (g := gb241) (o := .cells #[.int .i64 a0_0, .int .i64 a0_1, .int .i64 a0_2, .slice A0_3 l0_3.length c0_3] 63 (0, 0)) (by (with_reducible repeat (first | refine blk_drewN ?_ _ | refine blk_drew ?_ | refine blk_alloc ?_ _)); exact BK241.out)) : gb241 ≠ gb281)); have n14_ := As0 ((by rw [hg]; exact Nat.ne_of_gt (blk_lt (g := gb241) (o := .cells #[.int .i64 a0_0, .int .i64 a0_1, .int .i64 a0_2, .slice A0_3 l0_3.length c0_3] 63 (0, 0)) (by (with_reducible repeat (first | refine blk_drewN ?_ _ | refine blk_drew ?_ | refine blk_alloc ?_ _)); exact BK241.out)) : gb281 ≠ gb241)); have n15_ := As0 ((by rw [hg]; exact Nat.ne_of_lt (blk_lt (g := gb266) (o := .cells #[.int .i64 t251, .int .i64 t252, .int .i64 t253, .int .i64 t254, .slice Ao34 t255.length co34, .slice Ao35 t258.length co35, .slice Ao36 t261.length co36, .int .i64 t264] 39 (0, 0)) (by (with_reducible repeat (first | refine blk_drewN ?_ _ | refine blk_drew ?_ | refine blk_alloc ?_ _)); exact BK266.out)) : gb266 ≠ gb281)); have n16_ := As0 ((by rw [hg]; exact Nat.ne_of_gt (blk_lt (g := gb266) (o := .cells #[.int .i64 t251, .int .i64 t252, .int .i64 t253, .int .i64 t254, .slice Ao34 t255.length co34, .slice Ao35 t258.length co35, .slice Ao36 t261.length co36, .int .i64 t264] 39 (0, 0)) (by (with_reducible repeat (first | refine blk_drewN ?_ _ | refine blk_drew ?_ | refine blk_alloc ?_ _)); exact BK266.out)) : gb281 ≠ gb266)); clear HO250 HO257 HO260 HO263 HO273 HO276 HO279 BK241 BK266 HB; have HO250 := n0_; have HO257 := n1_; have HO260 := n2_; have HO263 := n3_; have HO273 := n4_; have HO276 := n5_; have HO279 := n6_; have BK241 := n7_; have BK266 := n8_; have HB := n9_; have BK281 := n10_; have GW281 := n11_; have GE281 := n12_; have NB241_281 := n13_; have NB281_241 := n14_; have NB266_281 := n15_; have NB281_266 := n16_; clear n0_ n1_ n2_ n3_ n4_ n5_ n6_ n7_ n8_ n9_ n10_ n11_ n12_ n13_ n14_ n15_ n16_ hb hbox hg; have hnb39 := NB281_241.out; have hnc39 := NB241_281.out; have hnb40 := NB281_266.out; have hnc40 := NB266_281.out; have hcz41_0 : w38.cell? ⟨gb281, 0, none⟩ = some (.int .i64 0) := (blk_cell BK281.out 0).trans rfl; have hcz41_1 : w38.cell? ⟨gb281, 1, none⟩ = some (.int .i64 0) := (blk_cell BK281.out 1).trans rfl; have hcz41_2 : w38.cell? ⟨gb281, 2, none⟩ = some (.int .i64 0) := (blk_cell BK281.out 2).trans rfl; have hcz41_3 : w38.cell? ⟨gb281, 3, none⟩ = some (.int .i64 0) := (blk_cell BK281.out 3).trans rfl; have hcz41_4 : w38.cell? ⟨gb281, 4, none⟩ = some (.slice none 0 0) := (blk_cell BK281.out 4).trans rfl; have hcz41_5 : w38.cell? ⟨gb281, 5, none⟩ = some (.slice none 0 0) := (blk_cell BK281.out 5).trans rfl; have hcz41_6 : w38.cell? ⟨gb281, 6, none⟩ = some (.slice none 0 0) := (blk_cell BK281.out 6).trans rfl; have hcz41_7 : w38.cell? ⟨gb281, 7, none⟩ = some (.int .i64 0) := (blk_cell BK281.out 7).trans rfl; have hfz41_0 := blk_frozen BK281.out 0; have hfz41_1 := blk_frozen BK281.out 1; have hfz41_2 := blk_frozen BK281.out 2; have hfz41_3 := blk_frozen BK281.out 3; have hfz41_4 := blk_frozen BK281.out 4; have hfz41_5 := blk_frozen BK281.out 5; have hfz41_6 := blk_frozen BK281.out 6; have hfz41_7 := blk_frozen BK281.out 7; obtain ⟨Ao42, co42, eo42⟩ := Kd.R_slice HO273.out; subst eo42; obtain ⟨Ao43, co43, eo43⟩ := Kd.R_slice HO276.out; subst eo43; obtain ⟨Ao44, co44, eo44⟩ := Kd.R_slice HO279.out; subst eo44; have hcz45_0 : w38.cell? ⟨gb241, 0, none⟩ = some (.int .i64 a0_0) := (blk_cell BK241.out 0).trans rfl; have hcz45_1 : w38.cell? ⟨gb241, 1, none⟩ = some (.int .i64 a0_1) := (blk_cell BK241.out 1).trans rfl; have hcz45_2 : w38.cell? ⟨gb241, 2, none⟩ = some (.int .i64 a0_2) := (blk_cell BK241.out 2).trans rfl; have hcz45_3 : w38.cell? ⟨gb241, 3, none⟩ = some (.slice A0_3 l0_3.length c0_3) := (blk_cell BK241.out 3).trans rfl; have hfz45_0 := blk_frozen BK241.out 0; have hfz45_1 := blk_frozen BK241.out 1; have hfz45_2 := blk_frozen BK241.out 2; have hfz45_3 := blk_frozen BK241.out 3; have hcz46_0 : w38.cell? ⟨gb266, 0, none⟩ = some (.int .i64 t251) := (blk_cell BK266.out 0).trans rfl; have hcz46_1 : w38.cell? ⟨gb266, 1, none⟩ = some (.int .i64 t252) := (blk_cell BK266.out 1).trans rfl; have hcz46_2 : w38.cell? ⟨gb266, 2, none⟩ = some (.int .i64 t253) := (blk_cell BK266.out 2).trans rfl; have hcz46_3 : w38.cell? ⟨gb266, 3, none⟩ = some (.int .i64 t254) := (blk_cell BK266.out 3).trans rfl; have hcz46_4 : w38.cell? ⟨gb266, 4, none⟩ = some (.slice Ao34 t255.length co34) := (blk_cell BK266.out 4).trans rfl; have hcz46_5 : w38.cell? ⟨gb266, 5, none⟩ = some (.slice Ao35 t258.length co35) := (blk_cell BK266.out 5).trans rfl; have hcz46_6 : w38.cell? ⟨gb266, 6, none⟩ = some (.slice Ao36 t261.length co36) := (blk_cell BK266.out 6).trans rfl; have hcz46_7 : w38.cell? ⟨gb266, 7, none⟩ = some (.int .i64 t264) := (blk_cell BK266.out 7).trans rfl; have hfz46_0 := blk_frozen BK266.out 0; have hfz46_1 := blk_frozen BK266.out 1; have hfz46_2 := blk_frozen BK266.out 2; have hfz46_3 := blk_frozen BK266.out 3; have hfz46_4 := blk_frozen BK266.out 4; have hfz46_5 := blk_frozen BK266.out 5; have hfz46_6 := blk_frozen BK266.out 6; have hfz46_7 := blk_frozen BK266.out 7) | ((with_reducible refine gate_callee (f := 56) rfl ?_); refine goesL_ (some 49) rfl rfl Try.func56 (by kernel_rfl) rfl #[.agg #[.int .i64 a0_0, .int .i64 a0_1, .int .i64 a0_2, .slice A0_3 l0_3.length c0_3], .agg #[.int .i64 t251, .int .i64 t252, .int .i64 t253, .int .i64 t254, .slice Ao34 t255.length co34, .slice Ao35 t258.length co35, .slice Ao36 t261.length co36, .int .i64 t264]] rfl (by (try simp only [List.map_toArray, List.map_cons, List.map_nil]); first | done | rfl | (simp only [List.length_drop, List.length_take]; rfl)) ?_; (with_reducible refine (execute_Step.calls a0_0 a0_1 a0_2 _ _ l0_3 t251 t252 t253 t254 _ _ t255 _ _ t258 _ _ t261 t264 t282 t283 t284 t285 t286 t289 t292 t295 _ ?side1 ?side2 ?side3 ?side4 ?side5 ?side6 ?side7 ?side8 A24.out).mono ?_); (case side1 => exact Kd.C_below HR0_3.out (by repeat (first | (with_reducible first | exact HB.out | apply below_alloc | apply bdN | apply bd1 | refine below_set ?_ GE241.out | refine below_set ?_ GE266.out | refine below_set ?_ GE281.out) | exact HB.out))); (case side2 => exact HC0_3.out); (case side3 => refine (Kd.R_reads' (e := 2) (base := w.heap.size) (ok := fun k_ => (((((some k_ ≠ (.slice Ao35 t258.length co35 : Value).ownBlock ∧ some k_ ≠ (.slice Ao36 t261.length co36 : Value).ownBlock) ∧ some k_ ≠ (.slice Ao29 y248.length co29 : Value).ownBlock) ∧ some k_ ≠ (.slice Ao42 t271.length co42 : Value).ownBlock) ∧ some k_ ≠ (.slice Ao43 t274.length co43 : Value).ownBlock) ∧ some k_ ≠ (.slice Ao44 t277.length co44 : Value).ownBlock)) (n := t255.length) (c := co34) ?_).2.2; exact (by (with_reducible repeat (first | apply Kd.R_alloc | apply Kd.R_drewN | apply Kd.R_drew)); exact (Kd.R_mono (RF gb281 7 (RF gb281 6 (RF gb281 5 (RF gb281 4 (RF gb281 3 (RF gb281 2 (RF gb281 1 (RF gb281 0 (Kd.R_types HO257.out BK281.out (by decide)) (.int .i64 t267)) (.int .i64 t268)) (.int .i64 t269)) (.int .i64 t270)) (.slice Ao42 t271.length co42)) (.slice Ao43 t274.length co43)) (.slice Ao44 t277.length co44)) (.int .i64 t280)) (fun _ h_ => h_.1)))); (case side4 => exact (Kd.R_reads' HO257.out).2.1); (case side5 => refine (Kd.R_reads' (e := 2) (base := w.heap.size) (ok := fun k_ => (((((some k_ ≠ (.slice Ao34 t255.length co34 : Value).ownBlock ∧ some k_ ≠ (.slice Ao36 t261.length co36 : Value).ownBlock) ∧ some k_ ≠ (.slice Ao29 y248.length co29 : Value).ownBlock) ∧ some k_ ≠ (.slice Ao42 t271.length co42 : Value).ownBlock) ∧ some k_ ≠ (.slice Ao43 t274.length co43 : Value).ownBlock) ∧ some k_ ≠ (.slice Ao44 t277.length co44 : Value).ownBlock)) (n := t258.length) (c := co35) ?_).2.2; exact (by (with_reducible repeat (first | apply Kd.R_alloc | apply Kd.R_drewN | apply Kd.R_drew)); exact (Kd.R_mono (RF gb281 7 (RF gb281 6 (RF gb281 5 (RF gb281 4 (RF gb281 3 (RF gb281 2 (RF gb281 1 (RF gb281 0 (Kd.R_types HO260.out BK281.out (by decide)) (.int .i64 t267)) (.int .i64 t268)) (.int .i64 t269)) (.int .i64 t270)) (.slice Ao42 t271.length co42)) (.slice Ao43 t274.length co43)) (.slice Ao44 t277.length co44)) (.int .i64 t280)) (fun _ h_ => h_.1)))); (case side6 => exact (Kd.R_reads' HO260.out).2.1); (case side7 => refine (Kd.R_reads' (e := 2) (base := w.heap.size) (ok := fun k_ => (((((some k_ ≠ (.slice Ao34 t255.length co34 : Value).ownBlock ∧ some k_ ≠ (.slice Ao35 t258.length co35 : Value).ownBlock) ∧ some k_ ≠ (.slice Ao29 y248.length co29 : Value).ownBlock) ∧ some k_ ≠ (.slice Ao42 t271.length co42 : Value).ownBlock) ∧ some k_ ≠ (.slice Ao43 t274.length co43 : Value).ownBlock) ∧ some k_ ≠ (.slice Ao44 t277.length co44 : Value).ownBlock)) (n := t261.length) (c := co36) ?_).2.2; exact (by (with_reducible repeat (first | apply Kd.R_alloc | apply Kd.R_drewN | apply Kd.R_drew)); exact (Kd.R_mono (RF gb281 7 (RF gb281 6 (RF gb281 5 (RF gb281 4 (RF gb281 3 (RF gb281 2 (RF gb281 1 (RF gb281 0 (Kd.R_types HO263.out BK281.out (by decide)) (.int .i64 t267)) (.int .i64 t268)) (.int .i64 t269)) (.int .i64 t270)) (.slice Ao42 t271.length co42)) (.slice Ao43 t274.length co43)) (.slice Ao44 t277.length co44)) (.int .i64 t280)) (fun _ h_ => h_.1)))); (case side8 => exact (Kd.R_reads' HO263.out).2.1); rintro e w47 ⟨v287, v290, v293, rfl, ho0, ho1, ho2, hb⟩; refine ⟨_, rfl, ?_⟩; have n0_ := As0 (Kd.R_mono (Kd.R_told (Kd.R_told (Kd.R_told (Kd.R_old (by (with_reducible repeat (first | apply Kd.R_alloc | apply Kd.R_drewN | apply Kd.R_drew)); exact (Kd.R_mono (RF gb281 7 (RF gb281 6 (RF gb281 5 (RF gb281 4 (RF gb281 3 (RF gb281 2 (RF gb281 1 (RF gb281 0 (Kd.R_types HO250.out BK281.out (by decide)) (.int .i64 t267)) (.int .i64 t268)) (.int .i64 t269)) (.int .i64 t270)) (.slice Ao42 t271.length co42)) (.slice Ao43 t274.length co43)) (.slice Ao44 t277.length co44)) (.int .i64 t280)) (fun _ h_ => h_.1))) hb) (Kd.R_base ho0)) (Kd.R_base ho1)) (Kd.R_base ho2)) (fun _ h_ => h_.1)); have n1_ := As0 (Kd.R_mono (Kd.R_told (Kd.R_told (Kd.R_told (Kd.R_old (by (with_reducible repeat (first | apply Kd.R_alloc | apply Kd.R_drewN | apply Kd.R_drew)); exact (Kd.R_mono (RF gb281 7 (RF gb281 6 (RF gb281 5 (RF gb281 4 (RF gb281 3 (RF gb281 2 (RF gb281 1 (RF gb281 0 (Kd.R_types HO257.out BK281.out (by decide)) (.int .i64 t267)) (.int .i64 t268)) (.int .i64 t269)) (.int .i64 t270)) (.slice Ao42 t271.length co42)) (.slice Ao43 t274.length co43)) (.slice Ao44 t277.length co44)) (.int .i64 t280)) (fun _ h_ => h_.1))) hb) (Kd.R_base ho0)) (Kd.R_base ho1)) (Kd.R_base ho2)) (fun _ h_ => h_.1)); have n2_ := As0 (Kd.R_mono (Kd.R_told (Kd.R_told (Kd.R_told (Kd.R_old (by (with_reducible repeat (first | apply Kd.R_alloc | apply Kd.R_drewN | apply Kd.R_drew)); exact (Kd.R_mono (RF gb281 7 (RF gb281 6 (RF gb281 5 (RF gb281 4 (RF gb281 3 (RF gb281 2 (RF gb281 1 (RF gb281 0 (Kd.R_types HO260.out BK281.out (by decide)) (.int .i64 t267)) (.int .i64 t268)) (.int .i64 t269)) (.int .i64 t270)) (.slice Ao42 t271.length co42)) (.slice Ao43 t274.length co43)) (.slice Ao44 t277.length co44)) (.int .i64 t280)) (fun _ h_ => h_.1))) hb) (Kd.R_base ho0)) (Kd.R_base ho1)) (Kd.R_base ho2)) (fun _ h_ => h_.1)); have n3_ := As0 (Kd.R_mono (Kd.R_told (Kd.R_told (Kd.R_told (Kd.R_old (by (with_reducible repeat (first | apply Kd.R_alloc | apply Kd.R_drewN | apply Kd.R_drew)); exact (Kd.R_mono (RF gb281 7 (RF gb281 6 (RF gb281 5 (RF gb281 4 (RF gb281 3 (RF gb281 2 (RF gb281 1 (RF gb281 0 (Kd.R_types HO263.out BK281.out (by decide)) (.int .i64 t267)) (.int .i64 t268)) (.int .i64 t269)) (.int .i64 t270)) (.slice Ao42 t271.length co42)) (.slice Ao43 t274.length co43)) (.slice Ao44 t277.length co44)) (.int .i64 t280)) (fun _ h_ => h_.1))) hb) (Kd.R_base ho0)) (Kd.R_base ho1)) (Kd.R_base ho2)) (fun _ h_ => h_.1)); have n4_ := As0 (Kd.R_mono (Kd.R_told (Kd.R_told (Kd.R_told (Kd.R_old (by (with_reducible repeat (first | apply Kd.R_alloc | apply Kd.R_drewN | apply Kd.R_drew)); exact (Kd.R_mono (RF gb281 7 (RF gb281 6 (RF gb281 5 (RF gb281 4 (RF gb281 3 (RF gb281 2 (RF gb281 1 (RF gb281 0 (Kd.R_types HO273.out BK281.out (by decide)) (.int .i64 t267)) (.int .i64 t268)) (.int .i64 t269)) (.int .i64 t270)) (.slice Ao42 t271.length co42)) (.slice Ao43 t274.length co43)) (.slice Ao44 t277.length co44)) (.int .i64 t280)) (fun _ h_ => h_.1))) hb) (Kd.R_base ho0)) (Kd.R_base ho1)) (Kd.R_base ho2)) (fun _ h_ => h_.1)); have n5_ := As0 (Kd.R_mono (Kd.R_told (Kd.R_told (Kd.R_told (Kd.R_old (by (with_reducible repeat (first | apply Kd.R_alloc | apply Kd.R_drewN | apply Kd.R_drew)); exact (Kd.R_mono (RF gb281 7 (RF gb281 6 (RF gb281 5 (RF gb281 4 (RF gb281 3 (RF gb281 2 (RF gb281 1 (RF gb281 0 (Kd.R_types HO276.out BK281.out (by decide)) (.int .i64 t267)) (.int .i64 t268)) (.int .i64 t269)) (.int .i64 t270)) (.slice Ao42 t271.length co42)) (.slice Ao43 t274.length co43)) (.slice Ao44 t277.length co44)) (.int .i64 t280)) (fun _ h_ => h_.1))) hb) (Kd.R_base ho0)) (Kd.R_base ho1)) (Kd.R_base ho2)) (fun _ h_ => h_.1)); have n6_ := As0 (Kd.R_mono (Kd.R_told (Kd.R_told (Kd.R_told (Kd.R_old (by (with_reducible repeat (first | apply Kd.R_alloc | apply Kd.R_drewN | apply Kd.R_drew)); exact (Kd.R_mono (RF gb281 7 (RF gb281 6 (RF gb281 5 (RF gb281 4 (RF gb281 3 (RF gb281 2 (RF gb281 1 (RF gb281 0 (Kd.R_types HO279.out BK281.out (by decide)) (.int .i64 t267)) (.int .i64 t268)) (.int .i64 t269)) (.int .i64 t270)) (.slice Ao42 t271.length co42)) (.slice Ao43 t274.length co43)) (.slice Ao44 t277.length co44)) (.int .i64 t280)) (fun _ h_ => h_.1))) hb) (Kd.R_base ho0)) (Kd.R_base ho1)) (Kd.R_base ho2)) (fun _ h_ => h_.1)); have n7_ := As0 (Kd.R_lower (Kd.R_new' (Kd.R_new' (Kd.R_new' (Kd.R_new' (Kd.R_new' (Kd.R_new' (Kd.R_new' ho0 (Kd.R_lt (by (with_reducible repeat (first | apply Kd.R_alloc | apply Kd.R_drewN | apply Kd.R_drew)); exact (Kd.R_mono (RF gb281 7 (RF gb281 6 (RF gb281 5 (RF gb281 4 (RF gb281 3 (RF gb281 2 (RF gb281 1 (RF gb281 0 (Kd.R_types HO250.out BK281.out (by decide)) (.int .i64 t267)) (.int .i64 t268)) (.int .i64 t269)) (.int .i64 t270)) (.slice Ao42 t271.length co42)) (.slice Ao43 t274.length co43)) (.slice Ao44 t277.length co44)) (.int .i64 t280)) (fun _ h_ => h_.1))))) (Kd.R_lt (by (with_reducible repeat (first | apply Kd.R_alloc | apply Kd.R_drewN | apply Kd.R_drew)); exact (Kd.R_mono (RF gb281 7 (RF gb281 6 (RF gb281 5 (RF gb281 4 (RF gb281 3 (RF gb281 2 (RF gb281 1 (RF gb281 0 (Kd.R_types HO257.out BK281.out (by decide)) (.int .i64 t267)) (.int .i64 t268)) (.int .i64 t269)) (.int .i64 t270)) (.slice Ao42 t271.length co42)) (.slice Ao43 t274.length co43)) (.slice Ao44 t277.length co44)) (.int .i64 t280)) (fun _ h_ => h_.1))))) (Kd.R_lt (by (with_reducible repeat (first | apply Kd.R_alloc | apply Kd.R_drewN | apply Kd.R_drew)); exact (Kd.R_mono (RF gb281 7 (RF gb281 6 (RF gb281 5 (RF gb281 4 (RF gb281 3 (RF gb281 2 (RF gb281 1 (RF gb281 0 (Kd.R_types HO260.out BK281.out (by decide)) (.int .i64 t267)) (.int .i64 t268)) (.int .i64 t269)) (.int .i64 t270)) (.slice Ao42 t271.length co42)) (.slice Ao43 t274.length co43)) (.slice Ao44 t277.length co44)) (.int .i64 t280)) (fun _ h_ => h_.1))))) (Kd.R_lt (by (with_reducible repeat (first | apply Kd.R_alloc | apply Kd.R_drewN | apply Kd.R_drew)); exact (Kd.R_mono (RF gb281 7 (RF gb281 6 (RF gb281 5 (RF gb281 4 (RF gb281 3 (RF gb281 2 (RF gb281 1 (RF gb281 0 (Kd.R_types HO263.out BK281.out (by decide)) (.int .i64 t267)) (.int .i64 t268)) (.int .i64 t269)) (.int .i64 t270)) (.slice Ao42 t271.length co42)) (.slice Ao43 t274.length co43)) (.slice Ao44 t277.length co44)) (.int .i64 t280)) (fun _ h_ => h_.1))))) (Kd.R_lt (by (with_reducible repeat (first | apply Kd.R_alloc | apply Kd.R_drewN | apply Kd.R_drew)); exact (Kd.R_mono (RF gb281 7 (RF gb281 6 (RF gb281 5 (RF gb281 4 (RF gb281 3 (RF gb281 2 (RF gb281 1 (RF gb281 0 (Kd.R_types HO273.out BK281.out (by decide)) (.int .i64 t267)) (.int .i64 t268)) (.int .i64 t269)) (.int .i64 t270)) (.slice Ao42 t271.length co42)) (.slice Ao43 t274.length co43)) (.slice Ao44 t277.length co44)) (.int .i64 t280)) (fun _ h_ => h_.1))))) (Kd.R_lt (by (with_reducible repeat (first | apply Kd.R_alloc | apply Kd.R_drewN | apply Kd.R_drew)); exact (Kd.R_mono (RF gb281 7 (RF gb281 6 (RF gb281 5 (RF gb281 4 (RF gb281 3 (RF gb281 2 (RF gb281 1 (RF gb281 0 (Kd.R_types HO276.out BK281.out (by decide)) (.int .i64 t267)) (.int .i64 t268)) (.int .i64 t269)) (.int .i64 t270)) (.slice Ao42 t271.length co42)) (.slice Ao43 t274.length co43)) (.slice Ao44 t277.length co44)) (.int .i64 t280)) (fun _ h_ => h_.1))))) (Kd.R_lt (by (with_reducible repeat (first | apply Kd.R_alloc | apply Kd.R_drewN | apply Kd.R_drew)); exact (Kd.R_mono (RF gb281 7 (RF gb281 6 (RF gb281 5 (RF gb281 4 (RF gb281 3 (RF gb281 2 (RF gb281 1 (RF gb281 0 (Kd.R_types HO279.out BK281.out (by decide)) (.int .i64 t267)) (.int .i64 t268)) (.int .i64 t269)) (.int .i64 t270)) (.slice Ao42 t271.length co42)) (.slice Ao43 t274.length co43)) (.slice Ao44 t277.length co44)) (.int .i64 t280)) (fun _ h_ => h_.1))))) (below_size (by repeat (first | (with_reducible first | exact HB.out | apply below_alloc | apply bdN | apply bd1 | refine below_set ?_ GE241.out | refine below_set ?_ GE266.out | refine below_set ?_ GE281.out) | exact HB.out)))); have n8_ := As0 (Kd.R_lower (Kd.R_new' (Kd.R_new' (Kd.R_new' (Kd.R_new' (Kd.R_new' (Kd.R_new' (Kd.R_new' ho1 (Kd.R_lt (by (with_reducible repeat (first | apply Kd.R_alloc | apply Kd.R_drewN | apply Kd.R_drew)); exact (Kd.R_mono (RF gb281 7 (RF gb281 6 (RF gb281 5 (RF gb281 4 (RF gb281 3 (RF gb281 2 (RF gb281 1 (RF gb281 0 (Kd.R_types HO250.out BK281.out (by decide)) (.int .i64 t267)) (.int .i64 t268)) (.int .i64 t269)) (.int .i64 t270)) (.slice Ao42 t271.length co42)) (.slice Ao43 t274.length co43)) (.slice Ao44 t277.length co44)) (.int .i64 t280)) (fun _ h_ => h_.1))))) (Kd.R_lt (by (with_reducible repeat (first | apply Kd.R_alloc | apply Kd.R_drewN | apply Kd.R_drew)); exact (Kd.R_mono (RF gb281 7 (RF gb281 6 (RF gb281 5 (RF gb281 4 (RF gb281 3 (RF gb281 2 (RF gb281 1 (RF gb281 0 (Kd.R_types HO257.out BK281.out (by decide)) (.int .i64 t267)) (.int .i64 t268)) (.int .i64 t269)) (.int .i64 t270)) (.slice Ao42 t271.length co42)) (.slice Ao43 t274.length co43)) (.slice Ao44 t277.length co44)) (.int .i64 t280)) (fun _ h_ => h_.1))))) (Kd.R_lt (by (with_reducible repeat (first | apply Kd.R_alloc | apply Kd.R_drewN | apply Kd.R_drew)); exact (Kd.R_mono (RF gb281 7 (RF gb281 6 (RF gb281 5 (RF gb281 4 (RF gb281 3 (RF gb281 2 (RF gb281 1 (RF gb281 0 (Kd.R_types HO260.out BK281.out (by decide)) (.int .i64 t267)) (.int .i64 t268)) (.int .i64 t269)) (.int .i64 t270)) (.slice Ao42 t271.length co42)) (.slice Ao43 t274.length co43)) (.slice Ao44 t277.length co44)) (.int .i64 t280)) (fun _ h_ => h_.1))))) (Kd.R_lt (by (with_reducible repeat (first | apply Kd.R_alloc | apply Kd.R_drewN | apply Kd.R_drew)); exact (Kd.R_mono (RF gb281 7 (RF gb281 6 (RF gb281 5 (RF gb281 4 (RF gb281 3 (RF gb281 2 (RF gb281 1 (RF gb281 0 (Kd.R_types HO263.out BK281.out (by decide)) (.int .i64 t267)) (.int .i64 t268)) (.int .i64 t269)) (.int .i64 t270)) (.slice Ao42 t271.length co42)) (.slice Ao43 t274.length co43)) (.slice Ao44 t277.length co44)) (.int .i64 t280)) (fun _ h_ => h_.1))))) (Kd.R_lt (by (with_reducible repeat (first | apply Kd.R_alloc | apply Kd.R_drewN | apply Kd.R_drew)); exact (Kd.R_mono (RF gb281 7 (RF gb281 6 (RF gb281 5 (RF gb281 4 (RF gb281 3 (RF gb281 2 (RF gb281 1 (RF gb281 0 (Kd.R_types HO273.out BK281.out (by decide)) (.int .i64 t267)) (.int .i64 t268)) (.int .i64 t269)) (.int .i64 t270)) (.slice Ao42 t271.length co42)) (.slice Ao43 t274.length co43)) (.slice Ao44 t277.length co44)) (.int .i64 t280)) (fun _ h_ => h_.1))))) (Kd.R_lt (by (with_reducible repeat (first | apply Kd.R_alloc | apply Kd.R_drewN | apply Kd.R_drew)); exact (Kd.R_mono (RF gb281 7 (RF gb281 6 (RF gb281 5 (RF gb281 4 (RF gb281 3 (RF gb281 2 (RF gb281 1 (RF gb281 0 (Kd.R_types HO276.out BK281.out (by decide)) (.int .i64 t267)) (.int .i64 t268)) (.int .i64 t269)) (.int .i64 t270)) (.slice Ao42 t271.length co42)) (.slice Ao43 t274.length co43)) (.slice Ao44 t277.length co44)) (.int .i64 t280)) (fun _ h_ => h_.1))))) (Kd.R_lt (by (with_reducible repeat (first | apply Kd.R_alloc | apply Kd.R_drewN | apply Kd.R_drew)); exact (Kd.R_mono (RF gb281 7 (RF gb281 6 (RF gb281 5 (RF gb281 4 (RF gb281 3 (RF gb281 2 (RF gb281 1 (RF gb281 0 (Kd.R_types HO279.out BK281.out (by decide)) (.int .i64 t267)) (.int .i64 t268)) (.int .i64 t269)) (.int .i64 t270)) (.slice Ao42 t271.length co42)) (.slice Ao43 t274.length co43)) (.slice Ao44 t277.length co44)) (.int .i64 t280)) (fun _ h_ => h_.1))))) (below_size (by repeat (first | (with_reducible first | exact HB.out | apply below_alloc | apply bdN | apply bd1 | refine below_set ?_ GE241.out | refine below_set ?_ GE266.out | refine below_set ?_ GE281.out) | exact HB.out)))); have n9_ := As0 (Kd.R_lower (Kd.R_new' (Kd.R_new' (Kd.R_new' (Kd.R_new' (Kd.R_new' (Kd.R_new' (Kd.R_new' ho2 (Kd.R_lt (by (with_reducible repeat (first | apply Kd.R_alloc | apply Kd.R_drewN | apply Kd.R_drew)); exact (Kd.R_mono (RF gb281 7 (RF gb281 6 (RF gb281 5 (RF gb281 4 (RF gb281 3 (RF gb281 2 (RF gb281 1 (RF gb281 0 (Kd.R_types HO250.out BK281.out (by decide)) (.int .i64 t267)) (.int .i64 t268)) (.int .i64 t269)) (.int .i64 t270)) (.slice Ao42 t271.length co42)) (.slice Ao43 t274.length co43)) (.slice Ao44 t277.length co44)) (.int .i64 t280)) (fun _ h_ => h_.1))))) (Kd.R_lt (by (with_reducible repeat (first | apply Kd.R_alloc | apply Kd.R_drewN | apply Kd.R_drew)); exact (Kd.R_mono (RF gb281 7 (RF gb281 6 (RF gb281 5 (RF gb281 4 (RF gb281 3 (RF gb281 2 (RF gb281 1 (RF gb281 0 (Kd.R_types HO257.out BK281.out (by decide)) (.int .i64 t267)) (.int .i64 t268)) (.int .i64 t269)) (.int .i64 t270)) (.slice Ao42 t271.length co42)) (.slice Ao43 t274.length co43)) (.slice Ao44 t277.length co44)) (.int .i64 t280)) (fun _ h_ => h_.1))))) (Kd.R_lt (by (with_reducible repeat (first | apply Kd.R_alloc | apply Kd.R_drewN | apply Kd.R_drew)); exact (Kd.R_mono (RF gb281 7 (RF gb281 6 (RF gb281 5 (RF gb281 4 (RF gb281 3 (RF gb281 2 (RF gb281 1 (RF gb281 0 (Kd.R_types HO260.out BK281.out (by decide)) (.int .i64 t267)) (.int .i64 t268)) (.int .i64 t269)) (.int .i64 t270)) (.slice Ao42 t271.length co42)) (.slice Ao43 t274.length co43)) (.slice Ao44 t277.length co44)) (.int .i64 t280)) (fun _ h_ => h_.1))))) (Kd.R_lt (by (with_reducible repeat (first | apply Kd.R_alloc | apply Kd.R_drewN | apply Kd.R_drew)); exact (Kd.R_mono (RF gb281 7 (RF gb281 6 (RF gb281 5 (RF gb281 4 (RF gb281 3 (RF gb281 2 (RF gb281 1 (RF gb281 0 (Kd.R_types HO263.out BK281.out (by decide)) (.int .i64 t267)) (.int .i64 t268)) (.int .i64 t269)) (.int .i64 t270)) (.slice Ao42 t271.length co42)) (.slice Ao43 t274.length co43)) (.slice Ao44 t277.length co44)) (.int .i64 t280)) (fun _ h_ => h_.1))))) (Kd.R_lt (by (with_reducible repeat (first | apply Kd.R_alloc | apply Kd.R_drewN | apply Kd.R_drew)); exact (Kd.R_mono (RF gb281 7 (RF gb281 6 (RF gb281 5 (RF gb281 4 (RF gb281 3 (RF gb281 2 (RF gb281 1 (RF gb281 0 (Kd.R_types HO273.out BK281.out (by decide)) (.int .i64 t267)) (.int .i64 t268)) (.int .i64 t269)) (.int .i64 t270)) (.slice Ao42 t271.length co42)) (.slice Ao43 t274.length co43)) (.slice Ao44 t277.length co44)) (.int .i64 t280)) (fun _ h_ => h_.1))))) (Kd.R_lt (by (with_reducible repeat (first | apply Kd.R_alloc | apply Kd.R_drewN | apply Kd.R_drew)); exact (Kd.R_mono (RF gb281 7 (RF gb281 6 (RF gb281 5 (RF gb281 4 (RF gb281 3 (RF gb281 2 (RF gb281 1 (RF gb281 0 (Kd.R_types HO276.out BK281.out (by decide)) (.int .i64 t267)) (.int .i64 t268)) (.int .i64 t269)) (.int .i64 t270)) (.slice Ao42 t271.length co42)) (.slice Ao43 t274.length co43)) (.slice Ao44 t277.length co44)) (.int .i64 t280)) (fun _ h_ => h_.1))))) (Kd.R_lt (by (with_reducible repeat (first | apply Kd.R_alloc | apply Kd.R_drewN | apply Kd.R_drew)); exact (Kd.R_mono (RF gb281 7 (RF gb281 6 (RF gb281 5 (RF gb281 4 (RF gb281 3 (RF gb281 2 (RF gb281 1 (RF gb281 0 (Kd.R_types HO279.out BK281.out (by decide)) (.int .i64 t267)) (.int .i64 t268)) (.int .i64 t269)) (.int .i64 t270)) (.slice Ao42 t271.length co42)) (.slice Ao43 t274.length co43)) (.slice Ao44 t277.length co44)) (.int .i64 t280)) (fun _ h_ => h_.1))))) (below_size (by repeat (first | (with_reducible first | exact HB.out | apply below_alloc | apply bdN | apply bd1 | refine below_set ?_ GE241.out | refine below_set ?_ GE266.out | refine below_set ?_ GE281.out) | exact HB.out)))); have n10_ := As0 (blk_below (g := gb241) (o := .cells #[.int .i64 a0_0, .int .i64 a0_1, .int .i64 a0_2, .slice A0_3 l0_3.length c0_3] 63 (0, 0)) (by (with_reducible repeat (first | refine blk_drewN ?_ _ | refine blk_drew ?_ | refine blk_alloc ?_ _)); refine blk_far ?_ NB241_281.out _; (with_reducible repeat (first | refine blk_drewN ?_ _ | refine blk_drew ?_ | refine blk_alloc ?_ _)); refine blk_far ?_ NB241_281.out _; (with_reducible repeat (first | refine blk_drewN ?_ _ | refine blk_drew ?_ | refine blk_alloc ?_ _)); refine blk_far ?_ NB241_281.out _; (with_reducible repeat (first | refine blk_drewN ?_ _ | refine blk_drew ?_ | refine blk_alloc ?_ _)); refine blk_far ?_ NB241_281.out _; (with_reducible repeat (first | refine blk_drewN ?_ _ | refine blk_drew ?_ | refine blk_alloc ?_ _)); refine blk_far ?_ NB241_281.out _; (with_reducible repeat (first | refine blk_drewN ?_ _ | refine blk_drew ?_ | refine blk_alloc ?_ _)); refine blk_far ?_ NB241_281.out _; (with_reducible repeat (first | refine blk_drewN ?_ _ | refine blk_drew ?_ | refine blk_alloc ?_ _)); refine blk_far ?_ NB241_281.out _; (with_reducible repeat (first | refine blk_drewN ?_ _ | refine blk_drew ?_ | refine blk_alloc ?_ _)); refine blk_far ?_ NB241_281.out _; (with_reducible repeat (first | refine blk_drewN ?_ _ | refine blk_drew ?_ | refine blk_alloc ?_ _)); exact BK241.out) hb); have n11_ := As0 (blk_below (g := gb266) (o := .cells #[.int .i64 t251, .int .i64 t252, .int .i64 t253, .int .i64 t254, .slice Ao34 t255.length co34, .slice Ao35 t258.length co35, .slice Ao36 t261.length co36, .int .i64 t264] 39 (0, 0)) (by (with_reducible repeat (first | refine blk_drewN ?_ _ | refine blk_drew ?_ | refine blk_alloc ?_ _)); refine blk_far ?_ NB266_281.out _; (with_reducible repeat (first | refine blk_drewN ?_ _ | refine blk_drew ?_ | refine blk_alloc ?_ _)); refine blk_far ?_ NB266_281.out _; (with_reducible repeat (first | refine blk_drewN ?_ _ | refine blk_drew ?_ | refine blk_alloc ?_ _)); refine blk_far ?_ NB266_281.out _; (with_reducible repeat (first | refine blk_drewN ?_ _ | refine blk_drew ?_ | refine blk_alloc ?_ _)); refine blk_far ?_ NB266_281.out _; (with_reducible repeat (first | refine blk_drewN ?_ _ | refine blk_drew ?_ | refine blk_alloc ?_ _)); refine blk_far ?_ NB266_281.out _; (with_reducible repeat (first | refine blk_drewN ?_ _ | refine blk_drew ?_ | refine blk_alloc ?_ _)); refine blk_far ?_ NB266_281.out _; (with_reducible repeat (first | refine blk_drewN ?_ _ | refine blk_drew ?_ | refine blk_alloc ?_ _)); refine blk_far ?_ NB266_281.out _; (with_reducible repeat (first | refine blk_drewN ?_ _ | refine blk_drew ?_ | refine blk_alloc ?_ _)); refine blk_far ?_ NB266_281.out _; (with_reducible repeat (first | refine blk_drewN ?_ _ | refine blk_drew ?_ | refine blk_alloc ?_ _)); exact BK266.out) hb); have n12_ := As0 (blk_below (g := gb281) (o := .cells #[.int .i64 t267, .int .i64 t268, .int .i64 t269, .int .i64 t270, .slice Ao42 t271.length co42, .slice Ao43 t274.length co43, .slice Ao44 t277.length co44, .int .i64 t280] 39 (0, 0)) (by (with_reducible repeat (first | refine blk_drewN ?_ _ | refine blk_drew ?_ | refine blk_alloc ?_ _)); refine blk_put (cs := #[.int .i64 t267, .int .i64 t268, .int .i64 t269, .int .i64 t270, .slice Ao42 t271.length co42, .slice Ao43 t274.length co43, .slice Ao44 t277.length co44, .int .i64 0]) ?_ 7 _ rfl; (with_reducible repeat (first | refine blk_drewN ?_ _ | refine blk_drew ?_ | refine blk_alloc ?_ _)); refine blk_put (cs := #[.int .i64 t267, .int .i64 t268, .int .i64 t269, .int .i64 t270, .slice Ao42 t271.length co42, .slice Ao43 t274.length co43, .slice none 0 0, .int .i64 0]) ?_ 6 _ rfl; (with_reducible repeat (first | refine blk_drewN ?_ _ | refine blk_drew ?_ | refine blk_alloc ?_ _)); refine blk_put (cs := #[.int .i64 t267, .int .i64 t268, .int .i64 t269, .int .i64 t270, .slice Ao42 t271.length co42, .slice none 0 0, .slice none 0 0, .int .i64 0]) ?_ 5 _ rfl; (with_reducible repeat (first | refine blk_drewN ?_ _ | refine blk_drew ?_ | refine blk_alloc ?_ _)); refine blk_put (cs := #[.int .i64 t267, .int .i64 t268, .int .i64 t269, .int .i64 t270, .slice none 0 0, .slice none 0 0, .slice none 0 0, .int .i64 0]) ?_ 4 _ rfl; (with_reducible repeat (first | refine blk_drewN ?_ _ | refine blk_drew ?_ | refine blk_alloc ?_ _)); refine blk_put (cs := #[.int .i64 t267, .int .i64 t268, .int .i64 t269, .int .i64 0, .slice none 0 0, .slice none 0 0, .slice none 0 0, .int .i64 0]) ?_ 3 _ rfl; (with_reducible repeat (first | refine blk_drewN ?_ _ | refine blk_drew ?_ | refine blk_alloc ?_ _)); refine blk_put (cs := #[.int .i64 t267, .int .i64 t268, .int .i64 0, .int .i64 0, .slice none 0 0, .slice none 0 0, .slice none 0 0, .int .i64 0]) ?_ 2 _ rfl; (with_reducible repeat (first | refine blk_drewN ?_ _ | refine blk_drew ?_ | refine blk_alloc ?_ _)); refine blk_put (cs := #[.int .i64 t267, .int .i64 0, .int .i64 0, .int .i64 0, .slice none 0 0, .slice none 0 0, .slice none 0 0, .int .i64 0]) ?_ 1 _ rfl; (with_reducible repeat (first | refine blk_drewN ?_ _ | refine blk_drew ?_ | refine blk_alloc ?_ _)); refine blk_put (cs := #[.int .i64 0, .int .i64 0, .int .i64 0, .int .i64 0, .slice none 0 0, .slice none 0 0, .slice none 0 0, .int .i64 0]) ?_ 0 _ rfl; (with_reducible repeat (first | refine blk_drewN ?_ _ | refine blk_drew ?_ | refine blk_alloc ?_ _)); exact BK281.out) hb); have n13_ := As0 (below_step (by repeat (first | (with_reducible first | exact HB.out | apply below_alloc | apply bdN | apply bd1 | refine below_set ?_ GE241.out | refine below_set ?_ GE266.out | refine below_set ?_ GE281.out) | exact HB.out)) hb); clear HO250 HO257 HO260 HO263 HO273 HO276 HO279 BK241 BK266 BK281 HB; have HO250 := n0_; have HO257 := n1_; have HO260 := n2_; have HO263 := n3_; have HO273 := n4_; have HO276 := n5_; have HO279 := n6_; have HO288 := n7_; have HO291 := n8_; have HO294 := n9_; have BK241 := n10_; have BK266 := n11_; have BK281 := n12_; have HB := n13_; clear n0_ n1_ n2_ n3_ n4_ n5_ n6_ n7_ n8_ n9_ n10_ n11_ n12_ n13_; (try clear hb); (try clear hb2); (try clear hk); (try clear hi); (try clear ho0); (try clear ho1); (try clear ho2)) | ((with_reducible refine gate_dst (N := 11) rfl ?_); (try (refine gate_guard (by rfl) ?_; dsimp only)); refine box_event ?hg (N := 11) ?hd (cs := #[.int .i64 0, .int .i64 0, .int .i64 0, .int .i64 0, .slice none 0 0, .slice none 0 0, .slice none 0 0, .int .i64 0]) (t := 39) ?hr ?_; (case hd => rfl); (case hg => rfl); (case hr => first | (go_simp; done) | (go_simp; rfl)); intro gb296 hg w48 hbox hb; have n0_ := As0 (Kd.R_below (by (with_reducible repeat (first | apply Kd.R_alloc | apply Kd.R_drewN | apply Kd.R_drew)); exact HO250.out) hb); have n1_ := As0 (Kd.R_below (by (with_reducible repeat (first | apply Kd.R_alloc | apply Kd.R_drewN | apply Kd.R_drew)); exact HO257.out) hb); have n2_ := As0 (Kd.R_below (by (with_reducible repeat (first | apply Kd.R_alloc | apply Kd.R_drewN | apply Kd.R_drew)); exact HO260.out) hb); have n3_ := As0 (Kd.R_below (by (with_reducible repeat (first | apply Kd.R_alloc | apply Kd.R_drewN | apply Kd.R_drew)); exact HO263.out) hb); have n4_ := As0 (Kd.R_below (by (with_reducible repeat (first | apply Kd.R_alloc | apply Kd.R_drewN | apply Kd.R_drew)); exact HO273.out) hb); have n5_ := As0 (Kd.R_below (by (with_reducible repeat (first | apply Kd.R_alloc | apply Kd.R_drewN | apply Kd.R_drew)); exact HO276.out) hb); have n6_ := As0 (Kd.R_below (by (with_reducible repeat (first | apply Kd.R_alloc | apply Kd.R_drewN | apply Kd.R_drew)); exact HO279.out) hb); have n7_ := As0 (Kd.R_below (by (with_reducible repeat (first | apply Kd.R_alloc | apply Kd.R_drewN | apply Kd.R_drew)); exact HO288.out) hb); have n8_ := As0 (Kd.R_below (by (with_reducible repeat (first | apply Kd.R_alloc | apply Kd.R_drewN | apply Kd.R_drew)); exact HO291.out) hb); have n9_ := As0 (Kd.R_below (by (with_reducible repeat (first | apply Kd.R_alloc | apply Kd.R_drewN | apply Kd.R_drew)); exact HO294.out) hb); have n10_ := As0 (blk_below (g := gb241) (o := .cells #[.int .i64 a0_0, .int .i64 a0_1, .int .i64 a0_2, .slice A0_3 l0_3.length c0_3] 63 (0, 0)) (by (with_reducible repeat (first | refine blk_drewN ?_ _ | refine blk_drew ?_ | refine blk_alloc ?_ _)); exact BK241.out) hb); have n11_ := As0 (blk_below (g := gb266) (o := .cells #[.int .i64 t251, .int .i64 t252, .int .i64 t253, .int .i64 t254, .slice Ao34 t255.length co34, .slice Ao35 t258.length co35, .slice Ao36 t261.length co36, .int .i64 t264] 39 (0, 0)) (by (with_reducible repeat (first | refine blk_drewN ?_ _ | refine blk_drew ?_ | refine blk_alloc ?_ _)); exact BK266.out) hb); have n12_ := As0 (blk_below (g := gb281) (o := .cells #[.int .i64 t267, .int .i64 t268, .int .i64 t269, .int .i64 t270, .slice Ao42 t271.length co42, .slice Ao43 t274.length co43, .slice Ao44 t277.length co44, .int .i64 t280] 39 (0, 0)) (by (with_reducible repeat (first | refine blk_drewN ?_ _ | refine blk_drew ?_ | refine blk_alloc ?_ _)); exact BK281.out) hb); have n13_ := As0 (below_step (by repeat (first | (with_reducible first | exact HB.out | apply below_alloc | apply bdN | apply bd1 | refine below_set ?_ GE241.out | refine below_set ?_ GE266.out | refine below_set ?_ GE281.out) | exact HB.out)) hb); have n14_ := As0 (hbox); have n15_ := As0 ((by rw [hg]; exact (below_size (by repeat (first | (with_reducible first | exact HB.out | apply below_alloc | apply bdN | apply bd1 | refine below_set ?_ GE241.out | refine below_set ?_ GE266.out | refine below_set ?_ GE281.out) | exact HB.out))) : w.heap.size ≤ gb296)); have n16_ := As0 ((by rw [hg]; exact (below_size (by repeat (first | (with_reducible first | exact HB.out | apply below_alloc | apply bdN | apply bd1 | refine below_set ?_ GE241.out | refine below_set ?_ GE266.out | refine below_set ?_ GE281.out) | exact HB.out))) : w.heap.size ≤ gb296)); have n17_ := As0 ((by rw [hg]; exact Nat.ne_of_lt (blk_lt (g := gb241) (o := .cells #[.int .i64 a0_0, .int .i64 a0_1, .int .i64 a0_2, .slice A0_3 l0_3.length c0_3] 63 (0, 0)) (by (with_reducible repeat (first | refine blk_drewN ?_ _ | refine blk_drew ?_ | refine blk_alloc ?_ _)); exact BK241.out)) : gb241 ≠ gb296)); have n18_ := As0 ((by rw [hg]; exact Nat.ne_of_gt (blk_lt (g := gb241) (o := .cells #[.int .i64 a0_0, .int .i64 a0_1, .int .i64 a0_2, .slice A0_3 l0_3.length c0_3] 63 (0, 0)) (by (with_reducible repeat (first | refine blk_drewN ?_ _ | refine blk_drew ?_ | refine blk_alloc ?_ _)); exact BK241.out)) : gb296 ≠ gb241)); have n19_ := As0 ((by rw [hg]; exact Nat.ne_of_lt (blk_lt (g := gb266) (o := .cells #[.int .i64 t251, .int .i64 t252, .int .i64 t253, .int .i64 t254, .slice Ao34 t255.length co34, .slice Ao35 t258.length co35, .slice Ao36 t261.length co36, .int .i64 t264] 39 (0, 0)) (by (with_reducible repeat (first | refine blk_drewN ?_ _ | refine blk_drew ?_ | refine blk_alloc ?_ _)); exact BK266.out)) : gb266 ≠ gb296)); have n20_ := As0 ((by rw [hg]; exact Nat.ne_of_gt (blk_lt (g := gb266) (o := .cells #[.int .i64 t251, .int .i64 t252, .int .i64 t253, .int .i64 t254, .slice Ao34 t255.length co34, .slice Ao35 t258.length co35, .slice Ao36 t261.length co36, .int .i64 t264] 39 (0, 0)) (by (with_reducible repeat (first | refine blk_drewN ?_ _ | refine blk_drew ?_ | refine blk_alloc ?_ _)); exact BK266.out)) : gb296 ≠ gb266)); have n21_ := As0 ((by rw [hg]; exact Nat.ne_of_lt (blk_lt (g := gb281) (o := .cells #[.int .i64 t267, .int .i64 t268, .int .i64 t269, .int .i64 t270, .slice Ao42 t271.length co42, .slice Ao43 t274.length co43, .slice Ao44 t277.length co44, .int .i64 t280] 39 (0, 0)) (by (with_reducible repeat (first | refine blk_drewN ?_ _ | refine blk_drew ?_ | refine blk_alloc ?_ _)); exact BK281.out)) : gb281 ≠ gb296)); have n22_ := As0 ((by rw [hg]; exact Nat.ne_of_gt (blk_lt (g := gb281) (o := .cells #[.int .i64 t267, .int .i64 t268, .int .i64 t269, .int .i64 t270, .slice Ao42 t271.length co42, .slice Ao43 t274.length co43, .slice Ao44 t277.length co44, .int .i64 t280] 39 (0, 0)) (by (with_reducible repeat (first | refine blk_drewN ?_ _ | refine blk_drew ?_ | refine blk_alloc ?_ _)); exact BK281.out)) : gb296 ≠ gb281)); clear HO250 HO257 HO260 HO263 HO273 HO276 HO279 HO288 HO291 HO294 BK241 BK266 BK281 HB; have HO250 := n0_; have HO257 := n1_; have HO260 := n2_; have HO263 := n3_; have HO273 := n4_; have HO276 := n5_; have HO279 := n6_; have HO288 := n7_; have HO291 := n8_; have HO294 := n9_; have BK241 := n10_; have BK266 := n11_; have BK281 := n12_; have HB := n13_; have BK296 := n14_; have GW296 := n15_; have GE296 := n16_; have NB241_296 := n17_; have NB296_241 := n18_; have NB266_296 := n19_; have NB296_266 := n20_; have NB281_296 := n21_; have NB296_281 := n22_; clear n0_ n1_ n2_ n3_ n4_ n5_ n6_ n7_ n8_ n9_ n10_ n11_ n12_ n13_ n14_ n15_ n16_ n17_ n18_ n19_ n20_ n21_ n22_ hb hbox hg; have hnb49 := NB296_241.out; have hnc49 := NB241_296.out; have hnb50 := NB296_266.out; have hnc50 := NB266_296.out; have hnb51 := NB296_281.out; have hnc51 := NB281_296.out; have hcz52_0 : w48.cell? ⟨gb296, 0, none⟩ = some (.int .i64 0) := (blk_cell BK296.out 0).trans rfl; have hcz52_1 : w48.cell? ⟨gb296, 1, none⟩ = some (.int .i64 0) := (blk_cell BK296.out 1).trans rfl; have hcz52_2 : w48.cell? ⟨gb296, 2, none⟩ = some (.int .i64 0) := (blk_cell BK296.out 2).trans rfl; have hcz52_3 : w48.cell? ⟨gb296, 3, none⟩ = some (.int .i64 0) := (blk_cell BK296.out 3).trans rfl; have hcz52_4 : w48.cell? ⟨gb296, 4, none⟩ = some (.slice none 0 0) := (blk_cell BK296.out 4).trans rfl; have hcz52_5 : w48.cell? ⟨gb296, 5, none⟩ = some (.slice none 0 0) := (blk_cell BK296.out 5).trans rfl; have hcz52_6 : w48.cell? ⟨gb296, 6, none⟩ = some (.slice none 0 0) := (blk_cell BK296.out 6).trans rfl; have hcz52_7 : w48.cell? ⟨gb296, 7, none⟩ = some (.int .i64 0) := (blk_cell BK296.out 7).trans rfl; have hfz52_0 := blk_frozen BK296.out 0; have hfz52_1 := blk_frozen BK296.out 1; have hfz52_2 := blk_frozen BK296.out 2; have hfz52_3 := blk_frozen BK296.out 3; have hfz52_4 := blk_frozen BK296.out 4; have hfz52_5 := blk_frozen BK296.out 5; have hfz52_6 := blk_frozen BK296.out 6; have hfz52_7 := blk_frozen BK296.out 7; obtain ⟨Ao53, co53, eo53⟩ := Kd.R_slice HO288.out; subst eo53; obtain ⟨Ao54, co54, eo54⟩ := Kd.R_slice HO291.out; subst eo54; obtain ⟨Ao55, co55, eo55⟩ := Kd.R_slice HO294.out; subst eo55))
     go_loopg [12] kj3 (fun kq v12 w' => ∃ (x7_2 : List Int) (x12_2 : Int) (x267004_2 : List Int) (x267005_2 : List Int) (x267006_2 : List Int) (x282004_2 : List Int) (x282005_2 : List Int) (x282006_2 : List Int) (x297004_2 : List Int) (x297005_2 : List Int) (x297006_2 : List Int) (u267004 : Value) (u267005 : Value) (u267006 : Value) (u282004 : Value) (u282005 : Value) (u282006 : Value) (u297004 : Value) (u297005 : Value) (u297006 : Value), v12 = .int .i64 x12_2 ∧ Aside0 (regcertlaw10_ExecuteKeeps.l0 kq l1 x7_2 x12_2 t251 t252 t253 t254 x267004_2 x267005_2 x267006_2 t264 t267 t268 t269 t270 x282004_2 x282005_2 x282006_2 t280 t282 t283 t284 t285 x297004_2 x297005_2 x297006_2 t295 = some r) ∧ Aside0 (kq ≤ kj3) ∧ Aside0 (Kd.R (Kd.int .i64) 2 w' w.heap.size (fun k_ => some k_ ≠ (u267004 : Value).ownBlock ∧ some k_ ≠ (u267005 : Value).ownBlock ∧ some k_ ≠ (u267006 : Value).ownBlock ∧ some k_ ≠ (u282004 : Value).ownBlock ∧ some k_ ≠ (u282005 : Value).ownBlock ∧ some k_ ≠ (u282006 : Value).ownBlock ∧ some k_ ≠ (u297004 : Value).ownBlock ∧ some k_ ≠ (u297005 : Value).ownBlock ∧ some k_ ≠ (u297006 : Value).ownBlock) (.slice Ao29 y248.length co29) x7_2) ∧ Aside0 (Kd.R (Kd.int .i64) 2 w' w.heap.size (fun k_ => some k_ ≠ ((.slice Ao29 y248.length co29) : Value).ownBlock ∧ some k_ ≠ (u267005 : Value).ownBlock ∧ some k_ ≠ (u267006 : Value).ownBlock ∧ some k_ ≠ (u282004 : Value).ownBlock ∧ some k_ ≠ (u282005 : Value).ownBlock ∧ some k_ ≠ (u282006 : Value).ownBlock ∧ some k_ ≠ (u297004 : Value).ownBlock ∧ some k_ ≠ (u297005 : Value).ownBlock ∧ some k_ ≠ (u297006 : Value).ownBlock) u267004 x267004_2) ∧ Aside0 (Kd.R (Kd.int .i64) 2 w' w.heap.size (fun k_ => some k_ ≠ ((.slice Ao29 y248.length co29) : Value).ownBlock ∧ some k_ ≠ (u267004 : Value).ownBlock ∧ some k_ ≠ (u267006 : Value).ownBlock ∧ some k_ ≠ (u282004 : Value).ownBlock ∧ some k_ ≠ (u282005 : Value).ownBlock ∧ some k_ ≠ (u282006 : Value).ownBlock ∧ some k_ ≠ (u297004 : Value).ownBlock ∧ some k_ ≠ (u297005 : Value).ownBlock ∧ some k_ ≠ (u297006 : Value).ownBlock) u267005 x267005_2) ∧ Aside0 (Kd.R (Kd.int .i64) 2 w' w.heap.size (fun k_ => some k_ ≠ ((.slice Ao29 y248.length co29) : Value).ownBlock ∧ some k_ ≠ (u267004 : Value).ownBlock ∧ some k_ ≠ (u267005 : Value).ownBlock ∧ some k_ ≠ (u282004 : Value).ownBlock ∧ some k_ ≠ (u282005 : Value).ownBlock ∧ some k_ ≠ (u282006 : Value).ownBlock ∧ some k_ ≠ (u297004 : Value).ownBlock ∧ some k_ ≠ (u297005 : Value).ownBlock ∧ some k_ ≠ (u297006 : Value).ownBlock) u267006 x267006_2) ∧ Aside0 (Kd.R (Kd.int .i64) 2 w' w.heap.size (fun k_ => some k_ ≠ ((.slice Ao29 y248.length co29) : Value).ownBlock ∧ some k_ ≠ (u267004 : Value).ownBlock ∧ some k_ ≠ (u267005 : Value).ownBlock ∧ some k_ ≠ (u267006 : Value).ownBlock ∧ some k_ ≠ (u282005 : Value).ownBlock ∧ some k_ ≠ (u282006 : Value).ownBlock ∧ some k_ ≠ (u297004 : Value).ownBlock ∧ some k_ ≠ (u297005 : Value).ownBlock ∧ some k_ ≠ (u297006 : Value).ownBlock) u282004 x282004_2) ∧ Aside0 (Kd.R (Kd.int .i64) 2 w' w.heap.size (fun k_ => some k_ ≠ ((.slice Ao29 y248.length co29) : Value).ownBlock ∧ some k_ ≠ (u267004 : Value).ownBlock ∧ some k_ ≠ (u267005 : Value).ownBlock ∧ some k_ ≠ (u267006 : Value).ownBlock ∧ some k_ ≠ (u282004 : Value).ownBlock ∧ some k_ ≠ (u282006 : Value).ownBlock ∧ some k_ ≠ (u297004 : Value).ownBlock ∧ some k_ ≠ (u297005 : Value).ownBlock ∧ some k_ ≠ (u297006 : Value).ownBlock) u282005 x282005_2) ∧ Aside0 (Kd.R (Kd.int .i64) 2 w' w.heap.size (fun k_ => some k_ ≠ ((.slice Ao29 y248.length co29) : Value).ownBlock ∧ some k_ ≠ (u267004 : Value).ownBlock ∧ some k_ ≠ (u267005 : Value).ownBlock ∧ some k_ ≠ (u267006 : Value).ownBlock ∧ some k_ ≠ (u282004 : Value).ownBlock ∧ some k_ ≠ (u282005 : Value).ownBlock ∧ some k_ ≠ (u297004 : Value).ownBlock ∧ some k_ ≠ (u297005 : Value).ownBlock ∧ some k_ ≠ (u297006 : Value).ownBlock) u282006 x282006_2) ∧ Aside0 (Kd.R (Kd.int .i64) 2 w' w.heap.size (fun k_ => some k_ ≠ ((.slice Ao29 y248.length co29) : Value).ownBlock ∧ some k_ ≠ (u267004 : Value).ownBlock ∧ some k_ ≠ (u267005 : Value).ownBlock ∧ some k_ ≠ (u267006 : Value).ownBlock ∧ some k_ ≠ (u282004 : Value).ownBlock ∧ some k_ ≠ (u282005 : Value).ownBlock ∧ some k_ ≠ (u282006 : Value).ownBlock ∧ some k_ ≠ (u297005 : Value).ownBlock ∧ some k_ ≠ (u297006 : Value).ownBlock) u297004 x297004_2) ∧ Aside0 (Kd.R (Kd.int .i64) 2 w' w.heap.size (fun k_ => some k_ ≠ ((.slice Ao29 y248.length co29) : Value).ownBlock ∧ some k_ ≠ (u267004 : Value).ownBlock ∧ some k_ ≠ (u267005 : Value).ownBlock ∧ some k_ ≠ (u267006 : Value).ownBlock ∧ some k_ ≠ (u282004 : Value).ownBlock ∧ some k_ ≠ (u282005 : Value).ownBlock ∧ some k_ ≠ (u282006 : Value).ownBlock ∧ some k_ ≠ (u297004 : Value).ownBlock ∧ some k_ ≠ (u297006 : Value).ownBlock) u297005 x297005_2) ∧ Aside0 (Kd.R (Kd.int .i64) 2 w' w.heap.size (fun k_ => some k_ ≠ ((.slice Ao29 y248.length co29) : Value).ownBlock ∧ some k_ ≠ (u267004 : Value).ownBlock ∧ some k_ ≠ (u267005 : Value).ownBlock ∧ some k_ ≠ (u267006 : Value).ownBlock ∧ some k_ ≠ (u282004 : Value).ownBlock ∧ some k_ ≠ (u282005 : Value).ownBlock ∧ some k_ ≠ (u282006 : Value).ownBlock ∧ some k_ ≠ (u297004 : Value).ownBlock ∧ some k_ ≠ (u297005 : Value).ownBlock) u297006 x297006_2) ∧ Aside0 (w'.heap[gb241]? = some (.cells #[.int .i64 a0_0, .int .i64 a0_1, .int .i64 a0_2, (.slice A0_3 l0_3.length c0_3)] 63 (0, 0))) ∧ Aside0 (w'.heap[gb266]? = some (.cells #[.int .i64 t251, .int .i64 t252, .int .i64 t253, .int .i64 t254, u267004, u267005, u267006, .int .i64 t264] 39 (0, 0))) ∧ Aside0 (w'.heap[gb281]? = some (.cells #[.int .i64 t267, .int .i64 t268, .int .i64 t269, .int .i64 t270, u282004, u282005, u282006, .int .i64 t280] 39 (0, 0))) ∧ Aside0 (w'.heap[gb296]? = some (.cells #[.int .i64 t282, .int .i64 t283, .int .i64 t284, .int .i64 t285, u297004, u297005, u297006, .int .i64 t295] 39 (0, 0))) ∧ Aside0 (Below w.heap.size w w'))
     case atStart => exact ⟨(y248), (0), (t255), (t258), (t261), (t271), (t274), (t277), (t286), (t289), (t292), (.slice Ao34 t255.length co34), (.slice Ao35 t258.length co35), (.slice Ao36 t261.length co36), (.slice Ao42 t271.length co42), (.slice Ao43 t274.length co43), (.slice Ao44 t277.length co44), (.slice Ao53 t286.length co53), (.slice Ao54 t289.length co54), (.slice Ao55 t292.length co55), (by first | rfl | (simp; done) | (simp [*]; done)), H', ⟨Nat.le_refl _⟩, ⟨by (with_reducible repeat (first | apply Kd.R_alloc | apply Kd.R_drewN | apply Kd.R_drew)); exact Kd.R_mono (RF gb296 7 (RF gb296 6 (RF gb296 5 (RF gb296 4 (RF gb296 3 (RF gb296 2 (RF gb296 1 (RF gb296 0 (Kd.R_types HO250.out BK296.out (by decide)) (.int .i64 t282)) (.int .i64 t283)) (.int .i64 t284)) (.int .i64 t285)) (.slice Ao53 t286.length co53)) (.slice Ao54 t289.length co54)) (.slice Ao55 t292.length co55)) (.int .i64 t295)) (fun _ hk => ⟨hk.1.1.1.1.1.1.1.1.1.2, ⟨hk.1.1.1.1.1.1.1.1.2, ⟨hk.1.1.1.1.1.1.1.2, ⟨hk.1.1.1.1.1.1.2, ⟨hk.1.1.1.1.1.2, ⟨hk.1.1.1.1.2, ⟨hk.1.1.1.2, ⟨hk.1.1.2, hk.1.2⟩⟩⟩⟩⟩⟩⟩⟩)⟩, ⟨by (with_reducible repeat (first | apply Kd.R_alloc | apply Kd.R_drewN | apply Kd.R_drew)); exact Kd.R_mono (RF gb296 7 (RF gb296 6 (RF gb296 5 (RF gb296 4 (RF gb296 3 (RF gb296 2 (RF gb296 1 (RF gb296 0 (Kd.R_types HO257.out BK296.out (by decide)) (.int .i64 t282)) (.int .i64 t283)) (.int .i64 t284)) (.int .i64 t285)) (.slice Ao53 t286.length co53)) (.slice Ao54 t289.length co54)) (.slice Ao55 t292.length co55)) (.int .i64 t295)) (fun _ hk => ⟨hk.1.1.1.1.1.1.1.2, ⟨hk.1.1.1.1.1.1.1.1.1, ⟨hk.1.1.1.1.1.1.1.1.2, ⟨hk.1.1.1.1.1.1.2, ⟨hk.1.1.1.1.1.2, ⟨hk.1.1.1.1.2, ⟨hk.1.1.1.2, ⟨hk.1.1.2, hk.1.2⟩⟩⟩⟩⟩⟩⟩⟩)⟩, ⟨by (with_reducible repeat (first | apply Kd.R_alloc | apply Kd.R_drewN | apply Kd.R_drew)); exact Kd.R_mono (RF gb296 7 (RF gb296 6 (RF gb296 5 (RF gb296 4 (RF gb296 3 (RF gb296 2 (RF gb296 1 (RF gb296 0 (Kd.R_types HO260.out BK296.out (by decide)) (.int .i64 t282)) (.int .i64 t283)) (.int .i64 t284)) (.int .i64 t285)) (.slice Ao53 t286.length co53)) (.slice Ao54 t289.length co54)) (.slice Ao55 t292.length co55)) (.int .i64 t295)) (fun _ hk => ⟨hk.1.1.1.1.1.1.1.2, ⟨hk.1.1.1.1.1.1.1.1.1, ⟨hk.1.1.1.1.1.1.1.1.2, ⟨hk.1.1.1.1.1.1.2, ⟨hk.1.1.1.1.1.2, ⟨hk.1.1.1.1.2, ⟨hk.1.1.1.2, ⟨hk.1.1.2, hk.1.2⟩⟩⟩⟩⟩⟩⟩⟩)⟩, ⟨by (with_reducible repeat (first | apply Kd.R_alloc | apply Kd.R_drewN | apply Kd.R_drew)); exact Kd.R_mono (RF gb296 7 (RF gb296 6 (RF gb296 5 (RF gb296 4 (RF gb296 3 (RF gb296 2 (RF gb296 1 (RF gb296 0 (Kd.R_types HO263.out BK296.out (by decide)) (.int .i64 t282)) (.int .i64 t283)) (.int .i64 t284)) (.int .i64 t285)) (.slice Ao53 t286.length co53)) (.slice Ao54 t289.length co54)) (.slice Ao55 t292.length co55)) (.int .i64 t295)) (fun _ hk => ⟨hk.1.1.1.1.1.1.1.2, ⟨hk.1.1.1.1.1.1.1.1.1, ⟨hk.1.1.1.1.1.1.1.1.2, ⟨hk.1.1.1.1.1.1.2, ⟨hk.1.1.1.1.1.2, ⟨hk.1.1.1.1.2, ⟨hk.1.1.1.2, ⟨hk.1.1.2, hk.1.2⟩⟩⟩⟩⟩⟩⟩⟩)⟩, ⟨by (with_reducible repeat (first | apply Kd.R_alloc | apply Kd.R_drewN | apply Kd.R_drew)); exact Kd.R_mono (RF gb296 7 (RF gb296 6 (RF gb296 5 (RF gb296 4 (RF gb296 3 (RF gb296 2 (RF gb296 1 (RF gb296 0 (Kd.R_types HO273.out BK296.out (by decide)) (.int .i64 t282)) (.int .i64 t283)) (.int .i64 t284)) (.int .i64 t285)) (.slice Ao53 t286.length co53)) (.slice Ao54 t289.length co54)) (.slice Ao55 t292.length co55)) (.int .i64 t295)) (fun _ hk => ⟨hk.1.1.1.1.1.1.1.2, ⟨hk.1.1.1.1.1.1.2, ⟨hk.1.1.1.1.1.2, ⟨hk.1.1.1.1.2, ⟨hk.1.1.1.1.1.1.1.1.1, ⟨hk.1.1.1.1.1.1.1.1.2, ⟨hk.1.1.1.2, ⟨hk.1.1.2, hk.1.2⟩⟩⟩⟩⟩⟩⟩⟩)⟩, ⟨by (with_reducible repeat (first | apply Kd.R_alloc | apply Kd.R_drewN | apply Kd.R_drew)); exact Kd.R_mono (RF gb296 7 (RF gb296 6 (RF gb296 5 (RF gb296 4 (RF gb296 3 (RF gb296 2 (RF gb296 1 (RF gb296 0 (Kd.R_types HO276.out BK296.out (by decide)) (.int .i64 t282)) (.int .i64 t283)) (.int .i64 t284)) (.int .i64 t285)) (.slice Ao53 t286.length co53)) (.slice Ao54 t289.length co54)) (.slice Ao55 t292.length co55)) (.int .i64 t295)) (fun _ hk => ⟨hk.1.1.1.1.1.1.1.2, ⟨hk.1.1.1.1.1.1.2, ⟨hk.1.1.1.1.1.2, ⟨hk.1.1.1.1.2, ⟨hk.1.1.1.1.1.1.1.1.1, ⟨hk.1.1.1.1.1.1.1.1.2, ⟨hk.1.1.1.2, ⟨hk.1.1.2, hk.1.2⟩⟩⟩⟩⟩⟩⟩⟩)⟩, ⟨by (with_reducible repeat (first | apply Kd.R_alloc | apply Kd.R_drewN | apply Kd.R_drew)); exact Kd.R_mono (RF gb296 7 (RF gb296 6 (RF gb296 5 (RF gb296 4 (RF gb296 3 (RF gb296 2 (RF gb296 1 (RF gb296 0 (Kd.R_types HO279.out BK296.out (by decide)) (.int .i64 t282)) (.int .i64 t283)) (.int .i64 t284)) (.int .i64 t285)) (.slice Ao53 t286.length co53)) (.slice Ao54 t289.length co54)) (.slice Ao55 t292.length co55)) (.int .i64 t295)) (fun _ hk => ⟨hk.1.1.1.1.1.1.1.2, ⟨hk.1.1.1.1.1.1.2, ⟨hk.1.1.1.1.1.2, ⟨hk.1.1.1.1.2, ⟨hk.1.1.1.1.1.1.1.1.1, ⟨hk.1.1.1.1.1.1.1.1.2, ⟨hk.1.1.1.2, ⟨hk.1.1.2, hk.1.2⟩⟩⟩⟩⟩⟩⟩⟩)⟩, ⟨by (with_reducible repeat (first | apply Kd.R_alloc | apply Kd.R_drewN | apply Kd.R_drew)); exact Kd.R_mono (RF gb296 7 (RF gb296 6 (RF gb296 5 (RF gb296 4 (RF gb296 3 (RF gb296 2 (RF gb296 1 (RF gb296 0 (Kd.R_types HO288.out BK296.out (by decide)) (.int .i64 t282)) (.int .i64 t283)) (.int .i64 t284)) (.int .i64 t285)) (.slice Ao53 t286.length co53)) (.slice Ao54 t289.length co54)) (.slice Ao55 t292.length co55)) (.int .i64 t295)) (fun _ hk => ⟨hk.1.1.1.1.1.1.1.2, ⟨hk.1.1.1.1.1.1.2, ⟨hk.1.1.1.1.1.2, ⟨hk.1.1.1.1.2, ⟨hk.1.1.1.2, ⟨hk.1.1.2, ⟨hk.1.2, ⟨hk.1.1.1.1.1.1.1.1.1, hk.1.1.1.1.1.1.1.1.2⟩⟩⟩⟩⟩⟩⟩⟩)⟩, ⟨by (with_reducible repeat (first | apply Kd.R_alloc | apply Kd.R_drewN | apply Kd.R_drew)); exact Kd.R_mono (RF gb296 7 (RF gb296 6 (RF gb296 5 (RF gb296 4 (RF gb296 3 (RF gb296 2 (RF gb296 1 (RF gb296 0 (Kd.R_types HO291.out BK296.out (by decide)) (.int .i64 t282)) (.int .i64 t283)) (.int .i64 t284)) (.int .i64 t285)) (.slice Ao53 t286.length co53)) (.slice Ao54 t289.length co54)) (.slice Ao55 t292.length co55)) (.int .i64 t295)) (fun _ hk => ⟨hk.1.1.1.1.1.1.1.2, ⟨hk.1.1.1.1.1.1.2, ⟨hk.1.1.1.1.1.2, ⟨hk.1.1.1.1.2, ⟨hk.1.1.1.2, ⟨hk.1.1.2, ⟨hk.1.2, ⟨hk.1.1.1.1.1.1.1.1.1, hk.1.1.1.1.1.1.1.1.2⟩⟩⟩⟩⟩⟩⟩⟩)⟩, ⟨by (with_reducible repeat (first | apply Kd.R_alloc | apply Kd.R_drewN | apply Kd.R_drew)); exact Kd.R_mono (RF gb296 7 (RF gb296 6 (RF gb296 5 (RF gb296 4 (RF gb296 3 (RF gb296 2 (RF gb296 1 (RF gb296 0 (Kd.R_types HO294.out BK296.out (by decide)) (.int .i64 t282)) (.int .i64 t283)) (.int .i64 t284)) (.int .i64 t285)) (.slice Ao53 t286.length co53)) (.slice Ao54 t289.length co54)) (.slice Ao55 t292.length co55)) (.int .i64 t295)) (fun _ hk => ⟨hk.1.1.1.1.1.1.1.2, ⟨hk.1.1.1.1.1.1.2, ⟨hk.1.1.1.1.1.2, ⟨hk.1.1.1.1.2, ⟨hk.1.1.1.2, ⟨hk.1.1.2, ⟨hk.1.2, ⟨hk.1.1.1.1.1.1.1.1.1, hk.1.1.1.1.1.1.1.1.2⟩⟩⟩⟩⟩⟩⟩⟩)⟩, ⟨by (with_reducible repeat (first | refine blk_drewN ?_ _ | refine blk_drew ?_ | refine blk_alloc ?_ _)); refine blk_far ?_ NB241_296.out _; (with_reducible repeat (first | refine blk_drewN ?_ _ | refine blk_drew ?_ | refine blk_alloc ?_ _)); refine blk_far ?_ NB241_296.out _; (with_reducible repeat (first | refine blk_drewN ?_ _ | refine blk_drew ?_ | refine blk_alloc ?_ _)); refine blk_far ?_ NB241_296.out _; (with_reducible repeat (first | refine blk_drewN ?_ _ | refine blk_drew ?_ | refine blk_alloc ?_ _)); refine blk_far ?_ NB241_296.out _; (with_reducible repeat (first | refine blk_drewN ?_ _ | refine blk_drew ?_ | refine blk_alloc ?_ _)); refine blk_far ?_ NB241_296.out _; (with_reducible repeat (first | refine blk_drewN ?_ _ | refine blk_drew ?_ | refine blk_alloc ?_ _)); refine blk_far ?_ NB241_296.out _; (with_reducible repeat (first | refine blk_drewN ?_ _ | refine blk_drew ?_ | refine blk_alloc ?_ _)); refine blk_far ?_ NB241_296.out _; (with_reducible repeat (first | refine blk_drewN ?_ _ | refine blk_drew ?_ | refine blk_alloc ?_ _)); refine blk_far ?_ NB241_296.out _; (with_reducible repeat (first | refine blk_drewN ?_ _ | refine blk_drew ?_ | refine blk_alloc ?_ _)); exact BK241.out⟩, ⟨by (with_reducible repeat (first | refine blk_drewN ?_ _ | refine blk_drew ?_ | refine blk_alloc ?_ _)); refine blk_far ?_ NB266_296.out _; (with_reducible repeat (first | refine blk_drewN ?_ _ | refine blk_drew ?_ | refine blk_alloc ?_ _)); refine blk_far ?_ NB266_296.out _; (with_reducible repeat (first | refine blk_drewN ?_ _ | refine blk_drew ?_ | refine blk_alloc ?_ _)); refine blk_far ?_ NB266_296.out _; (with_reducible repeat (first | refine blk_drewN ?_ _ | refine blk_drew ?_ | refine blk_alloc ?_ _)); refine blk_far ?_ NB266_296.out _; (with_reducible repeat (first | refine blk_drewN ?_ _ | refine blk_drew ?_ | refine blk_alloc ?_ _)); refine blk_far ?_ NB266_296.out _; (with_reducible repeat (first | refine blk_drewN ?_ _ | refine blk_drew ?_ | refine blk_alloc ?_ _)); refine blk_far ?_ NB266_296.out _; (with_reducible repeat (first | refine blk_drewN ?_ _ | refine blk_drew ?_ | refine blk_alloc ?_ _)); refine blk_far ?_ NB266_296.out _; (with_reducible repeat (first | refine blk_drewN ?_ _ | refine blk_drew ?_ | refine blk_alloc ?_ _)); refine blk_far ?_ NB266_296.out _; (with_reducible repeat (first | refine blk_drewN ?_ _ | refine blk_drew ?_ | refine blk_alloc ?_ _)); exact BK266.out⟩, ⟨by (with_reducible repeat (first | refine blk_drewN ?_ _ | refine blk_drew ?_ | refine blk_alloc ?_ _)); refine blk_far ?_ NB281_296.out _; (with_reducible repeat (first | refine blk_drewN ?_ _ | refine blk_drew ?_ | refine blk_alloc ?_ _)); refine blk_far ?_ NB281_296.out _; (with_reducible repeat (first | refine blk_drewN ?_ _ | refine blk_drew ?_ | refine blk_alloc ?_ _)); refine blk_far ?_ NB281_296.out _; (with_reducible repeat (first | refine blk_drewN ?_ _ | refine blk_drew ?_ | refine blk_alloc ?_ _)); refine blk_far ?_ NB281_296.out _; (with_reducible repeat (first | refine blk_drewN ?_ _ | refine blk_drew ?_ | refine blk_alloc ?_ _)); refine blk_far ?_ NB281_296.out _; (with_reducible repeat (first | refine blk_drewN ?_ _ | refine blk_drew ?_ | refine blk_alloc ?_ _)); refine blk_far ?_ NB281_296.out _; (with_reducible repeat (first | refine blk_drewN ?_ _ | refine blk_drew ?_ | refine blk_alloc ?_ _)); refine blk_far ?_ NB281_296.out _; (with_reducible repeat (first | refine blk_drewN ?_ _ | refine blk_drew ?_ | refine blk_alloc ?_ _)); refine blk_far ?_ NB281_296.out _; (with_reducible repeat (first | refine blk_drewN ?_ _ | refine blk_drew ?_ | refine blk_alloc ?_ _)); exact BK281.out⟩, ⟨by (with_reducible repeat (first | refine blk_drewN ?_ _ | refine blk_drew ?_ | refine blk_alloc ?_ _)); refine blk_put (cs := #[.int .i64 t282, .int .i64 t283, .int .i64 t284, .int .i64 t285, .slice Ao53 t286.length co53, .slice Ao54 t289.length co54, .slice Ao55 t292.length co55, .int .i64 0]) ?_ 7 _ rfl; (with_reducible repeat (first | refine blk_drewN ?_ _ | refine blk_drew ?_ | refine blk_alloc ?_ _)); refine blk_put (cs := #[.int .i64 t282, .int .i64 t283, .int .i64 t284, .int .i64 t285, .slice Ao53 t286.length co53, .slice Ao54 t289.length co54, .slice none 0 0, .int .i64 0]) ?_ 6 _ rfl; (with_reducible repeat (first | refine blk_drewN ?_ _ | refine blk_drew ?_ | refine blk_alloc ?_ _)); refine blk_put (cs := #[.int .i64 t282, .int .i64 t283, .int .i64 t284, .int .i64 t285, .slice Ao53 t286.length co53, .slice none 0 0, .slice none 0 0, .int .i64 0]) ?_ 5 _ rfl; (with_reducible repeat (first | refine blk_drewN ?_ _ | refine blk_drew ?_ | refine blk_alloc ?_ _)); refine blk_put (cs := #[.int .i64 t282, .int .i64 t283, .int .i64 t284, .int .i64 t285, .slice none 0 0, .slice none 0 0, .slice none 0 0, .int .i64 0]) ?_ 4 _ rfl; (with_reducible repeat (first | refine blk_drewN ?_ _ | refine blk_drew ?_ | refine blk_alloc ?_ _)); refine blk_put (cs := #[.int .i64 t282, .int .i64 t283, .int .i64 t284, .int .i64 0, .slice none 0 0, .slice none 0 0, .slice none 0 0, .int .i64 0]) ?_ 3 _ rfl; (with_reducible repeat (first | refine blk_drewN ?_ _ | refine blk_drew ?_ | refine blk_alloc ?_ _)); refine blk_put (cs := #[.int .i64 t282, .int .i64 t283, .int .i64 0, .int .i64 0, .slice none 0 0, .slice none 0 0, .slice none 0 0, .int .i64 0]) ?_ 2 _ rfl; (with_reducible repeat (first | refine blk_drewN ?_ _ | refine blk_drew ?_ | refine blk_alloc ?_ _)); refine blk_put (cs := #[.int .i64 t282, .int .i64 0, .int .i64 0, .int .i64 0, .slice none 0 0, .slice none 0 0, .slice none 0 0, .int .i64 0]) ?_ 1 _ rfl; (with_reducible repeat (first | refine blk_drewN ?_ _ | refine blk_drew ?_ | refine blk_alloc ?_ _)); refine blk_put (cs := #[.int .i64 0, .int .i64 0, .int .i64 0, .int .i64 0, .slice none 0 0, .slice none 0 0, .slice none 0 0, .int .i64 0]) ?_ 0 _ rfl; (with_reducible repeat (first | refine blk_drewN ?_ _ | refine blk_drew ?_ | refine blk_alloc ?_ _)); exact BK296.out⟩, ⟨by repeat (first | (with_reducible first | exact HB.out | apply below_alloc | apply bdN | apply bd1 | refine below_set ?_ GE241.out | refine below_set ?_ GE266.out | refine below_set ?_ GE281.out | refine below_set ?_ GE296.out) | exact HB.out)⟩⟩
     case round =>
      clear H'
      try clear c1
      try clear c2
      try clear p2
      try clear c3
      try clear c4
      try clear c5
      try clear p6
      try clear c7
      try clear c9
      try clear c18
      try clear c21
      try clear c32
      try clear c38
      try clear c39
      try clear c40
      try clear c44
      try clear c46
      try clear c49
      try clear c50
      try clear c51
      try clear hcz11_0
      try clear hcz11_1
      try clear hcz11_2
      try clear hcz11_3
      try clear hcz13_0
      try clear hcz13_1
      try clear hcz13_2
      try clear hcz13_3
      try clear hcz15_0
      try clear hcz15_1
      try clear hcz15_2
      try clear hcz15_3
      try clear hcz28_0
      try clear hcz28_1
      try clear hcz28_2
      try clear hcz28_3
      try clear hcz33_0
      try clear hcz33_1
      try clear hcz33_2
      try clear hcz33_3
      try clear hcz33_4
      try clear hcz33_5
      try clear hcz33_6
      try clear hcz33_7
      try clear hcz41_0
      try clear hcz41_1
      try clear hcz41_2
      try clear hcz41_3
      try clear hcz41_4
      try clear hcz41_5
      try clear hcz41_6
      try clear hcz41_7
      try clear hcz45_0
      try clear hcz45_1
      try clear hcz45_2
      try clear hcz45_3
      try clear hcz46_0
      try clear hcz46_1
      try clear hcz46_2
      try clear hcz46_3
      try clear hcz46_4
      try clear hcz46_5
      try clear hcz46_6
      try clear hcz46_7
      try clear hcz52_0
      try clear hcz52_1
      try clear hcz52_2
      try clear hcz52_3
      try clear hcz52_4
      try clear hcz52_5
      try clear hcz52_6
      try clear hcz52_7
      try clear hfz11_0
      try clear hfz11_1
      try clear hfz11_2
      try clear hfz11_3
      try clear hfz13_0
      try clear hfz13_1
      try clear hfz13_2
      try clear hfz13_3
      try clear hfz15_0
      try clear hfz15_1
      try clear hfz15_2
      try clear hfz15_3
      try clear hfz28_0
      try clear hfz28_1
      try clear hfz28_2
      try clear hfz28_3
      try clear hfz33_0
      try clear hfz33_1
      try clear hfz33_2
      try clear hfz33_3
      try clear hfz33_4
      try clear hfz33_5
      try clear hfz33_6
      try clear hfz33_7
      try clear hfz41_0
      try clear hfz41_1
      try clear hfz41_2
      try clear hfz41_3
      try clear hfz41_4
      try clear hfz41_5
      try clear hfz41_6
      try clear hfz41_7
      try clear hfz45_0
      try clear hfz45_1
      try clear hfz45_2
      try clear hfz45_3
      try clear hfz46_0
      try clear hfz46_1
      try clear hfz46_2
      try clear hfz46_3
      try clear hfz46_4
      try clear hfz46_5
      try clear hfz46_6
      try clear hfz46_7
      try clear hfz52_0
      try clear hfz52_1
      try clear hfz52_2
      try clear hfz52_3
      try clear hfz52_4
      try clear hfz52_5
      try clear hfz52_6
      try clear hfz52_7
      try clear p2
      obtain ⟨x7_2, x12_2, x267004_2, x267005_2, x267006_2, x282004_2, x282005_2, x282006_2, x297004_2, x297005_2, x297006_2, u267004, u267005, u267006, u282004, u282005, u282006, u297004, u297005, u297006, rfl, HA, HK2, HO_7, HO_267004, HO_267005, HO_267006, HO_282004, HO_282005, HO_282006, HO_297004, HO_297005, HO_297006, BK241, BK266, BK281, BK296, HB⟩ := hrel
      have hl7_2 := (Kd.R_reads' HO_7.out).1
      rw [hl7_2] at HO_7
      (try simp only [hl7_2])
      (try simp only [hl7_2] at BK241)
      (try simp only [hl7_2] at BK266)
      (try simp only [hl7_2] at BK281)
      (try simp only [hl7_2] at BK296)
      (try simp only [hl7_2] at HO_267004)
      (try simp only [hl7_2] at HO_267005)
      (try simp only [hl7_2] at HO_267006)
      (try simp only [hl7_2] at HO_282004)
      (try simp only [hl7_2] at HO_282005)
      (try simp only [hl7_2] at HO_282006)
      (try simp only [hl7_2] at HO_297004)
      (try simp only [hl7_2] at HO_297005)
      (try simp only [hl7_2] at HO_297006)
      cases gk with
      | zero => exact absurd HA.out (by simp [regcertlaw10_ExecuteKeeps.l0])
      | succ k2 =>
       have H := HA.out
       clear HA
       simp only [regcertlaw10_ExecuteKeeps.l0] at H
       by_cases c56 : x12_2 < (x297004_2.length : Int)
       ·rw [if_pos c56] at H
        have c56b0 : decide (x12_2 < (x297004_2.length : Int)) = true := decide_eq_true c56
        clear c56
        by_cases c57 : 0 ≤ x12_2
        ·rw [if_pos c57] at H
         have c57b0 : decide (0 ≤ x12_2) = true := decide_eq_true c57
         clear c57
         obtain ⟨y298, hy298⟩ : ∃ y_ : List Int, y_ = (x297004_2.set (x12_2 : Int).toNat (wrap64 ((rd x297004_2 x12_2) + 1))) := ⟨_, rfl⟩
         replace H : (regcertlaw10_ExecuteKeeps.l0 k2 l1 x7_2 (wrap64 (x12_2 + 1)) t251 t252 t253 t254 x267004_2 x267005_2 x267006_2 t264 t267 t268 t269 t270 x282004_2 x282005_2 x282006_2 t280 t282 t283 t284 t285 y298 x297005_2 x297006_2 t295) = some r := by first | (rw [hy298]; with_reducible exact H) | (have H2_ := (Option.bind_some _ _).symm.trans H; rw [hy298]; with_reducible exact H2_) | (have H2_ := (Option.bind_some _ _).symm.trans H; with_reducible exact H2_) | with_reducible exact H | (rw [hy298]; exact H) | exact H
         have Ny298 := As0 hy298
         clear hy298
         have H' := As0 H
         clear H
         have hnb59 := NB296_241.out
         have hnc59 := NB241_296.out
         have hnb60 := NB296_266.out
         have hnc60 := NB266_296.out
         have hnb61 := NB296_281.out
         have hnc61 := NB281_296.out
         have hcz62_0 : wr.cell? ⟨gb296, 0, none⟩ = some (.int .i64 t282) := (blk_cell BK296.out 0).trans rfl
         have hcz62_1 : wr.cell? ⟨gb296, 1, none⟩ = some (.int .i64 t283) := (blk_cell BK296.out 1).trans rfl
         have hcz62_2 : wr.cell? ⟨gb296, 2, none⟩ = some (.int .i64 t284) := (blk_cell BK296.out 2).trans rfl
         have hcz62_3 : wr.cell? ⟨gb296, 3, none⟩ = some (.int .i64 t285) := (blk_cell BK296.out 3).trans rfl
         have hcz62_4 : wr.cell? ⟨gb296, 4, none⟩ = some (u297004) := (blk_cell BK296.out 4).trans rfl
         have hcz62_5 : wr.cell? ⟨gb296, 5, none⟩ = some (u297005) := (blk_cell BK296.out 5).trans rfl
         have hcz62_6 : wr.cell? ⟨gb296, 6, none⟩ = some (u297006) := (blk_cell BK296.out 6).trans rfl
         have hcz62_7 : wr.cell? ⟨gb296, 7, none⟩ = some (.int .i64 t295) := (blk_cell BK296.out 7).trans rfl
         have hfz62_0 := blk_frozen BK296.out 0
         have hfz62_1 := blk_frozen BK296.out 1
         have hfz62_2 := blk_frozen BK296.out 2
         have hfz62_3 := blk_frozen BK296.out 3
         have hfz62_4 := blk_frozen BK296.out 4
         have hfz62_5 := blk_frozen BK296.out 5
         have hfz62_6 := blk_frozen BK296.out 6
         have hfz62_7 := blk_frozen BK296.out 7
         obtain ⟨Ao63, co63, eo63⟩ := Kd.R_slice HO_297004.out
         subst eo63
         have p297 : 0 ≤ (x12_2 : Int) := of_decide_eq_true (by first | (with_reducible assumption) | assumption)
         have q297 : x12_2 < (x297004_2.length : Int) := of_decide_eq_true (by first | (with_reducible assumption) | assumption)
         obtain ⟨ad297, e297, hx297_0⟩ := Kd.at_int (Kd.R_reads' HO_297004.out).2.2 x12_2 p297 q297
         cases e297
         replace p297 := eq_true p297
         replace q297 := eq_true q297
         have p58 : 0 ≤ (x12_2 : Int) := of_decide_eq_true (by first | (with_reducible assumption) | assumption)
         have q58 : (x12_2 : Int) < ((x297004_2.length : Int) : Int) := of_decide_eq_true (by first | (with_reducible assumption) | assumption)
         obtain ⟨go58, co58, eo58, gb58, gl58, cl58, HG58⟩ := Kd.R_form HO_297004.out (by omega)
         (first | cases eo58 | (injection eo58 with ea_ en_ ec_; (first | subst ea_ | (injection ea_ with ea_; subst ea_)); subst ec_; clear en_))
         have GB58 := As0 gb58
         have GG58 := As0 HG58
         clear gb58 gl58 HG58
         (first | simp only [add_plain] at hx297_0 | skip)
         obtain ⟨hx58_0, hf58_0⟩ := Kd.R_celln 0 HO_297004.out (x12_2 : Int) p58 q58
         replace p58 := eq_true p58
         replace q58 := eq_true q58
         have HP64 := Kd.R_putg HO_297004.out (x12_2 : Int) (wrap64 ((rd x297004_2 x12_2) + 1))
         go_wp2_with (first | ((with_reducible refine gate_store (t := 2) (p := 63) rfl ?_); refine store_event (t := 2) (p := 63) (v := ?vo_w65) (w1 := (wr.setCell ⟨go58, (x12_2 : Int).toNat, none⟩ (.int .i64 (wrap64 ((rd x297004_2 x12_2) + 1))))) ?hg ?ho ?hn ?hr ?_; (case ho => rfl); (case hg => rfl); (case hn => rfl); (case hr => first | (go_simp; done) | (go_simp; rfl)); intro w65 hw; have hg : wr.grownBy w65 (some go58) := (by rw [hw]; exact HP64.2); have hp_ : Kd.R (Kd.int .i64) 2 w65 w.heap.size (fun k_ => some k_ ≠ (.slice Ao29 x7_2.length co29 : Value).ownBlock ∧ some k_ ≠ (u267004 : Value).ownBlock ∧ some k_ ≠ (u267005 : Value).ownBlock ∧ some k_ ≠ (u267006 : Value).ownBlock ∧ some k_ ≠ (u282004 : Value).ownBlock ∧ some k_ ≠ (u282005 : Value).ownBlock ∧ some k_ ≠ (u282006 : Value).ownBlock ∧ some k_ ≠ (u297005 : Value).ownBlock ∧ some k_ ≠ (u297006 : Value).ownBlock) (.slice (some ⟨go58, 0, none⟩) x297004_2.length co63) y298 := (by rw [hw, Ny298.out]; exact HP64.1); clear HP64; have n0_ := As0 (Kd.R_after (v := (.slice (some ⟨go58, 0, none⟩) x297004_2.length co63)) (v1 := (.slice (some ⟨go58, 0, none⟩) x297004_2.length co63)) (ok := (fun k_ => some k_ ≠ (u267004 : Value).ownBlock ∧ some k_ ≠ (u267005 : Value).ownBlock ∧ some k_ ≠ (u267006 : Value).ownBlock ∧ some k_ ≠ (u282004 : Value).ownBlock ∧ some k_ ≠ (u282005 : Value).ownBlock ∧ some k_ ≠ (u282006 : Value).ownBlock ∧ some k_ ≠ (u297005 : Value).ownBlock ∧ some k_ ≠ (u297006 : Value).ownBlock)) (by (with_reducible repeat (first | apply Kd.R_alloc | apply Kd.R_drewN | apply Kd.R_drew)); exact Kd.R_mono HO_7.out (fun _ hk => ⟨⟨hk.1, ⟨hk.2.1, ⟨hk.2.2.1, ⟨hk.2.2.2.1, ⟨hk.2.2.2.2.1, ⟨hk.2.2.2.2.2.1, ⟨hk.2.2.2.2.2.2.2.1, hk.2.2.2.2.2.2.2.2⟩⟩⟩⟩⟩⟩⟩, hk.2.2.2.2.2.2.1⟩)) hg (.inl rfl)); have n1_ := As0 (Kd.R_after (v := (.slice (some ⟨go58, 0, none⟩) x297004_2.length co63)) (v1 := (.slice (some ⟨go58, 0, none⟩) x297004_2.length co63)) (ok := (fun k_ => some k_ ≠ (.slice Ao29 x7_2.length co29 : Value).ownBlock ∧ some k_ ≠ (u267005 : Value).ownBlock ∧ some k_ ≠ (u267006 : Value).ownBlock ∧ some k_ ≠ (u282004 : Value).ownBlock ∧ some k_ ≠ (u282005 : Value).ownBlock ∧ some k_ ≠ (u282006 : Value).ownBlock ∧ some k_ ≠ (u297005 : Value).ownBlock ∧ some k_ ≠ (u297006 : Value).ownBlock)) (by (with_reducible repeat (first | apply Kd.R_alloc | apply Kd.R_drewN | apply Kd.R_drew)); exact Kd.R_mono HO_267004.out (fun _ hk => ⟨⟨hk.1, ⟨hk.2.1, ⟨hk.2.2.1, ⟨hk.2.2.2.1, ⟨hk.2.2.2.2.1, ⟨hk.2.2.2.2.2.1, ⟨hk.2.2.2.2.2.2.2.1, hk.2.2.2.2.2.2.2.2⟩⟩⟩⟩⟩⟩⟩, hk.2.2.2.2.2.2.1⟩)) hg (.inl rfl)); have n2_ := As0 (Kd.R_after (v := (.slice (some ⟨go58, 0, none⟩) x297004_2.length co63)) (v1 := (.slice (some ⟨go58, 0, none⟩) x297004_2.length co63)) (ok := (fun k_ => some k_ ≠ (.slice Ao29 x7_2.length co29 : Value).ownBlock ∧ some k_ ≠ (u267004 : Value).ownBlock ∧ some k_ ≠ (u267006 : Value).ownBlock ∧ some k_ ≠ (u282004 : Value).ownBlock ∧ some k_ ≠ (u282005 : Value).ownBlock ∧ some k_ ≠ (u282006 : Value).ownBlock ∧ some k_ ≠ (u297005 : Value).ownBlock ∧ some k_ ≠ (u297006 : Value).ownBlock)) (by (with_reducible repeat (first | apply Kd.R_alloc | apply Kd.R_drewN | apply Kd.R_drew)); exact Kd.R_mono HO_267005.out (fun _ hk => ⟨⟨hk.1, ⟨hk.2.1, ⟨hk.2.2.1, ⟨hk.2.2.2.1, ⟨hk.2.2.2.2.1, ⟨hk.2.2.2.2.2.1, ⟨hk.2.2.2.2.2.2.2.1, hk.2.2.2.2.2.2.2.2⟩⟩⟩⟩⟩⟩⟩, hk.2.2.2.2.2.2.1⟩)) hg (.inl rfl)); have n3_ := As0 (Kd.R_after (v := (.slice (some ⟨go58, 0, none⟩) x297004_2.length co63)) (v1 := (.slice (some ⟨go58, 0, none⟩) x297004_2.length co63)) (ok := (fun k_ => some k_ ≠ (.slice Ao29 x7_2.length co29 : Value).ownBlock ∧ some k_ ≠ (u267004 : Value).ownBlock ∧ some k_ ≠ (u267005 : Value).ownBlock ∧ some k_ ≠ (u282004 : Value).ownBlock ∧ some k_ ≠ (u282005 : Value).ownBlock ∧ some k_ ≠ (u282006 : Value).ownBlock ∧ some k_ ≠ (u297005 : Value).ownBlock ∧ some k_ ≠ (u297006 : Value).ownBlock)) (by (with_reducible repeat (first | apply Kd.R_alloc | apply Kd.R_drewN | apply Kd.R_drew)); exact Kd.R_mono HO_267006.out (fun _ hk => ⟨⟨hk.1, ⟨hk.2.1, ⟨hk.2.2.1, ⟨hk.2.2.2.1, ⟨hk.2.2.2.2.1, ⟨hk.2.2.2.2.2.1, ⟨hk.2.2.2.2.2.2.2.1, hk.2.2.2.2.2.2.2.2⟩⟩⟩⟩⟩⟩⟩, hk.2.2.2.2.2.2.1⟩)) hg (.inl rfl)); have n4_ := As0 (Kd.R_after (v := (.slice (some ⟨go58, 0, none⟩) x297004_2.length co63)) (v1 := (.slice (some ⟨go58, 0, none⟩) x297004_2.length co63)) (ok := (fun k_ => some k_ ≠ (.slice Ao29 x7_2.length co29 : Value).ownBlock ∧ some k_ ≠ (u267004 : Value).ownBlock ∧ some k_ ≠ (u267005 : Value).ownBlock ∧ some k_ ≠ (u267006 : Value).ownBlock ∧ some k_ ≠ (u282005 : Value).ownBlock ∧ some k_ ≠ (u282006 : Value).ownBlock ∧ some k_ ≠ (u297005 : Value).ownBlock ∧ some k_ ≠ (u297006 : Value).ownBlock)) (by (with_reducible repeat (first | apply Kd.R_alloc | apply Kd.R_drewN | apply Kd.R_drew)); exact Kd.R_mono HO_282004.out (fun _ hk => ⟨⟨hk.1, ⟨hk.2.1, ⟨hk.2.2.1, ⟨hk.2.2.2.1, ⟨hk.2.2.2.2.1, ⟨hk.2.2.2.2.2.1, ⟨hk.2.2.2.2.2.2.2.1, hk.2.2.2.2.2.2.2.2⟩⟩⟩⟩⟩⟩⟩, hk.2.2.2.2.2.2.1⟩)) hg (.inl rfl)); have n5_ := As0 (Kd.R_after (v := (.slice (some ⟨go58, 0, none⟩) x297004_2.length co63)) (v1 := (.slice (some ⟨go58, 0, none⟩) x297004_2.length co63)) (ok := (fun k_ => some k_ ≠ (.slice Ao29 x7_2.length co29 : Value).ownBlock ∧ some k_ ≠ (u267004 : Value).ownBlock ∧ some k_ ≠ (u267005 : Value).ownBlock ∧ some k_ ≠ (u267006 : Value).ownBlock ∧ some k_ ≠ (u282004 : Value).ownBlock ∧ some k_ ≠ (u282006 : Value).ownBlock ∧ some k_ ≠ (u297005 : Value).ownBlock ∧ some k_ ≠ (u297006 : Value).ownBlock)) (by (with_reducible repeat (first | apply Kd.R_alloc | apply Kd.R_drewN | apply Kd.R_drew)); exact Kd.R_mono HO_282005.out (fun _ hk => ⟨⟨hk.1, ⟨hk.2.1, ⟨hk.2.2.1, ⟨hk.2.2.2.1, ⟨hk.2.2.2.2.1, ⟨hk.2.2.2.2.2.1, ⟨hk.2.2.2.2.2.2.2.1, hk.2.2.2.2.2.2.2.2⟩⟩⟩⟩⟩⟩⟩, hk.2.2.2.2.2.2.1⟩)) hg (.inl rfl)); have n6_ := As0 (Kd.R_after (v := (.slice (some ⟨go58, 0, none⟩) x297004_2.length co63)) (v1 := (.slice (some ⟨go58, 0, none⟩) x297004_2.length co63)) (ok := (fun k_ => some k_ ≠ (.slice Ao29 x7_2.length co29 : Value).ownBlock ∧ some k_ ≠ (u267004 : Value).ownBlock ∧ some k_ ≠ (u267005 : Value).ownBlock ∧ some k_ ≠ (u267006 : Value).ownBlock ∧ some k_ ≠ (u282004 : Value).ownBlock ∧ some k_ ≠ (u282005 : Value).ownBlock ∧ some k_ ≠ (u297005 : Value).ownBlock ∧ some k_ ≠ (u297006 : Value).ownBlock)) (by (with_reducible repeat (first | apply Kd.R_alloc | apply Kd.R_drewN | apply Kd.R_drew)); exact Kd.R_mono HO_282006.out (fun _ hk => ⟨⟨hk.1, ⟨hk.2.1, ⟨hk.2.2.1, ⟨hk.2.2.2.1, ⟨hk.2.2.2.2.1, ⟨hk.2.2.2.2.2.1, ⟨hk.2.2.2.2.2.2.2.1, hk.2.2.2.2.2.2.2.2⟩⟩⟩⟩⟩⟩⟩, hk.2.2.2.2.2.2.1⟩)) hg (.inl rfl)); have n7_ := As0 (hp_); have n8_ := As0 (Kd.R_after (v := (.slice (some ⟨go58, 0, none⟩) x297004_2.length co63)) (v1 := (.slice (some ⟨go58, 0, none⟩) x297004_2.length co63)) (ok := (fun k_ => some k_ ≠ (.slice Ao29 x7_2.length co29 : Value).ownBlock ∧ some k_ ≠ (u267004 : Value).ownBlock ∧ some k_ ≠ (u267005 : Value).ownBlock ∧ some k_ ≠ (u267006 : Value).ownBlock ∧ some k_ ≠ (u282004 : Value).ownBlock ∧ some k_ ≠ (u282005 : Value).ownBlock ∧ some k_ ≠ (u282006 : Value).ownBlock ∧ some k_ ≠ (u297006 : Value).ownBlock)) (by (with_reducible repeat (first | apply Kd.R_alloc | apply Kd.R_drewN | apply Kd.R_drew)); exact Kd.R_mono HO_297005.out (fun _ hk => ⟨⟨hk.1, ⟨hk.2.1, ⟨hk.2.2.1, ⟨hk.2.2.2.1, ⟨hk.2.2.2.2.1, ⟨hk.2.2.2.2.2.1, ⟨hk.2.2.2.2.2.2.1, hk.2.2.2.2.2.2.2.2⟩⟩⟩⟩⟩⟩⟩, hk.2.2.2.2.2.2.2.1⟩)) hg (.inl rfl)); have n9_ := As0 (Kd.R_after (v := (.slice (some ⟨go58, 0, none⟩) x297004_2.length co63)) (v1 := (.slice (some ⟨go58, 0, none⟩) x297004_2.length co63)) (ok := (fun k_ => some k_ ≠ (.slice Ao29 x7_2.length co29 : Value).ownBlock ∧ some k_ ≠ (u267004 : Value).ownBlock ∧ some k_ ≠ (u267005 : Value).ownBlock ∧ some k_ ≠ (u267006 : Value).ownBlock ∧ some k_ ≠ (u282004 : Value).ownBlock ∧ some k_ ≠ (u282005 : Value).ownBlock ∧ some k_ ≠ (u282006 : Value).ownBlock ∧ some k_ ≠ (u297005 : Value).ownBlock)) (by (with_reducible repeat (first | apply Kd.R_alloc | apply Kd.R_drewN | apply Kd.R_drew)); exact Kd.R_mono HO_297006.out (fun _ hk => ⟨⟨hk.1, ⟨hk.2.1, ⟨hk.2.2.1, ⟨hk.2.2.2.1, ⟨hk.2.2.2.2.1, ⟨hk.2.2.2.2.2.1, ⟨hk.2.2.2.2.2.2.1, hk.2.2.2.2.2.2.2.2⟩⟩⟩⟩⟩⟩⟩, hk.2.2.2.2.2.2.2.1⟩)) hg (.inl rfl)); have n10_ := As0 (blk_grown (g := gb241) (o := .cells #[.int .i64 a0_0, .int .i64 a0_1, .int .i64 a0_2, .slice A0_3 l0_3.length c0_3] 63 (0, 0)) (by (with_reducible repeat (first | refine blk_drewN ?_ _ | refine blk_drew ?_ | refine blk_alloc ?_ _)); exact BK241.out) hg (Kd.R_ne HO_297004.out BK241.out (by decide))); have n11_ := As0 (blk_grown (g := gb266) (o := .cells #[.int .i64 t251, .int .i64 t252, .int .i64 t253, .int .i64 t254, u267004, u267005, u267006, .int .i64 t264] 39 (0, 0)) (by (with_reducible repeat (first | refine blk_drewN ?_ _ | refine blk_drew ?_ | refine blk_alloc ?_ _)); exact BK266.out) hg (Kd.R_ne HO_297004.out BK266.out (by decide))); have n12_ := As0 (blk_grown (g := gb281) (o := .cells #[.int .i64 t267, .int .i64 t268, .int .i64 t269, .int .i64 t270, u282004, u282005, u282006, .int .i64 t280] 39 (0, 0)) (by (with_reducible repeat (first | refine blk_drewN ?_ _ | refine blk_drew ?_ | refine blk_alloc ?_ _)); exact BK281.out) hg (Kd.R_ne HO_297004.out BK281.out (by decide))); have n13_ := As0 (blk_grown (g := gb296) (o := .cells #[.int .i64 t282, .int .i64 t283, .int .i64 t284, .int .i64 t285, .slice (some ⟨go58, 0, none⟩) x297004_2.length co63, u297005, u297006, .int .i64 t295] 39 (0, 0)) (by (with_reducible repeat (first | refine blk_drewN ?_ _ | refine blk_drew ?_ | refine blk_alloc ?_ _)); exact BK296.out) hg (Kd.R_ne HO_297004.out BK296.out (by decide))); have n14_ := As0 ((by rw [hw]; exact below_set (HB.out) GB58.out : Below w.heap.size w w65)); clear HO_7 HO_267004 HO_267005 HO_267006 HO_282004 HO_282005 HO_282006 HO_297004 HO_297005 HO_297006 BK241 BK266 BK281 BK296 HB; have HO_7 := n0_; have HO_267004 := n1_; have HO_267005 := n2_; have HO_267006 := n3_; have HO_282004 := n4_; have HO_282005 := n5_; have HO_282006 := n6_; have HO_297004 := n7_; have HO_297005 := n8_; have HO_297006 := n9_; have BK241 := n10_; have BK266 := n11_; have BK281 := n12_; have BK296 := n13_; have HB := n14_; clear n0_ n1_ n2_ n3_ n4_ n5_ n6_ n7_ n8_ n9_ n10_ n11_ n12_ n13_ n14_ hg hw hp_))
         (try simp only [← hl7_2])
         go_roundg k2
         case measure => have := HJ3.out; have := HK2.out; omega
         case rel => exact ⟨(x7_2), (wrap64 (x12_2 + 1)), (x267004_2), (x267005_2), (x267006_2), (x282004_2), (x282005_2), (x282006_2), (y298), (x297005_2), (x297006_2), (u267004), (u267005), (u267006), (u282004), (u282005), (u282006), (.slice (some ⟨go58, 0, none⟩) x297004_2.length co63), (u297005), (u297006), (by first | rfl | (simp; done) | (simp [*]; done)), H', ⟨by have := HJ3.out; have := HK2.out; omega⟩, ⟨by (try simp only [hl7_2]); (with_reducible repeat (first | apply Kd.R_alloc | apply Kd.R_drewN | apply Kd.R_drew)); exact Kd.R_mono HO_7.out (fun _ hk => ⟨hk.1.1, ⟨hk.1.2.1, ⟨hk.1.2.2.1, ⟨hk.1.2.2.2.1, ⟨hk.1.2.2.2.2.1, ⟨hk.1.2.2.2.2.2.1, ⟨hk.2, ⟨hk.1.2.2.2.2.2.2.1, hk.1.2.2.2.2.2.2.2⟩⟩⟩⟩⟩⟩⟩⟩)⟩, ⟨by (try simp only [hl7_2]); (with_reducible repeat (first | apply Kd.R_alloc | apply Kd.R_drewN | apply Kd.R_drew)); exact Kd.R_mono HO_267004.out (fun _ hk => ⟨hk.1.1, ⟨hk.1.2.1, ⟨hk.1.2.2.1, ⟨hk.1.2.2.2.1, ⟨hk.1.2.2.2.2.1, ⟨hk.1.2.2.2.2.2.1, ⟨hk.2, ⟨hk.1.2.2.2.2.2.2.1, hk.1.2.2.2.2.2.2.2⟩⟩⟩⟩⟩⟩⟩⟩)⟩, ⟨by (try simp only [hl7_2]); (with_reducible repeat (first | apply Kd.R_alloc | apply Kd.R_drewN | apply Kd.R_drew)); exact Kd.R_mono HO_267005.out (fun _ hk => ⟨hk.1.1, ⟨hk.1.2.1, ⟨hk.1.2.2.1, ⟨hk.1.2.2.2.1, ⟨hk.1.2.2.2.2.1, ⟨hk.1.2.2.2.2.2.1, ⟨hk.2, ⟨hk.1.2.2.2.2.2.2.1, hk.1.2.2.2.2.2.2.2⟩⟩⟩⟩⟩⟩⟩⟩)⟩, ⟨by (try simp only [hl7_2]); (with_reducible repeat (first | apply Kd.R_alloc | apply Kd.R_drewN | apply Kd.R_drew)); exact Kd.R_mono HO_267006.out (fun _ hk => ⟨hk.1.1, ⟨hk.1.2.1, ⟨hk.1.2.2.1, ⟨hk.1.2.2.2.1, ⟨hk.1.2.2.2.2.1, ⟨hk.1.2.2.2.2.2.1, ⟨hk.2, ⟨hk.1.2.2.2.2.2.2.1, hk.1.2.2.2.2.2.2.2⟩⟩⟩⟩⟩⟩⟩⟩)⟩, ⟨by (try simp only [hl7_2]); (with_reducible repeat (first | apply Kd.R_alloc | apply Kd.R_drewN | apply Kd.R_drew)); exact Kd.R_mono HO_282004.out (fun _ hk => ⟨hk.1.1, ⟨hk.1.2.1, ⟨hk.1.2.2.1, ⟨hk.1.2.2.2.1, ⟨hk.1.2.2.2.2.1, ⟨hk.1.2.2.2.2.2.1, ⟨hk.2, ⟨hk.1.2.2.2.2.2.2.1, hk.1.2.2.2.2.2.2.2⟩⟩⟩⟩⟩⟩⟩⟩)⟩, ⟨by (try simp only [hl7_2]); (with_reducible repeat (first | apply Kd.R_alloc | apply Kd.R_drewN | apply Kd.R_drew)); exact Kd.R_mono HO_282005.out (fun _ hk => ⟨hk.1.1, ⟨hk.1.2.1, ⟨hk.1.2.2.1, ⟨hk.1.2.2.2.1, ⟨hk.1.2.2.2.2.1, ⟨hk.1.2.2.2.2.2.1, ⟨hk.2, ⟨hk.1.2.2.2.2.2.2.1, hk.1.2.2.2.2.2.2.2⟩⟩⟩⟩⟩⟩⟩⟩)⟩, ⟨by (try simp only [hl7_2]); (with_reducible repeat (first | apply Kd.R_alloc | apply Kd.R_drewN | apply Kd.R_drew)); exact Kd.R_mono HO_282006.out (fun _ hk => ⟨hk.1.1, ⟨hk.1.2.1, ⟨hk.1.2.2.1, ⟨hk.1.2.2.2.1, ⟨hk.1.2.2.2.2.1, ⟨hk.1.2.2.2.2.2.1, ⟨hk.2, ⟨hk.1.2.2.2.2.2.2.1, hk.1.2.2.2.2.2.2.2⟩⟩⟩⟩⟩⟩⟩⟩)⟩, ⟨by (try simp only [hl7_2]); (with_reducible repeat (first | apply Kd.R_alloc | apply Kd.R_drewN | apply Kd.R_drew)); exact HO_297004.out⟩, ⟨by (try simp only [hl7_2]); (with_reducible repeat (first | apply Kd.R_alloc | apply Kd.R_drewN | apply Kd.R_drew)); exact Kd.R_mono HO_297005.out (fun _ hk => ⟨hk.1.1, ⟨hk.1.2.1, ⟨hk.1.2.2.1, ⟨hk.1.2.2.2.1, ⟨hk.1.2.2.2.2.1, ⟨hk.1.2.2.2.2.2.1, ⟨hk.1.2.2.2.2.2.2.1, ⟨hk.2, hk.1.2.2.2.2.2.2.2⟩⟩⟩⟩⟩⟩⟩⟩)⟩, ⟨by (try simp only [hl7_2]); (with_reducible repeat (first | apply Kd.R_alloc | apply Kd.R_drewN | apply Kd.R_drew)); exact Kd.R_mono HO_297006.out (fun _ hk => ⟨hk.1.1, ⟨hk.1.2.1, ⟨hk.1.2.2.1, ⟨hk.1.2.2.2.1, ⟨hk.1.2.2.2.2.1, ⟨hk.1.2.2.2.2.2.1, ⟨hk.1.2.2.2.2.2.2.1, ⟨hk.2, hk.1.2.2.2.2.2.2.2⟩⟩⟩⟩⟩⟩⟩⟩)⟩, ⟨by (try simp only [hl7_2]); (with_reducible repeat (first | refine blk_drewN ?_ _ | refine blk_drew ?_ | refine blk_alloc ?_ _)); exact BK241.out⟩, ⟨by (try simp only [hl7_2]); (with_reducible repeat (first | refine blk_drewN ?_ _ | refine blk_drew ?_ | refine blk_alloc ?_ _)); exact BK266.out⟩, ⟨by (try simp only [hl7_2]); (with_reducible repeat (first | refine blk_drewN ?_ _ | refine blk_drew ?_ | refine blk_alloc ?_ _)); exact BK281.out⟩, ⟨by (try simp only [hl7_2]); (with_reducible repeat (first | refine blk_drewN ?_ _ | refine blk_drew ?_ | refine blk_alloc ?_ _)); exact BK296.out⟩, ⟨by repeat (first | (with_reducible first | exact HB.out | apply below_alloc | apply bdN | apply bd1 | refine below_set ?_ GE241.out | refine below_set ?_ GE266.out | refine below_set ?_ GE281.out | refine below_set ?_ GE296.out) | exact HB.out)⟩⟩
        ·rw [if_neg c57] at H
         exact absurd H (by simp)
       ·rw [if_neg c56] at H
        have c56b0 : decide (x12_2 < (x297004_2.length : Int)) = false := decide_eq_false c56
        clear c56
        have H' := As0 H
        clear H
        have hnb66 := NB296_241.out
        have hnc66 := NB241_296.out
        have hnb67 := NB296_266.out
        have hnc67 := NB266_296.out
        have hnb68 := NB296_281.out
        have hnc68 := NB281_296.out
        have hcz69_0 : wr.cell? ⟨gb296, 0, none⟩ = some (.int .i64 t282) := (blk_cell BK296.out 0).trans rfl
        have hcz69_1 : wr.cell? ⟨gb296, 1, none⟩ = some (.int .i64 t283) := (blk_cell BK296.out 1).trans rfl
        have hcz69_2 : wr.cell? ⟨gb296, 2, none⟩ = some (.int .i64 t284) := (blk_cell BK296.out 2).trans rfl
        have hcz69_3 : wr.cell? ⟨gb296, 3, none⟩ = some (.int .i64 t285) := (blk_cell BK296.out 3).trans rfl
        have hcz69_4 : wr.cell? ⟨gb296, 4, none⟩ = some (u297004) := (blk_cell BK296.out 4).trans rfl
        have hcz69_5 : wr.cell? ⟨gb296, 5, none⟩ = some (u297005) := (blk_cell BK296.out 5).trans rfl
        have hcz69_6 : wr.cell? ⟨gb296, 6, none⟩ = some (u297006) := (blk_cell BK296.out 6).trans rfl
        have hcz69_7 : wr.cell? ⟨gb296, 7, none⟩ = some (.int .i64 t295) := (blk_cell BK296.out 7).trans rfl
        have hfz69_0 := blk_frozen BK296.out 0
        have hfz69_1 := blk_frozen BK296.out 1
        have hfz69_2 := blk_frozen BK296.out 2
        have hfz69_3 := blk_frozen BK296.out 3
        have hfz69_4 := blk_frozen BK296.out 4
        have hfz69_5 := blk_frozen BK296.out 5
        have hfz69_6 := blk_frozen BK296.out 6
        have hfz69_7 := blk_frozen BK296.out 7
        obtain ⟨Ao70, co70, eo70⟩ := Kd.R_slice HO_297004.out
        subst eo70
        go_wp2
        go_loopg [13] k2 (fun kq v13 w' => ∃ (x7_3 : List Int) (x13_3 : Int) (x267004_3 : List Int) (x267005_3 : List Int) (x267006_3 : List Int) (x282004_3 : List Int) (x282005_3 : List Int) (x282006_3 : List Int) (x297004_3 : List Int) (x297005_3 : List Int) (x297006_3 : List Int) (u267004 : Value) (u267005 : Value) (u267006 : Value) (u282004 : Value) (u282005 : Value) (u282006 : Value) (u297004 : Value) (u297005 : Value) (u297006 : Value), v13 = .int .i64 x13_3 ∧ Aside0 (regcertlaw10_ExecuteKeeps.l1 kq l1 x7_3 x13_3 t251 t252 t253 t254 x267004_3 x267005_3 x267006_3 t264 t267 t268 t269 t270 x282004_3 x282005_3 x282006_3 t280 t282 t283 t284 t285 x297004_3 x297005_3 x297006_3 t295 = some r) ∧ Aside0 (kq ≤ k2) ∧ Aside0 (Kd.R (Kd.int .i64) 2 w' w.heap.size (fun k_ => some k_ ≠ (u267004 : Value).ownBlock ∧ some k_ ≠ (u267005 : Value).ownBlock ∧ some k_ ≠ (u267006 : Value).ownBlock ∧ some k_ ≠ (u282004 : Value).ownBlock ∧ some k_ ≠ (u282005 : Value).ownBlock ∧ some k_ ≠ (u282006 : Value).ownBlock ∧ some k_ ≠ (u297004 : Value).ownBlock ∧ some k_ ≠ (u297005 : Value).ownBlock ∧ some k_ ≠ (u297006 : Value).ownBlock) (.slice Ao29 x7_2.length co29) x7_3) ∧ Aside0 (Kd.R (Kd.int .i64) 2 w' w.heap.size (fun k_ => some k_ ≠ ((.slice Ao29 x7_2.length co29) : Value).ownBlock ∧ some k_ ≠ (u267005 : Value).ownBlock ∧ some k_ ≠ (u267006 : Value).ownBlock ∧ some k_ ≠ (u282004 : Value).ownBlock ∧ some k_ ≠ (u282005 : Value).ownBlock ∧ some k_ ≠ (u282006 : Value).ownBlock ∧ some k_ ≠ (u297004 : Value).ownBlock ∧ some k_ ≠ (u297005 : Value).ownBlock ∧ some k_ ≠ (u297006 : Value).ownBlock) u267004 x267004_3) ∧ Aside0 (Kd.R (Kd.int .i64) 2 w' w.heap.size (fun k_ => some k_ ≠ ((.slice Ao29 x7_2.length co29) : Value).ownBlock ∧ some k_ ≠ (u267004 : Value).ownBlock ∧ some k_ ≠ (u267006 : Value).ownBlock ∧ some k_ ≠ (u282004 : Value).ownBlock ∧ some k_ ≠ (u282005 : Value).ownBlock ∧ some k_ ≠ (u282006 : Value).ownBlock ∧ some k_ ≠ (u297004 : Value).ownBlock ∧ some k_ ≠ (u297005 : Value).ownBlock ∧ some k_ ≠ (u297006 : Value).ownBlock) u267005 x267005_3) ∧ Aside0 (Kd.R (Kd.int .i64) 2 w' w.heap.size (fun k_ => some k_ ≠ ((.slice Ao29 x7_2.length co29) : Value).ownBlock ∧ some k_ ≠ (u267004 : Value).ownBlock ∧ some k_ ≠ (u267005 : Value).ownBlock ∧ some k_ ≠ (u282004 : Value).ownBlock ∧ some k_ ≠ (u282005 : Value).ownBlock ∧ some k_ ≠ (u282006 : Value).ownBlock ∧ some k_ ≠ (u297004 : Value).ownBlock ∧ some k_ ≠ (u297005 : Value).ownBlock ∧ some k_ ≠ (u297006 : Value).ownBlock) u267006 x267006_3) ∧ Aside0 (Kd.R (Kd.int .i64) 2 w' w.heap.size (fun k_ => some k_ ≠ ((.slice Ao29 x7_2.length co29) : Value).ownBlock ∧ some k_ ≠ (u267004 : Value).ownBlock ∧ some k_ ≠ (u267005 : Value).ownBlock ∧ some k_ ≠ (u267006 : Value).ownBlock ∧ some k_ ≠ (u282005 : Value).ownBlock ∧ some k_ ≠ (u282006 : Value).ownBlock ∧ some k_ ≠ (u297004 : Value).ownBlock ∧ some k_ ≠ (u297005 : Value).ownBlock ∧ some k_ ≠ (u297006 : Value).ownBlock) u282004 x282004_3) ∧ Aside0 (Kd.R (Kd.int .i64) 2 w' w.heap.size (fun k_ => some k_ ≠ ((.slice Ao29 x7_2.length co29) : Value).ownBlock ∧ some k_ ≠ (u267004 : Value).ownBlock ∧ some k_ ≠ (u267005 : Value).ownBlock ∧ some k_ ≠ (u267006 : Value).ownBlock ∧ some k_ ≠ (u282004 : Value).ownBlock ∧ some k_ ≠ (u282006 : Value).ownBlock ∧ some k_ ≠ (u297004 : Value).ownBlock ∧ some k_ ≠ (u297005 : Value).ownBlock ∧ some k_ ≠ (u297006 : Value).ownBlock) u282005 x282005_3) ∧ Aside0 (Kd.R (Kd.int .i64) 2 w' w.heap.size (fun k_ => some k_ ≠ ((.slice Ao29 x7_2.length co29) : Value).ownBlock ∧ some k_ ≠ (u267004 : Value).ownBlock ∧ some k_ ≠ (u267005 : Value).ownBlock ∧ some k_ ≠ (u267006 : Value).ownBlock ∧ some k_ ≠ (u282004 : Value).ownBlock ∧ some k_ ≠ (u282005 : Value).ownBlock ∧ some k_ ≠ (u297004 : Value).ownBlock ∧ some k_ ≠ (u297005 : Value).ownBlock ∧ some k_ ≠ (u297006 : Value).ownBlock) u282006 x282006_3) ∧ Aside0 (Kd.R (Kd.int .i64) 2 w' w.heap.size (fun k_ => some k_ ≠ ((.slice Ao29 x7_2.length co29) : Value).ownBlock ∧ some k_ ≠ (u267004 : Value).ownBlock ∧ some k_ ≠ (u267005 : Value).ownBlock ∧ some k_ ≠ (u267006 : Value).ownBlock ∧ some k_ ≠ (u282004 : Value).ownBlock ∧ some k_ ≠ (u282005 : Value).ownBlock ∧ some k_ ≠ (u282006 : Value).ownBlock ∧ some k_ ≠ (u297005 : Value).ownBlock ∧ some k_ ≠ (u297006 : Value).ownBlock) u297004 x297004_3) ∧ Aside0 (Kd.R (Kd.int .i64) 2 w' w.heap.size (fun k_ => some k_ ≠ ((.slice Ao29 x7_2.length co29) : Value).ownBlock ∧ some k_ ≠ (u267004 : Value).ownBlock ∧ some k_ ≠ (u267005 : Value).ownBlock ∧ some k_ ≠ (u267006 : Value).ownBlock ∧ some k_ ≠ (u282004 : Value).ownBlock ∧ some k_ ≠ (u282005 : Value).ownBlock ∧ some k_ ≠ (u282006 : Value).ownBlock ∧ some k_ ≠ (u297004 : Value).ownBlock ∧ some k_ ≠ (u297006 : Value).ownBlock) u297005 x297005_3) ∧ Aside0 (Kd.R (Kd.int .i64) 2 w' w.heap.size (fun k_ => some k_ ≠ ((.slice Ao29 x7_2.length co29) : Value).ownBlock ∧ some k_ ≠ (u267004 : Value).ownBlock ∧ some k_ ≠ (u267005 : Value).ownBlock ∧ some k_ ≠ (u267006 : Value).ownBlock ∧ some k_ ≠ (u282004 : Value).ownBlock ∧ some k_ ≠ (u282005 : Value).ownBlock ∧ some k_ ≠ (u282006 : Value).ownBlock ∧ some k_ ≠ (u297004 : Value).ownBlock ∧ some k_ ≠ (u297005 : Value).ownBlock) u297006 x297006_3) ∧ Aside0 (w'.heap[gb241]? = some (.cells #[.int .i64 a0_0, .int .i64 a0_1, .int .i64 a0_2, (.slice A0_3 l0_3.length c0_3)] 63 (0, 0))) ∧ Aside0 (w'.heap[gb266]? = some (.cells #[.int .i64 t251, .int .i64 t252, .int .i64 t253, .int .i64 t254, u267004, u267005, u267006, .int .i64 t264] 39 (0, 0))) ∧ Aside0 (w'.heap[gb281]? = some (.cells #[.int .i64 t267, .int .i64 t268, .int .i64 t269, .int .i64 t270, u282004, u282005, u282006, .int .i64 t280] 39 (0, 0))) ∧ Aside0 (w'.heap[gb296]? = some (.cells #[.int .i64 t282, .int .i64 t283, .int .i64 t284, .int .i64 t285, u297004, u297005, u297006, .int .i64 t295] 39 (0, 0))) ∧ Aside0 (Below w.heap.size w w'))
        case atStart => exact ⟨(x7_2), (0), (x267004_2), (x267005_2), (x267006_2), (x282004_2), (x282005_2), (x282006_2), (x297004_2), (x297005_2), (x297006_2), (u267004), (u267005), (u267006), (u282004), (u282005), (u282006), (.slice Ao70 x297004_2.length co70), (u297005), (u297006), (by first | rfl | (simp; done) | (simp [*]; done)), H', ⟨Nat.le_refl _⟩, ⟨by (try simp only [hl7_2]); (with_reducible repeat (first | apply Kd.R_alloc | apply Kd.R_drewN | apply Kd.R_drew)); exact HO_7.out⟩, ⟨by (try simp only [hl7_2]); (with_reducible repeat (first | apply Kd.R_alloc | apply Kd.R_drewN | apply Kd.R_drew)); exact HO_267004.out⟩, ⟨by (try simp only [hl7_2]); (with_reducible repeat (first | apply Kd.R_alloc | apply Kd.R_drewN | apply Kd.R_drew)); exact HO_267005.out⟩, ⟨by (try simp only [hl7_2]); (with_reducible repeat (first | apply Kd.R_alloc | apply Kd.R_drewN | apply Kd.R_drew)); exact HO_267006.out⟩, ⟨by (try simp only [hl7_2]); (with_reducible repeat (first | apply Kd.R_alloc | apply Kd.R_drewN | apply Kd.R_drew)); exact HO_282004.out⟩, ⟨by (try simp only [hl7_2]); (with_reducible repeat (first | apply Kd.R_alloc | apply Kd.R_drewN | apply Kd.R_drew)); exact HO_282005.out⟩, ⟨by (try simp only [hl7_2]); (with_reducible repeat (first | apply Kd.R_alloc | apply Kd.R_drewN | apply Kd.R_drew)); exact HO_282006.out⟩, ⟨by (try simp only [hl7_2]); (with_reducible repeat (first | apply Kd.R_alloc | apply Kd.R_drewN | apply Kd.R_drew)); exact HO_297004.out⟩, ⟨by (try simp only [hl7_2]); (with_reducible repeat (first | apply Kd.R_alloc | apply Kd.R_drewN | apply Kd.R_drew)); exact HO_297005.out⟩, ⟨by (try simp only [hl7_2]); (with_reducible repeat (first | apply Kd.R_alloc | apply Kd.R_drewN | apply Kd.R_drew)); exact HO_297006.out⟩, ⟨by (try simp only [hl7_2]); (with_reducible repeat (first | refine blk_drewN ?_ _ | refine blk_drew ?_ | refine blk_alloc ?_ _)); exact BK241.out⟩, ⟨by (try simp only [hl7_2]); (with_reducible repeat (first | refine blk_drewN ?_ _ | refine blk_drew ?_ | refine blk_alloc ?_ _)); exact BK266.out⟩, ⟨by (try simp only [hl7_2]); (with_reducible repeat (first | refine blk_drewN ?_ _ | refine blk_drew ?_ | refine blk_alloc ?_ _)); exact BK281.out⟩, ⟨by (try simp only [hl7_2]); (with_reducible repeat (first | refine blk_drewN ?_ _ | refine blk_drew ?_ | refine blk_alloc ?_ _)); exact BK296.out⟩, ⟨by repeat (first | (with_reducible first | exact HB.out | apply below_alloc | apply bdN | apply bd1 | refine below_set ?_ GE241.out | refine below_set ?_ GE266.out | refine below_set ?_ GE281.out | refine below_set ?_ GE296.out) | exact HB.out)⟩⟩
        case round =>
         clear H'
         try clear c1
         try clear c2
         try clear p2
         try clear q2
         try clear hx2
         try clear c3
         try clear c4
         try clear c5
         try clear p5
         try clear q5
         try clear hx5
         try clear hf5
         try clear c6
         try clear p6
         try clear c7
         try clear c9
         try clear c18
         try clear c21
         try clear p29
         try clear q29
         try clear hx29
         try clear c32
         try clear c38
         try clear c39
         try clear c40
         try clear c44
         try clear c46
         try clear c49
         try clear c50
         try clear c51
         try clear c56
         try clear c56b0
         try clear c57
         try clear c57b0
         try clear p58
         try clear q58
         try clear hx58
         try clear hf58
         try clear c59
         try clear c60
         try clear c61
         try clear p64
         try clear c66
         try clear c67
         try clear c68
         try clear hcz11_0
         try clear hcz11_1
         try clear hcz11_2
         try clear hcz11_3
         try clear hcz13_0
         try clear hcz13_1
         try clear hcz13_2
         try clear hcz13_3
         try clear hcz15_0
         try clear hcz15_1
         try clear hcz15_2
         try clear hcz15_3
         try clear hcz28_0
         try clear hcz28_1
         try clear hcz28_2
         try clear hcz28_3
         try clear hcz33_0
         try clear hcz33_1
         try clear hcz33_2
         try clear hcz33_3
         try clear hcz33_4
         try clear hcz33_5
         try clear hcz33_6
         try clear hcz33_7
         try clear hcz41_0
         try clear hcz41_1
         try clear hcz41_2
         try clear hcz41_3
         try clear hcz41_4
         try clear hcz41_5
         try clear hcz41_6
         try clear hcz41_7
         try clear hcz45_0
         try clear hcz45_1
         try clear hcz45_2
         try clear hcz45_3
         try clear hcz46_0
         try clear hcz46_1
         try clear hcz46_2
         try clear hcz46_3
         try clear hcz46_4
         try clear hcz46_5
         try clear hcz46_6
         try clear hcz46_7
         try clear hcz52_0
         try clear hcz52_1
         try clear hcz52_2
         try clear hcz52_3
         try clear hcz52_4
         try clear hcz52_5
         try clear hcz52_6
         try clear hcz52_7
         try clear hcz62_0
         try clear hcz62_1
         try clear hcz62_2
         try clear hcz62_3
         try clear hcz62_4
         try clear hcz62_5
         try clear hcz62_6
         try clear hcz62_7
         try clear hcz69_0
         try clear hcz69_1
         try clear hcz69_2
         try clear hcz69_3
         try clear hcz69_4
         try clear hcz69_5
         try clear hcz69_6
         try clear hcz69_7
         try clear hfz11_0
         try clear hfz11_1
         try clear hfz11_2
         try clear hfz11_3
         try clear hfz13_0
         try clear hfz13_1
         try clear hfz13_2
         try clear hfz13_3
         try clear hfz15_0
         try clear hfz15_1
         try clear hfz15_2
         try clear hfz15_3
         try clear hfz28_0
         try clear hfz28_1
         try clear hfz28_2
         try clear hfz28_3
         try clear hfz33_0
         try clear hfz33_1
         try clear hfz33_2
         try clear hfz33_3
         try clear hfz33_4
         try clear hfz33_5
         try clear hfz33_6
         try clear hfz33_7
         try clear hfz41_0
         try clear hfz41_1
         try clear hfz41_2
         try clear hfz41_3
         try clear hfz41_4
         try clear hfz41_5
         try clear hfz41_6
         try clear hfz41_7
         try clear hfz45_0
         try clear hfz45_1
         try clear hfz45_2
         try clear hfz45_3
         try clear hfz46_0
         try clear hfz46_1
         try clear hfz46_2
         try clear hfz46_3
         try clear hfz46_4
         try clear hfz46_5
         try clear hfz46_6
         try clear hfz46_7
         try clear hfz52_0
         try clear hfz52_1
         try clear hfz52_2
         try clear hfz52_3
         try clear hfz52_4
         try clear hfz52_5
         try clear hfz52_6
         try clear hfz52_7
         try clear hfz62_0
         try clear hfz62_1
         try clear hfz62_2
         try clear hfz62_3
         try clear hfz62_4
         try clear hfz62_5
         try clear hfz62_6
         try clear hfz62_7
         try clear hfz69_0
         try clear hfz69_1
         try clear hfz69_2
         try clear hfz69_3
         try clear hfz69_4
         try clear hfz69_5
         try clear hfz69_6
         try clear hfz69_7
         try clear hx297_0
         try clear hx58_0
         try clear p2
         try clear p297
         try clear p58
         try clear p6
         try clear q297
         try clear q58
         obtain ⟨x7_3, x13_3, x267004_3, x267005_3, x267006_3, x282004_3, x282005_3, x282006_3, x297004_3, x297005_3, x297006_3, u267004, u267005, u267006, u282004, u282005, u282006, u297004, u297005, u297006, rfl, HA, HK3, HO_7, HO_267004, HO_267005, HO_267006, HO_282004, HO_282005, HO_282006, HO_297004, HO_297005, HO_297006, BK241, BK266, BK281, BK296, HB⟩ := hrel
         have hl7_3 := (Kd.R_reads' HO_7.out).1
         rw [hl7_3] at HO_7
         (try simp only [hl7_3])
         (try simp only [hl7_3] at BK241)
         (try simp only [hl7_3] at BK266)
         (try simp only [hl7_3] at BK281)
         (try simp only [hl7_3] at BK296)
         (try simp only [hl7_3] at HO_267004)
         (try simp only [hl7_3] at HO_267005)
         (try simp only [hl7_3] at HO_267006)
         (try simp only [hl7_3] at HO_282004)
         (try simp only [hl7_3] at HO_282005)
         (try simp only [hl7_3] at HO_282006)
         (try simp only [hl7_3] at HO_297004)
         (try simp only [hl7_3] at HO_297005)
         (try simp only [hl7_3] at HO_297006)
         cases gk with
         | zero => exact absurd HA.out (by simp [regcertlaw10_ExecuteKeeps.l1])
         | succ k3 =>
          have H := HA.out
          clear HA
          simp only [regcertlaw10_ExecuteKeeps.l1] at H
          by_cases c71 : x13_3 < (x297005_3.length : Int)
          ·rw [if_pos c71] at H
           have c71b0 : decide (x13_3 < (x297005_3.length : Int)) = true := decide_eq_true c71
           clear c71
           by_cases c72 : 0 ≤ x13_3
           ·rw [if_pos c72] at H
            have c72b0 : decide (0 ≤ x13_3) = true := decide_eq_true c72
            clear c72
            obtain ⟨y300, hy300⟩ : ∃ y_ : List Int, y_ = (x297005_3.set (x13_3 : Int).toNat (wrap64 ((rd x297005_3 x13_3) + 1))) := ⟨_, rfl⟩
            replace H : (regcertlaw10_ExecuteKeeps.l1 k3 l1 x7_3 (wrap64 (x13_3 + 1)) t251 t252 t253 t254 x267004_3 x267005_3 x267006_3 t264 t267 t268 t269 t270 x282004_3 x282005_3 x282006_3 t280 t282 t283 t284 t285 x297004_3 y300 x297006_3 t295) = some r := by first | (rw [hy300]; with_reducible exact H) | (have H2_ := (Option.bind_some _ _).symm.trans H; rw [hy300]; with_reducible exact H2_) | (have H2_ := (Option.bind_some _ _).symm.trans H; with_reducible exact H2_) | with_reducible exact H | (rw [hy300]; exact H) | exact H
            have Ny300 := As0 hy300
            clear hy300
            have H' := As0 H
            clear H
            have hnb74 := NB296_241.out
            have hnc74 := NB241_296.out
            have hnb75 := NB296_266.out
            have hnc75 := NB266_296.out
            have hnb76 := NB296_281.out
            have hnc76 := NB281_296.out
            have hcz77_0 : wr.cell? ⟨gb296, 0, none⟩ = some (.int .i64 t282) := (blk_cell BK296.out 0).trans rfl
            have hcz77_1 : wr.cell? ⟨gb296, 1, none⟩ = some (.int .i64 t283) := (blk_cell BK296.out 1).trans rfl
            have hcz77_2 : wr.cell? ⟨gb296, 2, none⟩ = some (.int .i64 t284) := (blk_cell BK296.out 2).trans rfl
            have hcz77_3 : wr.cell? ⟨gb296, 3, none⟩ = some (.int .i64 t285) := (blk_cell BK296.out 3).trans rfl
            have hcz77_4 : wr.cell? ⟨gb296, 4, none⟩ = some (u297004) := (blk_cell BK296.out 4).trans rfl
            have hcz77_5 : wr.cell? ⟨gb296, 5, none⟩ = some (u297005) := (blk_cell BK296.out 5).trans rfl
            have hcz77_6 : wr.cell? ⟨gb296, 6, none⟩ = some (u297006) := (blk_cell BK296.out 6).trans rfl
            have hcz77_7 : wr.cell? ⟨gb296, 7, none⟩ = some (.int .i64 t295) := (blk_cell BK296.out 7).trans rfl
            have hfz77_0 := blk_frozen BK296.out 0
            have hfz77_1 := blk_frozen BK296.out 1
            have hfz77_2 := blk_frozen BK296.out 2
            have hfz77_3 := blk_frozen BK296.out 3
            have hfz77_4 := blk_frozen BK296.out 4
            have hfz77_5 := blk_frozen BK296.out 5
            have hfz77_6 := blk_frozen BK296.out 6
            have hfz77_7 := blk_frozen BK296.out 7
            obtain ⟨Ao78, co78, eo78⟩ := Kd.R_slice HO_297005.out
            subst eo78
            have p299 : 0 ≤ (x13_3 : Int) := of_decide_eq_true (by first | (with_reducible assumption) | assumption)
            have q299 : x13_3 < (x297005_3.length : Int) := of_decide_eq_true (by first | (with_reducible assumption) | assumption)
            obtain ⟨ad299, e299, hx299_0⟩ := Kd.at_int (Kd.R_reads' HO_297005.out).2.2 x13_3 p299 q299
            cases e299
            replace p299 := eq_true p299
            replace q299 := eq_true q299
            have p73 : 0 ≤ (x13_3 : Int) := of_decide_eq_true (by first | (with_reducible assumption) | assumption)
            have q73 : (x13_3 : Int) < ((x297005_3.length : Int) : Int) := of_decide_eq_true (by first | (with_reducible assumption) | assumption)
            obtain ⟨go73, co73, eo73, gb73, gl73, cl73, HG73⟩ := Kd.R_form HO_297005.out (by omega)
            (first | cases eo73 | (injection eo73 with ea_ en_ ec_; (first | subst ea_ | (injection ea_ with ea_; subst ea_)); subst ec_; clear en_))
            have GB73 := As0 gb73
            have GG73 := As0 HG73
            clear gb73 gl73 HG73
            (first | simp only [add_plain] at hx299_0 | skip)
            obtain ⟨hx73_0, hf73_0⟩ := Kd.R_celln 0 HO_297005.out (x13_3 : Int) p73 q73
            replace p73 := eq_true p73
            replace q73 := eq_true q73
            have HP79 := Kd.R_putg HO_297005.out (x13_3 : Int) (wrap64 ((rd x297005_3 x13_3) + 1))
            go_wp2_with (first | ((with_reducible refine gate_store (t := 2) (p := 77) rfl ?_); refine store_event (t := 2) (p := 77) (v := ?vo_w80) (w1 := (wr.setCell ⟨go73, (x13_3 : Int).toNat, none⟩ (.int .i64 (wrap64 ((rd x297005_3 x13_3) + 1))))) ?hg ?ho ?hn ?hr ?_; (case ho => rfl); (case hg => rfl); (case hn => rfl); (case hr => first | (go_simp; done) | (go_simp; rfl)); intro w80 hw; have hg : wr.grownBy w80 (some go73) := (by rw [hw]; exact HP79.2); have hp_ : Kd.R (Kd.int .i64) 2 w80 w.heap.size (fun k_ => some k_ ≠ (.slice Ao29 x7_3.length co29 : Value).ownBlock ∧ some k_ ≠ (u267004 : Value).ownBlock ∧ some k_ ≠ (u267005 : Value).ownBlock ∧ some k_ ≠ (u267006 : Value).ownBlock ∧ some k_ ≠ (u282004 : Value).ownBlock ∧ some k_ ≠ (u282005 : Value).ownBlock ∧ some k_ ≠ (u282006 : Value).ownBlock ∧ some k_ ≠ (u297004 : Value).ownBlock ∧ some k_ ≠ (u297006 : Value).ownBlock) (.slice (some ⟨go73, 0, none⟩) x297005_3.length co78) y300 := (by rw [hw, Ny300.out]; exact HP79.1); clear HP79; have n0_ := As0 (Kd.R_after (v := (.slice (some ⟨go73, 0, none⟩) x297005_3.length co78)) (v1 := (.slice (some ⟨go73, 0, none⟩) x297005_3.length co78)) (ok := (fun k_ => some k_ ≠ (u267004 : Value).ownBlock ∧ some k_ ≠ (u267005 : Value).ownBlock ∧ some k_ ≠ (u267006 : Value).ownBlock ∧ some k_ ≠ (u282004 : Value).ownBlock ∧ some k_ ≠ (u282005 : Value).ownBlock ∧ some k_ ≠ (u282006 : Value).ownBlock ∧ some k_ ≠ (u297004 : Value).ownBlock ∧ some k_ ≠ (u297006 : Value).ownBlock)) (by (with_reducible repeat (first | apply Kd.R_alloc | apply Kd.R_drewN | apply Kd.R_drew)); exact Kd.R_mono HO_7.out (fun _ hk => ⟨⟨hk.1, ⟨hk.2.1, ⟨hk.2.2.1, ⟨hk.2.2.2.1, ⟨hk.2.2.2.2.1, ⟨hk.2.2.2.2.2.1, ⟨hk.2.2.2.2.2.2.1, hk.2.2.2.2.2.2.2.2⟩⟩⟩⟩⟩⟩⟩, hk.2.2.2.2.2.2.2.1⟩)) hg (.inl rfl)); have n1_ := As0 (Kd.R_after (v := (.slice (some ⟨go73, 0, none⟩) x297005_3.length co78)) (v1 := (.slice (some ⟨go73, 0, none⟩) x297005_3.length co78)) (ok := (fun k_ => some k_ ≠ (.slice Ao29 x7_3.length co29 : Value).ownBlock ∧ some k_ ≠ (u267005 : Value).ownBlock ∧ some k_ ≠ (u267006 : Value).ownBlock ∧ some k_ ≠ (u282004 : Value).ownBlock ∧ some k_ ≠ (u282005 : Value).ownBlock ∧ some k_ ≠ (u282006 : Value).ownBlock ∧ some k_ ≠ (u297004 : Value).ownBlock ∧ some k_ ≠ (u297006 : Value).ownBlock)) (by (with_reducible repeat (first | apply Kd.R_alloc | apply Kd.R_drewN | apply Kd.R_drew)); exact Kd.R_mono HO_267004.out (fun _ hk => ⟨⟨hk.1, ⟨hk.2.1, ⟨hk.2.2.1, ⟨hk.2.2.2.1, ⟨hk.2.2.2.2.1, ⟨hk.2.2.2.2.2.1, ⟨hk.2.2.2.2.2.2.1, hk.2.2.2.2.2.2.2.2⟩⟩⟩⟩⟩⟩⟩, hk.2.2.2.2.2.2.2.1⟩)) hg (.inl rfl)); have n2_ := As0 (Kd.R_after (v := (.slice (some ⟨go73, 0, none⟩) x297005_3.length co78)) (v1 := (.slice (some ⟨go73, 0, none⟩) x297005_3.length co78)) (ok := (fun k_ => some k_ ≠ (.slice Ao29 x7_3.length co29 : Value).ownBlock ∧ some k_ ≠ (u267004 : Value).ownBlock ∧ some k_ ≠ (u267006 : Value).ownBlock ∧ some k_ ≠ (u282004 : Value).ownBlock ∧ some k_ ≠ (u282005 : Value).ownBlock ∧ some k_ ≠ (u282006 : Value).ownBlock ∧ some k_ ≠ (u297004 : Value).ownBlock ∧ some k_ ≠ (u297006 : Value).ownBlock)) (by (with_reducible repeat (first | apply Kd.R_alloc | apply Kd.R_drewN | apply Kd.R_drew)); exact Kd.R_mono HO_267005.out (fun _ hk => ⟨⟨hk.1, ⟨hk.2.1, ⟨hk.2.2.1, ⟨hk.2.2.2.1, ⟨hk.2.2.2.2.1, ⟨hk.2.2.2.2.2.1, ⟨hk.2.2.2.2.2.2.1, hk.2.2.2.2.2.2.2.2⟩⟩⟩⟩⟩⟩⟩, hk.2.2.2.2.2.2.2.1⟩)) hg (.inl rfl)); have n3_ := As0 (Kd.R_after (v := (.slice (some ⟨go73, 0, none⟩) x297005_3.length co78)) (v1 := (.slice (some ⟨go73, 0, none⟩) x297005_3.length co78)) (ok := (fun k_ => some k_ ≠ (.slice Ao29 x7_3.length co29 : Value).ownBlock ∧ some k_ ≠ (u267004 : Value).ownBlock ∧ some k_ ≠ (u267005 : Value).ownBlock ∧ some k_ ≠ (u282004 : Value).ownBlock ∧ some k_ ≠ (u282005 : Value).ownBlock ∧ some k_ ≠ (u282006 : Value).ownBlock ∧ some k_ ≠ (u297004 : Value).ownBlock ∧ some k_ ≠ (u297006 : Value).ownBlock)) (by (with_reducible repeat (first | apply Kd.R_alloc | apply Kd.R_drewN | apply Kd.R_drew)); exact Kd.R_mono HO_267006.out (fun _ hk => ⟨⟨hk.1, ⟨hk.2.1, ⟨hk.2.2.1, ⟨hk.2.2.2.1, ⟨hk.2.2.2.2.1, ⟨hk.2.2.2.2.2.1, ⟨hk.2.2.2.2.2.2.1, hk.2.2.2.2.2.2.2.2⟩⟩⟩⟩⟩⟩⟩, hk.2.2.2.2.2.2.2.1⟩)) hg (.inl rfl)); have n4_ := As0 (Kd.R_after (v := (.slice (some ⟨go73, 0, none⟩) x297005_3.length co78)) (v1 := (.slice (some ⟨go73, 0, none⟩) x297005_3.length co78)) (ok := (fun k_ => some k_ ≠ (.slice Ao29 x7_3.length co29 : Value).ownBlock ∧ some k_ ≠ (u267004 : Value).ownBlock ∧ some k_ ≠ (u267005 : Value).ownBlock ∧ some k_ ≠ (u267006 : Value).ownBlock ∧ some k_ ≠ (u282005 : Value).ownBlock ∧ some k_ ≠ (u282006 : Value).ownBlock ∧ some k_ ≠ (u297004 : Value).ownBlock ∧ some k_ ≠ (u297006 : Value).ownBlock)) (by (with_reducible repeat (first | apply Kd.R_alloc | apply Kd.R_drewN | apply Kd.R_drew)); exact Kd.R_mono HO_282004.out (fun _ hk => ⟨⟨hk.1, ⟨hk.2.1, ⟨hk.2.2.1, ⟨hk.2.2.2.1, ⟨hk.2.2.2.2.1, ⟨hk.2.2.2.2.2.1, ⟨hk.2.2.2.2.2.2.1, hk.2.2.2.2.2.2.2.2⟩⟩⟩⟩⟩⟩⟩, hk.2.2.2.2.2.2.2.1⟩)) hg (.inl rfl)); have n5_ := As0 (Kd.R_after (v := (.slice (some ⟨go73, 0, none⟩) x297005_3.length co78)) (v1 := (.slice (some ⟨go73, 0, none⟩) x297005_3.length co78)) (ok := (fun k_ => some k_ ≠ (.slice Ao29 x7_3.length co29 : Value).ownBlock ∧ some k_ ≠ (u267004 : Value).ownBlock ∧ some k_ ≠ (u267005 : Value).ownBlock ∧ some k_ ≠ (u267006 : Value).ownBlock ∧ some k_ ≠ (u282004 : Value).ownBlock ∧ some k_ ≠ (u282006 : Value).ownBlock ∧ some k_ ≠ (u297004 : Value).ownBlock ∧ some k_ ≠ (u297006 : Value).ownBlock)) (by (with_reducible repeat (first | apply Kd.R_alloc | apply Kd.R_drewN | apply Kd.R_drew)); exact Kd.R_mono HO_282005.out (fun _ hk => ⟨⟨hk.1, ⟨hk.2.1, ⟨hk.2.2.1, ⟨hk.2.2.2.1, ⟨hk.2.2.2.2.1, ⟨hk.2.2.2.2.2.1, ⟨hk.2.2.2.2.2.2.1, hk.2.2.2.2.2.2.2.2⟩⟩⟩⟩⟩⟩⟩, hk.2.2.2.2.2.2.2.1⟩)) hg (.inl rfl)); have n6_ := As0 (Kd.R_after (v := (.slice (some ⟨go73, 0, none⟩) x297005_3.length co78)) (v1 := (.slice (some ⟨go73, 0, none⟩) x297005_3.length co78)) (ok := (fun k_ => some k_ ≠ (.slice Ao29 x7_3.length co29 : Value).ownBlock ∧ some k_ ≠ (u267004 : Value).ownBlock ∧ some k_ ≠ (u267005 : Value).ownBlock ∧ some k_ ≠ (u267006 : Value).ownBlock ∧ some k_ ≠ (u282004 : Value).ownBlock ∧ some k_ ≠ (u282005 : Value).ownBlock ∧ some k_ ≠ (u297004 : Value).ownBlock ∧ some k_ ≠ (u297006 : Value).ownBlock)) (by (with_reducible repeat (first | apply Kd.R_alloc | apply Kd.R_drewN | apply Kd.R_drew)); exact Kd.R_mono HO_282006.out (fun _ hk => ⟨⟨hk.1, ⟨hk.2.1, ⟨hk.2.2.1, ⟨hk.2.2.2.1, ⟨hk.2.2.2.2.1, ⟨hk.2.2.2.2.2.1, ⟨hk.2.2.2.2.2.2.1, hk.2.2.2.2.2.2.2.2⟩⟩⟩⟩⟩⟩⟩, hk.2.2.2.2.2.2.2.1⟩)) hg (.inl rfl)); have n7_ := As0 (Kd.R_after (v := (.slice (some ⟨go73, 0, none⟩) x297005_3.length co78)) (v1 := (.slice (some ⟨go73, 0, none⟩) x297005_3.length co78)) (ok := (fun k_ => some k_ ≠ (.slice Ao29 x7_3.length co29 : Value).ownBlock ∧ some k_ ≠ (u267004 : Value).ownBlock ∧ some k_ ≠ (u267005 : Value).ownBlock ∧ some k_ ≠ (u267006 : Value).ownBlock ∧ some k_ ≠ (u282004 : Value).ownBlock ∧ some k_ ≠ (u282005 : Value).ownBlock ∧ some k_ ≠ (u282006 : Value).ownBlock ∧ some k_ ≠ (u297006 : Value).ownBlock)) (by (with_reducible repeat (first | apply Kd.R_alloc | apply Kd.R_drewN | apply Kd.R_drew)); exact Kd.R_mono HO_297004.out (fun _ hk => ⟨⟨hk.1, ⟨hk.2.1, ⟨hk.2.2.1, ⟨hk.2.2.2.1, ⟨hk.2.2.2.2.1, ⟨hk.2.2.2.2.2.1, ⟨hk.2.2.2.2.2.2.1, hk.2.2.2.2.2.2.2.2⟩⟩⟩⟩⟩⟩⟩, hk.2.2.2.2.2.2.2.1⟩)) hg (.inl rfl)); have n8_ := As0 (hp_); have n9_ := As0 (Kd.R_after (v := (.slice (some ⟨go73, 0, none⟩) x297005_3.length co78)) (v1 := (.slice (some ⟨go73, 0, none⟩) x297005_3.length co78)) (ok := (fun k_ => some k_ ≠ (.slice Ao29 x7_3.length co29 : Value).ownBlock ∧ some k_ ≠ (u267004 : Value).ownBlock ∧ some k_ ≠ (u267005 : Value).ownBlock ∧ some k_ ≠ (u267006 : Value).ownBlock ∧ some k_ ≠ (u282004 : Value).ownBlock ∧ some k_ ≠ (u282005 : Value).ownBlock ∧ some k_ ≠ (u282006 : Value).ownBlock ∧ some k_ ≠ (u297004 : Value).ownBlock)) (by (with_reducible repeat (first | apply Kd.R_alloc | apply Kd.R_drewN | apply Kd.R_drew)); exact Kd.R_mono HO_297006.out (fun _ hk => ⟨⟨hk.1, ⟨hk.2.1, ⟨hk.2.2.1, ⟨hk.2.2.2.1, ⟨hk.2.2.2.2.1, ⟨hk.2.2.2.2.2.1, ⟨hk.2.2.2.2.2.2.1, hk.2.2.2.2.2.2.2.1⟩⟩⟩⟩⟩⟩⟩, hk.2.2.2.2.2.2.2.2⟩)) hg (.inl rfl)); have n10_ := As0 (blk_grown (g := gb241) (o := .cells #[.int .i64 a0_0, .int .i64 a0_1, .int .i64 a0_2, .slice A0_3 l0_3.length c0_3] 63 (0, 0)) (by (with_reducible repeat (first | refine blk_drewN ?_ _ | refine blk_drew ?_ | refine blk_alloc ?_ _)); exact BK241.out) hg (Kd.R_ne HO_297005.out BK241.out (by decide))); have n11_ := As0 (blk_grown (g := gb266) (o := .cells #[.int .i64 t251, .int .i64 t252, .int .i64 t253, .int .i64 t254, u267004, u267005, u267006, .int .i64 t264] 39 (0, 0)) (by (with_reducible repeat (first | refine blk_drewN ?_ _ | refine blk_drew ?_ | refine blk_alloc ?_ _)); exact BK266.out) hg (Kd.R_ne HO_297005.out BK266.out (by decide))); have n12_ := As0 (blk_grown (g := gb281) (o := .cells #[.int .i64 t267, .int .i64 t268, .int .i64 t269, .int .i64 t270, u282004, u282005, u282006, .int .i64 t280] 39 (0, 0)) (by (with_reducible repeat (first | refine blk_drewN ?_ _ | refine blk_drew ?_ | refine blk_alloc ?_ _)); exact BK281.out) hg (Kd.R_ne HO_297005.out BK281.out (by decide))); have n13_ := As0 (blk_grown (g := gb296) (o := .cells #[.int .i64 t282, .int .i64 t283, .int .i64 t284, .int .i64 t285, u297004, .slice (some ⟨go73, 0, none⟩) x297005_3.length co78, u297006, .int .i64 t295] 39 (0, 0)) (by (with_reducible repeat (first | refine blk_drewN ?_ _ | refine blk_drew ?_ | refine blk_alloc ?_ _)); exact BK296.out) hg (Kd.R_ne HO_297005.out BK296.out (by decide))); have n14_ := As0 ((by rw [hw]; exact below_set (HB.out) GB73.out : Below w.heap.size w w80)); clear HO_7 HO_267004 HO_267005 HO_267006 HO_282004 HO_282005 HO_282006 HO_297004 HO_297005 HO_297006 BK241 BK266 BK281 BK296 HB; have HO_7 := n0_; have HO_267004 := n1_; have HO_267005 := n2_; have HO_267006 := n3_; have HO_282004 := n4_; have HO_282005 := n5_; have HO_282006 := n6_; have HO_297004 := n7_; have HO_297005 := n8_; have HO_297006 := n9_; have BK241 := n10_; have BK266 := n11_; have BK281 := n12_; have BK296 := n13_; have HB := n14_; clear n0_ n1_ n2_ n3_ n4_ n5_ n6_ n7_ n8_ n9_ n10_ n11_ n12_ n13_ n14_ hg hw hp_))
            (try simp only [← hl7_3])
            go_roundg k3
            case measure => have := HJ3.out; have := HK2.out; have := HK3.out; omega
            case rel => exact ⟨(x7_3), (wrap64 (x13_3 + 1)), (x267004_3), (x267005_3), (x267006_3), (x282004_3), (x282005_3), (x282006_3), (x297004_3), (y300), (x297006_3), (u267004), (u267005), (u267006), (u282004), (u282005), (u282006), (u297004), (.slice (some ⟨go73, 0, none⟩) x297005_3.length co78), (u297006), (by first | rfl | (simp; done) | (simp [*]; done)), H', ⟨by have := HJ3.out; have := HK2.out; have := HK3.out; omega⟩, ⟨by (try simp only [hl7_2]); (try simp only [hl7_3]); (with_reducible repeat (first | apply Kd.R_alloc | apply Kd.R_drewN | apply Kd.R_drew)); exact Kd.R_mono HO_7.out (fun _ hk => ⟨hk.1.1, ⟨hk.1.2.1, ⟨hk.1.2.2.1, ⟨hk.1.2.2.2.1, ⟨hk.1.2.2.2.2.1, ⟨hk.1.2.2.2.2.2.1, ⟨hk.1.2.2.2.2.2.2.1, ⟨hk.2, hk.1.2.2.2.2.2.2.2⟩⟩⟩⟩⟩⟩⟩⟩)⟩, ⟨by (try simp only [hl7_2]); (try simp only [hl7_3]); (with_reducible repeat (first | apply Kd.R_alloc | apply Kd.R_drewN | apply Kd.R_drew)); exact Kd.R_mono HO_267004.out (fun _ hk => ⟨hk.1.1, ⟨hk.1.2.1, ⟨hk.1.2.2.1, ⟨hk.1.2.2.2.1, ⟨hk.1.2.2.2.2.1, ⟨hk.1.2.2.2.2.2.1, ⟨hk.1.2.2.2.2.2.2.1, ⟨hk.2, hk.1.2.2.2.2.2.2.2⟩⟩⟩⟩⟩⟩⟩⟩)⟩, ⟨by (try simp only [hl7_2]); (try simp only [hl7_3]); (with_reducible repeat (first | apply Kd.R_alloc | apply Kd.R_drewN | apply Kd.R_drew)); exact Kd.R_mono HO_267005.out (fun _ hk => ⟨hk.1.1, ⟨hk.1.2.1, ⟨hk.1.2.2.1, ⟨hk.1.2.2.2.1, ⟨hk.1.2.2.2.2.1, ⟨hk.1.2.2.2.2.2.1, ⟨hk.1.2.2.2.2.2.2.1, ⟨hk.2, hk.1.2.2.2.2.2.2.2⟩⟩⟩⟩⟩⟩⟩⟩)⟩, ⟨by (try simp only [hl7_2]); (try simp only [hl7_3]); (with_reducible repeat (first | apply Kd.R_alloc | apply Kd.R_drewN | apply Kd.R_drew)); exact Kd.R_mono HO_267006.out (fun _ hk => ⟨hk.1.1, ⟨hk.1.2.1, ⟨hk.1.2.2.1, ⟨hk.1.2.2.2.1, ⟨hk.1.2.2.2.2.1, ⟨hk.1.2.2.2.2.2.1, ⟨hk.1.2.2.2.2.2.2.1, ⟨hk.2, hk.1.2.2.2.2.2.2.2⟩⟩⟩⟩⟩⟩⟩⟩)⟩, ⟨by (try simp only [hl7_2]); (try simp only [hl7_3]); (with_reducible repeat (first | apply Kd.R_alloc | apply Kd.R_drewN | apply Kd.R_drew)); exact Kd.R_mono HO_282004.out (fun _ hk => ⟨hk.1.1, ⟨hk.1.2.1, ⟨hk.1.2.2.1, ⟨hk.1.2.2.2.1, ⟨hk.1.2.2.2.2.1, ⟨hk.1.2.2.2.2.2.1, ⟨hk.1.2.2.2.2.2.2.1, ⟨hk.2, hk.1.2.2.2.2.2.2.2⟩⟩⟩⟩⟩⟩⟩⟩)⟩, ⟨by (try simp only [hl7_2]); (try simp only [hl7_3]); (with_reducible repeat (first | apply Kd.R_alloc | apply Kd.R_drewN | apply Kd.R_drew)); exact Kd.R_mono HO_282005.out (fun _ hk => ⟨hk.1.1, ⟨hk.1.2.1, ⟨hk.1.2.2.1, ⟨hk.1.2.2.2.1, ⟨hk.1.2.2.2.2.1, ⟨hk.1.2.2.2.2.2.1, ⟨hk.1.2.2.2.2.2.2.1, ⟨hk.2, hk.1.2.2.2.2.2.2.2⟩⟩⟩⟩⟩⟩⟩⟩)⟩, ⟨by (try simp only [hl7_2]); (try simp only [hl7_3]); (with_reducible repeat (first | apply Kd.R_alloc | apply Kd.R_drewN | apply Kd.R_drew)); exact Kd.R_mono HO_282006.out (fun _ hk => ⟨hk.1.1, ⟨hk.1.2.1, ⟨hk.1.2.2.1, ⟨hk.1.2.2.2.1, ⟨hk.1.2.2.2.2.1, ⟨hk.1.2.2.2.2.2.1, ⟨hk.1.2.2.2.2.2.2.1, ⟨hk.2, hk.1.2.2.2.2.2.2.2⟩⟩⟩⟩⟩⟩⟩⟩)⟩, ⟨by (try simp only [hl7_2]); (try simp only [hl7_3]); (with_reducible repeat (first | apply Kd.R_alloc | apply Kd.R_drewN | apply Kd.R_drew)); exact Kd.R_mono HO_297004.out (fun _ hk => ⟨hk.1.1, ⟨hk.1.2.1, ⟨hk.1.2.2.1, ⟨hk.1.2.2.2.1, ⟨hk.1.2.2.2.2.1, ⟨hk.1.2.2.2.2.2.1, ⟨hk.1.2.2.2.2.2.2.1, ⟨hk.2, hk.1.2.2.2.2.2.2.2⟩⟩⟩⟩⟩⟩⟩⟩)⟩, ⟨by (try simp only [hl7_2]); (try simp only [hl7_3]); (with_reducible repeat (first | apply Kd.R_alloc | apply Kd.R_drewN | apply Kd.R_drew)); exact HO_297005.out⟩, ⟨by (try simp only [hl7_2]); (try simp only [hl7_3]); (with_reducible repeat (first | apply Kd.R_alloc | apply Kd.R_drewN | apply Kd.R_drew)); exact Kd.R_mono HO_297006.out (fun _ hk => ⟨hk.1.1, ⟨hk.1.2.1, ⟨hk.1.2.2.1, ⟨hk.1.2.2.2.1, ⟨hk.1.2.2.2.2.1, ⟨hk.1.2.2.2.2.2.1, ⟨hk.1.2.2.2.2.2.2.1, ⟨hk.1.2.2.2.2.2.2.2, hk.2⟩⟩⟩⟩⟩⟩⟩⟩)⟩, ⟨by (try simp only [hl7_2]); (try simp only [hl7_3]); (with_reducible repeat (first | refine blk_drewN ?_ _ | refine blk_drew ?_ | refine blk_alloc ?_ _)); exact BK241.out⟩, ⟨by (try simp only [hl7_2]); (try simp only [hl7_3]); (with_reducible repeat (first | refine blk_drewN ?_ _ | refine blk_drew ?_ | refine blk_alloc ?_ _)); exact BK266.out⟩, ⟨by (try simp only [hl7_2]); (try simp only [hl7_3]); (with_reducible repeat (first | refine blk_drewN ?_ _ | refine blk_drew ?_ | refine blk_alloc ?_ _)); exact BK281.out⟩, ⟨by (try simp only [hl7_2]); (try simp only [hl7_3]); (with_reducible repeat (first | refine blk_drewN ?_ _ | refine blk_drew ?_ | refine blk_alloc ?_ _)); exact BK296.out⟩, ⟨by repeat (first | (with_reducible first | exact HB.out | apply below_alloc | apply bdN | apply bd1 | refine below_set ?_ GE241.out | refine below_set ?_ GE266.out | refine below_set ?_ GE281.out | refine below_set ?_ GE296.out) | exact HB.out)⟩⟩
           ·rw [if_neg c72] at H
            exact absurd H (by simp)
          ·rw [if_neg c71] at H
           have c71b0 : decide (x13_3 < (x297005_3.length : Int)) = false := decide_eq_false c71
           clear c71
           have H' := As0 H
           clear H
           have hnb81 := NB296_241.out
           have hnc81 := NB241_296.out
           have hnb82 := NB296_266.out
           have hnc82 := NB266_296.out
           have hnb83 := NB296_281.out
           have hnc83 := NB281_296.out
           have hcz84_0 : wr.cell? ⟨gb296, 0, none⟩ = some (.int .i64 t282) := (blk_cell BK296.out 0).trans rfl
           have hcz84_1 : wr.cell? ⟨gb296, 1, none⟩ = some (.int .i64 t283) := (blk_cell BK296.out 1).trans rfl
           have hcz84_2 : wr.cell? ⟨gb296, 2, none⟩ = some (.int .i64 t284) := (blk_cell BK296.out 2).trans rfl
           have hcz84_3 : wr.cell? ⟨gb296, 3, none⟩ = some (.int .i64 t285) := (blk_cell BK296.out 3).trans rfl
           have hcz84_4 : wr.cell? ⟨gb296, 4, none⟩ = some (u297004) := (blk_cell BK296.out 4).trans rfl
           have hcz84_5 : wr.cell? ⟨gb296, 5, none⟩ = some (u297005) := (blk_cell BK296.out 5).trans rfl
           have hcz84_6 : wr.cell? ⟨gb296, 6, none⟩ = some (u297006) := (blk_cell BK296.out 6).trans rfl
           have hcz84_7 : wr.cell? ⟨gb296, 7, none⟩ = some (.int .i64 t295) := (blk_cell BK296.out 7).trans rfl
           have hfz84_0 := blk_frozen BK296.out 0
           have hfz84_1 := blk_frozen BK296.out 1
           have hfz84_2 := blk_frozen BK296.out 2
           have hfz84_3 := blk_frozen BK296.out 3
           have hfz84_4 := blk_frozen BK296.out 4
           have hfz84_5 := blk_frozen BK296.out 5
           have hfz84_6 := blk_frozen BK296.out 6
           have hfz84_7 := blk_frozen BK296.out 7
           obtain ⟨Ao85, co85, eo85⟩ := Kd.R_slice HO_297005.out
           subst eo85
           go_wp2
           go_loopg [14] k3 (fun kq v14 w' => ∃ (x7_4 : List Int) (x14_4 : Int) (x267004_4 : List Int) (x267005_4 : List Int) (x267006_4 : List Int) (x282004_4 : List Int) (x282005_4 : List Int) (x282006_4 : List Int) (x297004_4 : List Int) (x297005_4 : List Int) (x297006_4 : List Int) (u267004 : Value) (u267005 : Value) (u267006 : Value) (u282004 : Value) (u282005 : Value) (u282006 : Value) (u297004 : Value) (u297005 : Value) (u297006 : Value), v14 = .int .i64 x14_4 ∧ Aside0 (regcertlaw10_ExecuteKeeps.l2 kq l1 x7_4 x14_4 t251 t252 t253 t254 x267004_4 x267005_4 x267006_4 t264 t267 t268 t269 t270 x282004_4 x282005_4 x282006_4 t280 t282 t283 t284 t285 x297004_4 x297005_4 x297006_4 t295 = some r) ∧ Aside0 (kq ≤ k3) ∧ Aside0 (Kd.R (Kd.int .i64) 2 w' w.heap.size (fun k_ => some k_ ≠ (u267004 : Value).ownBlock ∧ some k_ ≠ (u267005 : Value).ownBlock ∧ some k_ ≠ (u267006 : Value).ownBlock ∧ some k_ ≠ (u282004 : Value).ownBlock ∧ some k_ ≠ (u282005 : Value).ownBlock ∧ some k_ ≠ (u282006 : Value).ownBlock ∧ some k_ ≠ (u297004 : Value).ownBlock ∧ some k_ ≠ (u297005 : Value).ownBlock ∧ some k_ ≠ (u297006 : Value).ownBlock) (.slice Ao29 x7_3.length co29) x7_4) ∧ Aside0 (Kd.R (Kd.int .i64) 2 w' w.heap.size (fun k_ => some k_ ≠ ((.slice Ao29 x7_3.length co29) : Value).ownBlock ∧ some k_ ≠ (u267005 : Value).ownBlock ∧ some k_ ≠ (u267006 : Value).ownBlock ∧ some k_ ≠ (u282004 : Value).ownBlock ∧ some k_ ≠ (u282005 : Value).ownBlock ∧ some k_ ≠ (u282006 : Value).ownBlock ∧ some k_ ≠ (u297004 : Value).ownBlock ∧ some k_ ≠ (u297005 : Value).ownBlock ∧ some k_ ≠ (u297006 : Value).ownBlock) u267004 x267004_4) ∧ Aside0 (Kd.R (Kd.int .i64) 2 w' w.heap.size (fun k_ => some k_ ≠ ((.slice Ao29 x7_3.length co29) : Value).ownBlock ∧ some k_ ≠ (u267004 : Value).ownBlock ∧ some k_ ≠ (u267006 : Value).ownBlock ∧ some k_ ≠ (u282004 : Value).ownBlock ∧ some k_ ≠ (u282005 : Value).ownBlock ∧ some k_ ≠ (u282006 : Value).ownBlock ∧ some k_ ≠ (u297004 : Value).ownBlock ∧ some k_ ≠ (u297005 : Value).ownBlock ∧ some k_ ≠ (u297006 : Value).ownBlock) u267005 x267005_4) ∧ Aside0 (Kd.R (Kd.int .i64) 2 w' w.heap.size (fun k_ => some k_ ≠ ((.slice Ao29 x7_3.length co29) : Value).ownBlock ∧ some k_ ≠ (u267004 : Value).ownBlock ∧ some k_ ≠ (u267005 : Value).ownBlock ∧ some k_ ≠ (u282004 : Value).ownBlock ∧ some k_ ≠ (u282005 : Value).ownBlock ∧ some k_ ≠ (u282006 : Value).ownBlock ∧ some k_ ≠ (u297004 : Value).ownBlock ∧ some k_ ≠ (u297005 : Value).ownBlock ∧ some k_ ≠ (u297006 : Value).ownBlock) u267006 x267006_4) ∧ Aside0 (Kd.R (Kd.int .i64) 2 w' w.heap.size (fun k_ => some k_ ≠ ((.slice Ao29 x7_3.length co29) : Value).ownBlock ∧ some k_ ≠ (u267004 : Value).ownBlock ∧ some k_ ≠ (u267005 : Value).ownBlock ∧ some k_ ≠ (u267006 : Value).ownBlock ∧ some k_ ≠ (u282005 : Value).ownBlock ∧ some k_ ≠ (u282006 : Value).ownBlock ∧ some k_ ≠ (u297004 : Value).ownBlock ∧ some k_ ≠ (u297005 : Value).ownBlock ∧ some k_ ≠ (u297006 : Value).ownBlock) u282004 x282004_4) ∧ Aside0 (Kd.R (Kd.int .i64) 2 w' w.heap.size (fun k_ => some k_ ≠ ((.slice Ao29 x7_3.length co29) : Value).ownBlock ∧ some k_ ≠ (u267004 : Value).ownBlock ∧ some k_ ≠ (u267005 : Value).ownBlock ∧ some k_ ≠ (u267006 : Value).ownBlock ∧ some k_ ≠ (u282004 : Value).ownBlock ∧ some k_ ≠ (u282006 : Value).ownBlock ∧ some k_ ≠ (u297004 : Value).ownBlock ∧ some k_ ≠ (u297005 : Value).ownBlock ∧ some k_ ≠ (u297006 : Value).ownBlock) u282005 x282005_4) ∧ Aside0 (Kd.R (Kd.int .i64) 2 w' w.heap.size (fun k_ => some k_ ≠ ((.slice Ao29 x7_3.length co29) : Value).ownBlock ∧ some k_ ≠ (u267004 : Value).ownBlock ∧ some k_ ≠ (u267005 : Value).ownBlock ∧ some k_ ≠ (u267006 : Value).ownBlock ∧ some k_ ≠ (u282004 : Value).ownBlock ∧ some k_ ≠ (u282005 : Value).ownBlock ∧ some k_ ≠ (u297004 : Value).ownBlock ∧ some k_ ≠ (u297005 : Value).ownBlock ∧ some k_ ≠ (u297006 : Value).ownBlock) u282006 x282006_4) ∧ Aside0 (Kd.R (Kd.int .i64) 2 w' w.heap.size (fun k_ => some k_ ≠ ((.slice Ao29 x7_3.length co29) : Value).ownBlock ∧ some k_ ≠ (u267004 : Value).ownBlock ∧ some k_ ≠ (u267005 : Value).ownBlock ∧ some k_ ≠ (u267006 : Value).ownBlock ∧ some k_ ≠ (u282004 : Value).ownBlock ∧ some k_ ≠ (u282005 : Value).ownBlock ∧ some k_ ≠ (u282006 : Value).ownBlock ∧ some k_ ≠ (u297005 : Value).ownBlock ∧ some k_ ≠ (u297006 : Value).ownBlock) u297004 x297004_4) ∧ Aside0 (Kd.R (Kd.int .i64) 2 w' w.heap.size (fun k_ => some k_ ≠ ((.slice Ao29 x7_3.length co29) : Value).ownBlock ∧ some k_ ≠ (u267004 : Value).ownBlock ∧ some k_ ≠ (u267005 : Value).ownBlock ∧ some k_ ≠ (u267006 : Value).ownBlock ∧ some k_ ≠ (u282004 : Value).ownBlock ∧ some k_ ≠ (u282005 : Value).ownBlock ∧ some k_ ≠ (u282006 : Value).ownBlock ∧ some k_ ≠ (u297004 : Value).ownBlock ∧ some k_ ≠ (u297006 : Value).ownBlock) u297005 x297005_4) ∧ Aside0 (Kd.R (Kd.int .i64) 2 w' w.heap.size (fun k_ => some k_ ≠ ((.slice Ao29 x7_3.length co29) : Value).ownBlock ∧ some k_ ≠ (u267004 : Value).ownBlock ∧ some k_ ≠ (u267005 : Value).ownBlock ∧ some k_ ≠ (u267006 : Value).ownBlock ∧ some k_ ≠ (u282004 : Value).ownBlock ∧ some k_ ≠ (u282005 : Value).ownBlock ∧ some k_ ≠ (u282006 : Value).ownBlock ∧ some k_ ≠ (u297004 : Value).ownBlock ∧ some k_ ≠ (u297005 : Value).ownBlock) u297006 x297006_4) ∧ Aside0 (w'.heap[gb241]? = some (.cells #[.int .i64 a0_0, .int .i64 a0_1, .int .i64 a0_2, (.slice A0_3 l0_3.length c0_3)] 63 (0, 0))) ∧ Aside0 (w'.heap[gb266]? = some (.cells #[.int .i64 t251, .int .i64 t252, .int .i64 t253, .int .i64 t254, u267004, u267005, u267006, .int .i64 t264] 39 (0, 0))) ∧ Aside0 (w'.heap[gb281]? = some (.cells #[.int .i64 t267, .int .i64 t268, .int .i64 t269, .int .i64 t270, u282004, u282005, u282006, .int .i64 t280] 39 (0, 0))) ∧ Aside0 (w'.heap[gb296]? = some (.cells #[.int .i64 t282, .int .i64 t283, .int .i64 t284, .int .i64 t285, u297004, u297005, u297006, .int .i64 t295] 39 (0, 0))) ∧ Aside0 (Below w.heap.size w w'))
           case atStart => exact ⟨(x7_3), (0), (x267004_3), (x267005_3), (x267006_3), (x282004_3), (x282005_3), (x282006_3), (x297004_3), (x297005_3), (x297006_3), (u267004), (u267005), (u267006), (u282004), (u282005), (u282006), (u297004), (.slice Ao85 x297005_3.length co85), (u297006), (by first | rfl | (simp; done) | (simp [*]; done)), H', ⟨Nat.le_refl _⟩, ⟨by (try simp only [hl7_2]); (try simp only [hl7_3]); (with_reducible repeat (first | apply Kd.R_alloc | apply Kd.R_drewN | apply Kd.R_drew)); exact HO_7.out⟩, ⟨by (try simp only [hl7_2]); (try simp only [hl7_3]); (with_reducible repeat (first | apply Kd.R_alloc | apply Kd.R_drewN | apply Kd.R_drew)); exact HO_267004.out⟩, ⟨by (try simp only [hl7_2]); (try simp only [hl7_3]); (with_reducible repeat (first | apply Kd.R_alloc | apply Kd.R_drewN | apply Kd.R_drew)); exact HO_267005.out⟩, ⟨by (try simp only [hl7_2]); (try simp only [hl7_3]); (with_reducible repeat (first | apply Kd.R_alloc | apply Kd.R_drewN | apply Kd.R_drew)); exact HO_267006.out⟩, ⟨by (try simp only [hl7_2]); (try simp only [hl7_3]); (with_reducible repeat (first | apply Kd.R_alloc | apply Kd.R_drewN | apply Kd.R_drew)); exact HO_282004.out⟩, ⟨by (try simp only [hl7_2]); (try simp only [hl7_3]); (with_reducible repeat (first | apply Kd.R_alloc | apply Kd.R_drewN | apply Kd.R_drew)); exact HO_282005.out⟩, ⟨by (try simp only [hl7_2]); (try simp only [hl7_3]); (with_reducible repeat (first | apply Kd.R_alloc | apply Kd.R_drewN | apply Kd.R_drew)); exact HO_282006.out⟩, ⟨by (try simp only [hl7_2]); (try simp only [hl7_3]); (with_reducible repeat (first | apply Kd.R_alloc | apply Kd.R_drewN | apply Kd.R_drew)); exact HO_297004.out⟩, ⟨by (try simp only [hl7_2]); (try simp only [hl7_3]); (with_reducible repeat (first | apply Kd.R_alloc | apply Kd.R_drewN | apply Kd.R_drew)); exact HO_297005.out⟩, ⟨by (try simp only [hl7_2]); (try simp only [hl7_3]); (with_reducible repeat (first | apply Kd.R_alloc | apply Kd.R_drewN | apply Kd.R_drew)); exact HO_297006.out⟩, ⟨by (try simp only [hl7_2]); (try simp only [hl7_3]); (with_reducible repeat (first | refine blk_drewN ?_ _ | refine blk_drew ?_ | refine blk_alloc ?_ _)); exact BK241.out⟩, ⟨by (try simp only [hl7_2]); (try simp only [hl7_3]); (with_reducible repeat (first | refine blk_drewN ?_ _ | refine blk_drew ?_ | refine blk_alloc ?_ _)); exact BK266.out⟩, ⟨by (try simp only [hl7_2]); (try simp only [hl7_3]); (with_reducible repeat (first | refine blk_drewN ?_ _ | refine blk_drew ?_ | refine blk_alloc ?_ _)); exact BK281.out⟩, ⟨by (try simp only [hl7_2]); (try simp only [hl7_3]); (with_reducible repeat (first | refine blk_drewN ?_ _ | refine blk_drew ?_ | refine blk_alloc ?_ _)); exact BK296.out⟩, ⟨by repeat (first | (with_reducible first | exact HB.out | apply below_alloc | apply bdN | apply bd1 | refine below_set ?_ GE241.out | refine below_set ?_ GE266.out | refine below_set ?_ GE281.out | refine below_set ?_ GE296.out) | exact HB.out)⟩⟩
           case round =>
            clear H'
            try clear c1
            try clear c2
            try clear p2
            try clear q2
            try clear hx2
            try clear c3
            try clear c4
            try clear c5
            try clear p5
            try clear q5
            try clear hx5
            try clear hf5
            try clear c6
            try clear p6
            try clear c7
            try clear p7
            try clear q7
            try clear hx7
            try clear hf7
            try clear c8
            try clear c9
            try clear c18
            try clear c21
            try clear p29
            try clear q29
            try clear hx29
            try clear c32
            try clear c38
            try clear c39
            try clear c40
            try clear c44
            try clear c46
            try clear c49
            try clear c50
            try clear c51
            try clear c56
            try clear c56b0
            try clear c57
            try clear c57b0
            try clear p58
            try clear q58
            try clear hx58
            try clear hf58
            try clear c59
            try clear c60
            try clear c61
            try clear p64
            try clear c66
            try clear c67
            try clear c68
            try clear c71
            try clear c71b0
            try clear c72
            try clear c72b0
            try clear p73
            try clear q73
            try clear hx73
            try clear hf73
            try clear c74
            try clear c75
            try clear c76
            try clear c81
            try clear c82
            try clear c83
            try clear hcz11_0
            try clear hcz11_1
            try clear hcz11_2
            try clear hcz11_3
            try clear hcz13_0
            try clear hcz13_1
            try clear hcz13_2
            try clear hcz13_3
            try clear hcz15_0
            try clear hcz15_1
            try clear hcz15_2
            try clear hcz15_3
            try clear hcz28_0
            try clear hcz28_1
            try clear hcz28_2
            try clear hcz28_3
            try clear hcz33_0
            try clear hcz33_1
            try clear hcz33_2
            try clear hcz33_3
            try clear hcz33_4
            try clear hcz33_5
            try clear hcz33_6
            try clear hcz33_7
            try clear hcz41_0
            try clear hcz41_1
            try clear hcz41_2
            try clear hcz41_3
            try clear hcz41_4
            try clear hcz41_5
            try clear hcz41_6
            try clear hcz41_7
            try clear hcz45_0
            try clear hcz45_1
            try clear hcz45_2
            try clear hcz45_3
            try clear hcz46_0
            try clear hcz46_1
            try clear hcz46_2
            try clear hcz46_3
            try clear hcz46_4
            try clear hcz46_5
            try clear hcz46_6
            try clear hcz46_7
            try clear hcz52_0
            try clear hcz52_1
            try clear hcz52_2
            try clear hcz52_3
            try clear hcz52_4
            try clear hcz52_5
            try clear hcz52_6
            try clear hcz52_7
            try clear hcz62_0
            try clear hcz62_1
            try clear hcz62_2
            try clear hcz62_3
            try clear hcz62_4
            try clear hcz62_5
            try clear hcz62_6
            try clear hcz62_7
            try clear hcz69_0
            try clear hcz69_1
            try clear hcz69_2
            try clear hcz69_3
            try clear hcz69_4
            try clear hcz69_5
            try clear hcz69_6
            try clear hcz69_7
            try clear hcz77_0
            try clear hcz77_1
            try clear hcz77_2
            try clear hcz77_3
            try clear hcz77_4
            try clear hcz77_5
            try clear hcz77_6
            try clear hcz77_7
            try clear hcz84_0
            try clear hcz84_1
            try clear hcz84_2
            try clear hcz84_3
            try clear hcz84_4
            try clear hcz84_5
            try clear hcz84_6
            try clear hcz84_7
            try clear hfz11_0
            try clear hfz11_1
            try clear hfz11_2
            try clear hfz11_3
            try clear hfz13_0
            try clear hfz13_1
            try clear hfz13_2
            try clear hfz13_3
            try clear hfz15_0
            try clear hfz15_1
            try clear hfz15_2
            try clear hfz15_3
            try clear hfz28_0
            try clear hfz28_1
            try clear hfz28_2
            try clear hfz28_3
            try clear hfz33_0
            try clear hfz33_1
            try clear hfz33_2
            try clear hfz33_3
            try clear hfz33_4
            try clear hfz33_5
            try clear hfz33_6
            try clear hfz33_7
            try clear hfz41_0
            try clear hfz41_1
            try clear hfz41_2
            try clear hfz41_3
            try clear hfz41_4
            try clear hfz41_5
            try clear hfz41_6
            try clear hfz41_7
            try clear hfz45_0
            try clear hfz45_1
            try clear hfz45_2
            try clear hfz45_3
            try clear hfz46_0
            try clear hfz46_1
            try clear hfz46_2
            try clear hfz46_3
            try clear hfz46_4
            try clear hfz46_5
            try clear hfz46_6
            try clear hfz46_7
            try clear hfz52_0
            try clear hfz52_1
            try clear hfz52_2
            try clear hfz52_3
            try clear hfz52_4
            try clear hfz52_5
            try clear hfz52_6
            try clear hfz52_7
            try clear hfz62_0
            try clear hfz62_1
            try clear hfz62_2
            try clear hfz62_3
            try clear hfz62_4
            try clear hfz62_5
            try clear hfz62_6
            try clear hfz62_7
            try clear hfz69_0
            try clear hfz69_1
            try clear hfz69_2
            try clear hfz69_3
            try clear hfz69_4
            try clear hfz69_5
            try clear hfz69_6
            try clear hfz69_7
            try clear hfz77_0
            try clear hfz77_1
            try clear hfz77_2
            try clear hfz77_3
            try clear hfz77_4
            try clear hfz77_5
            try clear hfz77_6
            try clear hfz77_7
            try clear hfz84_0
            try clear hfz84_1
            try clear hfz84_2
            try clear hfz84_3
            try clear hfz84_4
            try clear hfz84_5
            try clear hfz84_6
            try clear hfz84_7
            try clear hx297_0
            try clear hx299_0
            try clear hx58_0
            try clear hx73_0
            try clear p2
            try clear p29
            try clear p297
            try clear p299
            try clear p5
            try clear p58
            try clear p6
            try clear p64
            try clear p73
            try clear q2
            try clear q29
            try clear q297
            try clear q299
            try clear q5
            try clear q58
            try clear q73
            obtain ⟨x7_4, x14_4, x267004_4, x267005_4, x267006_4, x282004_4, x282005_4, x282006_4, x297004_4, x297005_4, x297006_4, u267004, u267005, u267006, u282004, u282005, u282006, u297004, u297005, u297006, rfl, HA, HK4, HO_7, HO_267004, HO_267005, HO_267006, HO_282004, HO_282005, HO_282006, HO_297004, HO_297005, HO_297006, BK241, BK266, BK281, BK296, HB⟩ := hrel
            have hl7_4 := (Kd.R_reads' HO_7.out).1
            rw [hl7_4] at HO_7
            (try simp only [hl7_4])
            (try simp only [hl7_4] at BK241)
            (try simp only [hl7_4] at BK266)
            (try simp only [hl7_4] at BK281)
            (try simp only [hl7_4] at BK296)
            (try simp only [hl7_4] at HO_267004)
            (try simp only [hl7_4] at HO_267005)
            (try simp only [hl7_4] at HO_267006)
            (try simp only [hl7_4] at HO_282004)
            (try simp only [hl7_4] at HO_282005)
            (try simp only [hl7_4] at HO_282006)
            (try simp only [hl7_4] at HO_297004)
            (try simp only [hl7_4] at HO_297005)
            (try simp only [hl7_4] at HO_297006)
            cases gk with
            | zero => exact absurd HA.out (by simp [regcertlaw10_ExecuteKeeps.l2])
            | succ k4 =>
             have H := HA.out
             clear HA
             simp only [regcertlaw10_ExecuteKeeps.l2] at H
             by_cases c86 : x14_4 < (x297006_4.length : Int)
             ·rw [if_pos c86] at H
              have c86b0 : decide (x14_4 < (x297006_4.length : Int)) = true := decide_eq_true c86
              clear c86
              by_cases c87 : 0 ≤ x14_4
              ·rw [if_pos c87] at H
               have c87b0 : decide (0 ≤ x14_4) = true := decide_eq_true c87
               clear c87
               obtain ⟨y302, hy302⟩ : ∃ y_ : List Int, y_ = (x297006_4.set (x14_4 : Int).toNat (wrap64 ((rd x297006_4 x14_4) + 1))) := ⟨_, rfl⟩
               replace H : (regcertlaw10_ExecuteKeeps.l2 k4 l1 x7_4 (wrap64 (x14_4 + 1)) t251 t252 t253 t254 x267004_4 x267005_4 x267006_4 t264 t267 t268 t269 t270 x282004_4 x282005_4 x282006_4 t280 t282 t283 t284 t285 x297004_4 x297005_4 y302 t295) = some r := by first | (rw [hy302]; with_reducible exact H) | (have H2_ := (Option.bind_some _ _).symm.trans H; rw [hy302]; with_reducible exact H2_) | (have H2_ := (Option.bind_some _ _).symm.trans H; with_reducible exact H2_) | with_reducible exact H | (rw [hy302]; exact H) | exact H
               have Ny302 := As0 hy302
               clear hy302
               have H' := As0 H
               clear H
               have hnb89 := NB296_241.out
               have hnc89 := NB241_296.out
               have hnb90 := NB296_266.out
               have hnc90 := NB266_296.out
               have hnb91 := NB296_281.out
               have hnc91 := NB281_296.out
               have hcz92_0 : wr.cell? ⟨gb296, 0, none⟩ = some (.int .i64 t282) := (blk_cell BK296.out 0).trans rfl
               have hcz92_1 : wr.cell? ⟨gb296, 1, none⟩ = some (.int .i64 t283) := (blk_cell BK296.out 1).trans rfl
               have hcz92_2 : wr.cell? ⟨gb296, 2, none⟩ = some (.int .i64 t284) := (blk_cell BK296.out 2).trans rfl
               have hcz92_3 : wr.cell? ⟨gb296, 3, none⟩ = some (.int .i64 t285) := (blk_cell BK296.out 3).trans rfl
               have hcz92_4 : wr.cell? ⟨gb296, 4, none⟩ = some (u297004) := (blk_cell BK296.out 4).trans rfl
               have hcz92_5 : wr.cell? ⟨gb296, 5, none⟩ = some (u297005) := (blk_cell BK296.out 5).trans rfl
               have hcz92_6 : wr.cell? ⟨gb296, 6, none⟩ = some (u297006) := (blk_cell BK296.out 6).trans rfl
               have hcz92_7 : wr.cell? ⟨gb296, 7, none⟩ = some (.int .i64 t295) := (blk_cell BK296.out 7).trans rfl
               have hfz92_0 := blk_frozen BK296.out 0
               have hfz92_1 := blk_frozen BK296.out 1
               have hfz92_2 := blk_frozen BK296.out 2
               have hfz92_3 := blk_frozen BK296.out 3
               have hfz92_4 := blk_frozen BK296.out 4
               have hfz92_5 := blk_frozen BK296.out 5
               have hfz92_6 := blk_frozen BK296.out 6
               have hfz92_7 := blk_frozen BK296.out 7
               obtain ⟨Ao93, co93, eo93⟩ := Kd.R_slice HO_297006.out
               subst eo93
               have p301 : 0 ≤ (x14_4 : Int) := of_decide_eq_true (by first | (with_reducible assumption) | assumption)
               have q301 : x14_4 < (x297006_4.length : Int) := of_decide_eq_true (by first | (with_reducible assumption) | assumption)
               obtain ⟨ad301, e301, hx301_0⟩ := Kd.at_int (Kd.R_reads' HO_297006.out).2.2 x14_4 p301 q301
               cases e301
               replace p301 := eq_true p301
               replace q301 := eq_true q301
               have p88 : 0 ≤ (x14_4 : Int) := of_decide_eq_true (by first | (with_reducible assumption) | assumption)
               have q88 : (x14_4 : Int) < ((x297006_4.length : Int) : Int) := of_decide_eq_true (by first | (with_reducible assumption) | assumption)
               obtain ⟨go88, co88, eo88, gb88, gl88, cl88, HG88⟩ := Kd.R_form HO_297006.out (by omega)
               (first | cases eo88 | (injection eo88 with ea_ en_ ec_; (first | subst ea_ | (injection ea_ with ea_; subst ea_)); subst ec_; clear en_))
               have GB88 := As0 gb88
               have GG88 := As0 HG88
               clear gb88 gl88 HG88
               (first | simp only [add_plain] at hx301_0 | skip)
               obtain ⟨hx88_0, hf88_0⟩ := Kd.R_celln 0 HO_297006.out (x14_4 : Int) p88 q88
               replace p88 := eq_true p88
               replace q88 := eq_true q88
               have HP94 := Kd.R_putg HO_297006.out (x14_4 : Int) (wrap64 ((rd x297006_4 x14_4) + 1))
               go_wp2_with (first | ((with_reducible refine gate_store (t := 2) (p := 91) rfl ?_); refine store_event (t := 2) (p := 91) (v := ?vo_w95) (w1 := (wr.setCell ⟨go88, (x14_4 : Int).toNat, none⟩ (.int .i64 (wrap64 ((rd x297006_4 x14_4) + 1))))) ?hg ?ho ?hn ?hr ?_; (case ho => rfl); (case hg => rfl); (case hn => rfl); (case hr => first | (go_simp; done) | (go_simp; rfl)); intro w95 hw; have hg : wr.grownBy w95 (some go88) := (by rw [hw]; exact HP94.2); have hp_ : Kd.R (Kd.int .i64) 2 w95 w.heap.size (fun k_ => some k_ ≠ (.slice Ao29 x7_4.length co29 : Value).ownBlock ∧ some k_ ≠ (u267004 : Value).ownBlock ∧ some k_ ≠ (u267005 : Value).ownBlock ∧ some k_ ≠ (u267006 : Value).ownBlock ∧ some k_ ≠ (u282004 : Value).ownBlock ∧ some k_ ≠ (u282005 : Value).ownBlock ∧ some k_ ≠ (u282006 : Value).ownBlock ∧ some k_ ≠ (u297004 : Value).ownBlock ∧ some k_ ≠ (u297005 : Value).ownBlock) (.slice (some ⟨go88, 0, none⟩) x297006_4.length co93) y302 := (by rw [hw, Ny302.out]; exact HP94.1); clear HP94; have n0_ := As0 (Kd.R_after (v := (.slice (some ⟨go88, 0, none⟩) x297006_4.length co93)) (v1 := (.slice (some ⟨go88, 0, none⟩) x297006_4.length co93)) (ok := (fun k_ => some k_ ≠ (u267004 : Value).ownBlock ∧ some k_ ≠ (u267005 : Value).ownBlock ∧ some k_ ≠ (u267006 : Value).ownBlock ∧ some k_ ≠ (u282004 : Value).ownBlock ∧ some k_ ≠ (u282005 : Value).ownBlock ∧ some k_ ≠ (u282006 : Value).ownBlock ∧ some k_ ≠ (u297004 : Value).ownBlock ∧ some k_ ≠ (u297005 : Value).ownBlock)) (by (with_reducible repeat (first | apply Kd.R_alloc | apply Kd.R_drewN | apply Kd.R_drew)); exact Kd.R_mono HO_7.out (fun _ hk => ⟨⟨hk.1, ⟨hk.2.1, ⟨hk.2.2.1, ⟨hk.2.2.2.1, ⟨hk.2.2.2.2.1, ⟨hk.2.2.2.2.2.1, ⟨hk.2.2.2.2.2.2.1, hk.2.2.2.2.2.2.2.1⟩⟩⟩⟩⟩⟩⟩, hk.2.2.2.2.2.2.2.2⟩)) hg (.inl rfl)); have n1_ := As0 (Kd.R_after (v := (.slice (some ⟨go88, 0, none⟩) x297006_4.length co93)) (v1 := (.slice (some ⟨go88, 0, none⟩) x297006_4.length co93)) (ok := (fun k_ => some k_ ≠ (.slice Ao29 x7_4.length co29 : Value).ownBlock ∧ some k_ ≠ (u267005 : Value).ownBlock ∧ some k_ ≠ (u267006 : Value).ownBlock ∧ some k_ ≠ (u282004 : Value).ownBlock ∧ some k_ ≠ (u282005 : Value).ownBlock ∧ some k_ ≠ (u282006 : Value).ownBlock ∧ some k_ ≠ (u297004 : Value).ownBlock ∧ some k_ ≠ (u297005 : Value).ownBlock)) (by (with_reducible repeat (first | apply Kd.R_alloc | apply Kd.R_drewN | apply Kd.R_drew)); exact Kd.R_mono HO_267004.out (fun _ hk => ⟨⟨hk.1, ⟨hk.2.1, ⟨hk.2.2.1, ⟨hk.2.2.2.1, ⟨hk.2.2.2.2.1, ⟨hk.2.2.2.2.2.1, ⟨hk.2.2.2.2.2.2.1, hk.2.2.2.2.2.2.2.1⟩⟩⟩⟩⟩⟩⟩, hk.2.2.2.2.2.2.2.2⟩)) hg (.inl rfl)); have n2_ := As0 (Kd.R_after (v := (.slice (some ⟨go88, 0, none⟩) x297006_4.length co93)) (v1 := (.slice (some ⟨go88, 0, none⟩) x297006_4.length co93)) (ok := (fun k_ => some k_ ≠ (.slice Ao29 x7_4.length co29 : Value).ownBlock ∧ some k_ ≠ (u267004 : Value).ownBlock ∧ some k_ ≠ (u267006 : Value).ownBlock ∧ some k_ ≠ (u282004 : Value).ownBlock ∧ some k_ ≠ (u282005 : Value).ownBlock ∧ some k_ ≠ (u282006 : Value).ownBlock ∧ some k_ ≠ (u297004 : Value).ownBlock ∧ some k_ ≠ (u297005 : Value).ownBlock)) (by (with_reducible repeat (first | apply Kd.R_alloc | apply Kd.R_drewN | apply Kd.R_drew)); exact Kd.R_mono HO_267005.out (fun _ hk => ⟨⟨hk.1, ⟨hk.2.1, ⟨hk.2.2.1, ⟨hk.2.2.2.1, ⟨hk.2.2.2.2.1, ⟨hk.2.2.2.2.2.1, ⟨hk.2.2.2.2.2.2.1, hk.2.2.2.2.2.2.2.1⟩⟩⟩⟩⟩⟩⟩, hk.2.2.2.2.2.2.2.2⟩)) hg (.inl rfl)); have n3_ := As0 (Kd.R_after (v := (.slice (some ⟨go88, 0, none⟩) x297006_4.length co93)) (v1 := (.slice (some ⟨go88, 0, none⟩) x297006_4.length co93)) (ok := (fun k_ => some k_ ≠ (.slice Ao29 x7_4.length co29 : Value).ownBlock ∧ some k_ ≠ (u267004 : Value).ownBlock ∧ some k_ ≠ (u267005 : Value).ownBlock ∧ some k_ ≠ (u282004 : Value).ownBlock ∧ some k_ ≠ (u282005 : Value).ownBlock ∧ some k_ ≠ (u282006 : Value).ownBlock ∧ some k_ ≠ (u297004 : Value).ownBlock ∧ some k_ ≠ (u297005 : Value).ownBlock)) (by (with_reducible repeat (first | apply Kd.R_alloc | apply Kd.R_drewN | apply Kd.R_drew)); exact Kd.R_mono HO_267006.out (fun _ hk => ⟨⟨hk.1, ⟨hk.2.1, ⟨hk.2.2.1, ⟨hk.2.2.2.1, ⟨hk.2.2.2.2.1, ⟨hk.2.2.2.2.2.1, ⟨hk.2.2.2.2.2.2.1, hk.2.2.2.2.2.2.2.1⟩⟩⟩⟩⟩⟩⟩, hk.2.2.2.2.2.2.2.2⟩)) hg (.inl rfl)); have n4_ := As0 (Kd.R_after (v := (.slice (some ⟨go88, 0, none⟩) x297006_4.length co93)) (v1 := (.slice (some ⟨go88, 0, none⟩) x297006_4.length co93)) (ok := (fun k_ => some k_ ≠ (.slice Ao29 x7_4.length co29 : Value).ownBlock ∧ some k_ ≠ (u267004 : Value).ownBlock ∧ some k_ ≠ (u267005 : Value).ownBlock ∧ some k_ ≠ (u267006 : Value).ownBlock ∧ some k_ ≠ (u282005 : Value).ownBlock ∧ some k_ ≠ (u282006 : Value).ownBlock ∧ some k_ ≠ (u297004 : Value).ownBlock ∧ some k_ ≠ (u297005 : Value).ownBlock)) (by (with_reducible repeat (first | apply Kd.R_alloc | apply Kd.R_drewN | apply Kd.R_drew)); exact Kd.R_mono HO_282004.out (fun _ hk => ⟨⟨hk.1, ⟨hk.2.1, ⟨hk.2.2.1, ⟨hk.2.2.2.1, ⟨hk.2.2.2.2.1, ⟨hk.2.2.2.2.2.1, ⟨hk.2.2.2.2.2.2.1, hk.2.2.2.2.2.2.2.1⟩⟩⟩⟩⟩⟩⟩, hk.2.2.2.2.2.2.2.2⟩)) hg (.inl rfl)); have n5_ := As0 (Kd.R_after (v := (.slice (some ⟨go88, 0, none⟩) x297006_4.length co93)) (v1 := (.slice (some ⟨go88, 0, none⟩) x297006_4.length co93)) (ok := (fun k_ => some k_ ≠ (.slice Ao29 x7_4.length co29 : Value).ownBlock ∧ some k_ ≠ (u267004 : Value).ownBlock ∧ some k_ ≠ (u267005 : Value).ownBlock ∧ some k_ ≠ (u267006 : Value).ownBlock ∧ some k_ ≠ (u282004 : Value).ownBlock ∧ some k_ ≠ (u282006 : Value).ownBlock ∧ some k_ ≠ (u297004 : Value).ownBlock ∧ some k_ ≠ (u297005 : Value).ownBlock)) (by (with_reducible repeat (first | apply Kd.R_alloc | apply Kd.R_drewN | apply Kd.R_drew)); exact Kd.R_mono HO_282005.out (fun _ hk => ⟨⟨hk.1, ⟨hk.2.1, ⟨hk.2.2.1, ⟨hk.2.2.2.1, ⟨hk.2.2.2.2.1, ⟨hk.2.2.2.2.2.1, ⟨hk.2.2.2.2.2.2.1, hk.2.2.2.2.2.2.2.1⟩⟩⟩⟩⟩⟩⟩, hk.2.2.2.2.2.2.2.2⟩)) hg (.inl rfl)); have n6_ := As0 (Kd.R_after (v := (.slice (some ⟨go88, 0, none⟩) x297006_4.length co93)) (v1 := (.slice (some ⟨go88, 0, none⟩) x297006_4.length co93)) (ok := (fun k_ => some k_ ≠ (.slice Ao29 x7_4.length co29 : Value).ownBlock ∧ some k_ ≠ (u267004 : Value).ownBlock ∧ some k_ ≠ (u267005 : Value).ownBlock ∧ some k_ ≠ (u267006 : Value).ownBlock ∧ some k_ ≠ (u282004 : Value).ownBlock ∧ some k_ ≠ (u282005 : Value).ownBlock ∧ some k_ ≠ (u297004 : Value).ownBlock ∧ some k_ ≠ (u297005 : Value).ownBlock)) (by (with_reducible repeat (first | apply Kd.R_alloc | apply Kd.R_drewN | apply Kd.R_drew)); exact Kd.R_mono HO_282006.out (fun _ hk => ⟨⟨hk.1, ⟨hk.2.1, ⟨hk.2.2.1, ⟨hk.2.2.2.1, ⟨hk.2.2.2.2.1, ⟨hk.2.2.2.2.2.1, ⟨hk.2.2.2.2.2.2.1, hk.2.2.2.2.2.2.2.1⟩⟩⟩⟩⟩⟩⟩, hk.2.2.2.2.2.2.2.2⟩)) hg (.inl rfl)); have n7_ := As0 (Kd.R_after (v := (.slice (some ⟨go88, 0, none⟩) x297006_4.length co93)) (v1 := (.slice (some ⟨go88, 0, none⟩) x297006_4.length co93)) (ok := (fun k_ => some k_ ≠ (.slice Ao29 x7_4.length co29 : Value).ownBlock ∧ some k_ ≠ (u267004 : Value).ownBlock ∧ some k_ ≠ (u267005 : Value).ownBlock ∧ some k_ ≠ (u267006 : Value).ownBlock ∧ some k_ ≠ (u282004 : Value).ownBlock ∧ some k_ ≠ (u282005 : Value).ownBlock ∧ some k_ ≠ (u282006 : Value).ownBlock ∧ some k_ ≠ (u297005 : Value).ownBlock)) (by (with_reducible repeat (first | apply Kd.R_alloc | apply Kd.R_drewN | apply Kd.R_drew)); exact Kd.R_mono HO_297004.out (fun _ hk => ⟨⟨hk.1, ⟨hk.2.1, ⟨hk.2.2.1, ⟨hk.2.2.2.1, ⟨hk.2.2.2.2.1, ⟨hk.2.2.2.2.2.1, ⟨hk.2.2.2.2.2.2.1, hk.2.2.2.2.2.2.2.1⟩⟩⟩⟩⟩⟩⟩, hk.2.2.2.2.2.2.2.2⟩)) hg (.inl rfl)); have n8_ := As0 (Kd.R_after (v := (.slice (some ⟨go88, 0, none⟩) x297006_4.length co93)) (v1 := (.slice (some ⟨go88, 0, none⟩) x297006_4.length co93)) (ok := (fun k_ => some k_ ≠ (.slice Ao29 x7_4.length co29 : Value).ownBlock ∧ some k_ ≠ (u267004 : Value).ownBlock ∧ some k_ ≠ (u267005 : Value).ownBlock ∧ some k_ ≠ (u267006 : Value).ownBlock ∧ some k_ ≠ (u282004 : Value).ownBlock ∧ some k_ ≠ (u282005 : Value).ownBlock ∧ some k_ ≠ (u282006 : Value).ownBlock ∧ some k_ ≠ (u297004 : Value).ownBlock)) (by (with_reducible repeat (first | apply Kd.R_alloc | apply Kd.R_drewN | apply Kd.R_drew)); exact Kd.R_mono HO_297005.out (fun _ hk => ⟨⟨hk.1, ⟨hk.2.1, ⟨hk.2.2.1, ⟨hk.2.2.2.1, ⟨hk.2.2.2.2.1, ⟨hk.2.2.2.2.2.1, ⟨hk.2.2.2.2.2.2.1, hk.2.2.2.2.2.2.2.1⟩⟩⟩⟩⟩⟩⟩, hk.2.2.2.2.2.2.2.2⟩)) hg (.inl rfl)); have n9_ := As0 (hp_); have n10_ := As0 (blk_grown (g := gb241) (o := .cells #[.int .i64 a0_0, .int .i64 a0_1, .int .i64 a0_2, .slice A0_3 l0_3.length c0_3] 63 (0, 0)) (by (with_reducible repeat (first | refine blk_drewN ?_ _ | refine blk_drew ?_ | refine blk_alloc ?_ _)); exact BK241.out) hg (Kd.R_ne HO_297006.out BK241.out (by decide))); have n11_ := As0 (blk_grown (g := gb266) (o := .cells #[.int .i64 t251, .int .i64 t252, .int .i64 t253, .int .i64 t254, u267004, u267005, u267006, .int .i64 t264] 39 (0, 0)) (by (with_reducible repeat (first | refine blk_drewN ?_ _ | refine blk_drew ?_ | refine blk_alloc ?_ _)); exact BK266.out) hg (Kd.R_ne HO_297006.out BK266.out (by decide))); have n12_ := As0 (blk_grown (g := gb281) (o := .cells #[.int .i64 t267, .int .i64 t268, .int .i64 t269, .int .i64 t270, u282004, u282005, u282006, .int .i64 t280] 39 (0, 0)) (by (with_reducible repeat (first | refine blk_drewN ?_ _ | refine blk_drew ?_ | refine blk_alloc ?_ _)); exact BK281.out) hg (Kd.R_ne HO_297006.out BK281.out (by decide))); have n13_ := As0 (blk_grown (g := gb296) (o := .cells #[.int .i64 t282, .int .i64 t283, .int .i64 t284, .int .i64 t285, u297004, u297005, .slice (some ⟨go88, 0, none⟩) x297006_4.length co93, .int .i64 t295] 39 (0, 0)) (by (with_reducible repeat (first | refine blk_drewN ?_ _ | refine blk_drew ?_ | refine blk_alloc ?_ _)); exact BK296.out) hg (Kd.R_ne HO_297006.out BK296.out (by decide))); have n14_ := As0 ((by rw [hw]; exact below_set (HB.out) GB88.out : Below w.heap.size w w95)); clear HO_7 HO_267004 HO_267005 HO_267006 HO_282004 HO_282005 HO_282006 HO_297004 HO_297005 HO_297006 BK241 BK266 BK281 BK296 HB; have HO_7 := n0_; have HO_267004 := n1_; have HO_267005 := n2_; have HO_267006 := n3_; have HO_282004 := n4_; have HO_282005 := n5_; have HO_282006 := n6_; have HO_297004 := n7_; have HO_297005 := n8_; have HO_297006 := n9_; have BK241 := n10_; have BK266 := n11_; have BK281 := n12_; have BK296 := n13_; have HB := n14_; clear n0_ n1_ n2_ n3_ n4_ n5_ n6_ n7_ n8_ n9_ n10_ n11_ n12_ n13_ n14_ hg hw hp_))
               (try simp only [← hl7_4])
               go_roundg k4
               case measure => have := HJ3.out; have := HK2.out; have := HK3.out; have := HK4.out; omega
               case rel => exact ⟨(x7_4), (wrap64 (x14_4 + 1)), (x267004_4), (x267005_4), (x267006_4), (x282004_4), (x282005_4), (x282006_4), (x297004_4), (x297005_4), (y302), (u267004), (u267005), (u267006), (u282004), (u282005), (u282006), (u297004), (u297005), (.slice (some ⟨go88, 0, none⟩) x297006_4.length co93), (by first | rfl | (simp; done) | (simp [*]; done)), H', ⟨by have := HJ3.out; have := HK2.out; have := HK3.out; have := HK4.out; omega⟩, ⟨by (try simp only [hl7_2]); (try simp only [hl7_3]); (try simp only [hl7_4]); (with_reducible repeat (first | apply Kd.R_alloc | apply Kd.R_drewN | apply Kd.R_drew)); exact Kd.R_mono HO_7.out (fun _ hk => ⟨hk.1.1, ⟨hk.1.2.1, ⟨hk.1.2.2.1, ⟨hk.1.2.2.2.1, ⟨hk.1.2.2.2.2.1, ⟨hk.1.2.2.2.2.2.1, ⟨hk.1.2.2.2.2.2.2.1, ⟨hk.1.2.2.2.2.2.2.2, hk.2⟩⟩⟩⟩⟩⟩⟩⟩)⟩, ⟨by (try simp only [hl7_2]); (try simp only [hl7_3]); (try simp only [hl7_4]); (with_reducible repeat (first | apply Kd.R_alloc | apply Kd.R_drewN | apply Kd.R_drew)); exact Kd.R_mono HO_267004.out (fun _ hk => ⟨hk.1.1, ⟨hk.1.2.1, ⟨hk.1.2.2.1, ⟨hk.1.2.2.2.1, ⟨hk.1.2.2.2.2.1, ⟨hk.1.2.2.2.2.2.1, ⟨hk.1.2.2.2.2.2.2.1, ⟨hk.1.2.2.2.2.2.2.2, hk.2⟩⟩⟩⟩⟩⟩⟩⟩)⟩, ⟨by (try simp only [hl7_2]); (try simp only [hl7_3]); (try simp only [hl7_4]); (with_reducible repeat (first | apply Kd.R_alloc | apply Kd.R_drewN | apply Kd.R_drew)); exact Kd.R_mono HO_267005.out (fun _ hk => ⟨hk.1.1, ⟨hk.1.2.1, ⟨hk.1.2.2.1, ⟨hk.1.2.2.2.1, ⟨hk.1.2.2.2.2.1, ⟨hk.1.2.2.2.2.2.1, ⟨hk.1.2.2.2.2.2.2.1, ⟨hk.1.2.2.2.2.2.2.2, hk.2⟩⟩⟩⟩⟩⟩⟩⟩)⟩, ⟨by (try simp only [hl7_2]); (try simp only [hl7_3]); (try simp only [hl7_4]); (with_reducible repeat (first | apply Kd.R_alloc | apply Kd.R_drewN | apply Kd.R_drew)); exact Kd.R_mono HO_267006.out (fun _ hk => ⟨hk.1.1, ⟨hk.1.2.1, ⟨hk.1.2.2.1, ⟨hk.1.2.2.2.1, ⟨hk.1.2.2.2.2.1, ⟨hk.1.2.2.2.2.2.1, ⟨hk.1.2.2.2.2.2.2.1, ⟨hk.1.2.2.2.2.2.2.2, hk.2⟩⟩⟩⟩⟩⟩⟩⟩)⟩, ⟨by (try simp only [hl7_2]); (try simp only [hl7_3]); (try simp only [hl7_4]); (with_reducible repeat (first | apply Kd.R_alloc | apply Kd.R_drewN | apply Kd.R_drew)); exact Kd.R_mono HO_282004.out (fun _ hk => ⟨hk.1.1, ⟨hk.1.2.1, ⟨hk.1.2.2.1, ⟨hk.1.2.2.2.1, ⟨hk.1.2.2.2.2.1, ⟨hk.1.2.2.2.2.2.1, ⟨hk.1.2.2.2.2.2.2.1, ⟨hk.1.2.2.2.2.2.2.2, hk.2⟩⟩⟩⟩⟩⟩⟩⟩)⟩, ⟨by (try simp only [hl7_2]); (try simp only [hl7_3]); (try simp only [hl7_4]); (with_reducible repeat (first | apply Kd.R_alloc | apply Kd.R_drewN | apply Kd.R_drew)); exact Kd.R_mono HO_282005.out (fun _ hk => ⟨hk.1.1, ⟨hk.1.2.1, ⟨hk.1.2.2.1, ⟨hk.1.2.2.2.1, ⟨hk.1.2.2.2.2.1, ⟨hk.1.2.2.2.2.2.1, ⟨hk.1.2.2.2.2.2.2.1, ⟨hk.1.2.2.2.2.2.2.2, hk.2⟩⟩⟩⟩⟩⟩⟩⟩)⟩, ⟨by (try simp only [hl7_2]); (try simp only [hl7_3]); (try simp only [hl7_4]); (with_reducible repeat (first | apply Kd.R_alloc | apply Kd.R_drewN | apply Kd.R_drew)); exact Kd.R_mono HO_282006.out (fun _ hk => ⟨hk.1.1, ⟨hk.1.2.1, ⟨hk.1.2.2.1, ⟨hk.1.2.2.2.1, ⟨hk.1.2.2.2.2.1, ⟨hk.1.2.2.2.2.2.1, ⟨hk.1.2.2.2.2.2.2.1, ⟨hk.1.2.2.2.2.2.2.2, hk.2⟩⟩⟩⟩⟩⟩⟩⟩)⟩, ⟨by (try simp only [hl7_2]); (try simp only [hl7_3]); (try simp only [hl7_4]); (with_reducible repeat (first | apply Kd.R_alloc | apply Kd.R_drewN | apply Kd.R_drew)); exact Kd.R_mono HO_297004.out (fun _ hk => ⟨hk.1.1, ⟨hk.1.2.1, ⟨hk.1.2.2.1, ⟨hk.1.2.2.2.1, ⟨hk.1.2.2.2.2.1, ⟨hk.1.2.2.2.2.2.1, ⟨hk.1.2.2.2.2.2.2.1, ⟨hk.1.2.2.2.2.2.2.2, hk.2⟩⟩⟩⟩⟩⟩⟩⟩)⟩, ⟨by (try simp only [hl7_2]); (try simp only [hl7_3]); (try simp only [hl7_4]); (with_reducible repeat (first | apply Kd.R_alloc | apply Kd.R_drewN | apply Kd.R_drew)); exact Kd.R_mono HO_297005.out (fun _ hk => ⟨hk.1.1, ⟨hk.1.2.1, ⟨hk.1.2.2.1, ⟨hk.1.2.2.2.1, ⟨hk.1.2.2.2.2.1, ⟨hk.1.2.2.2.2.2.1, ⟨hk.1.2.2.2.2.2.2.1, ⟨hk.1.2.2.2.2.2.2.2, hk.2⟩⟩⟩⟩⟩⟩⟩⟩)⟩, ⟨by (try simp only [hl7_2]); (try simp only [hl7_3]); (try simp only [hl7_4]); (with_reducible repeat (first | apply Kd.R_alloc | apply Kd.R_drewN | apply Kd.R_drew)); exact HO_297006.out⟩, ⟨by (try simp only [hl7_2]); (try simp only [hl7_3]); (try simp only [hl7_4]); (with_reducible repeat (first | refine blk_drewN ?_ _ | refine blk_drew ?_ | refine blk_alloc ?_ _)); exact BK241.out⟩, ⟨by (try simp only [hl7_2]); (try simp only [hl7_3]); (try simp only [hl7_4]); (with_reducible repeat (first | refine blk_drewN ?_ _ | refine blk_drew ?_ | refine blk_alloc ?_ _)); exact BK266.out⟩, ⟨by (try simp only [hl7_2]); (try simp only [hl7_3]); (try simp only [hl7_4]); (with_reducible repeat (first | refine blk_drewN ?_ _ | refine blk_drew ?_ | refine blk_alloc ?_ _)); exact BK281.out⟩, ⟨by (try simp only [hl7_2]); (try simp only [hl7_3]); (try simp only [hl7_4]); (with_reducible repeat (first | refine blk_drewN ?_ _ | refine blk_drew ?_ | refine blk_alloc ?_ _)); exact BK296.out⟩, ⟨by repeat (first | (with_reducible first | exact HB.out | apply below_alloc | apply bdN | apply bd1 | refine below_set ?_ GE241.out | refine below_set ?_ GE266.out | refine below_set ?_ GE281.out | refine below_set ?_ GE296.out) | exact HB.out)⟩⟩
              ·rw [if_neg c87] at H
               exact absurd H (by simp)
             ·rw [if_neg c86] at H
              have c86b0 : decide (x14_4 < (x297006_4.length : Int)) = false := decide_eq_false c86
              clear c86
              replace H := Option.bind_eq_some_iff.mp H
              obtain ⟨t303, A960, H⟩ := H
              replace H : (regcertlaw10_ExecuteKeeps.l3 k4 l1 x7_4 t303 0 t251 t252 t253 t254 x267004_4 x267005_4 x267006_4 t264) = some r := H
              have A96 := As0 A960
              clear A960
              have H' := As0 H
              clear H
              have hnb97 := NB296_241.out
              have hnc97 := NB241_296.out
              have hnb98 := NB296_266.out
              have hnc98 := NB266_296.out
              have hnb99 := NB296_281.out
              have hnc99 := NB281_296.out
              have hcz100_0 : wr.cell? ⟨gb296, 0, none⟩ = some (.int .i64 t282) := (blk_cell BK296.out 0).trans rfl
              have hcz100_1 : wr.cell? ⟨gb296, 1, none⟩ = some (.int .i64 t283) := (blk_cell BK296.out 1).trans rfl
              have hcz100_2 : wr.cell? ⟨gb296, 2, none⟩ = some (.int .i64 t284) := (blk_cell BK296.out 2).trans rfl
              have hcz100_3 : wr.cell? ⟨gb296, 3, none⟩ = some (.int .i64 t285) := (blk_cell BK296.out 3).trans rfl
              have hcz100_4 : wr.cell? ⟨gb296, 4, none⟩ = some (u297004) := (blk_cell BK296.out 4).trans rfl
              have hcz100_5 : wr.cell? ⟨gb296, 5, none⟩ = some (u297005) := (blk_cell BK296.out 5).trans rfl
              have hcz100_6 : wr.cell? ⟨gb296, 6, none⟩ = some (u297006) := (blk_cell BK296.out 6).trans rfl
              have hcz100_7 : wr.cell? ⟨gb296, 7, none⟩ = some (.int .i64 t295) := (blk_cell BK296.out 7).trans rfl
              have hfz100_0 := blk_frozen BK296.out 0
              have hfz100_1 := blk_frozen BK296.out 1
              have hfz100_2 := blk_frozen BK296.out 2
              have hfz100_3 := blk_frozen BK296.out 3
              have hfz100_4 := blk_frozen BK296.out 4
              have hfz100_5 := blk_frozen BK296.out 5
              have hfz100_6 := blk_frozen BK296.out 6
              have hfz100_7 := blk_frozen BK296.out 7
              obtain ⟨Ao101, co101, eo101⟩ := Kd.R_slice HO_297006.out
              subst eo101
              have hnb102 := NB266_241.out
              have hnc102 := NB241_266.out
              have hnb103 := NB266_281.out
              have hnc103 := NB281_266.out
              have hcz104_0 : wr.cell? ⟨gb266, 0, none⟩ = some (.int .i64 t251) := (blk_cell BK266.out 0).trans rfl
              have hcz104_1 : wr.cell? ⟨gb266, 1, none⟩ = some (.int .i64 t252) := (blk_cell BK266.out 1).trans rfl
              have hcz104_2 : wr.cell? ⟨gb266, 2, none⟩ = some (.int .i64 t253) := (blk_cell BK266.out 2).trans rfl
              have hcz104_3 : wr.cell? ⟨gb266, 3, none⟩ = some (.int .i64 t254) := (blk_cell BK266.out 3).trans rfl
              have hcz104_4 : wr.cell? ⟨gb266, 4, none⟩ = some (u267004) := (blk_cell BK266.out 4).trans rfl
              have hcz104_5 : wr.cell? ⟨gb266, 5, none⟩ = some (u267005) := (blk_cell BK266.out 5).trans rfl
              have hcz104_6 : wr.cell? ⟨gb266, 6, none⟩ = some (u267006) := (blk_cell BK266.out 6).trans rfl
              have hcz104_7 : wr.cell? ⟨gb266, 7, none⟩ = some (.int .i64 t264) := (blk_cell BK266.out 7).trans rfl
              have hfz104_0 := blk_frozen BK266.out 0
              have hfz104_1 := blk_frozen BK266.out 1
              have hfz104_2 := blk_frozen BK266.out 2
              have hfz104_3 := blk_frozen BK266.out 3
              have hfz104_4 := blk_frozen BK266.out 4
              have hfz104_5 := blk_frozen BK266.out 5
              have hfz104_6 := blk_frozen BK266.out 6
              have hfz104_7 := blk_frozen BK266.out 7
              have hnb105 := NB281_241.out
              have hnc105 := NB241_281.out
              have hcz106_0 : wr.cell? ⟨gb281, 0, none⟩ = some (.int .i64 t267) := (blk_cell BK281.out 0).trans rfl
              have hcz106_1 : wr.cell? ⟨gb281, 1, none⟩ = some (.int .i64 t268) := (blk_cell BK281.out 1).trans rfl
              have hcz106_2 : wr.cell? ⟨gb281, 2, none⟩ = some (.int .i64 t269) := (blk_cell BK281.out 2).trans rfl
              have hcz106_3 : wr.cell? ⟨gb281, 3, none⟩ = some (.int .i64 t270) := (blk_cell BK281.out 3).trans rfl
              have hcz106_4 : wr.cell? ⟨gb281, 4, none⟩ = some (u282004) := (blk_cell BK281.out 4).trans rfl
              have hcz106_5 : wr.cell? ⟨gb281, 5, none⟩ = some (u282005) := (blk_cell BK281.out 5).trans rfl
              have hcz106_6 : wr.cell? ⟨gb281, 6, none⟩ = some (u282006) := (blk_cell BK281.out 6).trans rfl
              have hcz106_7 : wr.cell? ⟨gb281, 7, none⟩ = some (.int .i64 t280) := (blk_cell BK281.out 7).trans rfl
              have hfz106_0 := blk_frozen BK281.out 0
              have hfz106_1 := blk_frozen BK281.out 1
              have hfz106_2 := blk_frozen BK281.out 2
              have hfz106_3 := blk_frozen BK281.out 3
              have hfz106_4 := blk_frozen BK281.out 4
              have hfz106_5 := blk_frozen BK281.out 5
              have hfz106_6 := blk_frozen BK281.out 6
              have hfz106_7 := blk_frozen BK281.out 7
              obtain ⟨Ao107, co107, eo107⟩ := Kd.R_slice HO_267004.out
              subst eo107
              obtain ⟨Ao108, co108, eo108⟩ := Kd.R_slice HO_267005.out
              subst eo108
              obtain ⟨Ao109, co109, eo109⟩ := Kd.R_slice HO_267006.out
              subst eo109
              obtain ⟨Ao110, co110, eo110⟩ := Kd.R_slice HO_282004.out
              subst eo110
              obtain ⟨Ao111, co111, eo111⟩ := Kd.R_slice HO_282005.out
              subst eo111
              obtain ⟨Ao112, co112, eo112⟩ := Kd.R_slice HO_282006.out
              subst eo112
              go_wp2_with (first | ((with_reducible refine gate_callee (f := 33) rfl ?_); refine goesL_ (some 94) rfl rfl Try.func33 (by kernel_rfl) rfl #[.agg #[.int .i64 t251, .int .i64 t252, .int .i64 t253, .int .i64 t254, .slice Ao107 x267004_4.length co107, .slice Ao108 x267005_4.length co108, .slice Ao109 x267006_4.length co109, .int .i64 t264], .agg #[.int .i64 t267, .int .i64 t268, .int .i64 t269, .int .i64 t270, .slice Ao110 x282004_4.length co110, .slice Ao111 x282005_4.length co111, .slice Ao112 x282006_4.length co112, .int .i64 t280]] rfl (by (try simp only [List.map_toArray, List.map_cons, List.map_nil]); first | done | rfl | (simp only [List.length_drop, List.length_take]; rfl)) ?_; (with_reducible refine (regcertref09_Same.calls k4 t251 t252 t253 t254 _ _ x267004_4 _ _ x267005_4 _ _ x267006_4 t264 t267 t268 t269 t270 _ _ x282004_4 _ _ x282005_4 _ _ x282006_4 t280 t303 _ ?side1 ?side2 ?side3 ?side4 ?side5 ?side6 ?side7 ?side8 ?side9 ?side10 ?side11 ?side12 A96.out).mono ?_); (case side1 => repeat (first | exact (Kd.R_reads' HO_267004.out).2.2 | (with_reducible refine Kd.C_alloc ?_ _) | (with_reducible refine Kd.C_drewN ?_ _) | (with_reducible refine Kd.C_drew ?_))); (case side2 => exact (Kd.R_reads' HO_267004.out).2.1); (case side3 => repeat (first | exact (Kd.R_reads' HO_267005.out).2.2 | (with_reducible refine Kd.C_alloc ?_ _) | (with_reducible refine Kd.C_drewN ?_ _) | (with_reducible refine Kd.C_drew ?_))); (case side4 => exact (Kd.R_reads' HO_267005.out).2.1); (case side5 => repeat (first | exact (Kd.R_reads' HO_267006.out).2.2 | (with_reducible refine Kd.C_alloc ?_ _) | (with_reducible refine Kd.C_drewN ?_ _) | (with_reducible refine Kd.C_drew ?_))); (case side6 => exact (Kd.R_reads' HO_267006.out).2.1); (case side7 => repeat (first | exact (Kd.R_reads' HO_282004.out).2.2 | (with_reducible refine Kd.C_alloc ?_ _) | (with_reducible refine Kd.C_drewN ?_ _) | (with_reducible refine Kd.C_drew ?_))); (case side8 => exact (Kd.R_reads' HO_282004.out).2.1); (case side9 => repeat (first | exact (Kd.R_reads' HO_282005.out).2.2 | (with_reducible refine Kd.C_alloc ?_ _) | (with_reducible refine Kd.C_drewN ?_ _) | (with_reducible refine Kd.C_drew ?_))); (case side10 => exact (Kd.R_reads' HO_282005.out).2.1); (case side11 => repeat (first | exact (Kd.R_reads' HO_282006.out).2.2 | (with_reducible refine Kd.C_alloc ?_ _) | (with_reducible refine Kd.C_drewN ?_ _) | (with_reducible refine Kd.C_drew ?_))); (case side12 => exact (Kd.R_reads' HO_282006.out).2.1); rintro e w113 ⟨rfl, hb⟩; refine ⟨_, rfl, ?_⟩; have n0_ := As0 (Kd.R_below (by (with_reducible repeat (first | apply Kd.R_alloc | apply Kd.R_drewN | apply Kd.R_drew)); exact HO_7.out) hb); have n1_ := As0 (Kd.R_below (by (with_reducible repeat (first | apply Kd.R_alloc | apply Kd.R_drewN | apply Kd.R_drew)); exact HO_267004.out) hb); have n2_ := As0 (Kd.R_below (by (with_reducible repeat (first | apply Kd.R_alloc | apply Kd.R_drewN | apply Kd.R_drew)); exact HO_267005.out) hb); have n3_ := As0 (Kd.R_below (by (with_reducible repeat (first | apply Kd.R_alloc | apply Kd.R_drewN | apply Kd.R_drew)); exact HO_267006.out) hb); have n4_ := As0 (Kd.R_below (by (with_reducible repeat (first | apply Kd.R_alloc | apply Kd.R_drewN | apply Kd.R_drew)); exact HO_282004.out) hb); have n5_ := As0 (Kd.R_below (by (with_reducible repeat (first | apply Kd.R_alloc | apply Kd.R_drewN | apply Kd.R_drew)); exact HO_282005.out) hb); have n6_ := As0 (Kd.R_below (by (with_reducible repeat (first | apply Kd.R_alloc | apply Kd.R_drewN | apply Kd.R_drew)); exact HO_282006.out) hb); have n7_ := As0 (Kd.R_below (by (with_reducible repeat (first | apply Kd.R_alloc | apply Kd.R_drewN | apply Kd.R_drew)); exact HO_297004.out) hb); have n8_ := As0 (Kd.R_below (by (with_reducible repeat (first | apply Kd.R_alloc | apply Kd.R_drewN | apply Kd.R_drew)); exact HO_297005.out) hb); have n9_ := As0 (Kd.R_below (by (with_reducible repeat (first | apply Kd.R_alloc | apply Kd.R_drewN | apply Kd.R_drew)); exact HO_297006.out) hb); have n10_ := As0 (blk_below (g := gb241) (o := .cells #[.int .i64 a0_0, .int .i64 a0_1, .int .i64 a0_2, .slice A0_3 l0_3.length c0_3] 63 (0, 0)) (by (with_reducible repeat (first | refine blk_drewN ?_ _ | refine blk_drew ?_ | refine blk_alloc ?_ _)); exact BK241.out) hb); have n11_ := As0 (blk_below (g := gb266) (o := .cells #[.int .i64 t251, .int .i64 t252, .int .i64 t253, .int .i64 t254, .slice Ao107 x267004_4.length co107, .slice Ao108 x267005_4.length co108, .slice Ao109 x267006_4.length co109, .int .i64 t264] 39 (0, 0)) (by (with_reducible repeat (first | refine blk_drewN ?_ _ | refine blk_drew ?_ | refine blk_alloc ?_ _)); exact BK266.out) hb); have n12_ := As0 (blk_below (g := gb281) (o := .cells #[.int .i64 t267, .int .i64 t268, .int .i64 t269, .int .i64 t270, .slice Ao110 x282004_4.length co110, .slice Ao111 x282005_4.length co111, .slice Ao112 x282006_4.length co112, .int .i64 t280] 39 (0, 0)) (by (with_reducible repeat (first | refine blk_drewN ?_ _ | refine blk_drew ?_ | refine blk_alloc ?_ _)); exact BK281.out) hb); have n13_ := As0 (blk_below (g := gb296) (o := .cells #[.int .i64 t282, .int .i64 t283, .int .i64 t284, .int .i64 t285, u297004, u297005, .slice Ao101 x297006_4.length co101, .int .i64 t295] 39 (0, 0)) (by (with_reducible repeat (first | refine blk_drewN ?_ _ | refine blk_drew ?_ | refine blk_alloc ?_ _)); exact BK296.out) hb); have n14_ := As0 (below_step (by repeat (first | (with_reducible first | exact HB.out | apply below_alloc | apply bdN | apply bd1 | refine below_set ?_ GE241.out | refine below_set ?_ GE266.out | refine below_set ?_ GE281.out | refine below_set ?_ GE296.out) | exact HB.out)) hb); clear HO_7 HO_267004 HO_267005 HO_267006 HO_282004 HO_282005 HO_282006 HO_297004 HO_297005 HO_297006 BK241 BK266 BK281 BK296 HB; have HO_7 := n0_; have HO_267004 := n1_; have HO_267005 := n2_; have HO_267006 := n3_; have HO_282004 := n4_; have HO_282005 := n5_; have HO_282006 := n6_; have HO_297004 := n7_; have HO_297005 := n8_; have HO_297006 := n9_; have BK241 := n10_; have BK266 := n11_; have BK281 := n12_; have BK296 := n13_; have HB := n14_; clear n0_ n1_ n2_ n3_ n4_ n5_ n6_ n7_ n8_ n9_ n10_ n11_ n12_ n13_ n14_; (try clear hb); (try clear hb2); (try clear hk); (try clear hi)))
              go_loopg [16] k4 (fun kq v16 w' => ∃ (x7_5 : List Int) (x16_5 : Int) (x267004_5 : List Int) (x267005_5 : List Int) (x267006_5 : List Int) (x282004_5 : List Int) (x282005_5 : List Int) (x282006_5 : List Int) (x297004_5 : List Int) (x297005_5 : List Int) (x297006_5 : List Int) (u267004 : Value) (u267005 : Value) (u267006 : Value) (u282004 : Value) (u282005 : Value) (u282006 : Value) (u297004 : Value) (u297005 : Value) (u297006 : Value), v16 = .int .i64 x16_5 ∧ Aside0 (regcertlaw10_ExecuteKeeps.l3 kq l1 x7_5 t303 x16_5 t251 t252 t253 t254 x267004_5 x267005_5 x267006_5 t264 = some r) ∧ Aside0 (kq ≤ k4) ∧ Aside0 (Kd.R (Kd.int .i64) 2 w' w.heap.size (fun k_ => some k_ ≠ (u267004 : Value).ownBlock ∧ some k_ ≠ (u267005 : Value).ownBlock ∧ some k_ ≠ (u267006 : Value).ownBlock ∧ some k_ ≠ (u282004 : Value).ownBlock ∧ some k_ ≠ (u282005 : Value).ownBlock ∧ some k_ ≠ (u282006 : Value).ownBlock ∧ some k_ ≠ (u297004 : Value).ownBlock ∧ some k_ ≠ (u297005 : Value).ownBlock ∧ some k_ ≠ (u297006 : Value).ownBlock) (.slice Ao29 x7_4.length co29) x7_5) ∧ Aside0 (Kd.R (Kd.int .i64) 2 w' w.heap.size (fun k_ => some k_ ≠ ((.slice Ao29 x7_4.length co29) : Value).ownBlock ∧ some k_ ≠ (u267005 : Value).ownBlock ∧ some k_ ≠ (u267006 : Value).ownBlock ∧ some k_ ≠ (u282004 : Value).ownBlock ∧ some k_ ≠ (u282005 : Value).ownBlock ∧ some k_ ≠ (u282006 : Value).ownBlock ∧ some k_ ≠ (u297004 : Value).ownBlock ∧ some k_ ≠ (u297005 : Value).ownBlock ∧ some k_ ≠ (u297006 : Value).ownBlock) u267004 x267004_5) ∧ Aside0 (Kd.R (Kd.int .i64) 2 w' w.heap.size (fun k_ => some k_ ≠ ((.slice Ao29 x7_4.length co29) : Value).ownBlock ∧ some k_ ≠ (u267004 : Value).ownBlock ∧ some k_ ≠ (u267006 : Value).ownBlock ∧ some k_ ≠ (u282004 : Value).ownBlock ∧ some k_ ≠ (u282005 : Value).ownBlock ∧ some k_ ≠ (u282006 : Value).ownBlock ∧ some k_ ≠ (u297004 : Value).ownBlock ∧ some k_ ≠ (u297005 : Value).ownBlock ∧ some k_ ≠ (u297006 : Value).ownBlock) u267005 x267005_5) ∧ Aside0 (Kd.R (Kd.int .i64) 2 w' w.heap.size (fun k_ => some k_ ≠ ((.slice Ao29 x7_4.length co29) : Value).ownBlock ∧ some k_ ≠ (u267004 : Value).ownBlock ∧ some k_ ≠ (u267005 : Value).ownBlock ∧ some k_ ≠ (u282004 : Value).ownBlock ∧ some k_ ≠ (u282005 : Value).ownBlock ∧ some k_ ≠ (u282006 : Value).ownBlock ∧ some k_ ≠ (u297004 : Value).ownBlock ∧ some k_ ≠ (u297005 : Value).ownBlock ∧ some k_ ≠ (u297006 : Value).ownBlock) u267006 x267006_5) ∧ Aside0 (Kd.R (Kd.int .i64) 2 w' w.heap.size (fun k_ => some k_ ≠ ((.slice Ao29 x7_4.length co29) : Value).ownBlock ∧ some k_ ≠ (u267004 : Value).ownBlock ∧ some k_ ≠ (u267005 : Value).ownBlock ∧ some k_ ≠ (u267006 : Value).ownBlock ∧ some k_ ≠ (u282005 : Value).ownBlock ∧ some k_ ≠ (u282006 : Value).ownBlock ∧ some k_ ≠ (u297004 : Value).ownBlock ∧ some k_ ≠ (u297005 : Value).ownBlock ∧ some k_ ≠ (u297006 : Value).ownBlock) u282004 x282004_5) ∧ Aside0 (Kd.R (Kd.int .i64) 2 w' w.heap.size (fun k_ => some k_ ≠ ((.slice Ao29 x7_4.length co29) : Value).ownBlock ∧ some k_ ≠ (u267004 : Value).ownBlock ∧ some k_ ≠ (u267005 : Value).ownBlock ∧ some k_ ≠ (u267006 : Value).ownBlock ∧ some k_ ≠ (u282004 : Value).ownBlock ∧ some k_ ≠ (u282006 : Value).ownBlock ∧ some k_ ≠ (u297004 : Value).ownBlock ∧ some k_ ≠ (u297005 : Value).ownBlock ∧ some k_ ≠ (u297006 : Value).ownBlock) u282005 x282005_5) ∧ Aside0 (Kd.R (Kd.int .i64) 2 w' w.heap.size (fun k_ => some k_ ≠ ((.slice Ao29 x7_4.length co29) : Value).ownBlock ∧ some k_ ≠ (u267004 : Value).ownBlock ∧ some k_ ≠ (u267005 : Value).ownBlock ∧ some k_ ≠ (u267006 : Value).ownBlock ∧ some k_ ≠ (u282004 : Value).ownBlock ∧ some k_ ≠ (u282005 : Value).ownBlock ∧ some k_ ≠ (u297004 : Value).ownBlock ∧ some k_ ≠ (u297005 : Value).ownBlock ∧ some k_ ≠ (u297006 : Value).ownBlock) u282006 x282006_5) ∧ Aside0 (Kd.R (Kd.int .i64) 2 w' w.heap.size (fun k_ => some k_ ≠ ((.slice Ao29 x7_4.length co29) : Value).ownBlock ∧ some k_ ≠ (u267004 : Value).ownBlock ∧ some k_ ≠ (u267005 : Value).ownBlock ∧ some k_ ≠ (u267006 : Value).ownBlock ∧ some k_ ≠ (u282004 : Value).ownBlock ∧ some k_ ≠ (u282005 : Value).ownBlock ∧ some k_ ≠ (u282006 : Value).ownBlock ∧ some k_ ≠ (u297005 : Value).ownBlock ∧ some k_ ≠ (u297006 : Value).ownBlock) u297004 x297004_5) ∧ Aside0 (Kd.R (Kd.int .i64) 2 w' w.heap.size (fun k_ => some k_ ≠ ((.slice Ao29 x7_4.length co29) : Value).ownBlock ∧ some k_ ≠ (u267004 : Value).ownBlock ∧ some k_ ≠ (u267005 : Value).ownBlock ∧ some k_ ≠ (u267006 : Value).ownBlock ∧ some k_ ≠ (u282004 : Value).ownBlock ∧ some k_ ≠ (u282005 : Value).ownBlock ∧ some k_ ≠ (u282006 : Value).ownBlock ∧ some k_ ≠ (u297004 : Value).ownBlock ∧ some k_ ≠ (u297006 : Value).ownBlock) u297005 x297005_5) ∧ Aside0 (Kd.R (Kd.int .i64) 2 w' w.heap.size (fun k_ => some k_ ≠ ((.slice Ao29 x7_4.length co29) : Value).ownBlock ∧ some k_ ≠ (u267004 : Value).ownBlock ∧ some k_ ≠ (u267005 : Value).ownBlock ∧ some k_ ≠ (u267006 : Value).ownBlock ∧ some k_ ≠ (u282004 : Value).ownBlock ∧ some k_ ≠ (u282005 : Value).ownBlock ∧ some k_ ≠ (u282006 : Value).ownBlock ∧ some k_ ≠ (u297004 : Value).ownBlock ∧ some k_ ≠ (u297005 : Value).ownBlock) u297006 x297006_5) ∧ Aside0 (w'.heap[gb241]? = some (.cells #[.int .i64 a0_0, .int .i64 a0_1, .int .i64 a0_2, (.slice A0_3 l0_3.length c0_3)] 63 (0, 0))) ∧ Aside0 (w'.heap[gb266]? = some (.cells #[.int .i64 t251, .int .i64 t252, .int .i64 t253, .int .i64 t254, u267004, u267005, u267006, .int .i64 t264] 39 (0, 0))) ∧ Aside0 (w'.heap[gb281]? = some (.cells #[.int .i64 t267, .int .i64 t268, .int .i64 t269, .int .i64 t270, u282004, u282005, u282006, .int .i64 t280] 39 (0, 0))) ∧ Aside0 (w'.heap[gb296]? = some (.cells #[.int .i64 t282, .int .i64 t283, .int .i64 t284, .int .i64 t285, u297004, u297005, u297006, .int .i64 t295] 39 (0, 0))) ∧ Aside0 (Below w.heap.size w w'))
              case atStart => exact ⟨(x7_4), (0), (x267004_4), (x267005_4), (x267006_4), (x282004_4), (x282005_4), (x282006_4), (x297004_4), (x297005_4), (x297006_4), (.slice Ao107 x267004_4.length co107), (.slice Ao108 x267005_4.length co108), (.slice Ao109 x267006_4.length co109), (.slice Ao110 x282004_4.length co110), (.slice Ao111 x282005_4.length co111), (.slice Ao112 x282006_4.length co112), (u297004), (u297005), (.slice Ao101 x297006_4.length co101), (by first | rfl | (simp; done) | (simp [*]; done)), H', ⟨Nat.le_refl _⟩, ⟨by (try simp only [hl7_2]); (try simp only [hl7_3]); (try simp only [hl7_4]); (with_reducible repeat (first | apply Kd.R_alloc | apply Kd.R_drewN | apply Kd.R_drew)); exact HO_7.out⟩, ⟨by (try simp only [hl7_2]); (try simp only [hl7_3]); (try simp only [hl7_4]); (with_reducible repeat (first | apply Kd.R_alloc | apply Kd.R_drewN | apply Kd.R_drew)); exact HO_267004.out⟩, ⟨by (try simp only [hl7_2]); (try simp only [hl7_3]); (try simp only [hl7_4]); (with_reducible repeat (first | apply Kd.R_alloc | apply Kd.R_drewN | apply Kd.R_drew)); exact HO_267005.out⟩, ⟨by (try simp only [hl7_2]); (try simp only [hl7_3]); (try simp only [hl7_4]); (with_reducible repeat (first | apply Kd.R_alloc | apply Kd.R_drewN | apply Kd.R_drew)); exact HO_267006.out⟩, ⟨by (try simp only [hl7_2]); (try simp only [hl7_3]); (try simp only [hl7_4]); (with_reducible repeat (first | apply Kd.R_alloc | apply Kd.R_drewN | apply Kd.R_drew)); exact HO_282004.out⟩, ⟨by (try simp only [hl7_2]); (try simp only [hl7_3]); (try simp only [hl7_4]); (with_reducible repeat (first | apply Kd.R_alloc | apply Kd.R_drewN | apply Kd.R_drew)); exact HO_282005.out⟩, ⟨by (try simp only [hl7_2]); (try simp only [hl7_3]); (try simp only [hl7_4]); (with_reducible repeat (first | apply Kd.R_alloc | apply Kd.R_drewN | apply Kd.R_drew)); exact HO_282006.out⟩, ⟨by (try simp only [hl7_2]); (try simp only [hl7_3]); (try simp only [hl7_4]); (with_reducible repeat (first | apply Kd.R_alloc | apply Kd.R_drewN | apply Kd.R_drew)); exact HO_297004.out⟩, ⟨by (try simp only [hl7_2]); (try simp only [hl7_3]); (try simp only [hl7_4]); (with_reducible repeat (first | apply Kd.R_alloc | apply Kd.R_drewN | apply Kd.R_drew)); exact HO_297005.out⟩, ⟨by (try simp only [hl7_2]); (try simp only [hl7_3]); (try simp only [hl7_4]); (with_reducible repeat (first | apply Kd.R_alloc | apply Kd.R_drewN | apply Kd.R_drew)); exact HO_297006.out⟩, ⟨by (try simp only [hl7_2]); (try simp only [hl7_3]); (try simp only [hl7_4]); (with_reducible repeat (first | refine blk_drewN ?_ _ | refine blk_drew ?_ | refine blk_alloc ?_ _)); exact BK241.out⟩, ⟨by (try simp only [hl7_2]); (try simp only [hl7_3]); (try simp only [hl7_4]); (with_reducible repeat (first | refine blk_drewN ?_ _ | refine blk_drew ?_ | refine blk_alloc ?_ _)); exact BK266.out⟩, ⟨by (try simp only [hl7_2]); (try simp only [hl7_3]); (try simp only [hl7_4]); (with_reducible repeat (first | refine blk_drewN ?_ _ | refine blk_drew ?_ | refine blk_alloc ?_ _)); exact BK281.out⟩, ⟨by (try simp only [hl7_2]); (try simp only [hl7_3]); (try simp only [hl7_4]); (with_reducible repeat (first | refine blk_drewN ?_ _ | refine blk_drew ?_ | refine blk_alloc ?_ _)); exact BK296.out⟩, ⟨by repeat (first | (with_reducible first | exact HB.out | apply below_alloc | apply bdN | apply bd1 | refine below_set ?_ GE241.out | refine below_set ?_ GE266.out | refine below_set ?_ GE281.out | refine below_set ?_ GE296.out) | exact HB.out)⟩⟩
              case round =>
               clear H'
               try clear c1
               try clear c2
               try clear p2
               try clear q2
               try clear hx2
               try clear c3
               try clear p3
               try clear q3
               try clear hx3
               try clear c4
               try clear c5
               try clear p5
               try clear q5
               try clear hx5
               try clear hf5
               try clear c6
               try clear p6
               try clear c7
               try clear p7
               try clear q7
               try clear hx7
               try clear hf7
               try clear c8
               try clear p8
               try clear q8
               try clear hx8
               try clear hf8
               try clear c9
               try clear c10
               try clear c18
               try clear c21
               try clear p29
               try clear q29
               try clear hx29
               try clear p30
               try clear q30
               try clear hx30
               try clear c32
               try clear c33
               try clear c38
               try clear c39
               try clear c40
               try clear c44
               try clear c46
               try clear c49
               try clear c50
               try clear c51
               try clear c56
               try clear c56b0
               try clear c57
               try clear c57b0
               try clear p58
               try clear q58
               try clear hx58
               try clear hf58
               try clear c59
               try clear c60
               try clear c61
               try clear p64
               try clear c66
               try clear c67
               try clear c68
               try clear c71
               try clear c71b0
               try clear c72
               try clear c72b0
               try clear p73
               try clear q73
               try clear hx73
               try clear hf73
               try clear c74
               try clear c75
               try clear c76
               try clear c81
               try clear c82
               try clear c83
               try clear c86
               try clear c86b0
               try clear c87
               try clear c87b0
               try clear p88
               try clear q88
               try clear hx88
               try clear hf88
               try clear c89
               try clear c90
               try clear c91
               try clear c97
               try clear c98
               try clear c99
               try clear c102
               try clear c103
               try clear c105
               try clear hcz100_0
               try clear hcz100_1
               try clear hcz100_2
               try clear hcz100_3
               try clear hcz100_4
               try clear hcz100_5
               try clear hcz100_6
               try clear hcz100_7
               try clear hcz104_0
               try clear hcz104_1
               try clear hcz104_2
               try clear hcz104_3
               try clear hcz104_4
               try clear hcz104_5
               try clear hcz104_6
               try clear hcz104_7
               try clear hcz106_0
               try clear hcz106_1
               try clear hcz106_2
               try clear hcz106_3
               try clear hcz106_4
               try clear hcz106_5
               try clear hcz106_6
               try clear hcz106_7
               try clear hcz11_0
               try clear hcz11_1
               try clear hcz11_2
               try clear hcz11_3
               try clear hcz13_0
               try clear hcz13_1
               try clear hcz13_2
               try clear hcz13_3
               try clear hcz15_0
               try clear hcz15_1
               try clear hcz15_2
               try clear hcz15_3
               try clear hcz28_0
               try clear hcz28_1
               try clear hcz28_2
               try clear hcz28_3
               try clear hcz33_0
               try clear hcz33_1
               try clear hcz33_2
               try clear hcz33_3
               try clear hcz33_4
               try clear hcz33_5
               try clear hcz33_6
               try clear hcz33_7
               try clear hcz41_0
               try clear hcz41_1
               try clear hcz41_2
               try clear hcz41_3
               try clear hcz41_4
               try clear hcz41_5
               try clear hcz41_6
               try clear hcz41_7
               try clear hcz45_0
               try clear hcz45_1
               try clear hcz45_2
               try clear hcz45_3
               try clear hcz46_0
               try clear hcz46_1
               try clear hcz46_2
               try clear hcz46_3
               try clear hcz46_4
               try clear hcz46_5
               try clear hcz46_6
               try clear hcz46_7
               try clear hcz52_0
               try clear hcz52_1
               try clear hcz52_2
               try clear hcz52_3
               try clear hcz52_4
               try clear hcz52_5
               try clear hcz52_6
               try clear hcz52_7
               try clear hcz62_0
               try clear hcz62_1
               try clear hcz62_2
               try clear hcz62_3
               try clear hcz62_4
               try clear hcz62_5
               try clear hcz62_6
               try clear hcz62_7
               try clear hcz69_0
               try clear hcz69_1
               try clear hcz69_2
               try clear hcz69_3
               try clear hcz69_4
               try clear hcz69_5
               try clear hcz69_6
               try clear hcz69_7
               try clear hcz77_0
               try clear hcz77_1
               try clear hcz77_2
               try clear hcz77_3
               try clear hcz77_4
               try clear hcz77_5
               try clear hcz77_6
               try clear hcz77_7
               try clear hcz84_0
               try clear hcz84_1
               try clear hcz84_2
               try clear hcz84_3
               try clear hcz84_4
               try clear hcz84_5
               try clear hcz84_6
               try clear hcz84_7
               try clear hcz92_0
               try clear hcz92_1
               try clear hcz92_2
               try clear hcz92_3
               try clear hcz92_4
               try clear hcz92_5
               try clear hcz92_6
               try clear hcz92_7
               try clear hfz100_0
               try clear hfz100_1
               try clear hfz100_2
               try clear hfz100_3
               try clear hfz100_4
               try clear hfz100_5
               try clear hfz100_6
               try clear hfz100_7
               try clear hfz104_0
               try clear hfz104_1
               try clear hfz104_2
               try clear hfz104_3
               try clear hfz104_4
               try clear hfz104_5
               try clear hfz104_6
               try clear hfz104_7
               try clear hfz106_0
               try clear hfz106_1
               try clear hfz106_2
               try clear hfz106_3
               try clear hfz106_4
               try clear hfz106_5
               try clear hfz106_6
               try clear hfz106_7
               try clear hfz11_0
               try clear hfz11_1
               try clear hfz11_2
               try clear hfz11_3
               try clear hfz13_0
               try clear hfz13_1
               try clear hfz13_2
               try clear hfz13_3
               try clear hfz15_0
               try clear hfz15_1
               try clear hfz15_2
               try clear hfz15_3
               try clear hfz28_0
               try clear hfz28_1
               try clear hfz28_2
               try clear hfz28_3
               try clear hfz33_0
               try clear hfz33_1
               try clear hfz33_2
               try clear hfz33_3
               try clear hfz33_4
               try clear hfz33_5
               try clear hfz33_6
               try clear hfz33_7
               try clear hfz41_0
               try clear hfz41_1
               try clear hfz41_2
               try clear hfz41_3
               try clear hfz41_4
               try clear hfz41_5
               try clear hfz41_6
               try clear hfz41_7
               try clear hfz45_0
               try clear hfz45_1
               try clear hfz45_2
               try clear hfz45_3
               try clear hfz46_0
               try clear hfz46_1
               try clear hfz46_2
               try clear hfz46_3
               try clear hfz46_4
               try clear hfz46_5
               try clear hfz46_6
               try clear hfz46_7
               try clear hfz52_0
               try clear hfz52_1
               try clear hfz52_2
               try clear hfz52_3
               try clear hfz52_4
               try clear hfz52_5
               try clear hfz52_6
               try clear hfz52_7
               try clear hfz62_0
               try clear hfz62_1
               try clear hfz62_2
               try clear hfz62_3
               try clear hfz62_4
               try clear hfz62_5
               try clear hfz62_6
               try clear hfz62_7
               try clear hfz69_0
               try clear hfz69_1
               try clear hfz69_2
               try clear hfz69_3
               try clear hfz69_4
               try clear hfz69_5
               try clear hfz69_6
               try clear hfz69_7
               try clear hfz77_0
               try clear hfz77_1
               try clear hfz77_2
               try clear hfz77_3
               try clear hfz77_4
               try clear hfz77_5
               try clear hfz77_6
               try clear hfz77_7
               try clear hfz84_0
               try clear hfz84_1
               try clear hfz84_2
               try clear hfz84_3
               try clear hfz84_4
               try clear hfz84_5
               try clear hfz84_6
               try clear hfz84_7
               try clear hfz92_0
               try clear hfz92_1
               try clear hfz92_2
               try clear hfz92_3
               try clear hfz92_4
               try clear hfz92_5
               try clear hfz92_6
               try clear hfz92_7
               try clear hx297_0
               try clear hx299_0
               try clear hx301_0
               try clear hx58_0
               try clear hx73_0
               try clear hx88_0
               try clear p2
               try clear p29
               try clear p297
               try clear p299
               try clear p301
               try clear p5
               try clear p58
               try clear p6
               try clear p64
               try clear p7
               try clear p73
               try clear p88
               try clear q2
               try clear q29
               try clear q297
               try clear q299
               try clear q301
               try clear q5
               try clear q58
               try clear q7
               try clear q73
               try clear q88
               obtain ⟨x7_5, x16_5, x267004_5, x267005_5, x267006_5, x282004_5, x282005_5, x282006_5, x297004_5, x297005_5, x297006_5, u267004, u267005, u267006, u282004, u282005, u282006, u297004, u297005, u297006, rfl, HA, HK5, HO_7, HO_267004, HO_267005, HO_267006, HO_282004, HO_282005, HO_282006, HO_297004, HO_297005, HO_297006, BK241, BK266, BK281, BK296, HB⟩ := hrel
               have hl7_5 := (Kd.R_reads' HO_7.out).1
               rw [hl7_5] at HO_7
               (try simp only [hl7_5])
               (try simp only [hl7_5] at BK241)
               (try simp only [hl7_5] at BK266)
               (try simp only [hl7_5] at BK281)
               (try simp only [hl7_5] at BK296)
               (try simp only [hl7_5] at HO_267004)
               (try simp only [hl7_5] at HO_267005)
               (try simp only [hl7_5] at HO_267006)
               (try simp only [hl7_5] at HO_282004)
               (try simp only [hl7_5] at HO_282005)
               (try simp only [hl7_5] at HO_282006)
               (try simp only [hl7_5] at HO_297004)
               (try simp only [hl7_5] at HO_297005)
               (try simp only [hl7_5] at HO_297006)
               cases gk with
               | zero => exact absurd HA.out (by simp [regcertlaw10_ExecuteKeeps.l3])
               | succ k5 =>
                have H := HA.out
                clear HA
                simp only [regcertlaw10_ExecuteKeeps.l3] at H
                by_cases c114 : x16_5 < (x267005_5.length : Int)
                ·rw [if_pos c114] at H
                 have c114b0 : decide (x16_5 < (x267005_5.length : Int)) = true := decide_eq_true c114
                 clear c114
                 by_cases c115 : 0 ≤ x16_5
                 ·rw [if_pos c115] at H
                  have c115b0 : decide (0 ≤ x16_5) = true := decide_eq_true c115
                  clear c115
                  obtain ⟨y305, hy305⟩ : ∃ y_ : List Int, y_ = (x267005_5.set (x16_5 : Int).toNat (wrap64 ((rd x267005_5 x16_5) + 1))) := ⟨_, rfl⟩
                  replace H : (regcertlaw10_ExecuteKeeps.l3 k5 l1 x7_5 t303 (wrap64 (x16_5 + 1)) t251 t252 t253 t254 x267004_5 y305 x267006_5 t264) = some r := by first | (rw [hy305]; with_reducible exact H) | (have H2_ := (Option.bind_some _ _).symm.trans H; rw [hy305]; with_reducible exact H2_) | (have H2_ := (Option.bind_some _ _).symm.trans H; with_reducible exact H2_) | with_reducible exact H | (rw [hy305]; exact H) | exact H
                  have Ny305 := As0 hy305
                  clear hy305
                  have H' := As0 H
                  clear H
                  have hnb117 := NB266_241.out
                  have hnc117 := NB241_266.out
                  have hnb118 := NB266_281.out
                  have hnc118 := NB281_266.out
                  have hnb119 := NB266_296.out
                  have hnc119 := NB296_266.out
                  have hcz120_0 : wr.cell? ⟨gb266, 0, none⟩ = some (.int .i64 t251) := (blk_cell BK266.out 0).trans rfl
                  have hcz120_1 : wr.cell? ⟨gb266, 1, none⟩ = some (.int .i64 t252) := (blk_cell BK266.out 1).trans rfl
                  have hcz120_2 : wr.cell? ⟨gb266, 2, none⟩ = some (.int .i64 t253) := (blk_cell BK266.out 2).trans rfl
                  have hcz120_3 : wr.cell? ⟨gb266, 3, none⟩ = some (.int .i64 t254) := (blk_cell BK266.out 3).trans rfl
                  have hcz120_4 : wr.cell? ⟨gb266, 4, none⟩ = some (u267004) := (blk_cell BK266.out 4).trans rfl
                  have hcz120_5 : wr.cell? ⟨gb266, 5, none⟩ = some (u267005) := (blk_cell BK266.out 5).trans rfl
                  have hcz120_6 : wr.cell? ⟨gb266, 6, none⟩ = some (u267006) := (blk_cell BK266.out 6).trans rfl
                  have hcz120_7 : wr.cell? ⟨gb266, 7, none⟩ = some (.int .i64 t264) := (blk_cell BK266.out 7).trans rfl
                  have hfz120_0 := blk_frozen BK266.out 0
                  have hfz120_1 := blk_frozen BK266.out 1
                  have hfz120_2 := blk_frozen BK266.out 2
                  have hfz120_3 := blk_frozen BK266.out 3
                  have hfz120_4 := blk_frozen BK266.out 4
                  have hfz120_5 := blk_frozen BK266.out 5
                  have hfz120_6 := blk_frozen BK266.out 6
                  have hfz120_7 := blk_frozen BK266.out 7
                  obtain ⟨Ao121, co121, eo121⟩ := Kd.R_slice HO_267005.out
                  subst eo121
                  have p304 : 0 ≤ (x16_5 : Int) := of_decide_eq_true (by first | (with_reducible assumption) | assumption)
                  have q304 : x16_5 < (x267005_5.length : Int) := of_decide_eq_true (by first | (with_reducible assumption) | assumption)
                  obtain ⟨ad304, e304, hx304_0⟩ := Kd.at_int (Kd.R_reads' HO_267005.out).2.2 x16_5 p304 q304
                  cases e304
                  replace p304 := eq_true p304
                  replace q304 := eq_true q304
                  have p116 : 0 ≤ (x16_5 : Int) := of_decide_eq_true (by first | (with_reducible assumption) | assumption)
                  have q116 : (x16_5 : Int) < ((x267005_5.length : Int) : Int) := of_decide_eq_true (by first | (with_reducible assumption) | assumption)
                  obtain ⟨go116, co116, eo116, gb116, gl116, cl116, HG116⟩ := Kd.R_form HO_267005.out (by omega)
                  (first | cases eo116 | (injection eo116 with ea_ en_ ec_; (first | subst ea_ | (injection ea_ with ea_; subst ea_)); subst ec_; clear en_))
                  have GB116 := As0 gb116
                  have GG116 := As0 HG116
                  clear gb116 gl116 HG116
                  (first | simp only [add_plain] at hx304_0 | skip)
                  obtain ⟨hx116_0, hf116_0⟩ := Kd.R_celln 0 HO_267005.out (x16_5 : Int) p116 q116
                  replace p116 := eq_true p116
                  replace q116 := eq_true q116
                  have HP122 := Kd.R_putg HO_267005.out (x16_5 : Int) (wrap64 ((rd x267005_5 x16_5) + 1))
                  go_wp2_with (first | ((with_reducible refine gate_store (t := 2) (p := 108) rfl ?_); refine store_event (t := 2) (p := 108) (v := ?vo_w123) (w1 := (wr.setCell ⟨go116, (x16_5 : Int).toNat, none⟩ (.int .i64 (wrap64 ((rd x267005_5 x16_5) + 1))))) ?hg ?ho ?hn ?hr ?_; (case ho => rfl); (case hg => rfl); (case hn => rfl); (case hr => first | (go_simp; done) | (go_simp; rfl)); intro w123 hw; have hg : wr.grownBy w123 (some go116) := (by rw [hw]; exact HP122.2); have hp_ : Kd.R (Kd.int .i64) 2 w123 w.heap.size (fun k_ => some k_ ≠ (.slice Ao29 x7_5.length co29 : Value).ownBlock ∧ some k_ ≠ (u267004 : Value).ownBlock ∧ some k_ ≠ (u267006 : Value).ownBlock ∧ some k_ ≠ (u282004 : Value).ownBlock ∧ some k_ ≠ (u282005 : Value).ownBlock ∧ some k_ ≠ (u282006 : Value).ownBlock ∧ some k_ ≠ (u297004 : Value).ownBlock ∧ some k_ ≠ (u297005 : Value).ownBlock ∧ some k_ ≠ (u297006 : Value).ownBlock) (.slice (some ⟨go116, 0, none⟩) x267005_5.length co121) y305 := (by rw [hw, Ny305.out]; exact HP122.1); clear HP122; have n0_ := As0 (Kd.R_after (v := (.slice (some ⟨go116, 0, none⟩) x267005_5.length co121)) (v1 := (.slice (some ⟨go116, 0, none⟩) x267005_5.length co121)) (ok := (fun k_ => some k_ ≠ (u267004 : Value).ownBlock ∧ some k_ ≠ (u267006 : Value).ownBlock ∧ some k_ ≠ (u282004 : Value).ownBlock ∧ some k_ ≠ (u282005 : Value).ownBlock ∧ some k_ ≠ (u282006 : Value).ownBlock ∧ some k_ ≠ (u297004 : Value).ownBlock ∧ some k_ ≠ (u297005 : Value).ownBlock ∧ some k_ ≠ (u297006 : Value).ownBlock)) (by (with_reducible repeat (first | apply Kd.R_alloc | apply Kd.R_drewN | apply Kd.R_drew)); exact Kd.R_mono HO_7.out (fun _ hk => ⟨⟨hk.1, ⟨hk.2.2.1, ⟨hk.2.2.2.1, ⟨hk.2.2.2.2.1, ⟨hk.2.2.2.2.2.1, ⟨hk.2.2.2.2.2.2.1, ⟨hk.2.2.2.2.2.2.2.1, hk.2.2.2.2.2.2.2.2⟩⟩⟩⟩⟩⟩⟩, hk.2.1⟩)) hg (.inl rfl)); have n1_ := As0 (Kd.R_after (v := (.slice (some ⟨go116, 0, none⟩) x267005_5.length co121)) (v1 := (.slice (some ⟨go116, 0, none⟩) x267005_5.length co121)) (ok := (fun k_ => some k_ ≠ (.slice Ao29 x7_5.length co29 : Value).ownBlock ∧ some k_ ≠ (u267006 : Value).ownBlock ∧ some k_ ≠ (u282004 : Value).ownBlock ∧ some k_ ≠ (u282005 : Value).ownBlock ∧ some k_ ≠ (u282006 : Value).ownBlock ∧ some k_ ≠ (u297004 : Value).ownBlock ∧ some k_ ≠ (u297005 : Value).ownBlock ∧ some k_ ≠ (u297006 : Value).ownBlock)) (by (with_reducible repeat (first | apply Kd.R_alloc | apply Kd.R_drewN | apply Kd.R_drew)); exact Kd.R_mono HO_267004.out (fun _ hk => ⟨⟨hk.1, ⟨hk.2.2.1, ⟨hk.2.2.2.1, ⟨hk.2.2.2.2.1, ⟨hk.2.2.2.2.2.1, ⟨hk.2.2.2.2.2.2.1, ⟨hk.2.2.2.2.2.2.2.1, hk.2.2.2.2.2.2.2.2⟩⟩⟩⟩⟩⟩⟩, hk.2.1⟩)) hg (.inl rfl)); have n2_ := As0 (hp_); have n3_ := As0 (Kd.R_after (v := (.slice (some ⟨go116, 0, none⟩) x267005_5.length co121)) (v1 := (.slice (some ⟨go116, 0, none⟩) x267005_5.length co121)) (ok := (fun k_ => some k_ ≠ (.slice Ao29 x7_5.length co29 : Value).ownBlock ∧ some k_ ≠ (u267004 : Value).ownBlock ∧ some k_ ≠ (u282004 : Value).ownBlock ∧ some k_ ≠ (u282005 : Value).ownBlock ∧ some k_ ≠ (u282006 : Value).ownBlock ∧ some k_ ≠ (u297004 : Value).ownBlock ∧ some k_ ≠ (u297005 : Value).ownBlock ∧ some k_ ≠ (u297006 : Value).ownBlock)) (by (with_reducible repeat (first | apply Kd.R_alloc | apply Kd.R_drewN | apply Kd.R_drew)); exact Kd.R_mono HO_267006.out (fun _ hk => ⟨⟨hk.1, ⟨hk.2.1, ⟨hk.2.2.2.1, ⟨hk.2.2.2.2.1, ⟨hk.2.2.2.2.2.1, ⟨hk.2.2.2.2.2.2.1, ⟨hk.2.2.2.2.2.2.2.1, hk.2.2.2.2.2.2.2.2⟩⟩⟩⟩⟩⟩⟩, hk.2.2.1⟩)) hg (.inl rfl)); have n4_ := As0 (Kd.R_after (v := (.slice (some ⟨go116, 0, none⟩) x267005_5.length co121)) (v1 := (.slice (some ⟨go116, 0, none⟩) x267005_5.length co121)) (ok := (fun k_ => some k_ ≠ (.slice Ao29 x7_5.length co29 : Value).ownBlock ∧ some k_ ≠ (u267004 : Value).ownBlock ∧ some k_ ≠ (u267006 : Value).ownBlock ∧ some k_ ≠ (u282005 : Value).ownBlock ∧ some k_ ≠ (u282006 : Value).ownBlock ∧ some k_ ≠ (u297004 : Value).ownBlock ∧ some k_ ≠ (u297005 : Value).ownBlock ∧ some k_ ≠ (u297006 : Value).ownBlock)) (by (with_reducible repeat (first | apply Kd.R_alloc | apply Kd.R_drewN | apply Kd.R_drew)); exact Kd.R_mono HO_282004.out (fun _ hk => ⟨⟨hk.1, ⟨hk.2.1, ⟨hk.2.2.2.1, ⟨hk.2.2.2.2.1, ⟨hk.2.2.2.2.2.1, ⟨hk.2.2.2.2.2.2.1, ⟨hk.2.2.2.2.2.2.2.1, hk.2.2.2.2.2.2.2.2⟩⟩⟩⟩⟩⟩⟩, hk.2.2.1⟩)) hg (.inl rfl)); have n5_ := As0 (Kd.R_after (v := (.slice (some ⟨go116, 0, none⟩) x267005_5.length co121)) (v1 := (.slice (some ⟨go116, 0, none⟩) x267005_5.length co121)) (ok := (fun k_ => some k_ ≠ (.slice Ao29 x7_5.length co29 : Value).ownBlock ∧ some k_ ≠ (u267004 : Value).ownBlock ∧ some k_ ≠ (u267006 : Value).ownBlock ∧ some k_ ≠ (u282004 : Value).ownBlock ∧ some k_ ≠ (u282006 : Value).ownBlock ∧ some k_ ≠ (u297004 : Value).ownBlock ∧ some k_ ≠ (u297005 : Value).ownBlock ∧ some k_ ≠ (u297006 : Value).ownBlock)) (by (with_reducible repeat (first | apply Kd.R_alloc | apply Kd.R_drewN | apply Kd.R_drew)); exact Kd.R_mono HO_282005.out (fun _ hk => ⟨⟨hk.1, ⟨hk.2.1, ⟨hk.2.2.2.1, ⟨hk.2.2.2.2.1, ⟨hk.2.2.2.2.2.1, ⟨hk.2.2.2.2.2.2.1, ⟨hk.2.2.2.2.2.2.2.1, hk.2.2.2.2.2.2.2.2⟩⟩⟩⟩⟩⟩⟩, hk.2.2.1⟩)) hg (.inl rfl)); have n6_ := As0 (Kd.R_after (v := (.slice (some ⟨go116, 0, none⟩) x267005_5.length co121)) (v1 := (.slice (some ⟨go116, 0, none⟩) x267005_5.length co121)) (ok := (fun k_ => some k_ ≠ (.slice Ao29 x7_5.length co29 : Value).ownBlock ∧ some k_ ≠ (u267004 : Value).ownBlock ∧ some k_ ≠ (u267006 : Value).ownBlock ∧ some k_ ≠ (u282004 : Value).ownBlock ∧ some k_ ≠ (u282005 : Value).ownBlock ∧ some k_ ≠ (u297004 : Value).ownBlock ∧ some k_ ≠ (u297005 : Value).ownBlock ∧ some k_ ≠ (u297006 : Value).ownBlock)) (by (with_reducible repeat (first | apply Kd.R_alloc | apply Kd.R_drewN | apply Kd.R_drew)); exact Kd.R_mono HO_282006.out (fun _ hk => ⟨⟨hk.1, ⟨hk.2.1, ⟨hk.2.2.2.1, ⟨hk.2.2.2.2.1, ⟨hk.2.2.2.2.2.1, ⟨hk.2.2.2.2.2.2.1, ⟨hk.2.2.2.2.2.2.2.1, hk.2.2.2.2.2.2.2.2⟩⟩⟩⟩⟩⟩⟩, hk.2.2.1⟩)) hg (.inl rfl)); have n7_ := As0 (Kd.R_after (v := (.slice (some ⟨go116, 0, none⟩) x267005_5.length co121)) (v1 := (.slice (some ⟨go116, 0, none⟩) x267005_5.length co121)) (ok := (fun k_ => some k_ ≠ (.slice Ao29 x7_5.length co29 : Value).ownBlock ∧ some k_ ≠ (u267004 : Value).ownBlock ∧ some k_ ≠ (u267006 : Value).ownBlock ∧ some k_ ≠ (u282004 : Value).ownBlock ∧ some k_ ≠ (u282005 : Value).ownBlock ∧ some k_ ≠ (u282006 : Value).ownBlock ∧ some k_ ≠ (u297005 : Value).ownBlock ∧ some k_ ≠ (u297006 : Value).ownBlock)) (by (with_reducible repeat (first | apply Kd.R_alloc | apply Kd.R_drewN | apply Kd.R_drew)); exact Kd.R_mono HO_297004.out (fun _ hk => ⟨⟨hk.1, ⟨hk.2.1, ⟨hk.2.2.2.1, ⟨hk.2.2.2.2.1, ⟨hk.2.2.2.2.2.1, ⟨hk.2.2.2.2.2.2.1, ⟨hk.2.2.2.2.2.2.2.1, hk.2.2.2.2.2.2.2.2⟩⟩⟩⟩⟩⟩⟩, hk.2.2.1⟩)) hg (.inl rfl)); have n8_ := As0 (Kd.R_after (v := (.slice (some ⟨go116, 0, none⟩) x267005_5.length co121)) (v1 := (.slice (some ⟨go116, 0, none⟩) x267005_5.length co121)) (ok := (fun k_ => some k_ ≠ (.slice Ao29 x7_5.length co29 : Value).ownBlock ∧ some k_ ≠ (u267004 : Value).ownBlock ∧ some k_ ≠ (u267006 : Value).ownBlock ∧ some k_ ≠ (u282004 : Value).ownBlock ∧ some k_ ≠ (u282005 : Value).ownBlock ∧ some k_ ≠ (u282006 : Value).ownBlock ∧ some k_ ≠ (u297004 : Value).ownBlock ∧ some k_ ≠ (u297006 : Value).ownBlock)) (by (with_reducible repeat (first | apply Kd.R_alloc | apply Kd.R_drewN | apply Kd.R_drew)); exact Kd.R_mono HO_297005.out (fun _ hk => ⟨⟨hk.1, ⟨hk.2.1, ⟨hk.2.2.2.1, ⟨hk.2.2.2.2.1, ⟨hk.2.2.2.2.2.1, ⟨hk.2.2.2.2.2.2.1, ⟨hk.2.2.2.2.2.2.2.1, hk.2.2.2.2.2.2.2.2⟩⟩⟩⟩⟩⟩⟩, hk.2.2.1⟩)) hg (.inl rfl)); have n9_ := As0 (Kd.R_after (v := (.slice (some ⟨go116, 0, none⟩) x267005_5.length co121)) (v1 := (.slice (some ⟨go116, 0, none⟩) x267005_5.length co121)) (ok := (fun k_ => some k_ ≠ (.slice Ao29 x7_5.length co29 : Value).ownBlock ∧ some k_ ≠ (u267004 : Value).ownBlock ∧ some k_ ≠ (u267006 : Value).ownBlock ∧ some k_ ≠ (u282004 : Value).ownBlock ∧ some k_ ≠ (u282005 : Value).ownBlock ∧ some k_ ≠ (u282006 : Value).ownBlock ∧ some k_ ≠ (u297004 : Value).ownBlock ∧ some k_ ≠ (u297005 : Value).ownBlock)) (by (with_reducible repeat (first | apply Kd.R_alloc | apply Kd.R_drewN | apply Kd.R_drew)); exact Kd.R_mono HO_297006.out (fun _ hk => ⟨⟨hk.1, ⟨hk.2.1, ⟨hk.2.2.2.1, ⟨hk.2.2.2.2.1, ⟨hk.2.2.2.2.2.1, ⟨hk.2.2.2.2.2.2.1, ⟨hk.2.2.2.2.2.2.2.1, hk.2.2.2.2.2.2.2.2⟩⟩⟩⟩⟩⟩⟩, hk.2.2.1⟩)) hg (.inl rfl)); have n10_ := As0 (blk_grown (g := gb241) (o := .cells #[.int .i64 a0_0, .int .i64 a0_1, .int .i64 a0_2, .slice A0_3 l0_3.length c0_3] 63 (0, 0)) (by (with_reducible repeat (first | refine blk_drewN ?_ _ | refine blk_drew ?_ | refine blk_alloc ?_ _)); exact BK241.out) hg (Kd.R_ne HO_267005.out BK241.out (by decide))); have n11_ := As0 (blk_grown (g := gb266) (o := .cells #[.int .i64 t251, .int .i64 t252, .int .i64 t253, .int .i64 t254, u267004, .slice (some ⟨go116, 0, none⟩) x267005_5.length co121, u267006, .int .i64 t264] 39 (0, 0)) (by (with_reducible repeat (first | refine blk_drewN ?_ _ | refine blk_drew ?_ | refine blk_alloc ?_ _)); exact BK266.out) hg (Kd.R_ne HO_267005.out BK266.out (by decide))); have n12_ := As0 (blk_grown (g := gb281) (o := .cells #[.int .i64 t267, .int .i64 t268, .int .i64 t269, .int .i64 t270, u282004, u282005, u282006, .int .i64 t280] 39 (0, 0)) (by (with_reducible repeat (first | refine blk_drewN ?_ _ | refine blk_drew ?_ | refine blk_alloc ?_ _)); exact BK281.out) hg (Kd.R_ne HO_267005.out BK281.out (by decide))); have n13_ := As0 (blk_grown (g := gb296) (o := .cells #[.int .i64 t282, .int .i64 t283, .int .i64 t284, .int .i64 t285, u297004, u297005, u297006, .int .i64 t295] 39 (0, 0)) (by (with_reducible repeat (first | refine blk_drewN ?_ _ | refine blk_drew ?_ | refine blk_alloc ?_ _)); exact BK296.out) hg (Kd.R_ne HO_267005.out BK296.out (by decide))); have n14_ := As0 ((by rw [hw]; exact below_set (HB.out) GB116.out : Below w.heap.size w w123)); clear HO_7 HO_267004 HO_267005 HO_267006 HO_282004 HO_282005 HO_282006 HO_297004 HO_297005 HO_297006 BK241 BK266 BK281 BK296 HB; have HO_7 := n0_; have HO_267004 := n1_; have HO_267005 := n2_; have HO_267006 := n3_; have HO_282004 := n4_; have HO_282005 := n5_; have HO_282006 := n6_; have HO_297004 := n7_; have HO_297005 := n8_; have HO_297006 := n9_; have BK241 := n10_; have BK266 := n11_; have BK281 := n12_; have BK296 := n13_; have HB := n14_; clear n0_ n1_ n2_ n3_ n4_ n5_ n6_ n7_ n8_ n9_ n10_ n11_ n12_ n13_ n14_ hg hw hp_))
                  (try simp only [← hl7_5])
                  go_roundg k5
                  case measure => have := HJ3.out; have := HK2.out; have := HK3.out; have := HK4.out; have := HK5.out; omega
                  case rel => exact ⟨(x7_5), (wrap64 (x16_5 + 1)), (x267004_5), (y305), (x267006_5), (x282004_5), (x282005_5), (x282006_5), (x297004_5), (x297005_5), (x297006_5), (u267004), (.slice (some ⟨go116, 0, none⟩) x267005_5.length co121), (u267006), (u282004), (u282005), (u282006), (u297004), (u297005), (u297006), (by first | rfl | (simp; done) | (simp [*]; done)), H', ⟨by have := HJ3.out; have := HK2.out; have := HK3.out; have := HK4.out; have := HK5.out; omega⟩, ⟨by (try simp only [hl7_2]); (try simp only [hl7_3]); (try simp only [hl7_4]); (try simp only [hl7_5]); (with_reducible repeat (first | apply Kd.R_alloc | apply Kd.R_drewN | apply Kd.R_drew)); exact Kd.R_mono HO_7.out (fun _ hk => ⟨hk.1.1, ⟨hk.2, ⟨hk.1.2.1, ⟨hk.1.2.2.1, ⟨hk.1.2.2.2.1, ⟨hk.1.2.2.2.2.1, ⟨hk.1.2.2.2.2.2.1, ⟨hk.1.2.2.2.2.2.2.1, hk.1.2.2.2.2.2.2.2⟩⟩⟩⟩⟩⟩⟩⟩)⟩, ⟨by (try simp only [hl7_2]); (try simp only [hl7_3]); (try simp only [hl7_4]); (try simp only [hl7_5]); (with_reducible repeat (first | apply Kd.R_alloc | apply Kd.R_drewN | apply Kd.R_drew)); exact Kd.R_mono HO_267004.out (fun _ hk => ⟨hk.1.1, ⟨hk.2, ⟨hk.1.2.1, ⟨hk.1.2.2.1, ⟨hk.1.2.2.2.1, ⟨hk.1.2.2.2.2.1, ⟨hk.1.2.2.2.2.2.1, ⟨hk.1.2.2.2.2.2.2.1, hk.1.2.2.2.2.2.2.2⟩⟩⟩⟩⟩⟩⟩⟩)⟩, ⟨by (try simp only [hl7_2]); (try simp only [hl7_3]); (try simp only [hl7_4]); (try simp only [hl7_5]); (with_reducible repeat (first | apply Kd.R_alloc | apply Kd.R_drewN | apply Kd.R_drew)); exact HO_267005.out⟩, ⟨by (try simp only [hl7_2]); (try simp only [hl7_3]); (try simp only [hl7_4]); (try simp only [hl7_5]); (with_reducible repeat (first | apply Kd.R_alloc | apply Kd.R_drewN | apply Kd.R_drew)); exact Kd.R_mono HO_267006.out (fun _ hk => ⟨hk.1.1, ⟨hk.1.2.1, ⟨hk.2, ⟨hk.1.2.2.1, ⟨hk.1.2.2.2.1, ⟨hk.1.2.2.2.2.1, ⟨hk.1.2.2.2.2.2.1, ⟨hk.1.2.2.2.2.2.2.1, hk.1.2.2.2.2.2.2.2⟩⟩⟩⟩⟩⟩⟩⟩)⟩, ⟨by (try simp only [hl7_2]); (try simp only [hl7_3]); (try simp only [hl7_4]); (try simp only [hl7_5]); (with_reducible repeat (first | apply Kd.R_alloc | apply Kd.R_drewN | apply Kd.R_drew)); exact Kd.R_mono HO_282004.out (fun _ hk => ⟨hk.1.1, ⟨hk.1.2.1, ⟨hk.2, ⟨hk.1.2.2.1, ⟨hk.1.2.2.2.1, ⟨hk.1.2.2.2.2.1, ⟨hk.1.2.2.2.2.2.1, ⟨hk.1.2.2.2.2.2.2.1, hk.1.2.2.2.2.2.2.2⟩⟩⟩⟩⟩⟩⟩⟩)⟩, ⟨by (try simp only [hl7_2]); (try simp only [hl7_3]); (try simp only [hl7_4]); (try simp only [hl7_5]); (with_reducible repeat (first | apply Kd.R_alloc | apply Kd.R_drewN | apply Kd.R_drew)); exact Kd.R_mono HO_282005.out (fun _ hk => ⟨hk.1.1, ⟨hk.1.2.1, ⟨hk.2, ⟨hk.1.2.2.1, ⟨hk.1.2.2.2.1, ⟨hk.1.2.2.2.2.1, ⟨hk.1.2.2.2.2.2.1, ⟨hk.1.2.2.2.2.2.2.1, hk.1.2.2.2.2.2.2.2⟩⟩⟩⟩⟩⟩⟩⟩)⟩, ⟨by (try simp only [hl7_2]); (try simp only [hl7_3]); (try simp only [hl7_4]); (try simp only [hl7_5]); (with_reducible repeat (first | apply Kd.R_alloc | apply Kd.R_drewN | apply Kd.R_drew)); exact Kd.R_mono HO_282006.out (fun _ hk => ⟨hk.1.1, ⟨hk.1.2.1, ⟨hk.2, ⟨hk.1.2.2.1, ⟨hk.1.2.2.2.1, ⟨hk.1.2.2.2.2.1, ⟨hk.1.2.2.2.2.2.1, ⟨hk.1.2.2.2.2.2.2.1, hk.1.2.2.2.2.2.2.2⟩⟩⟩⟩⟩⟩⟩⟩)⟩, ⟨by (try simp only [hl7_2]); (try simp only [hl7_3]); (try simp only [hl7_4]); (try simp only [hl7_5]); (with_reducible repeat (first | apply Kd.R_alloc | apply Kd.R_drewN | apply Kd.R_drew)); exact Kd.R_mono HO_297004.out (fun _ hk => ⟨hk.1.1, ⟨hk.1.2.1, ⟨hk.2, ⟨hk.1.2.2.1, ⟨hk.1.2.2.2.1, ⟨hk.1.2.2.2.2.1, ⟨hk.1.2.2.2.2.2.1, ⟨hk.1.2.2.2.2.2.2.1, hk.1.2.2.2.2.2.2.2⟩⟩⟩⟩⟩⟩⟩⟩)⟩, ⟨by (try simp only [hl7_2]); (try simp only [hl7_3]); (try simp only [hl7_4]); (try simp only [hl7_5]); (with_reducible repeat (first | apply Kd.R_alloc | apply Kd.R_drewN | apply Kd.R_drew)); exact Kd.R_mono HO_297005.out (fun _ hk => ⟨hk.1.1, ⟨hk.1.2.1, ⟨hk.2, ⟨hk.1.2.2.1, ⟨hk.1.2.2.2.1, ⟨hk.1.2.2.2.2.1, ⟨hk.1.2.2.2.2.2.1, ⟨hk.1.2.2.2.2.2.2.1, hk.1.2.2.2.2.2.2.2⟩⟩⟩⟩⟩⟩⟩⟩)⟩, ⟨by (try simp only [hl7_2]); (try simp only [hl7_3]); (try simp only [hl7_4]); (try simp only [hl7_5]); (with_reducible repeat (first | apply Kd.R_alloc | apply Kd.R_drewN | apply Kd.R_drew)); exact Kd.R_mono HO_297006.out (fun _ hk => ⟨hk.1.1, ⟨hk.1.2.1, ⟨hk.2, ⟨hk.1.2.2.1, ⟨hk.1.2.2.2.1, ⟨hk.1.2.2.2.2.1, ⟨hk.1.2.2.2.2.2.1, ⟨hk.1.2.2.2.2.2.2.1, hk.1.2.2.2.2.2.2.2⟩⟩⟩⟩⟩⟩⟩⟩)⟩, ⟨by (try simp only [hl7_2]); (try simp only [hl7_3]); (try simp only [hl7_4]); (try simp only [hl7_5]); (with_reducible repeat (first | refine blk_drewN ?_ _ | refine blk_drew ?_ | refine blk_alloc ?_ _)); exact BK241.out⟩, ⟨by (try simp only [hl7_2]); (try simp only [hl7_3]); (try simp only [hl7_4]); (try simp only [hl7_5]); (with_reducible repeat (first | refine blk_drewN ?_ _ | refine blk_drew ?_ | refine blk_alloc ?_ _)); exact BK266.out⟩, ⟨by (try simp only [hl7_2]); (try simp only [hl7_3]); (try simp only [hl7_4]); (try simp only [hl7_5]); (with_reducible repeat (first | refine blk_drewN ?_ _ | refine blk_drew ?_ | refine blk_alloc ?_ _)); exact BK281.out⟩, ⟨by (try simp only [hl7_2]); (try simp only [hl7_3]); (try simp only [hl7_4]); (try simp only [hl7_5]); (with_reducible repeat (first | refine blk_drewN ?_ _ | refine blk_drew ?_ | refine blk_alloc ?_ _)); exact BK296.out⟩, ⟨by repeat (first | (with_reducible first | exact HB.out | apply below_alloc | apply bdN | apply bd1 | refine below_set ?_ GE241.out | refine below_set ?_ GE266.out | refine below_set ?_ GE281.out | refine below_set ?_ GE296.out) | exact HB.out)⟩⟩
                 ·rw [if_neg c115] at H
                  exact absurd H (by simp)
                ·rw [if_neg c114] at H
                 have c114b0 : decide (x16_5 < (x267005_5.length : Int)) = false := decide_eq_false c114
                 clear c114
                 by_cases c124 : t303 = true
                 ·subst c124
                  have H1 : ((regcertref09_Values.f k5 x7_5 l1).bind fun t306 => (some t306)) = some r := by rw [if_pos rfl] at H; exact H
                  clear H
                  have H := H1
                  clear H1
                  replace H := Option.bind_eq_some_iff.mp H
                  obtain ⟨t306, A1250, H⟩ := H
                  replace H : (some t306) = some r := H
                  have A125 := As0 A1250
                  clear A1250
                  obtain rfl := Option.some.inj H
                  have hnb126 := NB266_241.out
                  have hnc126 := NB241_266.out
                  have hnb127 := NB266_281.out
                  have hnc127 := NB281_266.out
                  have hnb128 := NB266_296.out
                  have hnc128 := NB296_266.out
                  have hcz129_0 : wr.cell? ⟨gb266, 0, none⟩ = some (.int .i64 t251) := (blk_cell BK266.out 0).trans rfl
                  have hcz129_1 : wr.cell? ⟨gb266, 1, none⟩ = some (.int .i64 t252) := (blk_cell BK266.out 1).trans rfl
                  have hcz129_2 : wr.cell? ⟨gb266, 2, none⟩ = some (.int .i64 t253) := (blk_cell BK266.out 2).trans rfl
                  have hcz129_3 : wr.cell? ⟨gb266, 3, none⟩ = some (.int .i64 t254) := (blk_cell BK266.out 3).trans rfl
                  have hcz129_4 : wr.cell? ⟨gb266, 4, none⟩ = some (u267004) := (blk_cell BK266.out 4).trans rfl
                  have hcz129_5 : wr.cell? ⟨gb266, 5, none⟩ = some (u267005) := (blk_cell BK266.out 5).trans rfl
                  have hcz129_6 : wr.cell? ⟨gb266, 6, none⟩ = some (u267006) := (blk_cell BK266.out 6).trans rfl
                  have hcz129_7 : wr.cell? ⟨gb266, 7, none⟩ = some (.int .i64 t264) := (blk_cell BK266.out 7).trans rfl
                  have hfz129_0 := blk_frozen BK266.out 0
                  have hfz129_1 := blk_frozen BK266.out 1
                  have hfz129_2 := blk_frozen BK266.out 2
                  have hfz129_3 := blk_frozen BK266.out 3
                  have hfz129_4 := blk_frozen BK266.out 4
                  have hfz129_5 := blk_frozen BK266.out 5
                  have hfz129_6 := blk_frozen BK266.out 6
                  have hfz129_7 := blk_frozen BK266.out 7
                  obtain ⟨Ao130, co130, eo130⟩ := Kd.R_slice HO_267005.out
                  subst eo130
                  go_wp2_with (first | (go_at_call 37; (with_reducible refine (regcertref09_Values.calls k5 _ _ x7_5 _ _ l1 t306 _ ?side1 ?side2 ?side3 ?side4 A125.out).mono ?_); (case side1 => repeat (first | exact (Kd.R_reads' HO_7.out).2.2 | (with_reducible refine Kd.C_alloc ?_ _) | (with_reducible refine Kd.C_drewN ?_ _) | (with_reducible refine Kd.C_drew ?_))); (case side2 => exact (Kd.R_reads' HO_7.out).2.1); (case side3 => repeat (first | exact (Kd.C_below HR1.out HB.out) | (with_reducible refine Kd.C_alloc ?_ _) | (with_reducible refine Kd.C_drewN ?_ _) | (with_reducible refine Kd.C_drew ?_))); (case side4 => exact HC1.out); rintro e w' ⟨rfl, ⟨nd, rfl⟩⟩))
                  go_ret
                  exact ⟨by first | rfl | (simp [errW_none, errW_some] <;> rfl) | (simp [*, errW_none, errW_some] <;> rfl), by repeat (first | (with_reducible first | exact HB.out | apply below_alloc | apply bdN | apply bd1 | refine below_set ?_ GE241.out | refine below_set ?_ GE266.out | refine below_set ?_ GE281.out | refine below_set ?_ GE296.out) | exact HB.out)⟩
                 ·replace c124 := Bool.eq_false_iff.mpr c124
                  subst c124
                  have H1 : (none) = some r := by rw [if_neg (show ¬ (false = true) by decide)] at H; exact H
                  clear H
                  have H := H1
                  clear H1
                  exact absurd H (by simp)
    ·rw [if_neg c21] at H
     exact absurd H (by simp)

end Go.Proofs.Ytgkmagfajalnhaa.E
