-- Written by a program of this session (xprint), out of the translation. Not trusted: Lean checks it.
import Derived.Test.YtgkmagfajalnhaaMY0
import Derived.Test.YtgkmagfajalnhaaMYIExec
import Derived.Test.YtgkmagfajalnhaaMYIInstr
namespace Go.Proofs.Ytgkmagfajalnhaa.Y
open Go.RowKit Go.Proofs.YtgkmagfajalnhaaW.PrintWords Go.Proofs.YtgkmagfajalnhaaW.PrintLast Go.Proofs.YtgkmagfajalnhaaW.PrintMore
attribute [local go_sem] max2_int min2_int max_two min_two max_three min_three max_four min_four   -- for this text's walks alone
set_option linter.unusedVariables false
set_option linter.unusedSimpArgs false

-- NOT PRINTED: function 62 (interp_begin)

-- NOT PRINTED: function 58 (alu_operation)

-- BY HAND: function 20 (alu_Eval): Derived.Test.YtgkmagfajalnhaaYEval

-- NOT PRINTED: function 88 (interp_state_instr)

-- NOT PRINTED: function 89 (interp_state_term)

-- NOT PRINTED: function 63 (interp_state_step)

-- BY HAND: function 31 (interp_Exec): Derived.Test.YtgkmagfajalnhaaYIExec

/-! ### regcertref09_Values: function 37 -/
def regcertref09_Values.l0 : Nat → List Int → List Int → Int → Option (Bool)
 | 0, _, _, _ => none
 | k + 1, x0, x1, x5 => if x5 < (x0.length : Int) then (if 0 ≤ x5 then (if x5 < (x1.length : Int) then (if (rd x0 x5) = (rd x1 x5) then (regcertref09_Values.l0 k x0 x1 (wrap64 (x5 + 1))) else (some false)) else (none)) else (none)) else (some true)
def regcertref09_Values.f (k : Nat) (l0 : List Int) (l1 : List Int) : Option (Bool) := if (l0.length : Int) = (l1.length : Int) then (regcertref09_Values.l0 k l0 l1 0) else (none)
theorem regcertref09_Values.mono_l : ∀ k, (∀ y0 y1 y2, LeO (regcertref09_Values.l0 k y0 y1 y2) (regcertref09_Values.l0 (k + 1) y0 y1 y2))
 | 0 => fun _ _ _ r h => by simp [regcertref09_Values.l0] at h
 | k + 1 => by
  have ih0 := regcertref09_Values.mono_l k
  ·intro y0 y1 y2
   unfold regcertref09_Values.l0
   repeat' first
   | (with_reducible exact ih0 _ _ _)
   | (with_reducible exact LeO.refl _)
   | (with_reducible exact LeO.none _)
   | (with_reducible refine LeO.ite ?_ ?_)
   | (with_reducible refine LeO.bind ?_ (fun _ => ?_))
   | exact ih0 _ _ _
   | exact LeO.none _
   | refine LeO.ite ?_ ?_
   | refine LeO.bind ?_ (fun _ => ?_)
theorem regcertref09_Values.mono : ∀ a0 a1 k, LeO (regcertref09_Values.f k a0 a1) (regcertref09_Values.f (k + 1) a0 a1) := by
 intro a0 a1 k
 have ih0 := regcertref09_Values.mono_l k
 unfold regcertref09_Values.f
 repeat' first
   | (with_reducible exact ih0 _ _ _)
   | (with_reducible exact LeO.refl _)
   | (with_reducible exact LeO.none _)
   | (with_reducible refine LeO.ite ?_ ?_)
   | (with_reducible refine LeO.bind ?_ (fun _ => ?_))
   | exact ih0 _ _ _
   | exact LeO.none _
   | refine LeO.ite ?_ ?_
   | refine LeO.bind ?_ (fun _ => ?_)
set_option maxHeartbeats 8000000 in
set_option maxRecDepth 100000 in
theorem regcertref09_Values.calls (k : Nat) (A0 : Option Addr) (c0 : Nat) (l0 : List Int) (A1 : Option Addr) (c1 : Nat) (l1 : List Int) (r : Bool) (w : World) (hr0 : Kd.C (Kd.int .i64) w A0 l0.length l0) (hc0 : l0.length ≤ c0) (hr1 : Kd.C (Kd.int .i64) w A1 l1.length l1) (hc1 : l1.length ≤ c1) (h : regcertref09_Values.f k l0 l1 = some r) :
  Calls Try.prog 37 #[.slice A0 l0.length c0, .slice A1 l1.length c1] w fun e w' => e = .returned (.bool r) ∧ Drawn0 w w' := by
 have HR0 := As0 hr0
 have HC0 := As0 hc0
 clear hr0 hc0
 have HR1 := As0 hr1
 have HC1 := As0 hc1
 clear hr1 hc1
 have H : (if (l0.length : Int) = (l1.length : Int) then (regcertref09_Values.l0 k l0 l1 0) else (none)) = some r := h
 clear h
 by_cases c3 : (l0.length : Int) = (l1.length : Int)
 ·rw [if_pos c3] at H
  have c3b0 : ((l0.length : Int) == (l1.length : Int)) = true := beq_iff_eq.mpr c3
  have c3b1 : ((l0.length : Int) != (l1.length : Int)) = false := bne_eq_false_iff_eq.mpr c3
  have c3b2 : (l0.length == l1.length) = true := by first | simpa using c3 | (simp at c3 ⊢; omega)
  clear c3
  have H' := As0 H
  clear H
  go_enter Try.func37, Try.ntmps37
  go_wp2
  repeat (go_quiet (fail); try go_wp2)
  go_loopg [5] k (fun kq v5 w' => ∃ (x5_1 : Int), v5 = .int .i64 x5_1 ∧ Aside0 (regcertref09_Values.l0 kq l0 l1 x5_1 = some r) ∧ Aside0 (kq ≤ k) ∧ Drawn0 w w')
  case atStart => exact ⟨(0), (by first | rfl | (simp; done) | (simp [*]; done)), H', ⟨Nat.le_refl _⟩, by repeat (first | exact Drawn0.refl _ | apply Drawn0.step)⟩
  case round =>
   clear H'
   try clear c1
   try clear p2
   try clear c3
   try clear c3b0
   try clear c3b1
   try clear c3b2
   obtain ⟨x5_1, rfl, HA, HK1, ⟨m1, rfl⟩⟩ := hrel
   cases gk with
   | zero => exact absurd HA.out (by simp [regcertref09_Values.l0])
   | succ k1 =>
    have H := HA.out
    clear HA
    simp only [regcertref09_Values.l0] at H
    by_cases c4 : x5_1 < (l0.length : Int)
    ·rw [if_pos c4] at H
     have c4b0 : decide (x5_1 < (l0.length : Int)) = true := decide_eq_true c4
     clear c4
     by_cases c5 : 0 ≤ x5_1
     ·rw [if_pos c5] at H
      have c5b0 : decide (0 ≤ x5_1) = true := decide_eq_true c5
      clear c5
      by_cases c6 : x5_1 < (l1.length : Int)
      ·rw [if_pos c6] at H
       have c6b0 : decide (x5_1 < (l1.length : Int)) = true := decide_eq_true c6
       clear c6
       by_cases c7 : (rd l0 x5_1) = (rd l1 x5_1)
       ·rw [if_pos c7] at H
        have c7b0 : ((rd l0 x5_1) == (rd l1 x5_1)) = true := beq_iff_eq.mpr c7
        have c7b1 : ((rd l0 x5_1) != (rd l1 x5_1)) = false := bne_eq_false_iff_eq.mpr c7
        clear c7
        have H' := As0 H
        clear H
        have p114 : 0 ≤ (x5_1 : Int) := of_decide_eq_true (by first | (with_reducible assumption) | assumption)
        have q114 : x5_1 < (l0.length : Int) := of_decide_eq_true (by first | (with_reducible assumption) | assumption)
        obtain ⟨ad114, e114, hx114_0⟩ := Kd.at_int HR0.out x5_1 p114 q114
        cases e114
        replace p114 := eq_true p114
        replace q114 := eq_true q114
        have p115 : 0 ≤ (x5_1 : Int) := of_decide_eq_true (by first | (with_reducible assumption) | assumption)
        have q115 : x5_1 < (l1.length : Int) := of_decide_eq_true (by first | (with_reducible assumption) | assumption)
        obtain ⟨ad115, e115, hx115_0⟩ := Kd.at_int HR1.out x5_1 p115 q115
        cases e115
        replace p115 := eq_true p115
        replace q115 := eq_true q115
        go_wp2
        repeat (go_quiet (fail); try go_wp2)
        go_roundg k1
        case measure => have := HK1.out; omega
        case rel => exact ⟨(wrap64 (x5_1 + 1)), (by first | rfl | (simp; done) | (simp [*]; done)), H', ⟨by have := HK1.out; omega⟩, by repeat (first | exact Drawn0.refl _ | apply Drawn0.step)⟩
       ·rw [if_neg c7] at H
        have c7b0 : ((rd l0 x5_1) == (rd l1 x5_1)) = false := beq_eq_false_iff_ne.mpr c7
        have c7b1 : ((rd l0 x5_1) != (rd l1 x5_1)) = true := bne_iff_ne.mpr c7
        obtain rfl := Option.some.inj H
        have p114 : 0 ≤ (x5_1 : Int) := of_decide_eq_true (by first | (with_reducible assumption) | assumption)
        have q114 : x5_1 < (l0.length : Int) := of_decide_eq_true (by first | (with_reducible assumption) | assumption)
        obtain ⟨ad114, e114, hx114_0⟩ := Kd.at_int HR0.out x5_1 p114 q114
        cases e114
        replace p114 := eq_true p114
        replace q114 := eq_true q114
        have p115 : 0 ≤ (x5_1 : Int) := of_decide_eq_true (by first | (with_reducible assumption) | assumption)
        have q115 : x5_1 < (l1.length : Int) := of_decide_eq_true (by first | (with_reducible assumption) | assumption)
        obtain ⟨ad115, e115, hx115_0⟩ := Kd.at_int HR1.out x5_1 p115 q115
        cases e115
        replace p115 := eq_true p115
        replace q115 := eq_true q115
        go_wp2
        repeat (go_quiet (fail); try go_wp2)
        go_ret
        exact ⟨by first | rfl | (simp; done) | (simp [*]; done), by repeat (first | exact Drawn0.refl _ | apply Drawn0.step)⟩
      ·rw [if_neg c6] at H
       exact absurd H (by simp)
     ·rw [if_neg c5] at H
      exact absurd H (by simp)
    ·rw [if_neg c4] at H
     have c4b0 : decide (x5_1 < (l0.length : Int)) = false := decide_eq_false c4
     clear c4
     obtain rfl := Option.some.inj H
     go_wp2
     repeat (go_quiet (fail); try go_wp2)
     go_ret
     exact ⟨by first | rfl | (simp; done) | (simp [*]; done), by repeat (first | exact Drawn0.refl _ | apply Drawn0.step)⟩
 ·rw [if_neg c3] at H
  exact absurd H (by simp)

/-! ### regcertlaw09_awake: function 29 -/
def regcertlaw09_awake.f (k : Nat)  : Option (Bool) := (some (([(⟨(([(⟨17, 0, 0, 0, 0⟩ : S97)] : List (S97))), (⟨3, 0, 0, 0⟩ : S48)⟩ : S50)] : List (S50)) : List (S50))).bind fun y119 => ((interp_Exec.f k 1 1 y119 (([5] : List Int)) 9).bind fun bt126 => ((interp_Exec.f k 1 1 y119 (([5] : List Int)) 1).bind fun bt145 => ((interp_Exec.f k 1 1 y119 ([] : List Int) 1).bind fun bt161 => (if bt126.2.2.2.2.2.2.2.2 = 0 then (if bt126.1 = 1 then (if bt126.2.2.2.1 = 5 then (if bt126.2.2.2.2.2.2.2.1 = 2 then ((regcertref09_Values.f k bt126.2.2.2.2.2.2.1 (([5] : List Int))).bind fun t180 => (if t180 = true then (if bt145.2.2.2.2.2.2.2.2 = 0 then (if bt145.1 = 0 then (if bt145.2.2.2.2.2.2.2.1 = 1 then (if bt145.2.2.1 = 1 then (some (bt161.2.2.2.2.2.2.2.2 == 32)) else (none)) else (none)) else (none)) else (none)) else (none))) else (none)) else (none)) else (none)) else (none)))))
theorem regcertlaw09_awake.mono : ∀ k, LeO (regcertlaw09_awake.f k ) (regcertlaw09_awake.f (k + 1) ) := by
 intro  k
 unfold regcertlaw09_awake.f
 repeat' first
   | (with_reducible exact interp_Exec.mono _ _ _ _ _ _)
   | (with_reducible exact regcertref09_Values.mono _ _ _)
   | (with_reducible exact LeO.refl _)
   | (with_reducible exact LeO.none _)
   | (with_reducible refine LeO.ite ?_ ?_)
   | (with_reducible refine LeO.bind ?_ (fun _ => ?_))
   | exact interp_Exec.mono _ _ _ _ _ _
   | exact regcertref09_Values.mono _ _ _
   | exact LeO.none _
   | refine LeO.ite ?_ ?_
   | refine LeO.bind ?_ (fun _ => ?_)
set_option maxHeartbeats 8000000 in
set_option maxRecDepth 100000 in
theorem regcertlaw09_awake.calls (k : Nat)  (r : Bool) (w : World) (h : regcertlaw09_awake.f k  = some r) :
  Calls Try.prog 29 #[] w fun e w' => e = .returned (.bool r) ∧ Below w.heap.size w w' := by
 have hu97 := Try.underlying97
 have hu48 := Try.underlying48
 have hu50 := Try.underlying50
 have hu34 := Try.underlying34
 have hu39 := Try.underlying39
 have HB := As0 (Below.refl w.heap.size w)
 have H : ((some (([(⟨(([(⟨17, 0, 0, 0, 0⟩ : S97)] : List (S97))), (⟨3, 0, 0, 0⟩ : S48)⟩ : S50)] : List (S50)) : List (S50))).bind fun y119 => ((interp_Exec.f k 1 1 y119 (([5] : List Int)) 9).bind fun bt126 => ((interp_Exec.f k 1 1 y119 (([5] : List Int)) 1).bind fun bt145 => ((interp_Exec.f k 1 1 y119 ([] : List Int) 1).bind fun bt161 => (if bt126.2.2.2.2.2.2.2.2 = 0 then (if bt126.1 = 1 then (if bt126.2.2.2.1 = 5 then (if bt126.2.2.2.2.2.2.2.1 = 2 then ((regcertref09_Values.f k bt126.2.2.2.2.2.2.1 (([5] : List Int))).bind fun t180 => (if t180 = true then (if bt145.2.2.2.2.2.2.2.2 = 0 then (if bt145.1 = 0 then (if bt145.2.2.2.2.2.2.2.1 = 1 then (if bt145.2.2.1 = 1 then (some (bt161.2.2.2.2.2.2.2.2 == 32)) else (none)) else (none)) else (none)) else (none)) else (none))) else (none)) else (none)) else (none)) else (none)))))) = some r := h
 clear h
 obtain ⟨y116, hy116⟩ : ∃ y_ : List (S97), y_ = (([(⟨17, 0, 0, 0, 0⟩ : S97)] : List (S97))) := ⟨_, rfl⟩
 replace H : ((some (([(⟨y116, (⟨3, 0, 0, 0⟩ : S48)⟩ : S50)] : List (S50)) : List (S50))).bind fun y119 => ((interp_Exec.f k 1 1 y119 (([5] : List Int)) 9).bind fun bt126 => ((interp_Exec.f k 1 1 y119 (([5] : List Int)) 1).bind fun bt145 => ((interp_Exec.f k 1 1 y119 ([] : List Int) 1).bind fun bt161 => (if bt126.2.2.2.2.2.2.2.2 = 0 then (if bt126.1 = 1 then (if bt126.2.2.2.1 = 5 then (if bt126.2.2.2.2.2.2.2.1 = 2 then ((regcertref09_Values.f k bt126.2.2.2.2.2.2.1 (([5] : List Int))).bind fun t180 => (if t180 = true then (if bt145.2.2.2.2.2.2.2.2 = 0 then (if bt145.1 = 0 then (if bt145.2.2.2.2.2.2.2.1 = 1 then (if bt145.2.2.1 = 1 then (some (bt161.2.2.2.2.2.2.2.2 == 32)) else (none)) else (none)) else (none)) else (none)) else (none))) else (none)) else (none)) else (none)) else (none)))))) = some r := by first | (rw [hy116]; with_reducible exact H) | (have H2_ := (Option.bind_some _ _).symm.trans H; rw [hy116]; with_reducible exact H2_) | (have H2_ := (Option.bind_some _ _).symm.trans H; with_reducible exact H2_) | with_reducible exact H | (rw [hy116]; exact H) | exact H
 have Ny116 := As0 hy116
 clear hy116
 obtain ⟨y119, hy119⟩ : ∃ y_ : List (S50), y_ = (([(⟨y116, (⟨3, 0, 0, 0⟩ : S48)⟩ : S50)] : List (S50))) := ⟨_, rfl⟩
 replace H : ((interp_Exec.f k 1 1 y119 (([5] : List Int)) 9).bind fun bt126 => ((interp_Exec.f k 1 1 y119 (([5] : List Int)) 1).bind fun bt145 => ((interp_Exec.f k 1 1 y119 ([] : List Int) 1).bind fun bt161 => (if bt126.2.2.2.2.2.2.2.2 = 0 then (if bt126.1 = 1 then (if bt126.2.2.2.1 = 5 then (if bt126.2.2.2.2.2.2.2.1 = 2 then ((regcertref09_Values.f k bt126.2.2.2.2.2.2.1 (([5] : List Int))).bind fun t180 => (if t180 = true then (if bt145.2.2.2.2.2.2.2.2 = 0 then (if bt145.1 = 0 then (if bt145.2.2.2.2.2.2.2.1 = 1 then (if bt145.2.2.1 = 1 then (some (bt161.2.2.2.2.2.2.2.2 == 32)) else (none)) else (none)) else (none)) else (none)) else (none))) else (none)) else (none)) else (none)) else (none))))) = some r := by first | (rw [hy119]; with_reducible exact H) | (have H2_ := (Option.bind_some _ _).symm.trans H; rw [hy119]; with_reducible exact H2_) | (have H2_ := (Option.bind_some _ _).symm.trans H; with_reducible exact H2_) | with_reducible exact H | (rw [hy119]; exact H) | exact H
 have Ny119 := As0 hy119
 clear hy119
 obtain ⟨y123, hy123⟩ : ∃ y_ : List Int, y_ = (([5] : List Int)) := ⟨_, rfl⟩
 replace H : ((interp_Exec.f k 1 1 y119 y123 9).bind fun bt126 => ((interp_Exec.f k 1 1 y119 (([5] : List Int)) 1).bind fun bt145 => ((interp_Exec.f k 1 1 y119 ([] : List Int) 1).bind fun bt161 => (if bt126.2.2.2.2.2.2.2.2 = 0 then (if bt126.1 = 1 then (if bt126.2.2.2.1 = 5 then (if bt126.2.2.2.2.2.2.2.1 = 2 then ((regcertref09_Values.f k bt126.2.2.2.2.2.2.1 (([5] : List Int))).bind fun t180 => (if t180 = true then (if bt145.2.2.2.2.2.2.2.2 = 0 then (if bt145.1 = 0 then (if bt145.2.2.2.2.2.2.2.1 = 1 then (if bt145.2.2.1 = 1 then (some (bt161.2.2.2.2.2.2.2.2 == 32)) else (none)) else (none)) else (none)) else (none)) else (none))) else (none)) else (none)) else (none)) else (none))))) = some r := by first | (rw [hy123]; with_reducible exact H) | (have H2_ := (Option.bind_some _ _).symm.trans H; rw [hy123]; with_reducible exact H2_) | (have H2_ := (Option.bind_some _ _).symm.trans H; with_reducible exact H2_) | with_reducible exact H | (rw [hy123]; exact H) | exact H
 have Ny123 := As0 hy123
 clear hy123
 replace H := Option.bind_eq_some_iff.mp H
 obtain ⟨⟨t126, t127, t128, t129, t130, t133, t136, t139, t140⟩, A10, H⟩ := H
 replace H : ((interp_Exec.f k 1 1 y119 (([5] : List Int)) 1).bind fun bt145 => ((interp_Exec.f k 1 1 y119 ([] : List Int) 1).bind fun bt161 => (if t140 = 0 then (if t126 = 1 then (if t129 = 5 then (if t139 = 2 then ((regcertref09_Values.f k t136 (([5] : List Int))).bind fun t180 => (if t180 = true then (if bt145.2.2.2.2.2.2.2.2 = 0 then (if bt145.1 = 0 then (if bt145.2.2.2.2.2.2.2.1 = 1 then (if bt145.2.2.1 = 1 then (some (bt161.2.2.2.2.2.2.2.2 == 32)) else (none)) else (none)) else (none)) else (none)) else (none))) else (none)) else (none)) else (none)) else (none)))) = some r := H
 have A1 := As0 A10
 clear A10
 obtain ⟨y142, hy142⟩ : ∃ y_ : List Int, y_ = (([5] : List Int)) := ⟨_, rfl⟩
 replace H : ((interp_Exec.f k 1 1 y119 y142 1).bind fun bt145 => ((interp_Exec.f k 1 1 y119 ([] : List Int) 1).bind fun bt161 => (if t140 = 0 then (if t126 = 1 then (if t129 = 5 then (if t139 = 2 then ((regcertref09_Values.f k t136 (([5] : List Int))).bind fun t180 => (if t180 = true then (if bt145.2.2.2.2.2.2.2.2 = 0 then (if bt145.1 = 0 then (if bt145.2.2.2.2.2.2.2.1 = 1 then (if bt145.2.2.1 = 1 then (some (bt161.2.2.2.2.2.2.2.2 == 32)) else (none)) else (none)) else (none)) else (none)) else (none))) else (none)) else (none)) else (none)) else (none)))) = some r := by first | (rw [hy142]; with_reducible exact H) | (have H2_ := (Option.bind_some _ _).symm.trans H; rw [hy142]; with_reducible exact H2_) | (have H2_ := (Option.bind_some _ _).symm.trans H; with_reducible exact H2_) | with_reducible exact H | (rw [hy142]; exact H) | exact H
 have Ny142 := As0 hy142
 clear hy142
 replace H := Option.bind_eq_some_iff.mp H
 obtain ⟨⟨t145, t146, t147, t148, t149, t152, t155, t158, t159⟩, A20, H⟩ := H
 replace H : ((interp_Exec.f k 1 1 y119 ([] : List Int) 1).bind fun bt161 => (if t140 = 0 then (if t126 = 1 then (if t129 = 5 then (if t139 = 2 then ((regcertref09_Values.f k t136 (([5] : List Int))).bind fun t180 => (if t180 = true then (if t159 = 0 then (if t145 = 0 then (if t158 = 1 then (if t147 = 1 then (some (bt161.2.2.2.2.2.2.2.2 == 32)) else (none)) else (none)) else (none)) else (none)) else (none))) else (none)) else (none)) else (none)) else (none))) = some r := H
 have A2 := As0 A20
 clear A20
 replace H := Option.bind_eq_some_iff.mp H
 obtain ⟨⟨t161, t162, t163, t164, t165, t168, t171, t174, t175⟩, A30, H⟩ := H
 replace H : (if t140 = 0 then (if t126 = 1 then (if t129 = 5 then (if t139 = 2 then ((regcertref09_Values.f k t136 (([5] : List Int))).bind fun t180 => (if t180 = true then (if t159 = 0 then (if t145 = 0 then (if t158 = 1 then (if t147 = 1 then (some (t175 == 32)) else (none)) else (none)) else (none)) else (none)) else (none))) else (none)) else (none)) else (none)) else (none)) = some r := H
 have A3 := As0 A30
 clear A30
 by_cases c4 : t140 = 0
 ·rw [if_pos c4] at H
  have c4b0 : (t140 == 0) = true := beq_iff_eq.mpr c4
  have c4b1 : (t140 != 0) = false := bne_eq_false_iff_eq.mpr c4
  clear c4
  by_cases c5 : t126 = 1
  ·rw [if_pos c5] at H
   have c5b0 : (t126 == 1) = true := beq_iff_eq.mpr c5
   have c5b1 : (t126 != 1) = false := bne_eq_false_iff_eq.mpr c5
   clear c5
   by_cases c6 : t129 = 5
   ·rw [if_pos c6] at H
    have c6b0 : (t129 == 5) = true := beq_iff_eq.mpr c6
    have c6b1 : (t129 != 5) = false := bne_eq_false_iff_eq.mpr c6
    clear c6
    by_cases c7 : t139 = 2
    ·rw [if_pos c7] at H
     have c7b0 : (t139 == 2) = true := beq_iff_eq.mpr c7
     have c7b1 : (t139 != 2) = false := bne_eq_false_iff_eq.mpr c7
     clear c7
     obtain ⟨y177, hy177⟩ : ∃ y_ : List Int, y_ = (([5] : List Int)) := ⟨_, rfl⟩
     replace H : ((regcertref09_Values.f k t136 y177).bind fun t180 => (if t180 = true then (if t159 = 0 then (if t145 = 0 then (if t158 = 1 then (if t147 = 1 then (some (t175 == 32)) else (none)) else (none)) else (none)) else (none)) else (none))) = some r := by first | (rw [hy177]; with_reducible exact H) | (have H2_ := (Option.bind_some _ _).symm.trans H; rw [hy177]; with_reducible exact H2_) | (have H2_ := (Option.bind_some _ _).symm.trans H; with_reducible exact H2_) | with_reducible exact H | (rw [hy177]; exact H) | exact H
     have Ny177 := As0 hy177
     clear hy177
     replace H := Option.bind_eq_some_iff.mp H
     obtain ⟨t180, A80, H⟩ := H
     replace H : (if t180 = true then (if t159 = 0 then (if t145 = 0 then (if t158 = 1 then (if t147 = 1 then (some (t175 == 32)) else (none)) else (none)) else (none)) else (none)) else (none)) = some r := H
     have A8 := As0 A80
     clear A80
     by_cases c9 : t180 = true
     ·subst c9
      have H1 : (if t159 = 0 then (if t145 = 0 then (if t158 = 1 then (if t147 = 1 then (some (t175 == 32)) else (none)) else (none)) else (none)) else (none)) = some r := by rw [if_pos rfl] at H; exact H
      clear H
      have H := H1
      clear H1
      by_cases c10 : t159 = 0
      ·rw [if_pos c10] at H
       have c10b0 : (t159 == 0) = true := beq_iff_eq.mpr c10
       have c10b1 : (t159 != 0) = false := bne_eq_false_iff_eq.mpr c10
       clear c10
       by_cases c11 : t145 = 0
       ·rw [if_pos c11] at H
        have c11b0 : (t145 == 0) = true := beq_iff_eq.mpr c11
        have c11b1 : (t145 != 0) = false := bne_eq_false_iff_eq.mpr c11
        clear c11
        by_cases c12 : t158 = 1
        ·rw [if_pos c12] at H
         have c12b0 : (t158 == 1) = true := beq_iff_eq.mpr c12
         have c12b1 : (t158 != 1) = false := bne_eq_false_iff_eq.mpr c12
         clear c12
         by_cases c13 : t147 = 1
         ·rw [if_pos c13] at H
          have c13b0 : (t147 == 1) = true := beq_iff_eq.mpr c13
          have c13b1 : (t147 != 1) = false := bne_eq_false_iff_eq.mpr c13
          clear c13
          obtain rfl := Option.some.inj H
          go_enter Try.func29, Try.ntmps29
          go_wp2_with (first | ((with_reducible refine gate_dst (N := 9) rfl ?_); (try (refine gate_guard (by rfl) ?_; dsimp only)); refine Kd.R_lit k97 _ 97 ?hg (N := 9) ?hd (xs := ([(⟨17, 0, 0, 0, 0⟩ : S97)] : List (S97))) (inner := [.int .i64 17, .int .i64 0, .int .i64 0, .int .i64 0, .int .i64 0]) (ok := fun _ => True) (okp := fun _ => True) ?hr ?hp (fun _ hk => hk) trivial (Below.refl _ _) (Nat.le_refl _) (by simp) ?_; (case hd => rfl); (case hg => rfl); (case hr => first | (go_simp; done) | (go_simp; rfl)); (case hp => exact (Reps.c5 (show Kd.M k97 _ _ _ (⟨17, 0, 0, 0, 0⟩ : S97) [.int .i64 17, .int .i64 0, .int .i64 0, .int .i64 0, .int .i64 0] from (k97_mkM _ _ _ (⟨17, 0, 0, 0, 0⟩ : S97) )) (Reps.none _ _))); intro v117 w14 ho15 hb hg_ hnew_; clear hg_ hnew_; (first | rw [← Ny116.out] at ho15 | (simp only [Int.reduceToNat] at ho15; rw [← Ny116.out] at ho15)); have n0_ := As0 (Kd.R_lower ho15 (below_size (by repeat (first | (with_reducible first | exact HB.out | apply below_alloc | apply bdN | apply bd1) | exact HB.out)))); have n1_ := As0 (below_step (by repeat (first | (with_reducible first | exact HB.out | apply below_alloc | apply bdN | apply bd1) | exact HB.out)) hb); clear HB; have HO118 := n0_; have HB := n1_; clear n0_ n1_ hb ho15; obtain ⟨Ao16, co16, eo16⟩ := Kd.R_slice HO118.out; subst eo16) | ((with_reducible refine gate_dst (N := 12) rfl ?_); (try (refine gate_guard (by rfl) ?_; dsimp only)); refine Kd.N_lit k50 _ 50 ?hg (N' := 12) ?hd (xs := ([(⟨y116, (⟨3, 0, 0, 0⟩ : S48)⟩ : S50)] : List (S50))) (inner := [.slice Ao16 y116.length co16, .int .i64 3, .int .i64 0, .int .i64 0, .int .i64 0]) (ok := (fun _ => True)) (okp := (fun _ => True)) ?hr ?hp (fun _ hk => hk) ((show ∀ k_, w14.heap.size ≤ k_ → (fun _ => True) k_ from fun k_ hk => trivial) _ (Nat.le_refl _)) (Below.refl _ _) (Nat.le_refl _) (by simp) ?_; (case hd => rfl); (case hg => rfl); (case hr => first | (go_simp; done) | (go_simp; rfl)); (case hp => exact (Reps.c5 (show Kd.FK k50 _ _ (⟨y116, (⟨3, 0, 0, 0⟩ : S48)⟩ : S50) [.slice Ao16 y116.length co16, .int .i64 3, .int .i64 0, .int .i64 0, .int .i64 0] from (k50_mkF _ _ (⟨y116, (⟨3, 0, 0, 0⟩ : S48)⟩ : S50) (Kd.R_reads' (Kd.R_mono (ok' := (fun _ => True)) (HO118.out) (fun k_ hk => trivial))).2.1 (Kd.R_F (Kd.R_mono (ok' := (fun _ => True)) (HO118.out) (fun k_ hk => trivial))))) (Reps.none _ _))); intro v120 w17 ho18 hb hg_ hnew_; clear hg_ hnew_; (first | rw [← Ny119.out] at ho18 | (simp only [Int.reduceToNat] at ho18; rw [← Ny119.out] at ho18)); have n0_ := As0 (Kd.N_lower ho18 (below_size (by repeat (first | (with_reducible first | exact HB.out | apply below_alloc | apply bdN | apply bd1) | exact HB.out)))); have n1_ := As0 (below_step (by repeat (first | (with_reducible first | exact HB.out | apply below_alloc | apply bdN | apply bd1) | exact HB.out)) hb); clear HB HO118; have HO121 := n0_; have HB := n1_; clear n0_ n1_ hb ho18; obtain ⟨Ao19, co19, eo19⟩ := Kd.N_slice HO121.out; subst eo19) | ((with_reducible refine gate_dst (N := 1) rfl ?_); (try (refine gate_guard (by rfl) ?_; dsimp only)); refine box_event ?hg (N := 1) ?hd (cs := #[.int .i64 0, .int .i64 0, .slice none 0 0]) (t := 34) ?hr ?_; (case hd => rfl); (case hg => rfl); (case hr => first | (go_simp; done) | (go_simp; rfl)); intro gb122 hg w20 hbox hb; have n0_ := As0 (Kd.N_below (Kd.N_elderB (by (with_reducible repeat (first | apply Kd.N_alloc | apply Kd.N_drewN | apply Kd.N_drew)); exact HO121.out) gb122 (Nat.le_of_eq hg.symm)) hb); have n1_ := As0 (below_step (by repeat (first | (with_reducible first | exact HB.out | apply below_alloc | apply bdN | apply bd1) | exact HB.out)) hb); have n2_ := As0 (hbox); have n3_ := As0 ((by rw [hg]; exact (below_size (by repeat (first | (with_reducible first | exact HB.out | apply below_alloc | apply bdN | apply bd1) | exact HB.out))) : w.heap.size ≤ gb122)); have n4_ := As0 ((by rw [hg]; exact (below_size (by repeat (first | (with_reducible first | exact HB.out | apply below_alloc | apply bdN | apply bd1) | exact HB.out))) : w.heap.size ≤ gb122)); clear HO121 HB; have HO121 := n0_; have HB := n1_; have BK122 := n2_; have GW122 := n3_; have GE122 := n4_; clear n0_ n1_ n2_ n3_ n4_ hb hbox hg; have hcz21_0 : w20.cell? ⟨gb122, 0, none⟩ = some (.int .i64 0) := (blk_cell BK122.out 0).trans rfl; have hcz21_1 : w20.cell? ⟨gb122, 1, none⟩ = some (.int .i64 0) := (blk_cell BK122.out 1).trans rfl; have hcz21_2 : w20.cell? ⟨gb122, 2, none⟩ = some (.slice none 0 0) := (blk_cell BK122.out 2).trans rfl; have hfz21_0 := blk_frozen BK122.out 0; have hfz21_1 := blk_frozen BK122.out 1; have hfz21_2 := blk_frozen BK122.out 2) | ((with_reducible refine gate_dst (N := 16) rfl ?_); (try (refine gate_guard (by rfl) ?_; dsimp only)); refine Kd.R_lit (Kd.int .i64) _ 2 ?hg (N := 16) ?hd (xs := ([5] : List Int)) (inner := [.int .i64 5]) (ok := fun _ => True) (okp := fun _ => True) ?hr ?hp (fun _ hk => hk) trivial (Below.refl _ _) (Nat.le_refl _) (by simp) ?_; (case hd => rfl); (case hg => rfl); (case hr => first | (go_simp; done) | (go_simp; rfl)); (case hp => exact (Reps.one (show Kd.M (Kd.int .i64) _ _ _ 5 [.int .i64 5] from rfl) (Reps.none _ _))); intro v124 w22 ho23 hb hg_ hnew_; clear hg_ hnew_; (first | rw [← Ny123.out] at ho23 | (simp only [Int.reduceToNat] at ho23; rw [← Ny123.out] at ho23)); have n0_ := As0 (Kd.N_elder' (by (with_reducible repeat (first | apply Kd.N_alloc | apply Kd.N_drewN | apply Kd.N_drew)); exact (Kd.N_mono (Kd.N_far (p := ⟨gb122, 2, none⟩) (Kd.N_far (p := ⟨gb122, 1, none⟩) (Kd.N_far (p := ⟨gb122, 0, none⟩) (Kd.N_mono HO121.out (fun k_ hk => (⟨hk, hk.2⟩ : _ ∧ k_ ≠ gb122))) (fun _ hk => hk.2) (.int .i64 1)) (fun _ hk => hk.2) (.int .i64 1)) (fun _ hk => hk.2) (.slice Ao19 y119.length co19)) (fun _ h_ => h_.1))) (Kd.R_base ho23) hb); have n1_ := As0 (Kd.R_lower ho23 (below_size (by repeat (first | (with_reducible first | exact HB.out | apply below_alloc | apply bdN | apply bd1 | refine below_set ?_ GE122.out) | exact HB.out)))); have n2_ := As0 (blk_below (g := gb122) (o := .cells #[.int .i64 1, .int .i64 1, .slice Ao19 y119.length co19] 34 (0, 0)) (by (with_reducible repeat (first | refine blk_drewN ?_ _ | refine blk_drew ?_ | refine blk_alloc ?_ _)); refine blk_put (cs := #[.int .i64 1, .int .i64 1, .slice none 0 0]) ?_ 2 _ rfl; (with_reducible repeat (first | refine blk_drewN ?_ _ | refine blk_drew ?_ | refine blk_alloc ?_ _)); refine blk_put (cs := #[.int .i64 1, .int .i64 0, .slice none 0 0]) ?_ 1 _ rfl; (with_reducible repeat (first | refine blk_drewN ?_ _ | refine blk_drew ?_ | refine blk_alloc ?_ _)); refine blk_put (cs := #[.int .i64 0, .int .i64 0, .slice none 0 0]) ?_ 0 _ rfl; (with_reducible repeat (first | refine blk_drewN ?_ _ | refine blk_drew ?_ | refine blk_alloc ?_ _)); exact BK122.out) hb); have n3_ := As0 (below_step (by repeat (first | (with_reducible first | exact HB.out | apply below_alloc | apply bdN | apply bd1 | refine below_set ?_ GE122.out) | exact HB.out)) hb); clear HO121 BK122 HB; have HO121 := n0_; have HO125 := n1_; have BK122 := n2_; have HB := n3_; clear n0_ n1_ n2_ n3_ hb ho23; obtain ⟨Ao24, co24, eo24⟩ := Kd.R_slice HO125.out; subst eo24) | ((with_reducible refine gate_callee (f := 31) rfl ?_); refine goesL_ (some 17) rfl rfl Try.func31 (by kernel_rfl) rfl #[.agg #[.int .i64 1, .int .i64 1, .slice Ao19 y119.length co19], .slice Ao24 y123.length co24, .int .i64 9] rfl (by (try simp only [List.map_toArray, List.map_cons, List.map_nil]); first | done | rfl | (simp only [List.length_drop, List.length_take]; rfl)) ?_; (with_reducible refine (interp_Exec.calls k 1 1 _ _ y119 _ _ y123 9 t126 t127 t128 t129 t130 t133 t136 t139 t140 _ ?side1 ?side2 ?side3 ?side4 A1.out).mono ?_); (case side1 => repeat (first | exact (Kd.N_reads' HO121.out).2.2 | (with_reducible refine Kd.C_alloc ?_ _) | (with_reducible refine Kd.C_drewN ?_ _) | (with_reducible refine Kd.C_drew ?_))); (case side2 => exact (Kd.N_reads' HO121.out).2.1); (case side3 => repeat (first | exact (Kd.R_reads' HO125.out).2.2 | (with_reducible refine Kd.C_alloc ?_ _) | (with_reducible refine Kd.C_drewN ?_ _) | (with_reducible refine Kd.C_drew ?_))); (case side4 => exact (Kd.R_reads' HO125.out).2.1); rintro e w25 ⟨v131, v134, v137, rfl, ho0, ho1, ho2, hb⟩; refine ⟨_, rfl, ?_⟩; have n0_ := As0 (Kd.N_mono (Kd.N_told (Kd.N_told (Kd.N_told (Kd.N_old (by (with_reducible repeat (first | apply Kd.N_alloc | apply Kd.N_drewN | apply Kd.N_drew)); exact HO121.out) hb) (Kd.R_base ho0)) (Kd.R_base ho1)) (Kd.R_base ho2)) (fun _ h_ => h_.1)); have n1_ := As0 (Kd.R_mono (Kd.R_told (Kd.R_told (Kd.R_told (Kd.R_old (by (with_reducible repeat (first | apply Kd.R_alloc | apply Kd.R_drewN | apply Kd.R_drew)); exact HO125.out) hb) (Kd.R_base ho0)) (Kd.R_base ho1)) (Kd.R_base ho2)) (fun _ h_ => h_.1)); have n2_ := As0 (Kd.R_lower (Kd.R_new' ho0 (Kd.R_lt (by (with_reducible repeat (first | apply Kd.R_alloc | apply Kd.R_drewN | apply Kd.R_drew)); exact HO125.out))) (below_size (by repeat (first | (with_reducible first | exact HB.out | apply below_alloc | apply bdN | apply bd1 | refine below_set ?_ GE122.out) | exact HB.out)))); have n3_ := As0 (Kd.R_lower (Kd.R_new' ho1 (Kd.R_lt (by (with_reducible repeat (first | apply Kd.R_alloc | apply Kd.R_drewN | apply Kd.R_drew)); exact HO125.out))) (below_size (by repeat (first | (with_reducible first | exact HB.out | apply below_alloc | apply bdN | apply bd1 | refine below_set ?_ GE122.out) | exact HB.out)))); have n4_ := As0 (Kd.R_lower (Kd.R_new' ho2 (Kd.R_lt (by (with_reducible repeat (first | apply Kd.R_alloc | apply Kd.R_drewN | apply Kd.R_drew)); exact HO125.out))) (below_size (by repeat (first | (with_reducible first | exact HB.out | apply below_alloc | apply bdN | apply bd1 | refine below_set ?_ GE122.out) | exact HB.out)))); have n5_ := As0 (blk_below (g := gb122) (o := .cells #[.int .i64 1, .int .i64 1, .slice Ao19 y119.length co19] 34 (0, 0)) (by (with_reducible repeat (first | refine blk_drewN ?_ _ | refine blk_drew ?_ | refine blk_alloc ?_ _)); exact BK122.out) hb); have n6_ := As0 (below_step (by repeat (first | (with_reducible first | exact HB.out | apply below_alloc | apply bdN | apply bd1 | refine below_set ?_ GE122.out) | exact HB.out)) hb); clear HO121 HO125 BK122 HB; have HO121 := n0_; have HO125 := n1_; have HO132 := n2_; have HO135 := n3_; have HO138 := n4_; have BK122 := n5_; have HB := n6_; clear n0_ n1_ n2_ n3_ n4_ n5_ n6_; (try clear hb); (try clear hb2); (try clear hk); (try clear hi); (try clear ho0); (try clear ho1); (try clear ho2)) | ((with_reducible refine gate_dst (N := 2) rfl ?_); (try (refine gate_guard (by rfl) ?_; dsimp only)); refine box_event ?hg (N := 2) ?hd (cs := #[.int .i64 0, .int .i64 0, .int .i64 0, .int .i64 0, .slice none 0 0, .slice none 0 0, .slice none 0 0, .int .i64 0]) (t := 39) ?hr ?_; (case hd => rfl); (case hg => rfl); (case hr => first | (go_simp; done) | (go_simp; rfl)); intro gb141 hg w26 hbox hb; have n0_ := As0 (Kd.N_below (Kd.N_elderB (by (with_reducible repeat (first | apply Kd.N_alloc | apply Kd.N_drewN | apply Kd.N_drew)); exact HO121.out) gb141 (Nat.le_of_eq hg.symm)) hb); have n1_ := As0 (Kd.R_below (by (with_reducible repeat (first | apply Kd.R_alloc | apply Kd.R_drewN | apply Kd.R_drew)); exact HO125.out) hb); have n2_ := As0 (Kd.R_below (by (with_reducible repeat (first | apply Kd.R_alloc | apply Kd.R_drewN | apply Kd.R_drew)); exact HO132.out) hb); have n3_ := As0 (Kd.R_below (by (with_reducible repeat (first | apply Kd.R_alloc | apply Kd.R_drewN | apply Kd.R_drew)); exact HO135.out) hb); have n4_ := As0 (Kd.R_below (by (with_reducible repeat (first | apply Kd.R_alloc | apply Kd.R_drewN | apply Kd.R_drew)); exact HO138.out) hb); have n5_ := As0 (blk_below (g := gb122) (o := .cells #[.int .i64 1, .int .i64 1, .slice Ao19 y119.length co19] 34 (0, 0)) (by (with_reducible repeat (first | refine blk_drewN ?_ _ | refine blk_drew ?_ | refine blk_alloc ?_ _)); exact BK122.out) hb); have n6_ := As0 (below_step (by repeat (first | (with_reducible first | exact HB.out | apply below_alloc | apply bdN | apply bd1 | refine below_set ?_ GE122.out) | exact HB.out)) hb); have n7_ := As0 (hbox); have n8_ := As0 ((by rw [hg]; exact (below_size (by repeat (first | (with_reducible first | exact HB.out | apply below_alloc | apply bdN | apply bd1 | refine below_set ?_ GE122.out) | exact HB.out))) : w.heap.size ≤ gb141)); have n9_ := As0 ((by rw [hg]; exact (below_size (by repeat (first | (with_reducible first | exact HB.out | apply below_alloc | apply bdN | apply bd1 | refine below_set ?_ GE122.out) | exact HB.out))) : w.heap.size ≤ gb141)); have n10_ := As0 ((by rw [hg]; exact Nat.ne_of_lt (blk_lt (g := gb122) (o := .cells #[.int .i64 1, .int .i64 1, .slice Ao19 y119.length co19] 34 (0, 0)) (by (with_reducible repeat (first | refine blk_drewN ?_ _ | refine blk_drew ?_ | refine blk_alloc ?_ _)); exact BK122.out)) : gb122 ≠ gb141)); have n11_ := As0 ((by rw [hg]; exact Nat.ne_of_gt (blk_lt (g := gb122) (o := .cells #[.int .i64 1, .int .i64 1, .slice Ao19 y119.length co19] 34 (0, 0)) (by (with_reducible repeat (first | refine blk_drewN ?_ _ | refine blk_drew ?_ | refine blk_alloc ?_ _)); exact BK122.out)) : gb141 ≠ gb122)); clear HO121 HO125 HO132 HO135 HO138 BK122 HB; have HO121 := n0_; have HO125 := n1_; have HO132 := n2_; have HO135 := n3_; have HO138 := n4_; have BK122 := n5_; have HB := n6_; have BK141 := n7_; have GW141 := n8_; have GE141 := n9_; have NB122_141 := n10_; have NB141_122 := n11_; clear n0_ n1_ n2_ n3_ n4_ n5_ n6_ n7_ n8_ n9_ n10_ n11_ hb hbox hg; have hnb27 := NB141_122.out; have hnc27 := NB122_141.out; have hcz28_0 : w26.cell? ⟨gb141, 0, none⟩ = some (.int .i64 0) := (blk_cell BK141.out 0).trans rfl; have hcz28_1 : w26.cell? ⟨gb141, 1, none⟩ = some (.int .i64 0) := (blk_cell BK141.out 1).trans rfl; have hcz28_2 : w26.cell? ⟨gb141, 2, none⟩ = some (.int .i64 0) := (blk_cell BK141.out 2).trans rfl; have hcz28_3 : w26.cell? ⟨gb141, 3, none⟩ = some (.int .i64 0) := (blk_cell BK141.out 3).trans rfl; have hcz28_4 : w26.cell? ⟨gb141, 4, none⟩ = some (.slice none 0 0) := (blk_cell BK141.out 4).trans rfl; have hcz28_5 : w26.cell? ⟨gb141, 5, none⟩ = some (.slice none 0 0) := (blk_cell BK141.out 5).trans rfl; have hcz28_6 : w26.cell? ⟨gb141, 6, none⟩ = some (.slice none 0 0) := (blk_cell BK141.out 6).trans rfl; have hcz28_7 : w26.cell? ⟨gb141, 7, none⟩ = some (.int .i64 0) := (blk_cell BK141.out 7).trans rfl; have hfz28_0 := blk_frozen BK141.out 0; have hfz28_1 := blk_frozen BK141.out 1; have hfz28_2 := blk_frozen BK141.out 2; have hfz28_3 := blk_frozen BK141.out 3; have hfz28_4 := blk_frozen BK141.out 4; have hfz28_5 := blk_frozen BK141.out 5; have hfz28_6 := blk_frozen BK141.out 6; have hfz28_7 := blk_frozen BK141.out 7; obtain ⟨Ao29, co29, eo29⟩ := Kd.R_slice HO132.out; subst eo29; obtain ⟨Ao30, co30, eo30⟩ := Kd.R_slice HO135.out; subst eo30; obtain ⟨Ao31, co31, eo31⟩ := Kd.R_slice HO138.out; subst eo31; have hcz32_0 : w26.cell? ⟨gb122, 0, none⟩ = some (.int .i64 1) := (blk_cell BK122.out 0).trans rfl; have hcz32_1 : w26.cell? ⟨gb122, 1, none⟩ = some (.int .i64 1) := (blk_cell BK122.out 1).trans rfl; have hcz32_2 : w26.cell? ⟨gb122, 2, none⟩ = some (.slice Ao19 y119.length co19) := (blk_cell BK122.out 2).trans rfl; have hfz32_0 := blk_frozen BK122.out 0; have hfz32_1 := blk_frozen BK122.out 1; have hfz32_2 := blk_frozen BK122.out 2) | ((with_reducible refine gate_dst (N := 22) rfl ?_); (try (refine gate_guard (by rfl) ?_; dsimp only)); refine Kd.R_lit (Kd.int .i64) _ 2 ?hg (N := 22) ?hd (xs := ([5] : List Int)) (inner := [.int .i64 5]) (ok := fun _ => True) (okp := fun _ => True) ?hr ?hp (fun _ hk => hk) trivial (Below.refl _ _) (Nat.le_refl _) (by simp) ?_; (case hd => rfl); (case hg => rfl); (case hr => first | (go_simp; done) | (go_simp; rfl)); (case hp => exact (Reps.one (show Kd.M (Kd.int .i64) _ _ _ 5 [.int .i64 5] from rfl) (Reps.none _ _))); intro v143 w33 ho34 hb hg_ hnew_; clear hg_ hnew_; (first | rw [← Ny142.out] at ho34 | (simp only [Int.reduceToNat] at ho34; rw [← Ny142.out] at ho34)); have n0_ := As0 (Kd.N_elder' (by (with_reducible repeat (first | apply Kd.N_alloc | apply Kd.N_drewN | apply Kd.N_drew)); exact (Kd.N_mono (Kd.N_far (p := ⟨gb141, 7, none⟩) (Kd.N_far (p := ⟨gb141, 6, none⟩) (Kd.N_far (p := ⟨gb141, 5, none⟩) (Kd.N_far (p := ⟨gb141, 4, none⟩) (Kd.N_far (p := ⟨gb141, 3, none⟩) (Kd.N_far (p := ⟨gb141, 2, none⟩) (Kd.N_far (p := ⟨gb141, 1, none⟩) (Kd.N_far (p := ⟨gb141, 0, none⟩) (Kd.N_mono HO121.out (fun k_ hk => (⟨hk, hk.2⟩ : _ ∧ k_ ≠ gb141))) (fun _ hk => hk.2) (.int .i64 t126)) (fun _ hk => hk.2) (.int .i64 t127)) (fun _ hk => hk.2) (.int .i64 t128)) (fun _ hk => hk.2) (.int .i64 t129)) (fun _ hk => hk.2) (.slice Ao29 t130.length co29)) (fun _ hk => hk.2) (.slice Ao30 t133.length co30)) (fun _ hk => hk.2) (.slice Ao31 t136.length co31)) (fun _ hk => hk.2) (.int .i64 t139)) (fun _ h_ => h_.1))) (Kd.R_base ho34) hb); have n1_ := As0 (Kd.R_elder' (by (with_reducible repeat (first | apply Kd.R_alloc | apply Kd.R_drewN | apply Kd.R_drew)); exact (Kd.R_mono (RF gb141 7 (RF gb141 6 (RF gb141 5 (RF gb141 4 (RF gb141 3 (RF gb141 2 (RF gb141 1 (RF gb141 0 (Kd.R_types HO125.out BK141.out (by decide)) (.int .i64 t126)) (.int .i64 t127)) (.int .i64 t128)) (.int .i64 t129)) (.slice Ao29 t130.length co29)) (.slice Ao30 t133.length co30)) (.slice Ao31 t136.length co31)) (.int .i64 t139)) (fun _ h_ => h_.1))) (Kd.R_base ho34) hb); have n2_ := As0 (Kd.R_elder' (by (with_reducible repeat (first | apply Kd.R_alloc | apply Kd.R_drewN | apply Kd.R_drew)); exact (Kd.R_mono (RF gb141 7 (RF gb141 6 (RF gb141 5 (RF gb141 4 (RF gb141 3 (RF gb141 2 (RF gb141 1 (RF gb141 0 (Kd.R_types HO132.out BK141.out (by decide)) (.int .i64 t126)) (.int .i64 t127)) (.int .i64 t128)) (.int .i64 t129)) (.slice Ao29 t130.length co29)) (.slice Ao30 t133.length co30)) (.slice Ao31 t136.length co31)) (.int .i64 t139)) (fun _ h_ => h_.1))) (Kd.R_base ho34) hb); have n3_ := As0 (Kd.R_elder' (by (with_reducible repeat (first | apply Kd.R_alloc | apply Kd.R_drewN | apply Kd.R_drew)); exact (Kd.R_mono (RF gb141 7 (RF gb141 6 (RF gb141 5 (RF gb141 4 (RF gb141 3 (RF gb141 2 (RF gb141 1 (RF gb141 0 (Kd.R_types HO135.out BK141.out (by decide)) (.int .i64 t126)) (.int .i64 t127)) (.int .i64 t128)) (.int .i64 t129)) (.slice Ao29 t130.length co29)) (.slice Ao30 t133.length co30)) (.slice Ao31 t136.length co31)) (.int .i64 t139)) (fun _ h_ => h_.1))) (Kd.R_base ho34) hb); have n4_ := As0 (Kd.R_elder' (by (with_reducible repeat (first | apply Kd.R_alloc | apply Kd.R_drewN | apply Kd.R_drew)); exact (Kd.R_mono (RF gb141 7 (RF gb141 6 (RF gb141 5 (RF gb141 4 (RF gb141 3 (RF gb141 2 (RF gb141 1 (RF gb141 0 (Kd.R_types HO138.out BK141.out (by decide)) (.int .i64 t126)) (.int .i64 t127)) (.int .i64 t128)) (.int .i64 t129)) (.slice Ao29 t130.length co29)) (.slice Ao30 t133.length co30)) (.slice Ao31 t136.length co31)) (.int .i64 t139)) (fun _ h_ => h_.1))) (Kd.R_base ho34) hb); have n5_ := As0 (Kd.R_lower (Kd.R_new' (Kd.R_new' (Kd.R_new' (Kd.R_new' ho34 (Kd.R_lt (by (with_reducible repeat (first | apply Kd.R_alloc | apply Kd.R_drewN | apply Kd.R_drew)); exact (Kd.R_mono (RF gb141 7 (RF gb141 6 (RF gb141 5 (RF gb141 4 (RF gb141 3 (RF gb141 2 (RF gb141 1 (RF gb141 0 (Kd.R_types HO125.out BK141.out (by decide)) (.int .i64 t126)) (.int .i64 t127)) (.int .i64 t128)) (.int .i64 t129)) (.slice Ao29 t130.length co29)) (.slice Ao30 t133.length co30)) (.slice Ao31 t136.length co31)) (.int .i64 t139)) (fun _ h_ => h_.1))))) (Kd.R_lt (by (with_reducible repeat (first | apply Kd.R_alloc | apply Kd.R_drewN | apply Kd.R_drew)); exact (Kd.R_mono (RF gb141 7 (RF gb141 6 (RF gb141 5 (RF gb141 4 (RF gb141 3 (RF gb141 2 (RF gb141 1 (RF gb141 0 (Kd.R_types HO132.out BK141.out (by decide)) (.int .i64 t126)) (.int .i64 t127)) (.int .i64 t128)) (.int .i64 t129)) (.slice Ao29 t130.length co29)) (.slice Ao30 t133.length co30)) (.slice Ao31 t136.length co31)) (.int .i64 t139)) (fun _ h_ => h_.1))))) (Kd.R_lt (by (with_reducible repeat (first | apply Kd.R_alloc | apply Kd.R_drewN | apply Kd.R_drew)); exact (Kd.R_mono (RF gb141 7 (RF gb141 6 (RF gb141 5 (RF gb141 4 (RF gb141 3 (RF gb141 2 (RF gb141 1 (RF gb141 0 (Kd.R_types HO135.out BK141.out (by decide)) (.int .i64 t126)) (.int .i64 t127)) (.int .i64 t128)) (.int .i64 t129)) (.slice Ao29 t130.length co29)) (.slice Ao30 t133.length co30)) (.slice Ao31 t136.length co31)) (.int .i64 t139)) (fun _ h_ => h_.1))))) (Kd.R_lt (by (with_reducible repeat (first | apply Kd.R_alloc | apply Kd.R_drewN | apply Kd.R_drew)); exact (Kd.R_mono (RF gb141 7 (RF gb141 6 (RF gb141 5 (RF gb141 4 (RF gb141 3 (RF gb141 2 (RF gb141 1 (RF gb141 0 (Kd.R_types HO138.out BK141.out (by decide)) (.int .i64 t126)) (.int .i64 t127)) (.int .i64 t128)) (.int .i64 t129)) (.slice Ao29 t130.length co29)) (.slice Ao30 t133.length co30)) (.slice Ao31 t136.length co31)) (.int .i64 t139)) (fun _ h_ => h_.1))))) (below_size (by repeat (first | (with_reducible first | exact HB.out | apply below_alloc | apply bdN | apply bd1 | refine below_set ?_ GE122.out | refine below_set ?_ GE141.out) | exact HB.out)))); have n6_ := As0 (blk_below (g := gb122) (o := .cells #[.int .i64 1, .int .i64 1, .slice Ao19 y119.length co19] 34 (0, 0)) (by (with_reducible repeat (first | refine blk_drewN ?_ _ | refine blk_drew ?_ | refine blk_alloc ?_ _)); refine blk_far ?_ NB122_141.out _; (with_reducible repeat (first | refine blk_drewN ?_ _ | refine blk_drew ?_ | refine blk_alloc ?_ _)); refine blk_far ?_ NB122_141.out _; (with_reducible repeat (first | refine blk_drewN ?_ _ | refine blk_drew ?_ | refine blk_alloc ?_ _)); refine blk_far ?_ NB122_141.out _; (with_reducible repeat (first | refine blk_drewN ?_ _ | refine blk_drew ?_ | refine blk_alloc ?_ _)); refine blk_far ?_ NB122_141.out _; (with_reducible repeat (first | refine blk_drewN ?_ _ | refine blk_drew ?_ | refine blk_alloc ?_ _)); refine blk_far ?_ NB122_141.out _; (with_reducible repeat (first | refine blk_drewN ?_ _ | refine blk_drew ?_ | refine blk_alloc ?_ _)); refine blk_far ?_ NB122_141.out _; (with_reducible repeat (first | refine blk_drewN ?_ _ | refine blk_drew ?_ | refine blk_alloc ?_ _)); refine blk_far ?_ NB122_141.out _; (with_reducible repeat (first | refine blk_drewN ?_ _ | refine blk_drew ?_ | refine blk_alloc ?_ _)); refine blk_far ?_ NB122_141.out _; (with_reducible repeat (first | refine blk_drewN ?_ _ | refine blk_drew ?_ | refine blk_alloc ?_ _)); exact BK122.out) hb); have n7_ := As0 (blk_below (g := gb141) (o := .cells #[.int .i64 t126, .int .i64 t127, .int .i64 t128, .int .i64 t129, .slice Ao29 t130.length co29, .slice Ao30 t133.length co30, .slice Ao31 t136.length co31, .int .i64 t139] 39 (0, 0)) (by (with_reducible repeat (first | refine blk_drewN ?_ _ | refine blk_drew ?_ | refine blk_alloc ?_ _)); refine blk_put (cs := #[.int .i64 t126, .int .i64 t127, .int .i64 t128, .int .i64 t129, .slice Ao29 t130.length co29, .slice Ao30 t133.length co30, .slice Ao31 t136.length co31, .int .i64 0]) ?_ 7 _ rfl; (with_reducible repeat (first | refine blk_drewN ?_ _ | refine blk_drew ?_ | refine blk_alloc ?_ _)); refine blk_put (cs := #[.int .i64 t126, .int .i64 t127, .int .i64 t128, .int .i64 t129, .slice Ao29 t130.length co29, .slice Ao30 t133.length co30, .slice none 0 0, .int .i64 0]) ?_ 6 _ rfl; (with_reducible repeat (first | refine blk_drewN ?_ _ | refine blk_drew ?_ | refine blk_alloc ?_ _)); refine blk_put (cs := #[.int .i64 t126, .int .i64 t127, .int .i64 t128, .int .i64 t129, .slice Ao29 t130.length co29, .slice none 0 0, .slice none 0 0, .int .i64 0]) ?_ 5 _ rfl; (with_reducible repeat (first | refine blk_drewN ?_ _ | refine blk_drew ?_ | refine blk_alloc ?_ _)); refine blk_put (cs := #[.int .i64 t126, .int .i64 t127, .int .i64 t128, .int .i64 t129, .slice none 0 0, .slice none 0 0, .slice none 0 0, .int .i64 0]) ?_ 4 _ rfl; (with_reducible repeat (first | refine blk_drewN ?_ _ | refine blk_drew ?_ | refine blk_alloc ?_ _)); refine blk_put (cs := #[.int .i64 t126, .int .i64 t127, .int .i64 t128, .int .i64 0, .slice none 0 0, .slice none 0 0, .slice none 0 0, .int .i64 0]) ?_ 3 _ rfl; (with_reducible repeat (first | refine blk_drewN ?_ _ | refine blk_drew ?_ | refine blk_alloc ?_ _)); refine blk_put (cs := #[.int .i64 t126, .int .i64 t127, .int .i64 0, .int .i64 0, .slice none 0 0, .slice none 0 0, .slice none 0 0, .int .i64 0]) ?_ 2 _ rfl; (with_reducible repeat (first | refine blk_drewN ?_ _ | refine blk_drew ?_ | refine blk_alloc ?_ _)); refine blk_put (cs := #[.int .i64 t126, .int .i64 0, .int .i64 0, .int .i64 0, .slice none 0 0, .slice none 0 0, .slice none 0 0, .int .i64 0]) ?_ 1 _ rfl; (with_reducible repeat (first | refine blk_drewN ?_ _ | refine blk_drew ?_ | refine blk_alloc ?_ _)); refine blk_put (cs := #[.int .i64 0, .int .i64 0, .int .i64 0, .int .i64 0, .slice none 0 0, .slice none 0 0, .slice none 0 0, .int .i64 0]) ?_ 0 _ rfl; (with_reducible repeat (first | refine blk_drewN ?_ _ | refine blk_drew ?_ | refine blk_alloc ?_ _)); exact BK141.out) hb); have n8_ := As0 (below_step (by repeat (first | (with_reducible first | exact HB.out | apply below_alloc | apply bdN | apply bd1 | refine below_set ?_ GE122.out | refine below_set ?_ GE141.out) | exact HB.out)) hb); clear HO121 HO125 HO132 HO135 HO138 BK122 BK141 HB; have HO121 := n0_; have HO125 := n1_; have HO132 := n2_; have HO135 := n3_; have HO138 := n4_; have HO144 := n5_; have BK122 := n6_; have BK141 := n7_; have HB := n8_; clear n0_ n1_ n2_ n3_ n4_ n5_ n6_ n7_ n8_ hb ho34; obtain ⟨Ao35, co35, eo35⟩ := Kd.R_slice HO144.out; subst eo35) | ((with_reducible refine gate_callee (f := 31) rfl ?_); refine goesL_ (some 23) rfl rfl Try.func31 (by kernel_rfl) rfl #[.agg #[.int .i64 1, .int .i64 1, .slice Ao19 y119.length co19], .slice Ao35 y142.length co35, .int .i64 1] rfl (by (try simp only [List.map_toArray, List.map_cons, List.map_nil]); first | done | rfl | (simp only [List.length_drop, List.length_take]; rfl)) ?_; (with_reducible refine (interp_Exec.calls k 1 1 _ _ y119 _ _ y142 1 t145 t146 t147 t148 t149 t152 t155 t158 t159 _ ?side1 ?side2 ?side3 ?side4 A2.out).mono ?_); (case side1 => repeat (first | exact (Kd.N_reads' HO121.out).2.2 | (with_reducible refine Kd.C_alloc ?_ _) | (with_reducible refine Kd.C_drewN ?_ _) | (with_reducible refine Kd.C_drew ?_))); (case side2 => exact (Kd.N_reads' HO121.out).2.1); (case side3 => repeat (first | exact (Kd.R_reads' HO144.out).2.2 | (with_reducible refine Kd.C_alloc ?_ _) | (with_reducible refine Kd.C_drewN ?_ _) | (with_reducible refine Kd.C_drew ?_))); (case side4 => exact (Kd.R_reads' HO144.out).2.1); rintro e w36 ⟨v150, v153, v156, rfl, ho0, ho1, ho2, hb⟩; refine ⟨_, rfl, ?_⟩; have n0_ := As0 (Kd.N_mono (Kd.N_told (Kd.N_told (Kd.N_told (Kd.N_old (by (with_reducible repeat (first | apply Kd.N_alloc | apply Kd.N_drewN | apply Kd.N_drew)); exact HO121.out) hb) (Kd.R_base ho0)) (Kd.R_base ho1)) (Kd.R_base ho2)) (fun _ h_ => h_.1)); have n1_ := As0 (Kd.R_mono (Kd.R_told (Kd.R_told (Kd.R_told (Kd.R_old (by (with_reducible repeat (first | apply Kd.R_alloc | apply Kd.R_drewN | apply Kd.R_drew)); exact HO125.out) hb) (Kd.R_base ho0)) (Kd.R_base ho1)) (Kd.R_base ho2)) (fun _ h_ => h_.1)); have n2_ := As0 (Kd.R_mono (Kd.R_told (Kd.R_told (Kd.R_told (Kd.R_old (by (with_reducible repeat (first | apply Kd.R_alloc | apply Kd.R_drewN | apply Kd.R_drew)); exact HO132.out) hb) (Kd.R_base ho0)) (Kd.R_base ho1)) (Kd.R_base ho2)) (fun _ h_ => h_.1)); have n3_ := As0 (Kd.R_mono (Kd.R_told (Kd.R_told (Kd.R_told (Kd.R_old (by (with_reducible repeat (first | apply Kd.R_alloc | apply Kd.R_drewN | apply Kd.R_drew)); exact HO135.out) hb) (Kd.R_base ho0)) (Kd.R_base ho1)) (Kd.R_base ho2)) (fun _ h_ => h_.1)); have n4_ := As0 (Kd.R_mono (Kd.R_told (Kd.R_told (Kd.R_told (Kd.R_old (by (with_reducible repeat (first | apply Kd.R_alloc | apply Kd.R_drewN | apply Kd.R_drew)); exact HO138.out) hb) (Kd.R_base ho0)) (Kd.R_base ho1)) (Kd.R_base ho2)) (fun _ h_ => h_.1)); have n5_ := As0 (Kd.R_mono (Kd.R_told (Kd.R_told (Kd.R_told (Kd.R_old (by (with_reducible repeat (first | apply Kd.R_alloc | apply Kd.R_drewN | apply Kd.R_drew)); exact HO144.out) hb) (Kd.R_base ho0)) (Kd.R_base ho1)) (Kd.R_base ho2)) (fun _ h_ => h_.1)); have n6_ := As0 (Kd.R_lower (Kd.R_new' (Kd.R_new' (Kd.R_new' (Kd.R_new' (Kd.R_new' ho0 (Kd.R_lt (by (with_reducible repeat (first | apply Kd.R_alloc | apply Kd.R_drewN | apply Kd.R_drew)); exact HO125.out))) (Kd.R_lt (by (with_reducible repeat (first | apply Kd.R_alloc | apply Kd.R_drewN | apply Kd.R_drew)); exact HO132.out))) (Kd.R_lt (by (with_reducible repeat (first | apply Kd.R_alloc | apply Kd.R_drewN | apply Kd.R_drew)); exact HO135.out))) (Kd.R_lt (by (with_reducible repeat (first | apply Kd.R_alloc | apply Kd.R_drewN | apply Kd.R_drew)); exact HO138.out))) (Kd.R_lt (by (with_reducible repeat (first | apply Kd.R_alloc | apply Kd.R_drewN | apply Kd.R_drew)); exact HO144.out))) (below_size (by repeat (first | (with_reducible first | exact HB.out | apply below_alloc | apply bdN | apply bd1 | refine below_set ?_ GE122.out | refine below_set ?_ GE141.out) | exact HB.out)))); have n7_ := As0 (Kd.R_lower (Kd.R_new' (Kd.R_new' (Kd.R_new' (Kd.R_new' (Kd.R_new' ho1 (Kd.R_lt (by (with_reducible repeat (first | apply Kd.R_alloc | apply Kd.R_drewN | apply Kd.R_drew)); exact HO125.out))) (Kd.R_lt (by (with_reducible repeat (first | apply Kd.R_alloc | apply Kd.R_drewN | apply Kd.R_drew)); exact HO132.out))) (Kd.R_lt (by (with_reducible repeat (first | apply Kd.R_alloc | apply Kd.R_drewN | apply Kd.R_drew)); exact HO135.out))) (Kd.R_lt (by (with_reducible repeat (first | apply Kd.R_alloc | apply Kd.R_drewN | apply Kd.R_drew)); exact HO138.out))) (Kd.R_lt (by (with_reducible repeat (first | apply Kd.R_alloc | apply Kd.R_drewN | apply Kd.R_drew)); exact HO144.out))) (below_size (by repeat (first | (with_reducible first | exact HB.out | apply below_alloc | apply bdN | apply bd1 | refine below_set ?_ GE122.out | refine below_set ?_ GE141.out) | exact HB.out)))); have n8_ := As0 (Kd.R_lower (Kd.R_new' (Kd.R_new' (Kd.R_new' (Kd.R_new' (Kd.R_new' ho2 (Kd.R_lt (by (with_reducible repeat (first | apply Kd.R_alloc | apply Kd.R_drewN | apply Kd.R_drew)); exact HO125.out))) (Kd.R_lt (by (with_reducible repeat (first | apply Kd.R_alloc | apply Kd.R_drewN | apply Kd.R_drew)); exact HO132.out))) (Kd.R_lt (by (with_reducible repeat (first | apply Kd.R_alloc | apply Kd.R_drewN | apply Kd.R_drew)); exact HO135.out))) (Kd.R_lt (by (with_reducible repeat (first | apply Kd.R_alloc | apply Kd.R_drewN | apply Kd.R_drew)); exact HO138.out))) (Kd.R_lt (by (with_reducible repeat (first | apply Kd.R_alloc | apply Kd.R_drewN | apply Kd.R_drew)); exact HO144.out))) (below_size (by repeat (first | (with_reducible first | exact HB.out | apply below_alloc | apply bdN | apply bd1 | refine below_set ?_ GE122.out | refine below_set ?_ GE141.out) | exact HB.out)))); have n9_ := As0 (blk_below (g := gb122) (o := .cells #[.int .i64 1, .int .i64 1, .slice Ao19 y119.length co19] 34 (0, 0)) (by (with_reducible repeat (first | refine blk_drewN ?_ _ | refine blk_drew ?_ | refine blk_alloc ?_ _)); exact BK122.out) hb); have n10_ := As0 (blk_below (g := gb141) (o := .cells #[.int .i64 t126, .int .i64 t127, .int .i64 t128, .int .i64 t129, .slice Ao29 t130.length co29, .slice Ao30 t133.length co30, .slice Ao31 t136.length co31, .int .i64 t139] 39 (0, 0)) (by (with_reducible repeat (first | refine blk_drewN ?_ _ | refine blk_drew ?_ | refine blk_alloc ?_ _)); exact BK141.out) hb); have n11_ := As0 (below_step (by repeat (first | (with_reducible first | exact HB.out | apply below_alloc | apply bdN | apply bd1 | refine below_set ?_ GE122.out | refine below_set ?_ GE141.out) | exact HB.out)) hb); clear HO121 HO125 HO132 HO135 HO138 HO144 BK122 BK141 HB; have HO121 := n0_; have HO125 := n1_; have HO132 := n2_; have HO135 := n3_; have HO138 := n4_; have HO144 := n5_; have HO151 := n6_; have HO154 := n7_; have HO157 := n8_; have BK122 := n9_; have BK141 := n10_; have HB := n11_; clear n0_ n1_ n2_ n3_ n4_ n5_ n6_ n7_ n8_ n9_ n10_ n11_; (try clear hb); (try clear hb2); (try clear hk); (try clear hi); (try clear ho0); (try clear ho1); (try clear ho2)) | ((with_reducible refine gate_dst (N := 4) rfl ?_); (try (refine gate_guard (by rfl) ?_; dsimp only)); refine box_event ?hg (N := 4) ?hd (cs := #[.int .i64 0, .int .i64 0, .int .i64 0, .int .i64 0, .slice none 0 0, .slice none 0 0, .slice none 0 0, .int .i64 0]) (t := 39) ?hr ?_; (case hd => rfl); (case hg => rfl); (case hr => first | (go_simp; done) | (go_simp; rfl)); intro gb160 hg w37 hbox hb; have n0_ := As0 (Kd.N_below (Kd.N_elderB (by (with_reducible repeat (first | apply Kd.N_alloc | apply Kd.N_drewN | apply Kd.N_drew)); exact HO121.out) gb160 (Nat.le_of_eq hg.symm)) hb); have n1_ := As0 (Kd.R_below (by (with_reducible repeat (first | apply Kd.R_alloc | apply Kd.R_drewN | apply Kd.R_drew)); exact HO125.out) hb); have n2_ := As0 (Kd.R_below (by (with_reducible repeat (first | apply Kd.R_alloc | apply Kd.R_drewN | apply Kd.R_drew)); exact HO132.out) hb); have n3_ := As0 (Kd.R_below (by (with_reducible repeat (first | apply Kd.R_alloc | apply Kd.R_drewN | apply Kd.R_drew)); exact HO135.out) hb); have n4_ := As0 (Kd.R_below (by (with_reducible repeat (first | apply Kd.R_alloc | apply Kd.R_drewN | apply Kd.R_drew)); exact HO138.out) hb); have n5_ := As0 (Kd.R_below (by (with_reducible repeat (first | apply Kd.R_alloc | apply Kd.R_drewN | apply Kd.R_drew)); exact HO144.out) hb); have n6_ := As0 (Kd.R_below (by (with_reducible repeat (first | apply Kd.R_alloc | apply Kd.R_drewN | apply Kd.R_drew)); exact HO151.out) hb); have n7_ := As0 (Kd.R_below (by (with_reducible repeat (first | apply Kd.R_alloc | apply Kd.R_drewN | apply Kd.R_drew)); exact HO154.out) hb); have n8_ := As0 (Kd.R_below (by (with_reducible repeat (first | apply Kd.R_alloc | apply Kd.R_drewN | apply Kd.R_drew)); exact HO157.out) hb); have n9_ := As0 (blk_below (g := gb122) (o := .cells #[.int .i64 1, .int .i64 1, .slice Ao19 y119.length co19] 34 (0, 0)) (by (with_reducible repeat (first | refine blk_drewN ?_ _ | refine blk_drew ?_ | refine blk_alloc ?_ _)); exact BK122.out) hb); have n10_ := As0 (blk_below (g := gb141) (o := .cells #[.int .i64 t126, .int .i64 t127, .int .i64 t128, .int .i64 t129, .slice Ao29 t130.length co29, .slice Ao30 t133.length co30, .slice Ao31 t136.length co31, .int .i64 t139] 39 (0, 0)) (by (with_reducible repeat (first | refine blk_drewN ?_ _ | refine blk_drew ?_ | refine blk_alloc ?_ _)); exact BK141.out) hb); have n11_ := As0 (below_step (by repeat (first | (with_reducible first | exact HB.out | apply below_alloc | apply bdN | apply bd1 | refine below_set ?_ GE122.out | refine below_set ?_ GE141.out) | exact HB.out)) hb); have n12_ := As0 (hbox); have n13_ := As0 ((by rw [hg]; exact (below_size (by repeat (first | (with_reducible first | exact HB.out | apply below_alloc | apply bdN | apply bd1 | refine below_set ?_ GE122.out | refine below_set ?_ GE141.out) | exact HB.out))) : w.heap.size ≤ gb160)); have n14_ := As0 ((by rw [hg]; exact (below_size (by repeat (first | (with_reducible first | exact HB.out | apply below_alloc | apply bdN | apply bd1 | refine below_set ?_ GE122.out | refine below_set ?_ GE141.out) | exact HB.out))) : w.heap.size ≤ gb160)); have n15_ := As0 ((by rw [hg]; exact Nat.ne_of_lt (blk_lt (g := gb122) (o := .cells #[.int .i64 1, .int .i64 1, .slice Ao19 y119.length co19] 34 (0, 0)) (by (with_reducible repeat (first | refine blk_drewN ?_ _ | refine blk_drew ?_ | refine blk_alloc ?_ _)); exact BK122.out)) : gb122 ≠ gb160)); have n16_ := As0 ((by rw [hg]; exact Nat.ne_of_gt (blk_lt (g := gb122) (o := .cells #[.int .i64 1, .int .i64 1, .slice Ao19 y119.length co19] 34 (0, 0)) (by (with_reducible repeat (first | refine blk_drewN ?_ _ | refine blk_drew ?_ | refine blk_alloc ?_ _)); exact BK122.out)) : gb160 ≠ gb122)); have n17_ := As0 ((by rw [hg]; exact Nat.ne_of_lt (blk_lt (g := gb141) (o := .cells #[.int .i64 t126, .int .i64 t127, .int .i64 t128, .int .i64 t129, .slice Ao29 t130.length co29, .slice Ao30 t133.length co30, .slice Ao31 t136.length co31, .int .i64 t139] 39 (0, 0)) (by (with_reducible repeat (first | refine blk_drewN ?_ _ | refine blk_drew ?_ | refine blk_alloc ?_ _)); exact BK141.out)) : gb141 ≠ gb160)); have n18_ := As0 ((by rw [hg]; exact Nat.ne_of_gt (blk_lt (g := gb141) (o := .cells #[.int .i64 t126, .int .i64 t127, .int .i64 t128, .int .i64 t129, .slice Ao29 t130.length co29, .slice Ao30 t133.length co30, .slice Ao31 t136.length co31, .int .i64 t139] 39 (0, 0)) (by (with_reducible repeat (first | refine blk_drewN ?_ _ | refine blk_drew ?_ | refine blk_alloc ?_ _)); exact BK141.out)) : gb160 ≠ gb141)); clear HO121 HO125 HO132 HO135 HO138 HO144 HO151 HO154 HO157 BK122 BK141 HB; have HO121 := n0_; have HO125 := n1_; have HO132 := n2_; have HO135 := n3_; have HO138 := n4_; have HO144 := n5_; have HO151 := n6_; have HO154 := n7_; have HO157 := n8_; have BK122 := n9_; have BK141 := n10_; have HB := n11_; have BK160 := n12_; have GW160 := n13_; have GE160 := n14_; have NB122_160 := n15_; have NB160_122 := n16_; have NB141_160 := n17_; have NB160_141 := n18_; clear n0_ n1_ n2_ n3_ n4_ n5_ n6_ n7_ n8_ n9_ n10_ n11_ n12_ n13_ n14_ n15_ n16_ n17_ n18_ hb hbox hg; have hnb38 := NB160_122.out; have hnc38 := NB122_160.out; have hnb39 := NB160_141.out; have hnc39 := NB141_160.out; have hcz40_0 : w37.cell? ⟨gb160, 0, none⟩ = some (.int .i64 0) := (blk_cell BK160.out 0).trans rfl; have hcz40_1 : w37.cell? ⟨gb160, 1, none⟩ = some (.int .i64 0) := (blk_cell BK160.out 1).trans rfl; have hcz40_2 : w37.cell? ⟨gb160, 2, none⟩ = some (.int .i64 0) := (blk_cell BK160.out 2).trans rfl; have hcz40_3 : w37.cell? ⟨gb160, 3, none⟩ = some (.int .i64 0) := (blk_cell BK160.out 3).trans rfl; have hcz40_4 : w37.cell? ⟨gb160, 4, none⟩ = some (.slice none 0 0) := (blk_cell BK160.out 4).trans rfl; have hcz40_5 : w37.cell? ⟨gb160, 5, none⟩ = some (.slice none 0 0) := (blk_cell BK160.out 5).trans rfl; have hcz40_6 : w37.cell? ⟨gb160, 6, none⟩ = some (.slice none 0 0) := (blk_cell BK160.out 6).trans rfl; have hcz40_7 : w37.cell? ⟨gb160, 7, none⟩ = some (.int .i64 0) := (blk_cell BK160.out 7).trans rfl; have hfz40_0 := blk_frozen BK160.out 0; have hfz40_1 := blk_frozen BK160.out 1; have hfz40_2 := blk_frozen BK160.out 2; have hfz40_3 := blk_frozen BK160.out 3; have hfz40_4 := blk_frozen BK160.out 4; have hfz40_5 := blk_frozen BK160.out 5; have hfz40_6 := blk_frozen BK160.out 6; have hfz40_7 := blk_frozen BK160.out 7; obtain ⟨Ao41, co41, eo41⟩ := Kd.R_slice HO151.out; subst eo41; obtain ⟨Ao42, co42, eo42⟩ := Kd.R_slice HO154.out; subst eo42; obtain ⟨Ao43, co43, eo43⟩ := Kd.R_slice HO157.out; subst eo43; have hcz44_0 : w37.cell? ⟨gb122, 0, none⟩ = some (.int .i64 1) := (blk_cell BK122.out 0).trans rfl; have hcz44_1 : w37.cell? ⟨gb122, 1, none⟩ = some (.int .i64 1) := (blk_cell BK122.out 1).trans rfl; have hcz44_2 : w37.cell? ⟨gb122, 2, none⟩ = some (.slice Ao19 y119.length co19) := (blk_cell BK122.out 2).trans rfl; have hfz44_0 := blk_frozen BK122.out 0; have hfz44_1 := blk_frozen BK122.out 1; have hfz44_2 := blk_frozen BK122.out 2) | ((with_reducible refine gate_callee (f := 31) rfl ?_); refine goesL_ (some 28) rfl rfl Try.func31 (by kernel_rfl) rfl #[.agg #[.int .i64 1, .int .i64 1, .slice Ao19 y119.length co19], .slice none 0 0, .int .i64 1] rfl (by (try simp only [List.map_toArray, List.map_cons, List.map_nil]); first | done | rfl | (simp only [List.length_drop, List.length_take]; rfl)) ?_; (refine (interp_Exec.calls k 1 1 _ _ y119 _ _ ([] : List Int) 1 t161 t162 t163 t164 t165 t168 t171 t174 t175 _ ?side1 ?side2 ?side3 ?side4 A3.out).mono ?_); (case side1 => refine (Kd.N_reads' (e := 50) (base := w.heap.size) (ok := fun k_ => (((((((((((True ∧ k_ ≠ gb122) ∧ some k_ ≠ (.slice Ao24 y123.length co24 : Value).ownBlock) ∧ some k_ ≠ (.slice Ao29 t130.length co29 : Value).ownBlock) ∧ some k_ ≠ (.slice Ao30 t133.length co30 : Value).ownBlock) ∧ some k_ ≠ (.slice Ao31 t136.length co31 : Value).ownBlock) ∧ k_ ≠ gb141) ∧ some k_ ≠ (.slice Ao35 y142.length co35 : Value).ownBlock) ∧ some k_ ≠ (.slice Ao41 t149.length co41 : Value).ownBlock) ∧ some k_ ≠ (.slice Ao42 t152.length co42 : Value).ownBlock) ∧ some k_ ≠ (.slice Ao43 t155.length co43 : Value).ownBlock) ∧ k_ ≠ gb160)) (n := y119.length) (c := co19) ?_).2.2; exact (by (with_reducible repeat (first | apply Kd.N_alloc | apply Kd.N_drewN | apply Kd.N_drew)); exact (Kd.N_mono (Kd.N_far (p := ⟨gb160, 7, none⟩) (Kd.N_far (p := ⟨gb160, 6, none⟩) (Kd.N_far (p := ⟨gb160, 5, none⟩) (Kd.N_far (p := ⟨gb160, 4, none⟩) (Kd.N_far (p := ⟨gb160, 3, none⟩) (Kd.N_far (p := ⟨gb160, 2, none⟩) (Kd.N_far (p := ⟨gb160, 1, none⟩) (Kd.N_far (p := ⟨gb160, 0, none⟩) (Kd.N_mono HO121.out (fun k_ hk => (⟨hk, hk.2⟩ : _ ∧ k_ ≠ gb160))) (fun _ hk => hk.2) (.int .i64 t145)) (fun _ hk => hk.2) (.int .i64 t146)) (fun _ hk => hk.2) (.int .i64 t147)) (fun _ hk => hk.2) (.int .i64 t148)) (fun _ hk => hk.2) (.slice Ao41 t149.length co41)) (fun _ hk => hk.2) (.slice Ao42 t152.length co42)) (fun _ hk => hk.2) (.slice Ao43 t155.length co43)) (fun _ hk => hk.2) (.int .i64 t158)) (fun _ h_ => h_.1)))); (case side2 => exact (Kd.N_reads' HO121.out).2.1); (case side3 => exact Kd.C_nil _ _); (case side4 => exact Nat.le_refl _); rintro e w45 ⟨v166, v169, v172, rfl, ho0, ho1, ho2, hb⟩; refine ⟨_, rfl, ?_⟩; have n0_ := As0 (Kd.N_mono (Kd.N_told (Kd.N_told (Kd.N_told (Kd.N_old (by (with_reducible repeat (first | apply Kd.N_alloc | apply Kd.N_drewN | apply Kd.N_drew)); exact (Kd.N_mono (Kd.N_far (p := ⟨gb160, 7, none⟩) (Kd.N_far (p := ⟨gb160, 6, none⟩) (Kd.N_far (p := ⟨gb160, 5, none⟩) (Kd.N_far (p := ⟨gb160, 4, none⟩) (Kd.N_far (p := ⟨gb160, 3, none⟩) (Kd.N_far (p := ⟨gb160, 2, none⟩) (Kd.N_far (p := ⟨gb160, 1, none⟩) (Kd.N_far (p := ⟨gb160, 0, none⟩) (Kd.N_mono HO121.out (fun k_ hk => (⟨hk, hk.2⟩ : _ ∧ k_ ≠ gb160))) (fun _ hk => hk.2) (.int .i64 t145)) (fun _ hk => hk.2) (.int .i64 t146)) (fun _ hk => hk.2) (.int .i64 t147)) (fun _ hk => hk.2) (.int .i64 t148)) (fun _ hk => hk.2) (.slice Ao41 t149.length co41)) (fun _ hk => hk.2) (.slice Ao42 t152.length co42)) (fun _ hk => hk.2) (.slice Ao43 t155.length co43)) (fun _ hk => hk.2) (.int .i64 t158)) (fun _ h_ => h_.1))) hb) (Kd.R_base ho0)) (Kd.R_base ho1)) (Kd.R_base ho2)) (fun _ h_ => h_.1)); have n1_ := As0 (Kd.R_mono (Kd.R_told (Kd.R_told (Kd.R_told (Kd.R_old (by (with_reducible repeat (first | apply Kd.R_alloc | apply Kd.R_drewN | apply Kd.R_drew)); exact (Kd.R_mono (RF gb160 7 (RF gb160 6 (RF gb160 5 (RF gb160 4 (RF gb160 3 (RF gb160 2 (RF gb160 1 (RF gb160 0 (Kd.R_types HO125.out BK160.out (by decide)) (.int .i64 t145)) (.int .i64 t146)) (.int .i64 t147)) (.int .i64 t148)) (.slice Ao41 t149.length co41)) (.slice Ao42 t152.length co42)) (.slice Ao43 t155.length co43)) (.int .i64 t158)) (fun _ h_ => h_.1))) hb) (Kd.R_base ho0)) (Kd.R_base ho1)) (Kd.R_base ho2)) (fun _ h_ => h_.1)); have n2_ := As0 (Kd.R_mono (Kd.R_told (Kd.R_told (Kd.R_told (Kd.R_old (by (with_reducible repeat (first | apply Kd.R_alloc | apply Kd.R_drewN | apply Kd.R_drew)); exact (Kd.R_mono (RF gb160 7 (RF gb160 6 (RF gb160 5 (RF gb160 4 (RF gb160 3 (RF gb160 2 (RF gb160 1 (RF gb160 0 (Kd.R_types HO132.out BK160.out (by decide)) (.int .i64 t145)) (.int .i64 t146)) (.int .i64 t147)) (.int .i64 t148)) (.slice Ao41 t149.length co41)) (.slice Ao42 t152.length co42)) (.slice Ao43 t155.length co43)) (.int .i64 t158)) (fun _ h_ => h_.1))) hb) (Kd.R_base ho0)) (Kd.R_base ho1)) (Kd.R_base ho2)) (fun _ h_ => h_.1)); have n3_ := As0 (Kd.R_mono (Kd.R_told (Kd.R_told (Kd.R_told (Kd.R_old (by (with_reducible repeat (first | apply Kd.R_alloc | apply Kd.R_drewN | apply Kd.R_drew)); exact (Kd.R_mono (RF gb160 7 (RF gb160 6 (RF gb160 5 (RF gb160 4 (RF gb160 3 (RF gb160 2 (RF gb160 1 (RF gb160 0 (Kd.R_types HO135.out BK160.out (by decide)) (.int .i64 t145)) (.int .i64 t146)) (.int .i64 t147)) (.int .i64 t148)) (.slice Ao41 t149.length co41)) (.slice Ao42 t152.length co42)) (.slice Ao43 t155.length co43)) (.int .i64 t158)) (fun _ h_ => h_.1))) hb) (Kd.R_base ho0)) (Kd.R_base ho1)) (Kd.R_base ho2)) (fun _ h_ => h_.1)); have n4_ := As0 (Kd.R_mono (Kd.R_told (Kd.R_told (Kd.R_told (Kd.R_old (by (with_reducible repeat (first | apply Kd.R_alloc | apply Kd.R_drewN | apply Kd.R_drew)); exact (Kd.R_mono (RF gb160 7 (RF gb160 6 (RF gb160 5 (RF gb160 4 (RF gb160 3 (RF gb160 2 (RF gb160 1 (RF gb160 0 (Kd.R_types HO138.out BK160.out (by decide)) (.int .i64 t145)) (.int .i64 t146)) (.int .i64 t147)) (.int .i64 t148)) (.slice Ao41 t149.length co41)) (.slice Ao42 t152.length co42)) (.slice Ao43 t155.length co43)) (.int .i64 t158)) (fun _ h_ => h_.1))) hb) (Kd.R_base ho0)) (Kd.R_base ho1)) (Kd.R_base ho2)) (fun _ h_ => h_.1)); have n5_ := As0 (Kd.R_mono (Kd.R_told (Kd.R_told (Kd.R_told (Kd.R_old (by (with_reducible repeat (first | apply Kd.R_alloc | apply Kd.R_drewN | apply Kd.R_drew)); exact (Kd.R_mono (RF gb160 7 (RF gb160 6 (RF gb160 5 (RF gb160 4 (RF gb160 3 (RF gb160 2 (RF gb160 1 (RF gb160 0 (Kd.R_types HO144.out BK160.out (by decide)) (.int .i64 t145)) (.int .i64 t146)) (.int .i64 t147)) (.int .i64 t148)) (.slice Ao41 t149.length co41)) (.slice Ao42 t152.length co42)) (.slice Ao43 t155.length co43)) (.int .i64 t158)) (fun _ h_ => h_.1))) hb) (Kd.R_base ho0)) (Kd.R_base ho1)) (Kd.R_base ho2)) (fun _ h_ => h_.1)); have n6_ := As0 (Kd.R_mono (Kd.R_told (Kd.R_told (Kd.R_told (Kd.R_old (by (with_reducible repeat (first | apply Kd.R_alloc | apply Kd.R_drewN | apply Kd.R_drew)); exact (Kd.R_mono (RF gb160 7 (RF gb160 6 (RF gb160 5 (RF gb160 4 (RF gb160 3 (RF gb160 2 (RF gb160 1 (RF gb160 0 (Kd.R_types HO151.out BK160.out (by decide)) (.int .i64 t145)) (.int .i64 t146)) (.int .i64 t147)) (.int .i64 t148)) (.slice Ao41 t149.length co41)) (.slice Ao42 t152.length co42)) (.slice Ao43 t155.length co43)) (.int .i64 t158)) (fun _ h_ => h_.1))) hb) (Kd.R_base ho0)) (Kd.R_base ho1)) (Kd.R_base ho2)) (fun _ h_ => h_.1)); have n7_ := As0 (Kd.R_mono (Kd.R_told (Kd.R_told (Kd.R_told (Kd.R_old (by (with_reducible repeat (first | apply Kd.R_alloc | apply Kd.R_drewN | apply Kd.R_drew)); exact (Kd.R_mono (RF gb160 7 (RF gb160 6 (RF gb160 5 (RF gb160 4 (RF gb160 3 (RF gb160 2 (RF gb160 1 (RF gb160 0 (Kd.R_types HO154.out BK160.out (by decide)) (.int .i64 t145)) (.int .i64 t146)) (.int .i64 t147)) (.int .i64 t148)) (.slice Ao41 t149.length co41)) (.slice Ao42 t152.length co42)) (.slice Ao43 t155.length co43)) (.int .i64 t158)) (fun _ h_ => h_.1))) hb) (Kd.R_base ho0)) (Kd.R_base ho1)) (Kd.R_base ho2)) (fun _ h_ => h_.1)); have n8_ := As0 (Kd.R_mono (Kd.R_told (Kd.R_told (Kd.R_told (Kd.R_old (by (with_reducible repeat (first | apply Kd.R_alloc | apply Kd.R_drewN | apply Kd.R_drew)); exact (Kd.R_mono (RF gb160 7 (RF gb160 6 (RF gb160 5 (RF gb160 4 (RF gb160 3 (RF gb160 2 (RF gb160 1 (RF gb160 0 (Kd.R_types HO157.out BK160.out (by decide)) (.int .i64 t145)) (.int .i64 t146)) (.int .i64 t147)) (.int .i64 t148)) (.slice Ao41 t149.length co41)) (.slice Ao42 t152.length co42)) (.slice Ao43 t155.length co43)) (.int .i64 t158)) (fun _ h_ => h_.1))) hb) (Kd.R_base ho0)) (Kd.R_base ho1)) (Kd.R_base ho2)) (fun _ h_ => h_.1)); have n9_ := As0 (Kd.R_lower (Kd.R_new' (Kd.R_new' (Kd.R_new' (Kd.R_new' (Kd.R_new' (Kd.R_new' (Kd.R_new' (Kd.R_new' ho0 (Kd.R_lt (by (with_reducible repeat (first | apply Kd.R_alloc | apply Kd.R_drewN | apply Kd.R_drew)); exact (Kd.R_mono (RF gb160 7 (RF gb160 6 (RF gb160 5 (RF gb160 4 (RF gb160 3 (RF gb160 2 (RF gb160 1 (RF gb160 0 (Kd.R_types HO125.out BK160.out (by decide)) (.int .i64 t145)) (.int .i64 t146)) (.int .i64 t147)) (.int .i64 t148)) (.slice Ao41 t149.length co41)) (.slice Ao42 t152.length co42)) (.slice Ao43 t155.length co43)) (.int .i64 t158)) (fun _ h_ => h_.1))))) (Kd.R_lt (by (with_reducible repeat (first | apply Kd.R_alloc | apply Kd.R_drewN | apply Kd.R_drew)); exact (Kd.R_mono (RF gb160 7 (RF gb160 6 (RF gb160 5 (RF gb160 4 (RF gb160 3 (RF gb160 2 (RF gb160 1 (RF gb160 0 (Kd.R_types HO132.out BK160.out (by decide)) (.int .i64 t145)) (.int .i64 t146)) (.int .i64 t147)) (.int .i64 t148)) (.slice Ao41 t149.length co41)) (.slice Ao42 t152.length co42)) (.slice Ao43 t155.length co43)) (.int .i64 t158)) (fun _ h_ => h_.1))))) (Kd.R_lt (by (with_reducible repeat (first | apply Kd.R_alloc | apply Kd.R_drewN | apply Kd.R_drew)); exact (Kd.R_mono (RF gb160 7 (RF gb160 6 (RF gb160 5 (RF gb160 4 (RF gb160 3 (RF gb160 2 (RF gb160 1 (RF gb160 0 (Kd.R_types HO135.out BK160.out (by decide)) (.int .i64 t145)) (.int .i64 t146)) (.int .i64 t147)) (.int .i64 t148)) (.slice Ao41 t149.length co41)) (.slice Ao42 t152.length co42)) (.slice Ao43 t155.length co43)) (.int .i64 t158)) (fun _ h_ => h_.1))))) (Kd.R_lt (by (with_reducible repeat (first | apply Kd.R_alloc | apply Kd.R_drewN | apply Kd.R_drew)); exact (Kd.R_mono (RF gb160 7 (RF gb160 6 (RF gb160 5 (RF gb160 4 (RF gb160 3 (RF gb160 2 (RF gb160 1 (RF gb160 0 (Kd.R_types HO138.out BK160.out (by decide)) (.int .i64 t145)) (.int .i64 t146)) (.int .i64 t147)) (.int .i64 t148)) (.slice Ao41 t149.length co41)) (.slice Ao42 t152.length co42)) (.slice Ao43 t155.length co43)) (.int .i64 t158)) (fun _ h_ => h_.1))))) (Kd.R_lt (by (with_reducible repeat (first | apply Kd.R_alloc | apply Kd.R_drewN | apply Kd.R_drew)); exact (Kd.R_mono (RF gb160 7 (RF gb160 6 (RF gb160 5 (RF gb160 4 (RF gb160 3 (RF gb160 2 (RF gb160 1 (RF gb160 0 (Kd.R_types HO144.out BK160.out (by decide)) (.int .i64 t145)) (.int .i64 t146)) (.int .i64 t147)) (.int .i64 t148)) (.slice Ao41 t149.length co41)) (.slice Ao42 t152.length co42)) (.slice Ao43 t155.length co43)) (.int .i64 t158)) (fun _ h_ => h_.1))))) (Kd.R_lt (by (with_reducible repeat (first | apply Kd.R_alloc | apply Kd.R_drewN | apply Kd.R_drew)); exact (Kd.R_mono (RF gb160 7 (RF gb160 6 (RF gb160 5 (RF gb160 4 (RF gb160 3 (RF gb160 2 (RF gb160 1 (RF gb160 0 (Kd.R_types HO151.out BK160.out (by decide)) (.int .i64 t145)) (.int .i64 t146)) (.int .i64 t147)) (.int .i64 t148)) (.slice Ao41 t149.length co41)) (.slice Ao42 t152.length co42)) (.slice Ao43 t155.length co43)) (.int .i64 t158)) (fun _ h_ => h_.1))))) (Kd.R_lt (by (with_reducible repeat (first | apply Kd.R_alloc | apply Kd.R_drewN | apply Kd.R_drew)); exact (Kd.R_mono (RF gb160 7 (RF gb160 6 (RF gb160 5 (RF gb160 4 (RF gb160 3 (RF gb160 2 (RF gb160 1 (RF gb160 0 (Kd.R_types HO154.out BK160.out (by decide)) (.int .i64 t145)) (.int .i64 t146)) (.int .i64 t147)) (.int .i64 t148)) (.slice Ao41 t149.length co41)) (.slice Ao42 t152.length co42)) (.slice Ao43 t155.length co43)) (.int .i64 t158)) (fun _ h_ => h_.1))))) (Kd.R_lt (by (with_reducible repeat (first | apply Kd.R_alloc | apply Kd.R_drewN | apply Kd.R_drew)); exact (Kd.R_mono (RF gb160 7 (RF gb160 6 (RF gb160 5 (RF gb160 4 (RF gb160 3 (RF gb160 2 (RF gb160 1 (RF gb160 0 (Kd.R_types HO157.out BK160.out (by decide)) (.int .i64 t145)) (.int .i64 t146)) (.int .i64 t147)) (.int .i64 t148)) (.slice Ao41 t149.length co41)) (.slice Ao42 t152.length co42)) (.slice Ao43 t155.length co43)) (.int .i64 t158)) (fun _ h_ => h_.1))))) (below_size (by repeat (first | (with_reducible first | exact HB.out | apply below_alloc | apply bdN | apply bd1 | refine below_set ?_ GE122.out | refine below_set ?_ GE141.out | refine below_set ?_ GE160.out) | exact HB.out)))); have n10_ := As0 (Kd.R_lower (Kd.R_new' (Kd.R_new' (Kd.R_new' (Kd.R_new' (Kd.R_new' (Kd.R_new' (Kd.R_new' (Kd.R_new' ho1 (Kd.R_lt (by (with_reducible repeat (first | apply Kd.R_alloc | apply Kd.R_drewN | apply Kd.R_drew)); exact (Kd.R_mono (RF gb160 7 (RF gb160 6 (RF gb160 5 (RF gb160 4 (RF gb160 3 (RF gb160 2 (RF gb160 1 (RF gb160 0 (Kd.R_types HO125.out BK160.out (by decide)) (.int .i64 t145)) (.int .i64 t146)) (.int .i64 t147)) (.int .i64 t148)) (.slice Ao41 t149.length co41)) (.slice Ao42 t152.length co42)) (.slice Ao43 t155.length co43)) (.int .i64 t158)) (fun _ h_ => h_.1))))) (Kd.R_lt (by (with_reducible repeat (first | apply Kd.R_alloc | apply Kd.R_drewN | apply Kd.R_drew)); exact (Kd.R_mono (RF gb160 7 (RF gb160 6 (RF gb160 5 (RF gb160 4 (RF gb160 3 (RF gb160 2 (RF gb160 1 (RF gb160 0 (Kd.R_types HO132.out BK160.out (by decide)) (.int .i64 t145)) (.int .i64 t146)) (.int .i64 t147)) (.int .i64 t148)) (.slice Ao41 t149.length co41)) (.slice Ao42 t152.length co42)) (.slice Ao43 t155.length co43)) (.int .i64 t158)) (fun _ h_ => h_.1))))) (Kd.R_lt (by (with_reducible repeat (first | apply Kd.R_alloc | apply Kd.R_drewN | apply Kd.R_drew)); exact (Kd.R_mono (RF gb160 7 (RF gb160 6 (RF gb160 5 (RF gb160 4 (RF gb160 3 (RF gb160 2 (RF gb160 1 (RF gb160 0 (Kd.R_types HO135.out BK160.out (by decide)) (.int .i64 t145)) (.int .i64 t146)) (.int .i64 t147)) (.int .i64 t148)) (.slice Ao41 t149.length co41)) (.slice Ao42 t152.length co42)) (.slice Ao43 t155.length co43)) (.int .i64 t158)) (fun _ h_ => h_.1))))) (Kd.R_lt (by (with_reducible repeat (first | apply Kd.R_alloc | apply Kd.R_drewN | apply Kd.R_drew)); exact (Kd.R_mono (RF gb160 7 (RF gb160 6 (RF gb160 5 (RF gb160 4 (RF gb160 3 (RF gb160 2 (RF gb160 1 (RF gb160 0 (Kd.R_types HO138.out BK160.out (by decide)) (.int .i64 t145)) (.int .i64 t146)) (.int .i64 t147)) (.int .i64 t148)) (.slice Ao41 t149.length co41)) (.slice Ao42 t152.length co42)) (.slice Ao43 t155.length co43)) (.int .i64 t158)) (fun _ h_ => h_.1))))) (Kd.R_lt (by (with_reducible repeat (first | apply Kd.R_alloc | apply Kd.R_drewN | apply Kd.R_drew)); exact (Kd.R_mono (RF gb160 7 (RF gb160 6 (RF gb160 5 (RF gb160 4 (RF gb160 3 (RF gb160 2 (RF gb160 1 (RF gb160 0 (Kd.R_types HO144.out BK160.out (by decide)) (.int .i64 t145)) (.int .i64 t146)) (.int .i64 t147)) (.int .i64 t148)) (.slice Ao41 t149.length co41)) (.slice Ao42 t152.length co42)) (.slice Ao43 t155.length co43)) (.int .i64 t158)) (fun _ h_ => h_.1))))) (Kd.R_lt (by (with_reducible repeat (first | apply Kd.R_alloc | apply Kd.R_drewN | apply Kd.R_drew)); exact (Kd.R_mono (RF gb160 7 (RF gb160 6 (RF gb160 5 (RF gb160 4 (RF gb160 3 (RF gb160 2 (RF gb160 1 (RF gb160 0 (Kd.R_types HO151.out BK160.out (by decide)) (.int .i64 t145)) (.int .i64 t146)) (.int .i64 t147)) (.int .i64 t148)) (.slice Ao41 t149.length co41)) (.slice Ao42 t152.length co42)) (.slice Ao43 t155.length co43)) (.int .i64 t158)) (fun _ h_ => h_.1))))) (Kd.R_lt (by (with_reducible repeat (first | apply Kd.R_alloc | apply Kd.R_drewN | apply Kd.R_drew)); exact (Kd.R_mono (RF gb160 7 (RF gb160 6 (RF gb160 5 (RF gb160 4 (RF gb160 3 (RF gb160 2 (RF gb160 1 (RF gb160 0 (Kd.R_types HO154.out BK160.out (by decide)) (.int .i64 t145)) (.int .i64 t146)) (.int .i64 t147)) (.int .i64 t148)) (.slice Ao41 t149.length co41)) (.slice Ao42 t152.length co42)) (.slice Ao43 t155.length co43)) (.int .i64 t158)) (fun _ h_ => h_.1))))) (Kd.R_lt (by (with_reducible repeat (first | apply Kd.R_alloc | apply Kd.R_drewN | apply Kd.R_drew)); exact (Kd.R_mono (RF gb160 7 (RF gb160 6 (RF gb160 5 (RF gb160 4 (RF gb160 3 (RF gb160 2 (RF gb160 1 (RF gb160 0 (Kd.R_types HO157.out BK160.out (by decide)) (.int .i64 t145)) (.int .i64 t146)) (.int .i64 t147)) (.int .i64 t148)) (.slice Ao41 t149.length co41)) (.slice Ao42 t152.length co42)) (.slice Ao43 t155.length co43)) (.int .i64 t158)) (fun _ h_ => h_.1))))) (below_size (by repeat (first | (with_reducible first | exact HB.out | apply below_alloc | apply bdN | apply bd1 | refine below_set ?_ GE122.out | refine below_set ?_ GE141.out | refine below_set ?_ GE160.out) | exact HB.out)))); have n11_ := As0 (Kd.R_lower (Kd.R_new' (Kd.R_new' (Kd.R_new' (Kd.R_new' (Kd.R_new' (Kd.R_new' (Kd.R_new' (Kd.R_new' ho2 (Kd.R_lt (by (with_reducible repeat (first | apply Kd.R_alloc | apply Kd.R_drewN | apply Kd.R_drew)); exact (Kd.R_mono (RF gb160 7 (RF gb160 6 (RF gb160 5 (RF gb160 4 (RF gb160 3 (RF gb160 2 (RF gb160 1 (RF gb160 0 (Kd.R_types HO125.out BK160.out (by decide)) (.int .i64 t145)) (.int .i64 t146)) (.int .i64 t147)) (.int .i64 t148)) (.slice Ao41 t149.length co41)) (.slice Ao42 t152.length co42)) (.slice Ao43 t155.length co43)) (.int .i64 t158)) (fun _ h_ => h_.1))))) (Kd.R_lt (by (with_reducible repeat (first | apply Kd.R_alloc | apply Kd.R_drewN | apply Kd.R_drew)); exact (Kd.R_mono (RF gb160 7 (RF gb160 6 (RF gb160 5 (RF gb160 4 (RF gb160 3 (RF gb160 2 (RF gb160 1 (RF gb160 0 (Kd.R_types HO132.out BK160.out (by decide)) (.int .i64 t145)) (.int .i64 t146)) (.int .i64 t147)) (.int .i64 t148)) (.slice Ao41 t149.length co41)) (.slice Ao42 t152.length co42)) (.slice Ao43 t155.length co43)) (.int .i64 t158)) (fun _ h_ => h_.1))))) (Kd.R_lt (by (with_reducible repeat (first | apply Kd.R_alloc | apply Kd.R_drewN | apply Kd.R_drew)); exact (Kd.R_mono (RF gb160 7 (RF gb160 6 (RF gb160 5 (RF gb160 4 (RF gb160 3 (RF gb160 2 (RF gb160 1 (RF gb160 0 (Kd.R_types HO135.out BK160.out (by decide)) (.int .i64 t145)) (.int .i64 t146)) (.int .i64 t147)) (.int .i64 t148)) (.slice Ao41 t149.length co41)) (.slice Ao42 t152.length co42)) (.slice Ao43 t155.length co43)) (.int .i64 t158)) (fun _ h_ => h_.1))))) (Kd.R_lt (by (with_reducible repeat (first | apply Kd.R_alloc | apply Kd.R_drewN | apply Kd.R_drew)); exact (Kd.R_mono (RF gb160 7 (RF gb160 6 (RF gb160 5 (RF gb160 4 (RF gb160 3 (RF gb160 2 (RF gb160 1 (RF gb160 0 (Kd.R_types HO138.out BK160.out (by decide)) (.int .i64 t145)) (.int .i64 t146)) (.int .i64 t147)) (.int .i64 t148)) (.slice Ao41 t149.length co41)) (.slice Ao42 t152.length co42)) (.slice Ao43 t155.length co43)) (.int .i64 t158)) (fun _ h_ => h_.1))))) (Kd.R_lt (by (with_reducible repeat (first | apply Kd.R_alloc | apply Kd.R_drewN | apply Kd.R_drew)); exact (Kd.R_mono (RF gb160 7 (RF gb160 6 (RF gb160 5 (RF gb160 4 (RF gb160 3 (RF gb160 2 (RF gb160 1 (RF gb160 0 (Kd.R_types HO144.out BK160.out (by decide)) (.int .i64 t145)) (.int .i64 t146)) (.int .i64 t147)) (.int .i64 t148)) (.slice Ao41 t149.length co41)) (.slice Ao42 t152.length co42)) (.slice Ao43 t155.length co43)) (.int .i64 t158)) (fun _ h_ => h_.1))))) (Kd.R_lt (by (with_reducible repeat (first | apply Kd.R_alloc | apply Kd.R_drewN | apply Kd.R_drew)); exact (Kd.R_mono (RF gb160 7 (RF gb160 6 (RF gb160 5 (RF gb160 4 (RF gb160 3 (RF gb160 2 (RF gb160 1 (RF gb160 0 (Kd.R_types HO151.out BK160.out (by decide)) (.int .i64 t145)) (.int .i64 t146)) (.int .i64 t147)) (.int .i64 t148)) (.slice Ao41 t149.length co41)) (.slice Ao42 t152.length co42)) (.slice Ao43 t155.length co43)) (.int .i64 t158)) (fun _ h_ => h_.1))))) (Kd.R_lt (by (with_reducible repeat (first | apply Kd.R_alloc | apply Kd.R_drewN | apply Kd.R_drew)); exact (Kd.R_mono (RF gb160 7 (RF gb160 6 (RF gb160 5 (RF gb160 4 (RF gb160 3 (RF gb160 2 (RF gb160 1 (RF gb160 0 (Kd.R_types HO154.out BK160.out (by decide)) (.int .i64 t145)) (.int .i64 t146)) (.int .i64 t147)) (.int .i64 t148)) (.slice Ao41 t149.length co41)) (.slice Ao42 t152.length co42)) (.slice Ao43 t155.length co43)) (.int .i64 t158)) (fun _ h_ => h_.1))))) (Kd.R_lt (by (with_reducible repeat (first | apply Kd.R_alloc | apply Kd.R_drewN | apply Kd.R_drew)); exact (Kd.R_mono (RF gb160 7 (RF gb160 6 (RF gb160 5 (RF gb160 4 (RF gb160 3 (RF gb160 2 (RF gb160 1 (RF gb160 0 (Kd.R_types HO157.out BK160.out (by decide)) (.int .i64 t145)) (.int .i64 t146)) (.int .i64 t147)) (.int .i64 t148)) (.slice Ao41 t149.length co41)) (.slice Ao42 t152.length co42)) (.slice Ao43 t155.length co43)) (.int .i64 t158)) (fun _ h_ => h_.1))))) (below_size (by repeat (first | (with_reducible first | exact HB.out | apply below_alloc | apply bdN | apply bd1 | refine below_set ?_ GE122.out | refine below_set ?_ GE141.out | refine below_set ?_ GE160.out) | exact HB.out)))); have n12_ := As0 (blk_below (g := gb122) (o := .cells #[.int .i64 1, .int .i64 1, .slice Ao19 y119.length co19] 34 (0, 0)) (by (with_reducible repeat (first | refine blk_drewN ?_ _ | refine blk_drew ?_ | refine blk_alloc ?_ _)); refine blk_far ?_ NB122_160.out _; (with_reducible repeat (first | refine blk_drewN ?_ _ | refine blk_drew ?_ | refine blk_alloc ?_ _)); refine blk_far ?_ NB122_160.out _; (with_reducible repeat (first | refine blk_drewN ?_ _ | refine blk_drew ?_ | refine blk_alloc ?_ _)); refine blk_far ?_ NB122_160.out _; (with_reducible repeat (first | refine blk_drewN ?_ _ | refine blk_drew ?_ | refine blk_alloc ?_ _)); refine blk_far ?_ NB122_160.out _; (with_reducible repeat (first | refine blk_drewN ?_ _ | refine blk_drew ?_ | refine blk_alloc ?_ _)); refine blk_far ?_ NB122_160.out _; (with_reducible repeat (first | refine blk_drewN ?_ _ | refine blk_drew ?_ | refine blk_alloc ?_ _)); refine blk_far ?_ NB122_160.out _; (with_reducible repeat (first | refine blk_drewN ?_ _ | refine blk_drew ?_ | refine blk_alloc ?_ _)); refine blk_far ?_ NB122_160.out _; (with_reducible repeat (first | refine blk_drewN ?_ _ | refine blk_drew ?_ | refine blk_alloc ?_ _)); refine blk_far ?_ NB122_160.out _; (with_reducible repeat (first | refine blk_drewN ?_ _ | refine blk_drew ?_ | refine blk_alloc ?_ _)); exact BK122.out) hb); have n13_ := As0 (blk_below (g := gb141) (o := .cells #[.int .i64 t126, .int .i64 t127, .int .i64 t128, .int .i64 t129, .slice Ao29 t130.length co29, .slice Ao30 t133.length co30, .slice Ao31 t136.length co31, .int .i64 t139] 39 (0, 0)) (by (with_reducible repeat (first | refine blk_drewN ?_ _ | refine blk_drew ?_ | refine blk_alloc ?_ _)); refine blk_far ?_ NB141_160.out _; (with_reducible repeat (first | refine blk_drewN ?_ _ | refine blk_drew ?_ | refine blk_alloc ?_ _)); refine blk_far ?_ NB141_160.out _; (with_reducible repeat (first | refine blk_drewN ?_ _ | refine blk_drew ?_ | refine blk_alloc ?_ _)); refine blk_far ?_ NB141_160.out _; (with_reducible repeat (first | refine blk_drewN ?_ _ | refine blk_drew ?_ | refine blk_alloc ?_ _)); refine blk_far ?_ NB141_160.out _; (with_reducible repeat (first | refine blk_drewN ?_ _ | refine blk_drew ?_ | refine blk_alloc ?_ _)); refine blk_far ?_ NB141_160.out _; (with_reducible repeat (first | refine blk_drewN ?_ _ | refine blk_drew ?_ | refine blk_alloc ?_ _)); refine blk_far ?_ NB141_160.out _; (with_reducible repeat (first | refine blk_drewN ?_ _ | refine blk_drew ?_ | refine blk_alloc ?_ _)); refine blk_far ?_ NB141_160.out _; (with_reducible repeat (first | refine blk_drewN ?_ _ | refine blk_drew ?_ | refine blk_alloc ?_ _)); refine blk_far ?_ NB141_160.out _; (with_reducible repeat (first | refine blk_drewN ?_ _ | refine blk_drew ?_ | refine blk_alloc ?_ _)); exact BK141.out) hb); have n14_ := As0 (blk_below (g := gb160) (o := .cells #[.int .i64 t145, .int .i64 t146, .int .i64 t147, .int .i64 t148, .slice Ao41 t149.length co41, .slice Ao42 t152.length co42, .slice Ao43 t155.length co43, .int .i64 t158] 39 (0, 0)) (by (with_reducible repeat (first | refine blk_drewN ?_ _ | refine blk_drew ?_ | refine blk_alloc ?_ _)); refine blk_put (cs := #[.int .i64 t145, .int .i64 t146, .int .i64 t147, .int .i64 t148, .slice Ao41 t149.length co41, .slice Ao42 t152.length co42, .slice Ao43 t155.length co43, .int .i64 0]) ?_ 7 _ rfl; (with_reducible repeat (first | refine blk_drewN ?_ _ | refine blk_drew ?_ | refine blk_alloc ?_ _)); refine blk_put (cs := #[.int .i64 t145, .int .i64 t146, .int .i64 t147, .int .i64 t148, .slice Ao41 t149.length co41, .slice Ao42 t152.length co42, .slice none 0 0, .int .i64 0]) ?_ 6 _ rfl; (with_reducible repeat (first | refine blk_drewN ?_ _ | refine blk_drew ?_ | refine blk_alloc ?_ _)); refine blk_put (cs := #[.int .i64 t145, .int .i64 t146, .int .i64 t147, .int .i64 t148, .slice Ao41 t149.length co41, .slice none 0 0, .slice none 0 0, .int .i64 0]) ?_ 5 _ rfl; (with_reducible repeat (first | refine blk_drewN ?_ _ | refine blk_drew ?_ | refine blk_alloc ?_ _)); refine blk_put (cs := #[.int .i64 t145, .int .i64 t146, .int .i64 t147, .int .i64 t148, .slice none 0 0, .slice none 0 0, .slice none 0 0, .int .i64 0]) ?_ 4 _ rfl; (with_reducible repeat (first | refine blk_drewN ?_ _ | refine blk_drew ?_ | refine blk_alloc ?_ _)); refine blk_put (cs := #[.int .i64 t145, .int .i64 t146, .int .i64 t147, .int .i64 0, .slice none 0 0, .slice none 0 0, .slice none 0 0, .int .i64 0]) ?_ 3 _ rfl; (with_reducible repeat (first | refine blk_drewN ?_ _ | refine blk_drew ?_ | refine blk_alloc ?_ _)); refine blk_put (cs := #[.int .i64 t145, .int .i64 t146, .int .i64 0, .int .i64 0, .slice none 0 0, .slice none 0 0, .slice none 0 0, .int .i64 0]) ?_ 2 _ rfl; (with_reducible repeat (first | refine blk_drewN ?_ _ | refine blk_drew ?_ | refine blk_alloc ?_ _)); refine blk_put (cs := #[.int .i64 t145, .int .i64 0, .int .i64 0, .int .i64 0, .slice none 0 0, .slice none 0 0, .slice none 0 0, .int .i64 0]) ?_ 1 _ rfl; (with_reducible repeat (first | refine blk_drewN ?_ _ | refine blk_drew ?_ | refine blk_alloc ?_ _)); refine blk_put (cs := #[.int .i64 0, .int .i64 0, .int .i64 0, .int .i64 0, .slice none 0 0, .slice none 0 0, .slice none 0 0, .int .i64 0]) ?_ 0 _ rfl; (with_reducible repeat (first | refine blk_drewN ?_ _ | refine blk_drew ?_ | refine blk_alloc ?_ _)); exact BK160.out) hb); have n15_ := As0 (below_step (by repeat (first | (with_reducible first | exact HB.out | apply below_alloc | apply bdN | apply bd1 | refine below_set ?_ GE122.out | refine below_set ?_ GE141.out | refine below_set ?_ GE160.out) | exact HB.out)) hb); clear HO121 HO125 HO132 HO135 HO138 HO144 HO151 HO154 HO157 BK122 BK141 BK160 HB; have HO121 := n0_; have HO125 := n1_; have HO132 := n2_; have HO135 := n3_; have HO138 := n4_; have HO144 := n5_; have HO151 := n6_; have HO154 := n7_; have HO157 := n8_; have HO167 := n9_; have HO170 := n10_; have HO173 := n11_; have BK122 := n12_; have BK141 := n13_; have BK160 := n14_; have HB := n15_; clear n0_ n1_ n2_ n3_ n4_ n5_ n6_ n7_ n8_ n9_ n10_ n11_ n12_ n13_ n14_ n15_; (try clear hb); (try clear hb2); (try clear hk); (try clear hi); (try clear ho0); (try clear ho1); (try clear ho2)) | ((with_reducible refine gate_dst (N := 6) rfl ?_); (try (refine gate_guard (by rfl) ?_; dsimp only)); refine box_event ?hg (N := 6) ?hd (cs := #[.int .i64 0, .int .i64 0, .int .i64 0, .int .i64 0, .slice none 0 0, .slice none 0 0, .slice none 0 0, .int .i64 0]) (t := 39) ?hr ?_; (case hd => rfl); (case hg => rfl); (case hr => first | (go_simp; done) | (go_simp; rfl)); intro gb176 hg w46 hbox hb; have n0_ := As0 (Kd.N_below (Kd.N_elderB (by (with_reducible repeat (first | apply Kd.N_alloc | apply Kd.N_drewN | apply Kd.N_drew)); exact HO121.out) gb176 (Nat.le_of_eq hg.symm)) hb); have n1_ := As0 (Kd.R_below (by (with_reducible repeat (first | apply Kd.R_alloc | apply Kd.R_drewN | apply Kd.R_drew)); exact HO125.out) hb); have n2_ := As0 (Kd.R_below (by (with_reducible repeat (first | apply Kd.R_alloc | apply Kd.R_drewN | apply Kd.R_drew)); exact HO132.out) hb); have n3_ := As0 (Kd.R_below (by (with_reducible repeat (first | apply Kd.R_alloc | apply Kd.R_drewN | apply Kd.R_drew)); exact HO135.out) hb); have n4_ := As0 (Kd.R_below (by (with_reducible repeat (first | apply Kd.R_alloc | apply Kd.R_drewN | apply Kd.R_drew)); exact HO138.out) hb); have n5_ := As0 (Kd.R_below (by (with_reducible repeat (first | apply Kd.R_alloc | apply Kd.R_drewN | apply Kd.R_drew)); exact HO144.out) hb); have n6_ := As0 (Kd.R_below (by (with_reducible repeat (first | apply Kd.R_alloc | apply Kd.R_drewN | apply Kd.R_drew)); exact HO151.out) hb); have n7_ := As0 (Kd.R_below (by (with_reducible repeat (first | apply Kd.R_alloc | apply Kd.R_drewN | apply Kd.R_drew)); exact HO154.out) hb); have n8_ := As0 (Kd.R_below (by (with_reducible repeat (first | apply Kd.R_alloc | apply Kd.R_drewN | apply Kd.R_drew)); exact HO157.out) hb); have n9_ := As0 (Kd.R_below (by (with_reducible repeat (first | apply Kd.R_alloc | apply Kd.R_drewN | apply Kd.R_drew)); exact HO167.out) hb); have n10_ := As0 (Kd.R_below (by (with_reducible repeat (first | apply Kd.R_alloc | apply Kd.R_drewN | apply Kd.R_drew)); exact HO170.out) hb); have n11_ := As0 (Kd.R_below (by (with_reducible repeat (first | apply Kd.R_alloc | apply Kd.R_drewN | apply Kd.R_drew)); exact HO173.out) hb); have n12_ := As0 (blk_below (g := gb122) (o := .cells #[.int .i64 1, .int .i64 1, .slice Ao19 y119.length co19] 34 (0, 0)) (by (with_reducible repeat (first | refine blk_drewN ?_ _ | refine blk_drew ?_ | refine blk_alloc ?_ _)); exact BK122.out) hb); have n13_ := As0 (blk_below (g := gb141) (o := .cells #[.int .i64 t126, .int .i64 t127, .int .i64 t128, .int .i64 t129, .slice Ao29 t130.length co29, .slice Ao30 t133.length co30, .slice Ao31 t136.length co31, .int .i64 t139] 39 (0, 0)) (by (with_reducible repeat (first | refine blk_drewN ?_ _ | refine blk_drew ?_ | refine blk_alloc ?_ _)); exact BK141.out) hb); have n14_ := As0 (blk_below (g := gb160) (o := .cells #[.int .i64 t145, .int .i64 t146, .int .i64 t147, .int .i64 t148, .slice Ao41 t149.length co41, .slice Ao42 t152.length co42, .slice Ao43 t155.length co43, .int .i64 t158] 39 (0, 0)) (by (with_reducible repeat (first | refine blk_drewN ?_ _ | refine blk_drew ?_ | refine blk_alloc ?_ _)); exact BK160.out) hb); have n15_ := As0 (below_step (by repeat (first | (with_reducible first | exact HB.out | apply below_alloc | apply bdN | apply bd1 | refine below_set ?_ GE122.out | refine below_set ?_ GE141.out | refine below_set ?_ GE160.out) | exact HB.out)) hb); have n16_ := As0 (hbox); have n17_ := As0 ((by rw [hg]; exact (below_size (by repeat (first | (with_reducible first | exact HB.out | apply below_alloc | apply bdN | apply bd1 | refine below_set ?_ GE122.out | refine below_set ?_ GE141.out | refine below_set ?_ GE160.out) | exact HB.out))) : w.heap.size ≤ gb176)); have n18_ := As0 ((by rw [hg]; exact (below_size (by repeat (first | (with_reducible first | exact HB.out | apply below_alloc | apply bdN | apply bd1 | refine below_set ?_ GE122.out | refine below_set ?_ GE141.out | refine below_set ?_ GE160.out) | exact HB.out))) : w.heap.size ≤ gb176)); have n19_ := As0 ((by rw [hg]; exact Nat.ne_of_lt (blk_lt (g := gb122) (o := .cells #[.int .i64 1, .int .i64 1, .slice Ao19 y119.length co19] 34 (0, 0)) (by (with_reducible repeat (first | refine blk_drewN ?_ _ | refine blk_drew ?_ | refine blk_alloc ?_ _)); exact BK122.out)) : gb122 ≠ gb176)); have n20_ := As0 ((by rw [hg]; exact Nat.ne_of_gt (blk_lt (g := gb122) (o := .cells #[.int .i64 1, .int .i64 1, .slice Ao19 y119.length co19] 34 (0, 0)) (by (with_reducible repeat (first | refine blk_drewN ?_ _ | refine blk_drew ?_ | refine blk_alloc ?_ _)); exact BK122.out)) : gb176 ≠ gb122)); have n21_ := As0 ((by rw [hg]; exact Nat.ne_of_lt (blk_lt (g := gb141) (o := .cells #[.int .i64 t126, .int .i64 t127, .int .i64 t128, .int .i64 t129, .slice Ao29 t130.length co29, .slice Ao30 t133.length co30, .slice Ao31 t136.length co31, .int .i64 t139] 39 (0, 0)) (by (with_reducible repeat (first | refine blk_drewN ?_ _ | refine blk_drew ?_ | refine blk_alloc ?_ _)); exact BK141.out)) : gb141 ≠ gb176)); have n22_ := As0 ((by rw [hg]; exact Nat.ne_of_gt (blk_lt (g := gb141) (o := .cells #[.int .i64 t126, .int .i64 t127, .int .i64 t128, .int .i64 t129, .slice Ao29 t130.length co29, .slice Ao30 t133.length co30, .slice Ao31 t136.length co31, .int .i64 t139] 39 (0, 0)) (by (with_reducible repeat (first | refine blk_drewN ?_ _ | refine blk_drew ?_ | refine blk_alloc ?_ _)); exact BK141.out)) : gb176 ≠ gb141)); have n23_ := As0 ((by rw [hg]; exact Nat.ne_of_lt (blk_lt (g := gb160) (o := .cells #[.int .i64 t145, .int .i64 t146, .int .i64 t147, .int .i64 t148, .slice Ao41 t149.length co41, .slice Ao42 t152.length co42, .slice Ao43 t155.length co43, .int .i64 t158] 39 (0, 0)) (by (with_reducible repeat (first | refine blk_drewN ?_ _ | refine blk_drew ?_ | refine blk_alloc ?_ _)); exact BK160.out)) : gb160 ≠ gb176)); have n24_ := As0 ((by rw [hg]; exact Nat.ne_of_gt (blk_lt (g := gb160) (o := .cells #[.int .i64 t145, .int .i64 t146, .int .i64 t147, .int .i64 t148, .slice Ao41 t149.length co41, .slice Ao42 t152.length co42, .slice Ao43 t155.length co43, .int .i64 t158] 39 (0, 0)) (by (with_reducible repeat (first | refine blk_drewN ?_ _ | refine blk_drew ?_ | refine blk_alloc ?_ _)); exact BK160.out)) : gb176 ≠ gb160)); clear HO121 HO125 HO132 HO135 HO138 HO144 HO151 HO154 HO157 HO167 HO170 HO173 BK122 BK141 BK160 HB; have HO121 := n0_; have HO125 := n1_; have HO132 := n2_; have HO135 := n3_; have HO138 := n4_; have HO144 := n5_; have HO151 := n6_; have HO154 := n7_; have HO157 := n8_; have HO167 := n9_; have HO170 := n10_; have HO173 := n11_; have BK122 := n12_; have BK141 := n13_; have BK160 := n14_; have HB := n15_; have BK176 := n16_; have GW176 := n17_; have GE176 := n18_; have NB122_176 := n19_; have NB176_122 := n20_; have NB141_176 := n21_; have NB176_141 := n22_; have NB160_176 := n23_; have NB176_160 := n24_; clear n0_ n1_ n2_ n3_ n4_ n5_ n6_ n7_ n8_ n9_ n10_ n11_ n12_ n13_ n14_ n15_ n16_ n17_ n18_ n19_ n20_ n21_ n22_ n23_ n24_ hb hbox hg; have hnb47 := NB176_122.out; have hnc47 := NB122_176.out; have hnb48 := NB176_141.out; have hnc48 := NB141_176.out; have hnb49 := NB176_160.out; have hnc49 := NB160_176.out; have hcz50_0 : w46.cell? ⟨gb176, 0, none⟩ = some (.int .i64 0) := (blk_cell BK176.out 0).trans rfl; have hcz50_1 : w46.cell? ⟨gb176, 1, none⟩ = some (.int .i64 0) := (blk_cell BK176.out 1).trans rfl; have hcz50_2 : w46.cell? ⟨gb176, 2, none⟩ = some (.int .i64 0) := (blk_cell BK176.out 2).trans rfl; have hcz50_3 : w46.cell? ⟨gb176, 3, none⟩ = some (.int .i64 0) := (blk_cell BK176.out 3).trans rfl; have hcz50_4 : w46.cell? ⟨gb176, 4, none⟩ = some (.slice none 0 0) := (blk_cell BK176.out 4).trans rfl; have hcz50_5 : w46.cell? ⟨gb176, 5, none⟩ = some (.slice none 0 0) := (blk_cell BK176.out 5).trans rfl; have hcz50_6 : w46.cell? ⟨gb176, 6, none⟩ = some (.slice none 0 0) := (blk_cell BK176.out 6).trans rfl; have hcz50_7 : w46.cell? ⟨gb176, 7, none⟩ = some (.int .i64 0) := (blk_cell BK176.out 7).trans rfl; have hfz50_0 := blk_frozen BK176.out 0; have hfz50_1 := blk_frozen BK176.out 1; have hfz50_2 := blk_frozen BK176.out 2; have hfz50_3 := blk_frozen BK176.out 3; have hfz50_4 := blk_frozen BK176.out 4; have hfz50_5 := blk_frozen BK176.out 5; have hfz50_6 := blk_frozen BK176.out 6; have hfz50_7 := blk_frozen BK176.out 7; obtain ⟨Ao51, co51, eo51⟩ := Kd.R_slice HO167.out; subst eo51; obtain ⟨Ao52, co52, eo52⟩ := Kd.R_slice HO170.out; subst eo52; obtain ⟨Ao53, co53, eo53⟩ := Kd.R_slice HO173.out; subst eo53; have hcz54_0 : w46.cell? ⟨gb141, 0, none⟩ = some (.int .i64 t126) := (blk_cell BK141.out 0).trans rfl; have hcz54_1 : w46.cell? ⟨gb141, 1, none⟩ = some (.int .i64 t127) := (blk_cell BK141.out 1).trans rfl; have hcz54_2 : w46.cell? ⟨gb141, 2, none⟩ = some (.int .i64 t128) := (blk_cell BK141.out 2).trans rfl; have hcz54_3 : w46.cell? ⟨gb141, 3, none⟩ = some (.int .i64 t129) := (blk_cell BK141.out 3).trans rfl; have hcz54_4 : w46.cell? ⟨gb141, 4, none⟩ = some (.slice Ao29 t130.length co29) := (blk_cell BK141.out 4).trans rfl; have hcz54_5 : w46.cell? ⟨gb141, 5, none⟩ = some (.slice Ao30 t133.length co30) := (blk_cell BK141.out 5).trans rfl; have hcz54_6 : w46.cell? ⟨gb141, 6, none⟩ = some (.slice Ao31 t136.length co31) := (blk_cell BK141.out 6).trans rfl; have hcz54_7 : w46.cell? ⟨gb141, 7, none⟩ = some (.int .i64 t139) := (blk_cell BK141.out 7).trans rfl; have hfz54_0 := blk_frozen BK141.out 0; have hfz54_1 := blk_frozen BK141.out 1; have hfz54_2 := blk_frozen BK141.out 2; have hfz54_3 := blk_frozen BK141.out 3; have hfz54_4 := blk_frozen BK141.out 4; have hfz54_5 := blk_frozen BK141.out 5; have hfz54_6 := blk_frozen BK141.out 6; have hfz54_7 := blk_frozen BK141.out 7) | ((with_reducible refine gate_dst (N := 51) rfl ?_); (try (refine gate_guard (by rfl) ?_; dsimp only)); refine Kd.R_lit (Kd.int .i64) _ 2 ?hg (N := 51) ?hd (xs := ([5] : List Int)) (inner := [.int .i64 5]) (ok := fun _ => True) (okp := fun _ => True) ?hr ?hp (fun _ hk => hk) trivial (Below.refl _ _) (Nat.le_refl _) (by simp) ?_; (case hd => rfl); (case hg => rfl); (case hr => first | (go_simp; done) | (go_simp; rfl)); (case hp => exact (Reps.one (show Kd.M (Kd.int .i64) _ _ _ 5 [.int .i64 5] from rfl) (Reps.none _ _))); intro v178 w55 ho56 hb hg_ hnew_; clear hg_ hnew_; (first | rw [← Ny177.out] at ho56 | (simp only [Int.reduceToNat] at ho56; rw [← Ny177.out] at ho56)); have n0_ := As0 (Kd.N_elder' (by (with_reducible repeat (first | apply Kd.N_alloc | apply Kd.N_drewN | apply Kd.N_drew)); exact (Kd.N_mono (Kd.N_far (p := ⟨gb176, 7, none⟩) (Kd.N_far (p := ⟨gb176, 6, none⟩) (Kd.N_far (p := ⟨gb176, 5, none⟩) (Kd.N_far (p := ⟨gb176, 4, none⟩) (Kd.N_far (p := ⟨gb176, 3, none⟩) (Kd.N_far (p := ⟨gb176, 2, none⟩) (Kd.N_far (p := ⟨gb176, 1, none⟩) (Kd.N_far (p := ⟨gb176, 0, none⟩) (Kd.N_mono HO121.out (fun k_ hk => (⟨hk, hk.2⟩ : _ ∧ k_ ≠ gb176))) (fun _ hk => hk.2) (.int .i64 t161)) (fun _ hk => hk.2) (.int .i64 t162)) (fun _ hk => hk.2) (.int .i64 t163)) (fun _ hk => hk.2) (.int .i64 t164)) (fun _ hk => hk.2) (.slice Ao51 t165.length co51)) (fun _ hk => hk.2) (.slice Ao52 t168.length co52)) (fun _ hk => hk.2) (.slice Ao53 t171.length co53)) (fun _ hk => hk.2) (.int .i64 t174)) (fun _ h_ => h_.1))) (Kd.R_base ho56) hb); have n1_ := As0 (Kd.R_elder' (by (with_reducible repeat (first | apply Kd.R_alloc | apply Kd.R_drewN | apply Kd.R_drew)); exact (Kd.R_mono (RF gb176 7 (RF gb176 6 (RF gb176 5 (RF gb176 4 (RF gb176 3 (RF gb176 2 (RF gb176 1 (RF gb176 0 (Kd.R_types HO125.out BK176.out (by decide)) (.int .i64 t161)) (.int .i64 t162)) (.int .i64 t163)) (.int .i64 t164)) (.slice Ao51 t165.length co51)) (.slice Ao52 t168.length co52)) (.slice Ao53 t171.length co53)) (.int .i64 t174)) (fun _ h_ => h_.1))) (Kd.R_base ho56) hb); have n2_ := As0 (Kd.R_elder' (by (with_reducible repeat (first | apply Kd.R_alloc | apply Kd.R_drewN | apply Kd.R_drew)); exact (Kd.R_mono (RF gb176 7 (RF gb176 6 (RF gb176 5 (RF gb176 4 (RF gb176 3 (RF gb176 2 (RF gb176 1 (RF gb176 0 (Kd.R_types HO132.out BK176.out (by decide)) (.int .i64 t161)) (.int .i64 t162)) (.int .i64 t163)) (.int .i64 t164)) (.slice Ao51 t165.length co51)) (.slice Ao52 t168.length co52)) (.slice Ao53 t171.length co53)) (.int .i64 t174)) (fun _ h_ => h_.1))) (Kd.R_base ho56) hb); have n3_ := As0 (Kd.R_elder' (by (with_reducible repeat (first | apply Kd.R_alloc | apply Kd.R_drewN | apply Kd.R_drew)); exact (Kd.R_mono (RF gb176 7 (RF gb176 6 (RF gb176 5 (RF gb176 4 (RF gb176 3 (RF gb176 2 (RF gb176 1 (RF gb176 0 (Kd.R_types HO135.out BK176.out (by decide)) (.int .i64 t161)) (.int .i64 t162)) (.int .i64 t163)) (.int .i64 t164)) (.slice Ao51 t165.length co51)) (.slice Ao52 t168.length co52)) (.slice Ao53 t171.length co53)) (.int .i64 t174)) (fun _ h_ => h_.1))) (Kd.R_base ho56) hb); have n4_ := As0 (Kd.R_elder' (by (with_reducible repeat (first | apply Kd.R_alloc | apply Kd.R_drewN | apply Kd.R_drew)); exact (Kd.R_mono (RF gb176 7 (RF gb176 6 (RF gb176 5 (RF gb176 4 (RF gb176 3 (RF gb176 2 (RF gb176 1 (RF gb176 0 (Kd.R_types HO138.out BK176.out (by decide)) (.int .i64 t161)) (.int .i64 t162)) (.int .i64 t163)) (.int .i64 t164)) (.slice Ao51 t165.length co51)) (.slice Ao52 t168.length co52)) (.slice Ao53 t171.length co53)) (.int .i64 t174)) (fun _ h_ => h_.1))) (Kd.R_base ho56) hb); have n5_ := As0 (Kd.R_elder' (by (with_reducible repeat (first | apply Kd.R_alloc | apply Kd.R_drewN | apply Kd.R_drew)); exact (Kd.R_mono (RF gb176 7 (RF gb176 6 (RF gb176 5 (RF gb176 4 (RF gb176 3 (RF gb176 2 (RF gb176 1 (RF gb176 0 (Kd.R_types HO144.out BK176.out (by decide)) (.int .i64 t161)) (.int .i64 t162)) (.int .i64 t163)) (.int .i64 t164)) (.slice Ao51 t165.length co51)) (.slice Ao52 t168.length co52)) (.slice Ao53 t171.length co53)) (.int .i64 t174)) (fun _ h_ => h_.1))) (Kd.R_base ho56) hb); have n6_ := As0 (Kd.R_elder' (by (with_reducible repeat (first | apply Kd.R_alloc | apply Kd.R_drewN | apply Kd.R_drew)); exact (Kd.R_mono (RF gb176 7 (RF gb176 6 (RF gb176 5 (RF gb176 4 (RF gb176 3 (RF gb176 2 (RF gb176 1 (RF gb176 0 (Kd.R_types HO151.out BK176.out (by decide)) (.int .i64 t161)) (.int .i64 t162)) (.int .i64 t163)) (.int .i64 t164)) (.slice Ao51 t165.length co51)) (.slice Ao52 t168.length co52)) (.slice Ao53 t171.length co53)) (.int .i64 t174)) (fun _ h_ => h_.1))) (Kd.R_base ho56) hb); have n7_ := As0 (Kd.R_elder' (by (with_reducible repeat (first | apply Kd.R_alloc | apply Kd.R_drewN | apply Kd.R_drew)); exact (Kd.R_mono (RF gb176 7 (RF gb176 6 (RF gb176 5 (RF gb176 4 (RF gb176 3 (RF gb176 2 (RF gb176 1 (RF gb176 0 (Kd.R_types HO154.out BK176.out (by decide)) (.int .i64 t161)) (.int .i64 t162)) (.int .i64 t163)) (.int .i64 t164)) (.slice Ao51 t165.length co51)) (.slice Ao52 t168.length co52)) (.slice Ao53 t171.length co53)) (.int .i64 t174)) (fun _ h_ => h_.1))) (Kd.R_base ho56) hb); have n8_ := As0 (Kd.R_elder' (by (with_reducible repeat (first | apply Kd.R_alloc | apply Kd.R_drewN | apply Kd.R_drew)); exact (Kd.R_mono (RF gb176 7 (RF gb176 6 (RF gb176 5 (RF gb176 4 (RF gb176 3 (RF gb176 2 (RF gb176 1 (RF gb176 0 (Kd.R_types HO157.out BK176.out (by decide)) (.int .i64 t161)) (.int .i64 t162)) (.int .i64 t163)) (.int .i64 t164)) (.slice Ao51 t165.length co51)) (.slice Ao52 t168.length co52)) (.slice Ao53 t171.length co53)) (.int .i64 t174)) (fun _ h_ => h_.1))) (Kd.R_base ho56) hb); have n9_ := As0 (Kd.R_elder' (by (with_reducible repeat (first | apply Kd.R_alloc | apply Kd.R_drewN | apply Kd.R_drew)); exact (Kd.R_mono (RF gb176 7 (RF gb176 6 (RF gb176 5 (RF gb176 4 (RF gb176 3 (RF gb176 2 (RF gb176 1 (RF gb176 0 (Kd.R_types HO167.out BK176.out (by decide)) (.int .i64 t161)) (.int .i64 t162)) (.int .i64 t163)) (.int .i64 t164)) (.slice Ao51 t165.length co51)) (.slice Ao52 t168.length co52)) (.slice Ao53 t171.length co53)) (.int .i64 t174)) (fun _ h_ => h_.1))) (Kd.R_base ho56) hb); have n10_ := As0 (Kd.R_elder' (by (with_reducible repeat (first | apply Kd.R_alloc | apply Kd.R_drewN | apply Kd.R_drew)); exact (Kd.R_mono (RF gb176 7 (RF gb176 6 (RF gb176 5 (RF gb176 4 (RF gb176 3 (RF gb176 2 (RF gb176 1 (RF gb176 0 (Kd.R_types HO170.out BK176.out (by decide)) (.int .i64 t161)) (.int .i64 t162)) (.int .i64 t163)) (.int .i64 t164)) (.slice Ao51 t165.length co51)) (.slice Ao52 t168.length co52)) (.slice Ao53 t171.length co53)) (.int .i64 t174)) (fun _ h_ => h_.1))) (Kd.R_base ho56) hb); have n11_ := As0 (Kd.R_elder' (by (with_reducible repeat (first | apply Kd.R_alloc | apply Kd.R_drewN | apply Kd.R_drew)); exact (Kd.R_mono (RF gb176 7 (RF gb176 6 (RF gb176 5 (RF gb176 4 (RF gb176 3 (RF gb176 2 (RF gb176 1 (RF gb176 0 (Kd.R_types HO173.out BK176.out (by decide)) (.int .i64 t161)) (.int .i64 t162)) (.int .i64 t163)) (.int .i64 t164)) (.slice Ao51 t165.length co51)) (.slice Ao52 t168.length co52)) (.slice Ao53 t171.length co53)) (.int .i64 t174)) (fun _ h_ => h_.1))) (Kd.R_base ho56) hb); have n12_ := As0 (Kd.R_lower (Kd.R_new' (Kd.R_new' (Kd.R_new' (Kd.R_new' (Kd.R_new' (Kd.R_new' (Kd.R_new' (Kd.R_new' (Kd.R_new' (Kd.R_new' (Kd.R_new' ho56 (Kd.R_lt (by (with_reducible repeat (first | apply Kd.R_alloc | apply Kd.R_drewN | apply Kd.R_drew)); exact (Kd.R_mono (RF gb176 7 (RF gb176 6 (RF gb176 5 (RF gb176 4 (RF gb176 3 (RF gb176 2 (RF gb176 1 (RF gb176 0 (Kd.R_types HO125.out BK176.out (by decide)) (.int .i64 t161)) (.int .i64 t162)) (.int .i64 t163)) (.int .i64 t164)) (.slice Ao51 t165.length co51)) (.slice Ao52 t168.length co52)) (.slice Ao53 t171.length co53)) (.int .i64 t174)) (fun _ h_ => h_.1))))) (Kd.R_lt (by (with_reducible repeat (first | apply Kd.R_alloc | apply Kd.R_drewN | apply Kd.R_drew)); exact (Kd.R_mono (RF gb176 7 (RF gb176 6 (RF gb176 5 (RF gb176 4 (RF gb176 3 (RF gb176 2 (RF gb176 1 (RF gb176 0 (Kd.R_types HO132.out BK176.out (by decide)) (.int .i64 t161)) (.int .i64 t162)) (.int .i64 t163)) (.int .i64 t164)) (.slice Ao51 t165.length co51)) (.slice Ao52 t168.length co52)) (.slice Ao53 t171.length co53)) (.int .i64 t174)) (fun _ h_ => h_.1))))) (Kd.R_lt (by (with_reducible repeat (first | apply Kd.R_alloc | apply Kd.R_drewN | apply Kd.R_drew)); exact (Kd.R_mono (RF gb176 7 (RF gb176 6 (RF gb176 5 (RF gb176 4 (RF gb176 3 (RF gb176 2 (RF gb176 1 (RF gb176 0 (Kd.R_types HO135.out BK176.out (by decide)) (.int .i64 t161)) (.int .i64 t162)) (.int .i64 t163)) (.int .i64 t164)) (.slice Ao51 t165.length co51)) (.slice Ao52 t168.length co52)) (.slice Ao53 t171.length co53)) (.int .i64 t174)) (fun _ h_ => h_.1))))) (Kd.R_lt (by (with_reducible repeat (first | apply Kd.R_alloc | apply Kd.R_drewN | apply Kd.R_drew)); exact (Kd.R_mono (RF gb176 7 (RF gb176 6 (RF gb176 5 (RF gb176 4 (RF gb176 3 (RF gb176 2 (RF gb176 1 (RF gb176 0 (Kd.R_types HO138.out BK176.out (by decide)) (.int .i64 t161)) (.int .i64 t162)) (.int .i64 t163)) (.int .i64 t164)) (.slice Ao51 t165.length co51)) (.slice Ao52 t168.length co52)) (.slice Ao53 t171.length co53)) (.int .i64 t174)) (fun _ h_ => h_.1))))) (Kd.R_lt (by (with_reducible repeat (first | apply Kd.R_alloc | apply Kd.R_drewN | apply Kd.R_drew)); exact (Kd.R_mono (RF gb176 7 (RF gb176 6 (RF gb176 5 (RF gb176 4 (RF gb176 3 (RF gb176 2 (RF gb176 1 (RF gb176 0 (Kd.R_types HO144.out BK176.out (by decide)) (.int .i64 t161)) (.int .i64 t162)) (.int .i64 t163)) (.int .i64 t164)) (.slice Ao51 t165.length co51)) (.slice Ao52 t168.length co52)) (.slice Ao53 t171.length co53)) (.int .i64 t174)) (fun _ h_ => h_.1))))) (Kd.R_lt (by (with_reducible repeat (first | apply Kd.R_alloc | apply Kd.R_drewN | apply Kd.R_drew)); exact (Kd.R_mono (RF gb176 7 (RF gb176 6 (RF gb176 5 (RF gb176 4 (RF gb176 3 (RF gb176 2 (RF gb176 1 (RF gb176 0 (Kd.R_types HO151.out BK176.out (by decide)) (.int .i64 t161)) (.int .i64 t162)) (.int .i64 t163)) (.int .i64 t164)) (.slice Ao51 t165.length co51)) (.slice Ao52 t168.length co52)) (.slice Ao53 t171.length co53)) (.int .i64 t174)) (fun _ h_ => h_.1))))) (Kd.R_lt (by (with_reducible repeat (first | apply Kd.R_alloc | apply Kd.R_drewN | apply Kd.R_drew)); exact (Kd.R_mono (RF gb176 7 (RF gb176 6 (RF gb176 5 (RF gb176 4 (RF gb176 3 (RF gb176 2 (RF gb176 1 (RF gb176 0 (Kd.R_types HO154.out BK176.out (by decide)) (.int .i64 t161)) (.int .i64 t162)) (.int .i64 t163)) (.int .i64 t164)) (.slice Ao51 t165.length co51)) (.slice Ao52 t168.length co52)) (.slice Ao53 t171.length co53)) (.int .i64 t174)) (fun _ h_ => h_.1))))) (Kd.R_lt (by (with_reducible repeat (first | apply Kd.R_alloc | apply Kd.R_drewN | apply Kd.R_drew)); exact (Kd.R_mono (RF gb176 7 (RF gb176 6 (RF gb176 5 (RF gb176 4 (RF gb176 3 (RF gb176 2 (RF gb176 1 (RF gb176 0 (Kd.R_types HO157.out BK176.out (by decide)) (.int .i64 t161)) (.int .i64 t162)) (.int .i64 t163)) (.int .i64 t164)) (.slice Ao51 t165.length co51)) (.slice Ao52 t168.length co52)) (.slice Ao53 t171.length co53)) (.int .i64 t174)) (fun _ h_ => h_.1))))) (Kd.R_lt (by (with_reducible repeat (first | apply Kd.R_alloc | apply Kd.R_drewN | apply Kd.R_drew)); exact (Kd.R_mono (RF gb176 7 (RF gb176 6 (RF gb176 5 (RF gb176 4 (RF gb176 3 (RF gb176 2 (RF gb176 1 (RF gb176 0 (Kd.R_types HO167.out BK176.out (by decide)) (.int .i64 t161)) (.int .i64 t162)) (.int .i64 t163)) (.int .i64 t164)) (.slice Ao51 t165.length co51)) (.slice Ao52 t168.length co52)) (.slice Ao53 t171.length co53)) (.int .i64 t174)) (fun _ h_ => h_.1))))) (Kd.R_lt (by (with_reducible repeat (first | apply Kd.R_alloc | apply Kd.R_drewN | apply Kd.R_drew)); exact (Kd.R_mono (RF gb176 7 (RF gb176 6 (RF gb176 5 (RF gb176 4 (RF gb176 3 (RF gb176 2 (RF gb176 1 (RF gb176 0 (Kd.R_types HO170.out BK176.out (by decide)) (.int .i64 t161)) (.int .i64 t162)) (.int .i64 t163)) (.int .i64 t164)) (.slice Ao51 t165.length co51)) (.slice Ao52 t168.length co52)) (.slice Ao53 t171.length co53)) (.int .i64 t174)) (fun _ h_ => h_.1))))) (Kd.R_lt (by (with_reducible repeat (first | apply Kd.R_alloc | apply Kd.R_drewN | apply Kd.R_drew)); exact (Kd.R_mono (RF gb176 7 (RF gb176 6 (RF gb176 5 (RF gb176 4 (RF gb176 3 (RF gb176 2 (RF gb176 1 (RF gb176 0 (Kd.R_types HO173.out BK176.out (by decide)) (.int .i64 t161)) (.int .i64 t162)) (.int .i64 t163)) (.int .i64 t164)) (.slice Ao51 t165.length co51)) (.slice Ao52 t168.length co52)) (.slice Ao53 t171.length co53)) (.int .i64 t174)) (fun _ h_ => h_.1))))) (below_size (by repeat (first | (with_reducible first | exact HB.out | apply below_alloc | apply bdN | apply bd1 | refine below_set ?_ GE122.out | refine below_set ?_ GE141.out | refine below_set ?_ GE160.out | refine below_set ?_ GE176.out) | exact HB.out)))); have n13_ := As0 (blk_below (g := gb122) (o := .cells #[.int .i64 1, .int .i64 1, .slice Ao19 y119.length co19] 34 (0, 0)) (by (with_reducible repeat (first | refine blk_drewN ?_ _ | refine blk_drew ?_ | refine blk_alloc ?_ _)); refine blk_far ?_ NB122_176.out _; (with_reducible repeat (first | refine blk_drewN ?_ _ | refine blk_drew ?_ | refine blk_alloc ?_ _)); refine blk_far ?_ NB122_176.out _; (with_reducible repeat (first | refine blk_drewN ?_ _ | refine blk_drew ?_ | refine blk_alloc ?_ _)); refine blk_far ?_ NB122_176.out _; (with_reducible repeat (first | refine blk_drewN ?_ _ | refine blk_drew ?_ | refine blk_alloc ?_ _)); refine blk_far ?_ NB122_176.out _; (with_reducible repeat (first | refine blk_drewN ?_ _ | refine blk_drew ?_ | refine blk_alloc ?_ _)); refine blk_far ?_ NB122_176.out _; (with_reducible repeat (first | refine blk_drewN ?_ _ | refine blk_drew ?_ | refine blk_alloc ?_ _)); refine blk_far ?_ NB122_176.out _; (with_reducible repeat (first | refine blk_drewN ?_ _ | refine blk_drew ?_ | refine blk_alloc ?_ _)); refine blk_far ?_ NB122_176.out _; (with_reducible repeat (first | refine blk_drewN ?_ _ | refine blk_drew ?_ | refine blk_alloc ?_ _)); refine blk_far ?_ NB122_176.out _; (with_reducible repeat (first | refine blk_drewN ?_ _ | refine blk_drew ?_ | refine blk_alloc ?_ _)); exact BK122.out) hb); have n14_ := As0 (blk_below (g := gb141) (o := .cells #[.int .i64 t126, .int .i64 t127, .int .i64 t128, .int .i64 t129, .slice Ao29 t130.length co29, .slice Ao30 t133.length co30, .slice Ao31 t136.length co31, .int .i64 t139] 39 (0, 0)) (by (with_reducible repeat (first | refine blk_drewN ?_ _ | refine blk_drew ?_ | refine blk_alloc ?_ _)); refine blk_far ?_ NB141_176.out _; (with_reducible repeat (first | refine blk_drewN ?_ _ | refine blk_drew ?_ | refine blk_alloc ?_ _)); refine blk_far ?_ NB141_176.out _; (with_reducible repeat (first | refine blk_drewN ?_ _ | refine blk_drew ?_ | refine blk_alloc ?_ _)); refine blk_far ?_ NB141_176.out _; (with_reducible repeat (first | refine blk_drewN ?_ _ | refine blk_drew ?_ | refine blk_alloc ?_ _)); refine blk_far ?_ NB141_176.out _; (with_reducible repeat (first | refine blk_drewN ?_ _ | refine blk_drew ?_ | refine blk_alloc ?_ _)); refine blk_far ?_ NB141_176.out _; (with_reducible repeat (first | refine blk_drewN ?_ _ | refine blk_drew ?_ | refine blk_alloc ?_ _)); refine blk_far ?_ NB141_176.out _; (with_reducible repeat (first | refine blk_drewN ?_ _ | refine blk_drew ?_ | refine blk_alloc ?_ _)); refine blk_far ?_ NB141_176.out _; (with_reducible repeat (first | refine blk_drewN ?_ _ | refine blk_drew ?_ | refine blk_alloc ?_ _)); refine blk_far ?_ NB141_176.out _; (with_reducible repeat (first | refine blk_drewN ?_ _ | refine blk_drew ?_ | refine blk_alloc ?_ _)); exact BK141.out) hb); have n15_ := As0 (blk_below (g := gb160) (o := .cells #[.int .i64 t145, .int .i64 t146, .int .i64 t147, .int .i64 t148, .slice Ao41 t149.length co41, .slice Ao42 t152.length co42, .slice Ao43 t155.length co43, .int .i64 t158] 39 (0, 0)) (by (with_reducible repeat (first | refine blk_drewN ?_ _ | refine blk_drew ?_ | refine blk_alloc ?_ _)); refine blk_far ?_ NB160_176.out _; (with_reducible repeat (first | refine blk_drewN ?_ _ | refine blk_drew ?_ | refine blk_alloc ?_ _)); refine blk_far ?_ NB160_176.out _; (with_reducible repeat (first | refine blk_drewN ?_ _ | refine blk_drew ?_ | refine blk_alloc ?_ _)); refine blk_far ?_ NB160_176.out _; (with_reducible repeat (first | refine blk_drewN ?_ _ | refine blk_drew ?_ | refine blk_alloc ?_ _)); refine blk_far ?_ NB160_176.out _; (with_reducible repeat (first | refine blk_drewN ?_ _ | refine blk_drew ?_ | refine blk_alloc ?_ _)); refine blk_far ?_ NB160_176.out _; (with_reducible repeat (first | refine blk_drewN ?_ _ | refine blk_drew ?_ | refine blk_alloc ?_ _)); refine blk_far ?_ NB160_176.out _; (with_reducible repeat (first | refine blk_drewN ?_ _ | refine blk_drew ?_ | refine blk_alloc ?_ _)); refine blk_far ?_ NB160_176.out _; (with_reducible repeat (first | refine blk_drewN ?_ _ | refine blk_drew ?_ | refine blk_alloc ?_ _)); refine blk_far ?_ NB160_176.out _; (with_reducible repeat (first | refine blk_drewN ?_ _ | refine blk_drew ?_ | refine blk_alloc ?_ _)); exact BK160.out) hb); have n16_ := As0 (blk_below (g := gb176) (o := .cells #[.int .i64 t161, .int .i64 t162, .int .i64 t163, .int .i64 t164, .slice Ao51 t165.length co51, .slice Ao52 t168.length co52, .slice Ao53 t171.length co53, .int .i64 t174] 39 (0, 0)) (by (with_reducible repeat (first | refine blk_drewN ?_ _ | refine blk_drew ?_ | refine blk_alloc ?_ _)); refine blk_put (cs := #[.int .i64 t161, .int .i64 t162, .int .i64 t163, .int .i64 t164, .slice Ao51 t165.length co51, .slice Ao52 t168.length co52, .slice Ao53 t171.length co53, .int .i64 0]) ?_ 7 _ rfl; (with_reducible repeat (first | refine blk_drewN ?_ _ | refine blk_drew ?_ | refine blk_alloc ?_ _)); refine blk_put (cs := #[.int .i64 t161, .int .i64 t162, .int .i64 t163, .int .i64 t164, .slice Ao51 t165.length co51, .slice Ao52 t168.length co52, .slice none 0 0, .int .i64 0]) ?_ 6 _ rfl; (with_reducible repeat (first | refine blk_drewN ?_ _ | refine blk_drew ?_ | refine blk_alloc ?_ _)); refine blk_put (cs := #[.int .i64 t161, .int .i64 t162, .int .i64 t163, .int .i64 t164, .slice Ao51 t165.length co51, .slice none 0 0, .slice none 0 0, .int .i64 0]) ?_ 5 _ rfl; (with_reducible repeat (first | refine blk_drewN ?_ _ | refine blk_drew ?_ | refine blk_alloc ?_ _)); refine blk_put (cs := #[.int .i64 t161, .int .i64 t162, .int .i64 t163, .int .i64 t164, .slice none 0 0, .slice none 0 0, .slice none 0 0, .int .i64 0]) ?_ 4 _ rfl; (with_reducible repeat (first | refine blk_drewN ?_ _ | refine blk_drew ?_ | refine blk_alloc ?_ _)); refine blk_put (cs := #[.int .i64 t161, .int .i64 t162, .int .i64 t163, .int .i64 0, .slice none 0 0, .slice none 0 0, .slice none 0 0, .int .i64 0]) ?_ 3 _ rfl; (with_reducible repeat (first | refine blk_drewN ?_ _ | refine blk_drew ?_ | refine blk_alloc ?_ _)); refine blk_put (cs := #[.int .i64 t161, .int .i64 t162, .int .i64 0, .int .i64 0, .slice none 0 0, .slice none 0 0, .slice none 0 0, .int .i64 0]) ?_ 2 _ rfl; (with_reducible repeat (first | refine blk_drewN ?_ _ | refine blk_drew ?_ | refine blk_alloc ?_ _)); refine blk_put (cs := #[.int .i64 t161, .int .i64 0, .int .i64 0, .int .i64 0, .slice none 0 0, .slice none 0 0, .slice none 0 0, .int .i64 0]) ?_ 1 _ rfl; (with_reducible repeat (first | refine blk_drewN ?_ _ | refine blk_drew ?_ | refine blk_alloc ?_ _)); refine blk_put (cs := #[.int .i64 0, .int .i64 0, .int .i64 0, .int .i64 0, .slice none 0 0, .slice none 0 0, .slice none 0 0, .int .i64 0]) ?_ 0 _ rfl; (with_reducible repeat (first | refine blk_drewN ?_ _ | refine blk_drew ?_ | refine blk_alloc ?_ _)); exact BK176.out) hb); have n17_ := As0 (below_step (by repeat (first | (with_reducible first | exact HB.out | apply below_alloc | apply bdN | apply bd1 | refine below_set ?_ GE122.out | refine below_set ?_ GE141.out | refine below_set ?_ GE160.out | refine below_set ?_ GE176.out) | exact HB.out)) hb); clear HO121 HO125 HO132 HO135 HO138 HO144 HO151 HO154 HO157 HO167 HO170 HO173 BK122 BK141 BK160 BK176 HB; have HO121 := n0_; have HO125 := n1_; have HO132 := n2_; have HO135 := n3_; have HO138 := n4_; have HO144 := n5_; have HO151 := n6_; have HO154 := n7_; have HO157 := n8_; have HO167 := n9_; have HO170 := n10_; have HO173 := n11_; have HO179 := n12_; have BK122 := n13_; have BK141 := n14_; have BK160 := n15_; have BK176 := n16_; have HB := n17_; clear n0_ n1_ n2_ n3_ n4_ n5_ n6_ n7_ n8_ n9_ n10_ n11_ n12_ n13_ n14_ n15_ n16_ n17_ hb ho56; obtain ⟨Ao57, co57, eo57⟩ := Kd.R_slice HO179.out; subst eo57) | (go_at_call 37; (with_reducible refine (regcertref09_Values.calls k _ _ t136 _ _ y177 true _ ?side1 ?side2 ?side3 ?side4 A8.out).mono ?_); (case side1 => repeat (first | exact (Kd.R_reads' HO138.out).2.2 | (with_reducible refine Kd.C_alloc ?_ _) | (with_reducible refine Kd.C_drewN ?_ _) | (with_reducible refine Kd.C_drew ?_))); (case side2 => exact (Kd.R_reads' HO138.out).2.1); (case side3 => repeat (first | exact (Kd.R_reads' HO179.out).2.2 | (with_reducible refine Kd.C_alloc ?_ _) | (with_reducible refine Kd.C_drewN ?_ _) | (with_reducible refine Kd.C_drew ?_))); (case side4 => exact (Kd.R_reads' HO179.out).2.1); rintro e w' ⟨rfl, ⟨nd, rfl⟩⟩; have hcz58_0 : w55.cell? ⟨gb160, 0, none⟩ = some (.int .i64 t145) := (blk_cell BK160.out 0).trans rfl; have hcz58_1 : w55.cell? ⟨gb160, 1, none⟩ = some (.int .i64 t146) := (blk_cell BK160.out 1).trans rfl; have hcz58_2 : w55.cell? ⟨gb160, 2, none⟩ = some (.int .i64 t147) := (blk_cell BK160.out 2).trans rfl; have hcz58_3 : w55.cell? ⟨gb160, 3, none⟩ = some (.int .i64 t148) := (blk_cell BK160.out 3).trans rfl; have hcz58_4 : w55.cell? ⟨gb160, 4, none⟩ = some (.slice Ao41 t149.length co41) := (blk_cell BK160.out 4).trans rfl; have hcz58_5 : w55.cell? ⟨gb160, 5, none⟩ = some (.slice Ao42 t152.length co42) := (blk_cell BK160.out 5).trans rfl; have hcz58_6 : w55.cell? ⟨gb160, 6, none⟩ = some (.slice Ao43 t155.length co43) := (blk_cell BK160.out 6).trans rfl; have hcz58_7 : w55.cell? ⟨gb160, 7, none⟩ = some (.int .i64 t158) := (blk_cell BK160.out 7).trans rfl; have hfz58_0 := blk_frozen BK160.out 0; have hfz58_1 := blk_frozen BK160.out 1; have hfz58_2 := blk_frozen BK160.out 2; have hfz58_3 := blk_frozen BK160.out 3; have hfz58_4 := blk_frozen BK160.out 4; have hfz58_5 := blk_frozen BK160.out 5; have hfz58_6 := blk_frozen BK160.out 6; have hfz58_7 := blk_frozen BK160.out 7))
          go_ret
          exact ⟨by first | rfl | (simp [errW_none, errW_some] <;> rfl) | (simp [*, errW_none, errW_some] <;> rfl), by repeat (first | (with_reducible first | exact HB.out | apply below_alloc | apply bdN | apply bd1 | refine below_set ?_ GE122.out | refine below_set ?_ GE141.out | refine below_set ?_ GE160.out | refine below_set ?_ GE176.out) | exact HB.out)⟩
         ·rw [if_neg c13] at H
          exact absurd H (by simp)
        ·rw [if_neg c12] at H
         exact absurd H (by simp)
       ·rw [if_neg c11] at H
        exact absurd H (by simp)
      ·rw [if_neg c10] at H
       exact absurd H (by simp)
     ·replace c9 := Bool.eq_false_iff.mpr c9
      subst c9
      have H1 : (none) = some r := by rw [if_neg (show ¬ (false = true) by decide)] at H; exact H
      clear H
      have H := H1
      clear H1
      exact absurd H (by simp)
    ·rw [if_neg c7] at H
     exact absurd H (by simp)
   ·rw [if_neg c6] at H
    exact absurd H (by simp)
  ·rw [if_neg c5] at H
   exact absurd H (by simp)
 ·rw [if_neg c4] at H
  exact absurd H (by simp)

/-! ### regcertref07_Code: function 64 -/
def regcertref07_Code.l0 : Nat → Int → Int → Int → Int → List (S50) → Option (Int)
 | 0, _, _, _, _, _ => none
 | k + 1, x3, x4, x182000, x182001, x182002 => if x4 < (x182002.length : Int) then (if 0 ≤ x4 then (regcertref07_Code.l0 k (wrap64 (x3 + (((rd_T50 x182002 x4).f0).length : Int))) (wrap64 (x4 + 1)) x182000 x182001 x182002) else (none)) else (some x3)
def regcertref07_Code.f (k : Nat) (a0_0 : Int) (a0_1 : Int) (l0_2 : List (S50)) : Option (Int) := regcertref07_Code.l0 k 0 0 a0_0 a0_1 l0_2
theorem regcertref07_Code.mono_l : ∀ k, (∀ y0 y1 y2 y3 y4, LeO (regcertref07_Code.l0 k y0 y1 y2 y3 y4) (regcertref07_Code.l0 (k + 1) y0 y1 y2 y3 y4))
 | 0 => fun _ _ _ _ _ r h => by simp [regcertref07_Code.l0] at h
 | k + 1 => by
  have ih0 := regcertref07_Code.mono_l k
  ·intro y0 y1 y2 y3 y4
   unfold regcertref07_Code.l0
   repeat' first
   | (with_reducible exact ih0 _ _ _ _ _)
   | (with_reducible exact LeO.refl _)
   | (with_reducible exact LeO.none _)
   | (with_reducible refine LeO.ite ?_ ?_)
   | (with_reducible refine LeO.bind ?_ (fun _ => ?_))
   | exact ih0 _ _ _ _ _
   | exact LeO.none _
   | refine LeO.ite ?_ ?_
   | refine LeO.bind ?_ (fun _ => ?_)
theorem regcertref07_Code.mono : ∀ a0 a1 a2 k, LeO (regcertref07_Code.f k a0 a1 a2) (regcertref07_Code.f (k + 1) a0 a1 a2) := by
 intro a0 a1 a2 k
 have ih0 := regcertref07_Code.mono_l k
 unfold regcertref07_Code.f
 repeat' first
   | (with_reducible exact ih0 _ _ _ _ _)
   | (with_reducible exact LeO.refl _)
   | (with_reducible exact LeO.none _)
   | (with_reducible refine LeO.ite ?_ ?_)
   | (with_reducible refine LeO.bind ?_ (fun _ => ?_))
   | exact ih0 _ _ _ _ _
   | exact LeO.none _
   | refine LeO.ite ?_ ?_
   | refine LeO.bind ?_ (fun _ => ?_)
set_option maxHeartbeats 8000000 in
set_option maxRecDepth 100000 in
theorem regcertref07_Code.calls (k : Nat) (a0_0 : Int) (a0_1 : Int) (A0_2 : Option Addr) (c0_2 : Nat) (l0_2 : List (S50)) (r : Int) (w : World) (hr0_2 : Kd.C k50 w A0_2 l0_2.length l0_2) (hc0_2 : l0_2.length ≤ c0_2) (h : regcertref07_Code.f k a0_0 a0_1 l0_2 = some r) :
  Calls Try.prog 64 #[.agg #[.int .i64 a0_0, .int .i64 a0_1, .slice A0_2 l0_2.length c0_2]] w fun e w' => e = .returned (.int .i64 r) ∧ Below w.heap.size w w' := by
 have hu34 := Try.underlying34
 have HR0_2 := As0 hr0_2
 have HC0_2 := As0 hc0_2
 clear hr0_2 hc0_2
 have HB := As0 (Below.refl w.heap.size w)
 have H : (regcertref07_Code.l0 k 0 0 a0_0 a0_1 l0_2) = some r := h
 clear h
 have H' := As0 H
 clear H
 go_enter Try.func64, Try.ntmps64
 go_wp2_with (first | ((with_reducible refine gate_dst (N := 1) rfl ?_); refine box_event ?hg (N := 1) ?hd (cs := #[.int .i64 a0_0, .int .i64 a0_1, .slice A0_2 l0_2.length c0_2]) (t := 34) ?hr ?_; (case hd => rfl); (case hg => rfl); (case hr => first | (go_simp; done) | (go_simp; rfl)); intro gb181 hg w2 hbox hb; have n0_ := As0 (below_step (by repeat (first | (with_reducible first | exact HB.out | apply below_alloc | apply bdN | apply bd1) | exact HB.out)) hb); have n1_ := As0 (hbox); have n2_ := As0 ((by rw [hg]; exact (below_size (by repeat (first | (with_reducible first | exact HB.out | apply below_alloc | apply bdN | apply bd1) | exact HB.out))) : w.heap.size ≤ gb181)); have n3_ := As0 ((by rw [hg]; exact (below_size (by repeat (first | (with_reducible first | exact HB.out | apply below_alloc | apply bdN | apply bd1) | exact HB.out))) : w.heap.size ≤ gb181)); clear HB; have HB := n0_; have BK181 := n1_; have GW181 := n2_; have GE181 := n3_; clear n0_ n1_ n2_ n3_ hb hbox hg))
 go_loopg [3, 4] k (fun kq v3 v4 w' => ∃ (x3_1 : Int) (x4_1 : Int), v3 = .int .i64 x3_1 ∧ v4 = .int .i64 x4_1 ∧ Aside0 (regcertref07_Code.l0 kq x3_1 x4_1 a0_0 a0_1 l0_2 = some r) ∧ Aside0 (kq ≤ k) ∧ Aside0 (w'.heap[gb181]? = some (.cells #[.int .i64 a0_0, .int .i64 a0_1, (.slice A0_2 l0_2.length c0_2)] 34 (0, 0))) ∧ Aside0 (Below w.heap.size w w'))
 case atStart => exact ⟨(0), (0), (by first | rfl | (simp; done) | (simp [*]; done)), (by first | rfl | (simp; done) | (simp [*]; done)), H', ⟨Nat.le_refl _⟩, ⟨by (with_reducible repeat (first | refine blk_drewN ?_ _ | refine blk_drew ?_ | refine blk_alloc ?_ _)); exact BK181.out⟩, ⟨by repeat (first | (with_reducible first | exact HB.out | apply below_alloc | apply bdN | apply bd1 | refine below_set ?_ GE181.out) | exact HB.out)⟩⟩
 case round =>
  clear H'
  try clear p2
  obtain ⟨x3_1, x4_1, rfl, rfl, HA, HK1, BK181, HB⟩ := hrel
  cases gk with
  | zero => exact absurd HA.out (by simp [regcertref07_Code.l0])
  | succ k1 =>
   have H := HA.out
   clear HA
   simp only [regcertref07_Code.l0] at H
   by_cases c3 : x4_1 < (l0_2.length : Int)
   ·rw [if_pos c3] at H
    have c3b0 : decide (x4_1 < (l0_2.length : Int)) = true := decide_eq_true c3
    clear c3
    by_cases c4 : 0 ≤ x4_1
    ·rw [if_pos c4] at H
     have c4b0 : decide (0 ≤ x4_1) = true := decide_eq_true c4
     clear c4
     have H' := As0 H
     clear H
     have hcz5_0 : wr.cell? ⟨gb181, 0, none⟩ = some (.int .i64 a0_0) := (blk_cell BK181.out 0).trans rfl
     have hcz5_1 : wr.cell? ⟨gb181, 1, none⟩ = some (.int .i64 a0_1) := (blk_cell BK181.out 1).trans rfl
     have hcz5_2 : wr.cell? ⟨gb181, 2, none⟩ = some (.slice A0_2 l0_2.length c0_2) := (blk_cell BK181.out 2).trans rfl
     have hfz5_0 := blk_frozen BK181.out 0
     have hfz5_1 := blk_frozen BK181.out 1
     have hfz5_2 := blk_frozen BK181.out 2
     have p182 : 0 ≤ (x4_1 : Int) := of_decide_eq_true (by first | (with_reducible assumption) | assumption)
     have q182 : x4_1 < (l0_2.length : Int) := of_decide_eq_true (by first | (with_reducible assumption) | assumption)
     obtain ⟨ad182, A182_0, c182_0, e182, hx182_0, hx182_1, hx182_2, hx182_3, hx182_4, hl182_0, hi182_0⟩ := at_T50 HR0_2.out x4_1 p182 q182
     cases e182
     replace hx182_0 := (HB.out.cell (wblt w hx182_0)).trans hx182_0
     replace hx182_1 := (HB.out.cell (wblt w hx182_1)).trans hx182_1
     replace hx182_2 := (HB.out.cell (wblt w hx182_2)).trans hx182_2
     replace hx182_3 := (HB.out.cell (wblt w hx182_3)).trans hx182_3
     replace hx182_4 := (HB.out.cell (wblt w hx182_4)).trans hx182_4
     have HR182_0 := As0 hi182_0
     have HC182_0 := As0 hl182_0
     clear hi182_0 hl182_0
     replace p182 := eq_true p182
     replace q182 := eq_true q182
     go_wp2
     go_roundg k1
     case measure => have := HK1.out; omega
     case rel => exact ⟨(wrap64 (x3_1 + (((rd_T50 l0_2 x4_1).f0).length : Int))), (wrap64 (x4_1 + 1)), (by first | rfl | (simp; done) | (simp [*]; done)), (by first | rfl | (simp; done) | (simp [*]; done)), H', ⟨by have := HK1.out; omega⟩, ⟨by (with_reducible repeat (first | refine blk_drewN ?_ _ | refine blk_drew ?_ | refine blk_alloc ?_ _)); exact BK181.out⟩, ⟨by repeat (first | (with_reducible first | exact HB.out | apply below_alloc | apply bdN | apply bd1 | refine below_set ?_ GE181.out) | exact HB.out)⟩⟩
    ·rw [if_neg c4] at H
     exact absurd H (by simp)
   ·rw [if_neg c3] at H
    have c3b0 : decide (x4_1 < (l0_2.length : Int)) = false := decide_eq_false c3
    clear c3
    obtain rfl := Option.some.inj H
    have hcz6_0 : wr.cell? ⟨gb181, 0, none⟩ = some (.int .i64 a0_0) := (blk_cell BK181.out 0).trans rfl
    have hcz6_1 : wr.cell? ⟨gb181, 1, none⟩ = some (.int .i64 a0_1) := (blk_cell BK181.out 1).trans rfl
    have hcz6_2 : wr.cell? ⟨gb181, 2, none⟩ = some (.slice A0_2 l0_2.length c0_2) := (blk_cell BK181.out 2).trans rfl
    have hfz6_0 := blk_frozen BK181.out 0
    have hfz6_1 := blk_frozen BK181.out 1
    have hfz6_2 := blk_frozen BK181.out 2
    go_wp2
    go_ret
    exact ⟨by first | rfl | (simp [errW_none, errW_some] <;> rfl) | (simp [*, errW_none, errW_some] <;> rfl), by repeat (first | (with_reducible first | exact HB.out | apply below_alloc | apply bdN | apply bd1 | refine below_set ?_ GE181.out) | exact HB.out)⟩

/-! ### regcertref07_Few: function 35 -/
mutual
def regcertref07_Few.j0 : Nat → Bool → Int → Int → List (S50) → Option (Bool)
 | 0, _, _, _, _ => none
 | k + 1, x12, x184000, x184001, x184002 => if x12 = true then (some false) else (regcertref07_Few.l0 k 0 x184000 x184001 x184002)
def regcertref07_Few.l0 : Nat → Int → Int → Int → List (S50) → Option (Bool)
 | 0, _, _, _, _ => none
 | k + 1, x3, x184000, x184001, x184002 => if x3 < (x184002.length : Int) then (if 0 ≤ x3 then (if (((rd_T50 x184002 x3).f0).length : Int) > 100 then (some false) else (regcertref07_Few.l0 k (wrap64 (x3 + 1)) x184000 x184001 x184002)) else (none)) else ((regcertref07_Code.f k x184000 x184001 x184002).bind fun t184 => (some (decide (t184 ≤ 300))))
end
def regcertref07_Few.f (k : Nat) (a0_0 : Int) (a0_1 : Int) (l0_2 : List (S50)) : Option (Bool) := if (l0_2.length : Int) > 40 then (regcertref07_Few.j0 k true a0_0 a0_1 l0_2) else (regcertref07_Few.j0 k (decide (a0_1 > 60)) a0_0 a0_1 l0_2)
theorem regcertref07_Few.mono_l : ∀ k, (∀ y0 y1 y2 y3, LeO (regcertref07_Few.j0 k y0 y1 y2 y3) (regcertref07_Few.j0 (k + 1) y0 y1 y2 y3)) ∧ (∀ y0 y1 y2 y3, LeO (regcertref07_Few.l0 k y0 y1 y2 y3) (regcertref07_Few.l0 (k + 1) y0 y1 y2 y3))
 | 0 => ⟨fun _ _ _ _ r h => by simp [regcertref07_Few.j0] at h, fun _ _ _ _ r h => by simp [regcertref07_Few.l0] at h⟩
 | k + 1 => by
  obtain ⟨ih0, ih1⟩ := regcertref07_Few.mono_l k
  refine ⟨?_, ?_⟩
  ·intro y0 y1 y2 y3
   unfold regcertref07_Few.j0
   repeat' first
   | (with_reducible exact ih0 _ _ _ _)
   | (with_reducible exact ih1 _ _ _ _)
   | (with_reducible exact regcertref07_Code.mono _ _ _ _)
   | (with_reducible exact LeO.refl _)
   | (with_reducible exact LeO.none _)
   | (with_reducible refine LeO.ite ?_ ?_)
   | (with_reducible refine LeO.bind ?_ (fun _ => ?_))
   | exact ih0 _ _ _ _
   | exact ih1 _ _ _ _
   | exact regcertref07_Code.mono _ _ _ _
   | exact LeO.none _
   | refine LeO.ite ?_ ?_
   | refine LeO.bind ?_ (fun _ => ?_)
  ·intro y0 y1 y2 y3
   unfold regcertref07_Few.l0
   repeat' first
   | (with_reducible exact ih0 _ _ _ _)
   | (with_reducible exact ih1 _ _ _ _)
   | (with_reducible exact regcertref07_Code.mono _ _ _ _)
   | (with_reducible exact LeO.refl _)
   | (with_reducible exact LeO.none _)
   | (with_reducible refine LeO.ite ?_ ?_)
   | (with_reducible refine LeO.bind ?_ (fun _ => ?_))
   | exact ih0 _ _ _ _
   | exact ih1 _ _ _ _
   | exact regcertref07_Code.mono _ _ _ _
   | exact LeO.none _
   | refine LeO.ite ?_ ?_
   | refine LeO.bind ?_ (fun _ => ?_)
theorem regcertref07_Few.mono : ∀ a0 a1 a2 k, LeO (regcertref07_Few.f k a0 a1 a2) (regcertref07_Few.f (k + 1) a0 a1 a2) := by
 intro a0 a1 a2 k
 obtain ⟨ih0, ih1⟩ := regcertref07_Few.mono_l k
 unfold regcertref07_Few.f
 repeat' first
   | (with_reducible exact ih0 _ _ _ _)
   | (with_reducible exact ih1 _ _ _ _)
   | (with_reducible exact regcertref07_Code.mono _ _ _ _)
   | (with_reducible exact LeO.refl _)
   | (with_reducible exact LeO.none _)
   | (with_reducible refine LeO.ite ?_ ?_)
   | (with_reducible refine LeO.bind ?_ (fun _ => ?_))
   | exact ih0 _ _ _ _
   | exact ih1 _ _ _ _
   | exact regcertref07_Code.mono _ _ _ _
   | exact LeO.none _
   | refine LeO.ite ?_ ?_
   | refine LeO.bind ?_ (fun _ => ?_)
set_option maxHeartbeats 8000000 in
set_option maxRecDepth 100000 in
theorem regcertref07_Few.calls (k : Nat) (a0_0 : Int) (a0_1 : Int) (A0_2 : Option Addr) (c0_2 : Nat) (l0_2 : List (S50)) (r : Bool) (w : World) (hr0_2 : Kd.C k50 w A0_2 l0_2.length l0_2) (hc0_2 : l0_2.length ≤ c0_2) (h : regcertref07_Few.f k a0_0 a0_1 l0_2 = some r) :
  Calls Try.prog 35 #[.agg #[.int .i64 a0_0, .int .i64 a0_1, .slice A0_2 l0_2.length c0_2]] w fun e w' => e = .returned (.bool r) ∧ Below w.heap.size w w' := by
 have hu34 := Try.underlying34
 have HR0_2 := As0 hr0_2
 have HC0_2 := As0 hc0_2
 clear hr0_2 hc0_2
 have HB := As0 (Below.refl w.heap.size w)
 have H : (if (l0_2.length : Int) > 40 then (regcertref07_Few.j0 k true a0_0 a0_1 l0_2) else (regcertref07_Few.j0 k (decide (a0_1 > 60)) a0_0 a0_1 l0_2)) = some r := h
 clear h
 have HC2 := As0 H
 clear H
 go_enter Try.func35, Try.ntmps35
 go_upto_region 1 with (first | ((with_reducible refine gate_dst (N := 1) rfl ?_); refine box_event ?hg (N := 1) ?hd (cs := #[.int .i64 a0_0, .int .i64 a0_1, .slice A0_2 l0_2.length c0_2]) (t := 34) ?hr ?_; (case hd => rfl); (case hg => rfl); (case hr => first | (go_simp; done) | (go_simp; rfl)); intro gb183 hg w3 hbox hb; have n0_ := As0 (below_step (by repeat (first | (with_reducible first | exact HB.out | apply below_alloc | apply bdN | apply bd1) | exact HB.out)) hb); have n1_ := As0 (hbox); have n2_ := As0 ((by rw [hg]; exact (below_size (by repeat (first | (with_reducible first | exact HB.out | apply below_alloc | apply bdN | apply bd1) | exact HB.out))) : w.heap.size ≤ gb183)); have n3_ := As0 ((by rw [hg]; exact (below_size (by repeat (first | (with_reducible first | exact HB.out | apply below_alloc | apply bdN | apply bd1) | exact HB.out))) : w.heap.size ≤ gb183)); clear HB; have HB := n0_; have BK183 := n1_; have GW183 := n2_; have GE183 := n3_; clear n0_ n1_ n2_ n3_ hb hbox hg))
 (try simp only [Act.put, sL1, sL2, sL3])
 go_cut [12] (fun v12 wc => ∃ (kq : Nat) (x12_1 : Bool), v12 = .bool x12_1 ∧ Aside0 (regcertref07_Few.j0 kq x12_1 a0_0 a0_1 l0_2 = some r) ∧ Aside0 (kq ≤ k) ∧ Aside0 (wc.heap[gb183]? = some (.cells #[.int .i64 a0_0, .int .i64 a0_1, (.slice A0_2 l0_2.length c0_2)] 34 (0, 0))) ∧ Aside0 (Below w.heap.size w wc))
 case first =>
  have H := HC2.out
  clear HC2
  by_cases c4 : (l0_2.length : Int) > 40
  ·rw [if_pos c4] at H
   have c4b0 : decide (40 < (l0_2.length : Int)) = true := decide_eq_true c4
   have c4b1 : decide (40 < l0_2.length) = true := decide_eq_true (by omega)
   clear c4
   (first | rw [c4b0] | (simp only [i64_w, i32_w]; rw [c4b0]) | skip)
   have H' := As0 H
   clear H
   have hcz5_0 : w3.cell? ⟨gb183, 0, none⟩ = some (.int .i64 a0_0) := (blk_cell BK183.out 0).trans rfl
   have hcz5_1 : w3.cell? ⟨gb183, 1, none⟩ = some (.int .i64 a0_1) := (blk_cell BK183.out 1).trans rfl
   have hcz5_2 : w3.cell? ⟨gb183, 2, none⟩ = some (.slice A0_2 l0_2.length c0_2) := (blk_cell BK183.out 2).trans rfl
   have hfz5_0 := blk_frozen BK183.out 0
   have hfz5_1 := blk_frozen BK183.out 1
   have hfz5_2 := blk_frozen BK183.out 2
   go_wp2
   go_meet
   case rel => exact ⟨_, (true), (by first | rfl | (simp; done) | (simp [*]; done)), H', ⟨by first | omega | exact Nat.le_refl _⟩, ⟨by (with_reducible repeat (first | refine blk_drewN ?_ _ | refine blk_drew ?_ | refine blk_alloc ?_ _)); exact BK183.out⟩, ⟨by repeat (first | (with_reducible first | exact HB.out | apply below_alloc | apply bdN | apply bd1 | refine below_set ?_ GE183.out) | exact HB.out)⟩⟩
  ·rw [if_neg c4] at H
   have c4b0 : decide (40 < (l0_2.length : Int)) = false := decide_eq_false c4
   have c4b1 : decide (40 < l0_2.length) = false := decide_eq_false (by omega)
   clear c4
   (first | rw [c4b0] | (simp only [i64_w, i32_w]; rw [c4b0]) | skip)
   have H' := As0 H
   clear H
   have hcz6_0 : w3.cell? ⟨gb183, 0, none⟩ = some (.int .i64 a0_0) := (blk_cell BK183.out 0).trans rfl
   have hcz6_1 : w3.cell? ⟨gb183, 1, none⟩ = some (.int .i64 a0_1) := (blk_cell BK183.out 1).trans rfl
   have hcz6_2 : w3.cell? ⟨gb183, 2, none⟩ = some (.slice A0_2 l0_2.length c0_2) := (blk_cell BK183.out 2).trans rfl
   have hfz6_0 := blk_frozen BK183.out 0
   have hfz6_1 := blk_frozen BK183.out 1
   have hfz6_2 := blk_frozen BK183.out 2
   go_wp2
   go_meet
   case rel => exact ⟨_, (decide (a0_1 > 60)), (by first | rfl | (simp; done) | (simp [*]; done)), H', ⟨by first | omega | exact Nat.le_refl _⟩, ⟨by (with_reducible repeat (first | refine blk_drewN ?_ _ | refine blk_drew ?_ | refine blk_alloc ?_ _)); exact BK183.out⟩, ⟨by repeat (first | (with_reducible first | exact HB.out | apply below_alloc | apply bdN | apply bd1 | refine below_set ?_ GE183.out) | exact HB.out)⟩⟩
 case rest =>
  clear HC2
  try clear p2
  try clear c3
  try clear c4
  try clear c4b0
  try clear c4b1
  try clear hcz5_0
  try clear hcz5_1
  try clear hcz5_2
  try clear hcz6_0
  try clear hcz6_1
  try clear hcz6_2
  try clear hfz5_0
  try clear hfz5_1
  try clear hfz5_2
  try clear hfz6_0
  try clear hfz6_1
  try clear hfz6_2
  obtain ⟨kq, x12_1, rfl, HA, HJ1, BK183, HB⟩ := hcut
  cases kq with
  | zero => exact absurd HA.out (by simp [regcertref07_Few.j0])
  | succ kj1 =>
   have H := HA.out
   clear HA
   simp only [regcertref07_Few.j0] at H
   by_cases c7 : x12_1 = true
   ·subst c7
    have H1 : (some false) = some r := by rw [if_pos rfl] at H; exact H
    clear H
    have H := H1
    clear H1
    obtain rfl := Option.some.inj H
    go_wp2
    go_ret
    exact ⟨by first | rfl | (simp [errW_none, errW_some] <;> rfl) | (simp [*, errW_none, errW_some] <;> rfl), by repeat (first | (with_reducible first | exact HB.out | apply below_alloc | apply bdN | apply bd1 | refine below_set ?_ GE183.out) | exact HB.out)⟩
   ·replace c7 := Bool.eq_false_iff.mpr c7
    subst c7
    have H1 : (regcertref07_Few.l0 kj1 0 a0_0 a0_1 l0_2) = some r := by rw [if_neg (show ¬ (false = true) by decide)] at H; exact H
    clear H
    have H := H1
    clear H1
    have H' := As0 H
    clear H
    go_wp2
    go_loopg [3] kj1 (fun kq v3 w' => ∃ (x3_2 : Int), v3 = .int .i64 x3_2 ∧ Aside0 (regcertref07_Few.l0 kq x3_2 a0_0 a0_1 l0_2 = some r) ∧ Aside0 (kq ≤ kj1) ∧ Aside0 (w'.heap[gb183]? = some (.cells #[.int .i64 a0_0, .int .i64 a0_1, (.slice A0_2 l0_2.length c0_2)] 34 (0, 0))) ∧ Aside0 (Below w.heap.size w w'))
    case atStart => exact ⟨(0), (by first | rfl | (simp; done) | (simp [*]; done)), H', ⟨Nat.le_refl _⟩, ⟨by (with_reducible repeat (first | refine blk_drewN ?_ _ | refine blk_drew ?_ | refine blk_alloc ?_ _)); exact BK183.out⟩, ⟨by repeat (first | (with_reducible first | exact HB.out | apply below_alloc | apply bdN | apply bd1 | refine below_set ?_ GE183.out) | exact HB.out)⟩⟩
    case round =>
     clear H'
     try clear p2
     try clear c3
     try clear c4
     try clear c4b0
     try clear c4b1
     try clear c7
     try clear hcz5_0
     try clear hcz5_1
     try clear hcz5_2
     try clear hcz6_0
     try clear hcz6_1
     try clear hcz6_2
     try clear hfz5_0
     try clear hfz5_1
     try clear hfz5_2
     try clear hfz6_0
     try clear hfz6_1
     try clear hfz6_2
     try clear p2
     obtain ⟨x3_2, rfl, HA, HK2, BK183, HB⟩ := hrel
     cases gk with
     | zero => exact absurd HA.out (by simp [regcertref07_Few.l0])
     | succ k2 =>
      have H := HA.out
      clear HA
      simp only [regcertref07_Few.l0] at H
      by_cases c8 : x3_2 < (l0_2.length : Int)
      ·rw [if_pos c8] at H
       have c8b0 : decide (x3_2 < (l0_2.length : Int)) = true := decide_eq_true c8
       clear c8
       by_cases c9 : 0 ≤ x3_2
       ·rw [if_pos c9] at H
        have c9b0 : decide (0 ≤ x3_2) = true := decide_eq_true c9
        clear c9
        by_cases c10 : (((rd_T50 l0_2 x3_2).f0).length : Int) > 100
        ·rw [if_pos c10] at H
         have c10b0 : decide (100 < (((rd_T50 l0_2 x3_2).f0).length : Int)) = true := decide_eq_true c10
         have c10b1 : decide (100 < ((rd_T50 l0_2 x3_2).f0).length) = true := decide_eq_true (by omega)
         clear c10
         obtain rfl := Option.some.inj H
         have hcz11_0 : wr.cell? ⟨gb183, 0, none⟩ = some (.int .i64 a0_0) := (blk_cell BK183.out 0).trans rfl
         have hcz11_1 : wr.cell? ⟨gb183, 1, none⟩ = some (.int .i64 a0_1) := (blk_cell BK183.out 1).trans rfl
         have hcz11_2 : wr.cell? ⟨gb183, 2, none⟩ = some (.slice A0_2 l0_2.length c0_2) := (blk_cell BK183.out 2).trans rfl
         have hfz11_0 := blk_frozen BK183.out 0
         have hfz11_1 := blk_frozen BK183.out 1
         have hfz11_2 := blk_frozen BK183.out 2
         have p185 : 0 ≤ (x3_2 : Int) := of_decide_eq_true (by first | (with_reducible assumption) | assumption)
         have q185 : x3_2 < (l0_2.length : Int) := of_decide_eq_true (by first | (with_reducible assumption) | assumption)
         obtain ⟨ad185, A185_0, c185_0, e185, hx185_0, hx185_1, hx185_2, hx185_3, hx185_4, hl185_0, hi185_0⟩ := at_T50 HR0_2.out x3_2 p185 q185
         cases e185
         replace hx185_0 := (HB.out.cell (wblt w hx185_0)).trans hx185_0
         replace hx185_1 := (HB.out.cell (wblt w hx185_1)).trans hx185_1
         replace hx185_2 := (HB.out.cell (wblt w hx185_2)).trans hx185_2
         replace hx185_3 := (HB.out.cell (wblt w hx185_3)).trans hx185_3
         replace hx185_4 := (HB.out.cell (wblt w hx185_4)).trans hx185_4
         have HR185_0 := As0 hi185_0
         have HC185_0 := As0 hl185_0
         clear hi185_0 hl185_0
         replace p185 := eq_true p185
         replace q185 := eq_true q185
         go_wp2
         go_ret
         exact ⟨by first | rfl | (simp [errW_none, errW_some] <;> rfl) | (simp [*, errW_none, errW_some] <;> rfl), by repeat (first | (with_reducible first | exact HB.out | apply below_alloc | apply bdN | apply bd1 | refine below_set ?_ GE183.out) | exact HB.out)⟩
        ·rw [if_neg c10] at H
         have c10b0 : decide (100 < (((rd_T50 l0_2 x3_2).f0).length : Int)) = false := decide_eq_false c10
         have c10b1 : decide (100 < ((rd_T50 l0_2 x3_2).f0).length) = false := decide_eq_false (by omega)
         clear c10
         have H' := As0 H
         clear H
         have hcz12_0 : wr.cell? ⟨gb183, 0, none⟩ = some (.int .i64 a0_0) := (blk_cell BK183.out 0).trans rfl
         have hcz12_1 : wr.cell? ⟨gb183, 1, none⟩ = some (.int .i64 a0_1) := (blk_cell BK183.out 1).trans rfl
         have hcz12_2 : wr.cell? ⟨gb183, 2, none⟩ = some (.slice A0_2 l0_2.length c0_2) := (blk_cell BK183.out 2).trans rfl
         have hfz12_0 := blk_frozen BK183.out 0
         have hfz12_1 := blk_frozen BK183.out 1
         have hfz12_2 := blk_frozen BK183.out 2
         have p185 : 0 ≤ (x3_2 : Int) := of_decide_eq_true (by first | (with_reducible assumption) | assumption)
         have q185 : x3_2 < (l0_2.length : Int) := of_decide_eq_true (by first | (with_reducible assumption) | assumption)
         obtain ⟨ad185, A185_0, c185_0, e185, hx185_0, hx185_1, hx185_2, hx185_3, hx185_4, hl185_0, hi185_0⟩ := at_T50 HR0_2.out x3_2 p185 q185
         cases e185
         replace hx185_0 := (HB.out.cell (wblt w hx185_0)).trans hx185_0
         replace hx185_1 := (HB.out.cell (wblt w hx185_1)).trans hx185_1
         replace hx185_2 := (HB.out.cell (wblt w hx185_2)).trans hx185_2
         replace hx185_3 := (HB.out.cell (wblt w hx185_3)).trans hx185_3
         replace hx185_4 := (HB.out.cell (wblt w hx185_4)).trans hx185_4
         have HR185_0 := As0 hi185_0
         have HC185_0 := As0 hl185_0
         clear hi185_0 hl185_0
         replace p185 := eq_true p185
         replace q185 := eq_true q185
         go_wp2
         go_roundg k2
         case measure => have := HJ1.out; have := HK2.out; omega
         case rel => exact ⟨(wrap64 (x3_2 + 1)), (by first | rfl | (simp; done) | (simp [*]; done)), H', ⟨by have := HJ1.out; have := HK2.out; omega⟩, ⟨by (with_reducible repeat (first | refine blk_drewN ?_ _ | refine blk_drew ?_ | refine blk_alloc ?_ _)); exact BK183.out⟩, ⟨by repeat (first | (with_reducible first | exact HB.out | apply below_alloc | apply bdN | apply bd1 | refine below_set ?_ GE183.out) | exact HB.out)⟩⟩
       ·rw [if_neg c9] at H
        exact absurd H (by simp)
      ·rw [if_neg c8] at H
       have c8b0 : decide (x3_2 < (l0_2.length : Int)) = false := decide_eq_false c8
       clear c8
       replace H := Option.bind_eq_some_iff.mp H
       obtain ⟨t184, A130, H⟩ := H
       replace H : (some (decide (t184 ≤ 300))) = some r := H
       have A13 := As0 A130
       clear A130
       obtain rfl := Option.some.inj H
       have hcz14_0 : wr.cell? ⟨gb183, 0, none⟩ = some (.int .i64 a0_0) := (blk_cell BK183.out 0).trans rfl
       have hcz14_1 : wr.cell? ⟨gb183, 1, none⟩ = some (.int .i64 a0_1) := (blk_cell BK183.out 1).trans rfl
       have hcz14_2 : wr.cell? ⟨gb183, 2, none⟩ = some (.slice A0_2 l0_2.length c0_2) := (blk_cell BK183.out 2).trans rfl
       have hfz14_0 := blk_frozen BK183.out 0
       have hfz14_1 := blk_frozen BK183.out 1
       have hfz14_2 := blk_frozen BK183.out 2
       go_wp2_with (first | ((with_reducible refine gate_callee (f := 64) rfl ?_); refine goesL_ (some 29) rfl rfl Try.func64 (by kernel_rfl) rfl #[.agg #[.int .i64 a0_0, .int .i64 a0_1, .slice A0_2 l0_2.length c0_2]] rfl (by (try simp only [List.map_toArray, List.map_cons, List.map_nil]); first | done | rfl | (simp only [List.length_drop, List.length_take]; rfl)) ?_; (with_reducible refine (regcertref07_Code.calls k2 a0_0 a0_1 _ _ l0_2 t184 _ ?side1 ?side2 A13.out).mono ?_); (case side1 => repeat (first | exact (Kd.C_below HR0_2.out HB.out) | (with_reducible refine Kd.C_alloc ?_ _) | (with_reducible refine Kd.C_drewN ?_ _) | (with_reducible refine Kd.C_drew ?_))); (case side2 => exact HC0_2.out); rintro e w15 ⟨rfl, hb⟩; refine ⟨_, rfl, ?_⟩; have n0_ := As0 (blk_below (g := gb183) (o := .cells #[.int .i64 a0_0, .int .i64 a0_1, .slice A0_2 l0_2.length c0_2] 34 (0, 0)) (by (with_reducible repeat (first | refine blk_drewN ?_ _ | refine blk_drew ?_ | refine blk_alloc ?_ _)); exact BK183.out) hb); have n1_ := As0 (below_step (by repeat (first | (with_reducible first | exact HB.out | apply below_alloc | apply bdN | apply bd1 | refine below_set ?_ GE183.out) | exact HB.out)) hb); clear BK183 HB; have BK183 := n0_; have HB := n1_; clear n0_ n1_; (try clear hb); (try clear hb2); (try clear hk); (try clear hi)))
       go_ret
       exact ⟨by first | rfl | (simp [errW_none, errW_some] <;> rfl) | (simp [*, errW_none, errW_some] <;> rfl), by repeat (first | (with_reducible first | exact HB.out | apply below_alloc | apply bdN | apply bd1 | refine below_set ?_ GE183.out) | exact HB.out)⟩

/-! ### regcertref05_UsesA: function 24 -/
def regcertref05_UsesA.f (a0 : Int) : Option (Bool) := if a0 ≥ 2 then (some (decide (a0 ≤ 17))) else (some false)
set_option maxHeartbeats 8000000 in
set_option maxRecDepth 100000 in
theorem regcertref05_UsesA.calls (a0 : Int) (r : Bool) (w : World) (h : regcertref05_UsesA.f a0 = some r) :
  Calls Try.prog 24 #[.int .i64 a0] w fun e w' => e = .returned (.bool r) ∧ Drawn0 w w' := by
 have H : (if a0 ≥ 2 then (some (decide (a0 ≤ 17))) else (some false)) = some r := h
 clear h
 by_cases c2 : a0 ≥ 2
 ·rw [if_pos c2] at H
  have c2b0 : decide (2 ≤ a0) = true := decide_eq_true c2
  clear c2
  obtain rfl := Option.some.inj H
  go_enter Try.func24, Try.ntmps24
  go_wp2
  go_ret
  exact ⟨by first | rfl | (simp; done) | (simp [*]; done), by repeat (first | exact Drawn0.refl _ | apply Drawn0.step)⟩
 ·rw [if_neg c2] at H
  have c2b0 : decide (2 ≤ a0) = false := decide_eq_false c2
  clear c2
  obtain rfl := Option.some.inj H
  go_enter Try.func24, Try.ntmps24
  go_wp2
  go_ret
  exact ⟨by first | rfl | (simp; done) | (simp [*]; done), by repeat (first | exact Drawn0.refl _ | apply Drawn0.step)⟩

/-! ### regcertref05_UsesB: function 25 -/
def regcertref05_UsesB.f (a0 : Int) : Option (Bool) := if a0 ≥ 5 then (some (decide (a0 ≤ 16))) else (some false)
set_option maxHeartbeats 8000000 in
set_option maxRecDepth 100000 in
theorem regcertref05_UsesB.calls (a0 : Int) (r : Bool) (w : World) (h : regcertref05_UsesB.f a0 = some r) :
  Calls Try.prog 25 #[.int .i64 a0] w fun e w' => e = .returned (.bool r) ∧ Drawn0 w w' := by
 have H : (if a0 ≥ 5 then (some (decide (a0 ≤ 16))) else (some false)) = some r := h
 clear h
 by_cases c2 : a0 ≥ 5
 ·rw [if_pos c2] at H
  have c2b0 : decide (5 ≤ a0) = true := decide_eq_true c2
  clear c2
  obtain rfl := Option.some.inj H
  go_enter Try.func25, Try.ntmps25
  go_wp2
  go_ret
  exact ⟨by first | rfl | (simp; done) | (simp [*]; done), by repeat (first | exact Drawn0.refl _ | apply Drawn0.step)⟩
 ·rw [if_neg c2] at H
  have c2b0 : decide (5 ≤ a0) = false := decide_eq_false c2
  clear c2
  obtain rfl := Option.some.inj H
  go_enter Try.func25, Try.ntmps25
  go_wp2
  go_ret
  exact ⟨by first | rfl | (simp; done) | (simp [*]; done), by repeat (first | exact Drawn0.refl _ | apply Drawn0.step)⟩

/-! ### regcertref05_UsesD: function 90 -/
def regcertref05_UsesD.f (a0 : Int) : Option (Bool) := if a0 ≥ 1 then (some (decide (a0 ≤ 16))) else (some false)
set_option maxHeartbeats 8000000 in
set_option maxRecDepth 100000 in
theorem regcertref05_UsesD.calls (a0 : Int) (r : Bool) (w : World) (h : regcertref05_UsesD.f a0 = some r) :
  Calls Try.prog 90 #[.int .i64 a0] w fun e w' => e = .returned (.bool r) ∧ Drawn0 w w' := by
 have H : (if a0 ≥ 1 then (some (decide (a0 ≤ 16))) else (some false)) = some r := h
 clear h
 by_cases c2 : a0 ≥ 1
 ·rw [if_pos c2] at H
  have c2b0 : decide (1 ≤ a0) = true := decide_eq_true c2
  clear c2
  obtain rfl := Option.some.inj H
  go_enter Try.func90, Try.ntmps90
  go_wp2
  go_ret
  exact ⟨by first | rfl | (simp; done) | (simp [*]; done), by repeat (first | exact Drawn0.refl _ | apply Drawn0.step)⟩
 ·rw [if_neg c2] at H
  have c2b0 : decide (1 ≤ a0) = false := decide_eq_false c2
  clear c2
  obtain rfl := Option.some.inj H
  go_enter Try.func90, Try.ntmps90
  go_wp2
  go_ret
  exact ⟨by first | rfl | (simp; done) | (simp [*]; done), by repeat (first | exact Drawn0.refl _ | apply Drawn0.step)⟩

/-! ### regcertref07_in: function 91 -/
def regcertref07_in.f (a0 : Int) (a1 : Int) : Option (Bool) := if a0 ≥ 0 then (some (decide (a0 < a1))) else (some false)
set_option maxHeartbeats 8000000 in
set_option maxRecDepth 100000 in
theorem regcertref07_in.calls (a0 : Int) (a1 : Int) (r : Bool) (w : World) (h : regcertref07_in.f a0 a1 = some r) :
  Calls Try.prog 91 #[.int .i64 a0, .int .i64 a1] w fun e w' => e = .returned (.bool r) ∧ Drawn0 w w' := by
 have H : (if a0 ≥ 0 then (some (decide (a0 < a1))) else (some false)) = some r := h
 clear h
 by_cases c3 : a0 ≥ 0
 ·rw [if_pos c3] at H
  have c3b0 : decide (0 ≤ a0) = true := decide_eq_true c3
  clear c3
  obtain rfl := Option.some.inj H
  go_enter Try.func91, Try.ntmps91
  go_wp2
  go_ret
  exact ⟨by first | rfl | (simp; done) | (simp [*]; done), by repeat (first | exact Drawn0.refl _ | apply Drawn0.step)⟩
 ·rw [if_neg c3] at H
  have c3b0 : decide (0 ≤ a0) = false := decide_eq_false c3
  clear c3
  obtain rfl := Option.some.inj H
  go_enter Try.func91, Try.ntmps91
  go_wp2
  go_ret
  exact ⟨by first | rfl | (simp; done) | (simp [*]; done), by repeat (first | exact Drawn0.refl _ | apply Drawn0.step)⟩

-- BY HAND: function 65 (regcertref07_Instr): Derived.Test.YtgkmagfajalnhaaYIInstr

-- BY HAND: function 66 (regcertref07_Term): Derived.Test.YtgkmagfajalnhaaYIInstr

/-! ### regcertref07_Check: function 36 -/
mutual
def regcertref07_Check.j0 : Nat → Bool → Int → Int → List (S50) → Option (Int)
 | 0, _, _, _, _ => none
 | k + 1, x17, x187000, x187001, x187002 => if x17 = true then (some 9) else (if x187001 > 1048576 then (some 6) else (if (x187002.length : Int) = 0 then (some 14) else (if (x187002.length : Int) > 1048576 then (regcertref07_Check.j1 k true x187000 x187001 x187002) else ((regcertref07_Code.f k x187000 x187001 x187002).bind fun t187 => (regcertref07_Check.j1 k (decide (t187 > 1048576)) x187000 x187001 x187002)))))
def regcertref07_Check.j1 : Nat → Bool → Int → Int → List (S50) → Option (Int)
 | 0, _, _, _, _ => none
 | k + 1, x33, x187000, x187001, x187002 => if x33 = true then (some 6) else (regcertref07_Check.l0 k 0 x187000 x187001 x187002)
def regcertref07_Check.l0 : Nat → Int → Int → Int → List (S50) → Option (Int)
 | 0, _, _, _, _ => none
 | k + 1, x3, x187000, x187001, x187002 => if x3 < (x187002.length : Int) then (if 0 ≤ x3 then (regcertref07_Check.l1 k x3 0 x187000 x187001 x187002 ((rd_T50 x187002 x3).f0) ((rd_T50 x187002 x3).f1.f0) ((rd_T50 x187002 x3).f1.f1) ((rd_T50 x187002 x3).f1.f2) ((rd_T50 x187002 x3).f1.f3)) else (none)) else (some 0)
def regcertref07_Check.l1 : Nat → Int → Int → Int → Int → List (S50) → List (S97) → Int → Int → Int → Int → Option (Int)
 | 0, _, _, _, _, _, _, _, _, _, _ => none
 | k + 1, x3, x5, x187000, x187001, x187002, x190000, x190001, x190002, x190003, x190004 => if x5 < (x190000.length : Int) then (if 0 ≤ x5 then ((regcertref07_Instr.f ((rd_T97 x190000 x5).f0) ((rd_T97 x190000 x5).f1) ((rd_T97 x190000 x5).f2) ((rd_T97 x190000 x5).f3) ((rd_T97 x190000 x5).f4) x187001).bind fun t191 => (if t191 = 0 then (regcertref07_Check.l1 k x3 (wrap64 (x5 + 1)) x187000 x187001 x187002 x190000 x190001 x190002 x190003 x190004) else (some t191))) else (none)) else ((regcertref07_Term.f x190001 x190002 x190003 x190004 x187001 (x187002.length : Int)).bind fun t192 => (if t192 = 0 then (regcertref07_Check.l0 k (wrap64 (x3 + 1)) x187000 x187001 x187002) else (some t192)))
end
def regcertref07_Check.f (k : Nat) (a0_0 : Int) (a0_1 : Int) (l0_2 : List (S50)) : Option (Int) := if a0_0 < 0 then (regcertref07_Check.j0 k true a0_0 a0_1 l0_2) else (regcertref07_Check.j0 k (decide (a0_0 > a0_1)) a0_0 a0_1 l0_2)
theorem regcertref07_Check.mono_l : ∀ k, (∀ y0 y1 y2 y3, LeO (regcertref07_Check.j0 k y0 y1 y2 y3) (regcertref07_Check.j0 (k + 1) y0 y1 y2 y3)) ∧ (∀ y0 y1 y2 y3, LeO (regcertref07_Check.j1 k y0 y1 y2 y3) (regcertref07_Check.j1 (k + 1) y0 y1 y2 y3)) ∧ (∀ y0 y1 y2 y3, LeO (regcertref07_Check.l0 k y0 y1 y2 y3) (regcertref07_Check.l0 (k + 1) y0 y1 y2 y3)) ∧ (∀ y0 y1 y2 y3 y4 y5 y6 y7 y8 y9, LeO (regcertref07_Check.l1 k y0 y1 y2 y3 y4 y5 y6 y7 y8 y9) (regcertref07_Check.l1 (k + 1) y0 y1 y2 y3 y4 y5 y6 y7 y8 y9))
 | 0 => ⟨fun _ _ _ _ r h => by simp [regcertref07_Check.j0] at h, fun _ _ _ _ r h => by simp [regcertref07_Check.j1] at h, fun _ _ _ _ r h => by simp [regcertref07_Check.l0] at h, fun _ _ _ _ _ _ _ _ _ _ r h => by simp [regcertref07_Check.l1] at h⟩
 | k + 1 => by
  obtain ⟨ih0, ih1, ih2, ih3⟩ := regcertref07_Check.mono_l k
  refine ⟨?_, ?_, ?_, ?_⟩
  ·intro y0 y1 y2 y3
   unfold regcertref07_Check.j0
   repeat' first
   | (with_reducible exact ih0 _ _ _ _)
   | (with_reducible exact ih1 _ _ _ _)
   | (with_reducible exact ih2 _ _ _ _)
   | (with_reducible exact ih3 _ _ _ _ _ _ _ _ _ _)
   | (with_reducible exact regcertref07_Code.mono _ _ _ _)
   | (with_reducible exact LeO.refl _)
   | (with_reducible exact LeO.none _)
   | (with_reducible refine LeO.ite ?_ ?_)
   | (with_reducible refine LeO.bind ?_ (fun _ => ?_))
   | exact ih0 _ _ _ _
   | exact ih1 _ _ _ _
   | exact ih2 _ _ _ _
   | exact ih3 _ _ _ _ _ _ _ _ _ _
   | exact regcertref07_Code.mono _ _ _ _
   | exact LeO.none _
   | refine LeO.ite ?_ ?_
   | refine LeO.bind ?_ (fun _ => ?_)
  ·intro y0 y1 y2 y3
   unfold regcertref07_Check.j1
   repeat' first
   | (with_reducible exact ih0 _ _ _ _)
   | (with_reducible exact ih1 _ _ _ _)
   | (with_reducible exact ih2 _ _ _ _)
   | (with_reducible exact ih3 _ _ _ _ _ _ _ _ _ _)
   | (with_reducible exact regcertref07_Code.mono _ _ _ _)
   | (with_reducible exact LeO.refl _)
   | (with_reducible exact LeO.none _)
   | (with_reducible refine LeO.ite ?_ ?_)
   | (with_reducible refine LeO.bind ?_ (fun _ => ?_))
   | exact ih0 _ _ _ _
   | exact ih1 _ _ _ _
   | exact ih2 _ _ _ _
   | exact ih3 _ _ _ _ _ _ _ _ _ _
   | exact regcertref07_Code.mono _ _ _ _
   | exact LeO.none _
   | refine LeO.ite ?_ ?_
   | refine LeO.bind ?_ (fun _ => ?_)
  ·intro y0 y1 y2 y3
   unfold regcertref07_Check.l0
   repeat' first
   | (with_reducible exact ih0 _ _ _ _)
   | (with_reducible exact ih1 _ _ _ _)
   | (with_reducible exact ih2 _ _ _ _)
   | (with_reducible exact ih3 _ _ _ _ _ _ _ _ _ _)
   | (with_reducible exact regcertref07_Code.mono _ _ _ _)
   | (with_reducible exact LeO.refl _)
   | (with_reducible exact LeO.none _)
   | (with_reducible refine LeO.ite ?_ ?_)
   | (with_reducible refine LeO.bind ?_ (fun _ => ?_))
   | exact ih0 _ _ _ _
   | exact ih1 _ _ _ _
   | exact ih2 _ _ _ _
   | exact ih3 _ _ _ _ _ _ _ _ _ _
   | exact regcertref07_Code.mono _ _ _ _
   | exact LeO.none _
   | refine LeO.ite ?_ ?_
   | refine LeO.bind ?_ (fun _ => ?_)
  ·intro y0 y1 y2 y3 y4 y5 y6 y7 y8 y9
   unfold regcertref07_Check.l1
   repeat' first
   | (with_reducible exact ih0 _ _ _ _)
   | (with_reducible exact ih1 _ _ _ _)
   | (with_reducible exact ih2 _ _ _ _)
   | (with_reducible exact ih3 _ _ _ _ _ _ _ _ _ _)
   | (with_reducible exact regcertref07_Code.mono _ _ _ _)
   | (with_reducible exact LeO.refl _)
   | (with_reducible exact LeO.none _)
   | (with_reducible refine LeO.ite ?_ ?_)
   | (with_reducible refine LeO.bind ?_ (fun _ => ?_))
   | exact ih0 _ _ _ _
   | exact ih1 _ _ _ _
   | exact ih2 _ _ _ _
   | exact ih3 _ _ _ _ _ _ _ _ _ _
   | exact regcertref07_Code.mono _ _ _ _
   | exact LeO.none _
   | refine LeO.ite ?_ ?_
   | refine LeO.bind ?_ (fun _ => ?_)
theorem regcertref07_Check.mono : ∀ a0 a1 a2 k, LeO (regcertref07_Check.f k a0 a1 a2) (regcertref07_Check.f (k + 1) a0 a1 a2) := by
 intro a0 a1 a2 k
 obtain ⟨ih0, ih1, ih2, ih3⟩ := regcertref07_Check.mono_l k
 unfold regcertref07_Check.f
 repeat' first
   | (with_reducible exact ih0 _ _ _ _)
   | (with_reducible exact ih1 _ _ _ _)
   | (with_reducible exact ih2 _ _ _ _)
   | (with_reducible exact ih3 _ _ _ _ _ _ _ _ _ _)
   | (with_reducible exact regcertref07_Code.mono _ _ _ _)
   | (with_reducible exact LeO.refl _)
   | (with_reducible exact LeO.none _)
   | (with_reducible refine LeO.ite ?_ ?_)
   | (with_reducible refine LeO.bind ?_ (fun _ => ?_))
   | exact ih0 _ _ _ _
   | exact ih1 _ _ _ _
   | exact ih2 _ _ _ _
   | exact ih3 _ _ _ _ _ _ _ _ _ _
   | exact regcertref07_Code.mono _ _ _ _
   | exact LeO.none _
   | refine LeO.ite ?_ ?_
   | refine LeO.bind ?_ (fun _ => ?_)
def regcertref07_Check.T16 : Bool × List (List Nat × List Nat) := (true, [([], []), ([0], [0]), ([], []), ([1, 2], [1, 2]), ([3], [3]), ([], []), ([5], [5]), ([4, 6], [4, 6]), ([7, 7, 0, 1, 2, 3, 4, 5, 6, 7], [7])])
def regcertref07_Check.B16 : List Nat := [0, 1, 0, 7, 15, 0, 32, 127, 255]
theorem regcertref07_Check.tab16 : rtab .any (opsOf Try.f36 16) = regcertref07_Check.T16 := by kernel_rfl
theorem regcertref07_Check.bits16 : waitsOk regcertref07_Check.T16.2 regcertref07_Check.B16 = true := by kernel_rfl
set_option maxHeartbeats 8000000 in
set_option maxRecDepth 100000 in
theorem regcertref07_Check.calls (k : Nat) (a0_0 : Int) (a0_1 : Int) (A0_2 : Option Addr) (c0_2 : Nat) (l0_2 : List (S50)) (r : Int) (w : World) (hr0_2 : Kd.C k50 w A0_2 l0_2.length l0_2) (hc0_2 : l0_2.length ≤ c0_2) (h : regcertref07_Check.f k a0_0 a0_1 l0_2 = some r) :
  Calls Try.prog 36 #[.agg #[.int .i64 a0_0, .int .i64 a0_1, .slice A0_2 l0_2.length c0_2]] w fun e w' => e = .returned (.int .i64 r) ∧ Below w.heap.size w w' := by
 have hu34 := Try.underlying34
 have hu50 := Try.underlying50
 have hu97 := Try.underlying97
 have hu48 := Try.underlying48
 have HR0_2 := As0 hr0_2
 have HC0_2 := As0 hc0_2
 clear hr0_2 hc0_2
 have HB := As0 (Below.refl w.heap.size w)
 have H : (if a0_0 < 0 then (regcertref07_Check.j0 k true a0_0 a0_1 l0_2) else (regcertref07_Check.j0 k (decide (a0_0 > a0_1)) a0_0 a0_1 l0_2)) = some r := h
 clear h
 have HC2 := As0 H
 clear H
 go_enter Try.func36, Try.ntmps36
 go_upto_region 1 with (first | ((with_reducible refine gate_dst (N := 1) rfl ?_); refine box_event ?hg (N := 1) ?hd (cs := #[.int .i64 a0_0, .int .i64 a0_1, .slice A0_2 l0_2.length c0_2]) (t := 34) ?hr ?_; (case hd => rfl); (case hg => rfl); (case hr => first | (go_simp; done) | (go_simp; rfl)); intro gb186 hg w3 hbox hb; have n0_ := As0 (below_step (by repeat (first | (with_reducible first | exact HB.out | apply below_alloc | apply bdN | apply bd1) | exact HB.out)) hb); have n1_ := As0 (hbox); have n2_ := As0 ((by rw [hg]; exact (below_size (by repeat (first | (with_reducible first | exact HB.out | apply below_alloc | apply bdN | apply bd1) | exact HB.out))) : w.heap.size ≤ gb186)); have n3_ := As0 ((by rw [hg]; exact (below_size (by repeat (first | (with_reducible first | exact HB.out | apply below_alloc | apply bdN | apply bd1) | exact HB.out))) : w.heap.size ≤ gb186)); clear HB; have HB := n0_; have BK186 := n1_; have GW186 := n2_; have GE186 := n3_; clear n0_ n1_ n2_ n3_ hb hbox hg))
 (try simp only [Act.put, sL1, sL2, sL3])
 go_cut [17] (fun v17 wc => ∃ (kq : Nat) (x17_1 : Bool), v17 = .bool x17_1 ∧ Aside0 (regcertref07_Check.j0 kq x17_1 a0_0 a0_1 l0_2 = some r) ∧ Aside0 (kq ≤ k) ∧ Aside0 (wc.heap[gb186]? = some (.cells #[.int .i64 a0_0, .int .i64 a0_1, (.slice A0_2 l0_2.length c0_2)] 34 (0, 0))) ∧ Aside0 (Below w.heap.size w wc))
 case first =>
  have H := HC2.out
  clear HC2
  by_cases c4 : a0_0 < 0
  ·rw [if_pos c4] at H
   have c4b0 : decide (a0_0 < 0) = true := decide_eq_true c4
   clear c4
   (first | rw [c4b0] | (simp only [i64_w, i32_w]; rw [c4b0]) | skip)
   have H' := As0 H
   clear H
   have hcz5_0 : w3.cell? ⟨gb186, 0, none⟩ = some (.int .i64 a0_0) := (blk_cell BK186.out 0).trans rfl
   have hcz5_1 : w3.cell? ⟨gb186, 1, none⟩ = some (.int .i64 a0_1) := (blk_cell BK186.out 1).trans rfl
   have hcz5_2 : w3.cell? ⟨gb186, 2, none⟩ = some (.slice A0_2 l0_2.length c0_2) := (blk_cell BK186.out 2).trans rfl
   have hfz5_0 := blk_frozen BK186.out 0
   have hfz5_1 := blk_frozen BK186.out 1
   have hfz5_2 := blk_frozen BK186.out 2
   go_wp2
   go_meet
   case rel => exact ⟨_, (true), (by first | rfl | (simp; done) | (simp [*]; done)), H', ⟨by first | omega | exact Nat.le_refl _⟩, ⟨by (with_reducible repeat (first | refine blk_drewN ?_ _ | refine blk_drew ?_ | refine blk_alloc ?_ _)); exact BK186.out⟩, ⟨by repeat (first | (with_reducible first | exact HB.out | apply below_alloc | apply bdN | apply bd1 | refine below_set ?_ GE186.out) | exact HB.out)⟩⟩
  ·rw [if_neg c4] at H
   have c4b0 : decide (a0_0 < 0) = false := decide_eq_false c4
   clear c4
   (first | rw [c4b0] | (simp only [i64_w, i32_w]; rw [c4b0]) | skip)
   have H' := As0 H
   clear H
   have hcz6_0 : w3.cell? ⟨gb186, 0, none⟩ = some (.int .i64 a0_0) := (blk_cell BK186.out 0).trans rfl
   have hcz6_1 : w3.cell? ⟨gb186, 1, none⟩ = some (.int .i64 a0_1) := (blk_cell BK186.out 1).trans rfl
   have hcz6_2 : w3.cell? ⟨gb186, 2, none⟩ = some (.slice A0_2 l0_2.length c0_2) := (blk_cell BK186.out 2).trans rfl
   have hfz6_0 := blk_frozen BK186.out 0
   have hfz6_1 := blk_frozen BK186.out 1
   have hfz6_2 := blk_frozen BK186.out 2
   go_wp2
   go_meet
   case rel => exact ⟨_, (decide (a0_0 > a0_1)), (by first | rfl | (simp; done) | (simp [*]; done)), H', ⟨by first | omega | exact Nat.le_refl _⟩, ⟨by (with_reducible repeat (first | refine blk_drewN ?_ _ | refine blk_drew ?_ | refine blk_alloc ?_ _)); exact BK186.out⟩, ⟨by repeat (first | (with_reducible first | exact HB.out | apply below_alloc | apply bdN | apply bd1 | refine below_set ?_ GE186.out) | exact HB.out)⟩⟩
 case rest =>
  clear HC2
  try clear p2
  try clear c3
  try clear c4
  try clear c4b0
  try clear hcz5_0
  try clear hcz5_1
  try clear hcz5_2
  try clear hcz6_0
  try clear hcz6_1
  try clear hcz6_2
  try clear hfz5_0
  try clear hfz5_1
  try clear hfz5_2
  try clear hfz6_0
  try clear hfz6_1
  try clear hfz6_2
  obtain ⟨kq, x17_1, rfl, HA, HJ1, BK186, HB⟩ := hcut
  cases kq with
  | zero => exact absurd HA.out (by simp [regcertref07_Check.j0])
  | succ kj1 =>
   have H := HA.out
   clear HA
   simp only [regcertref07_Check.j0] at H
   by_cases c7 : x17_1 = true
   ·subst c7
    have H1 : (some 9) = some r := by rw [if_pos rfl] at H; exact H
    clear H
    have H := H1
    clear H1
    obtain rfl := Option.some.inj H
    go_wp2
    go_ret
    exact ⟨by first | rfl | (simp [errW_none, errW_some] <;> rfl) | (simp [*, errW_none, errW_some] <;> rfl), by repeat (first | (with_reducible first | exact HB.out | apply below_alloc | apply bdN | apply bd1 | refine below_set ?_ GE186.out) | exact HB.out)⟩
   ·replace c7 := Bool.eq_false_iff.mpr c7
    subst c7
    have H1 : (if a0_1 > 1048576 then (some 6) else (if (l0_2.length : Int) = 0 then (some 14) else (if (l0_2.length : Int) > 1048576 then (regcertref07_Check.j1 kj1 true a0_0 a0_1 l0_2) else ((regcertref07_Code.f kj1 a0_0 a0_1 l0_2).bind fun t187 => (regcertref07_Check.j1 kj1 (decide (t187 > 1048576)) a0_0 a0_1 l0_2))))) = some r := by rw [if_neg (show ¬ (false = true) by decide)] at H; exact H
    clear H
    have H := H1
    clear H1
    by_cases c8 : a0_1 > 1048576
    ·rw [if_pos c8] at H
     have c8b0 : decide (1048576 < a0_1) = true := decide_eq_true c8
     clear c8
     obtain rfl := Option.some.inj H
     have hcz9_0 : wc.cell? ⟨gb186, 0, none⟩ = some (.int .i64 a0_0) := (blk_cell BK186.out 0).trans rfl
     have hcz9_1 : wc.cell? ⟨gb186, 1, none⟩ = some (.int .i64 a0_1) := (blk_cell BK186.out 1).trans rfl
     have hcz9_2 : wc.cell? ⟨gb186, 2, none⟩ = some (.slice A0_2 l0_2.length c0_2) := (blk_cell BK186.out 2).trans rfl
     have hfz9_0 := blk_frozen BK186.out 0
     have hfz9_1 := blk_frozen BK186.out 1
     have hfz9_2 := blk_frozen BK186.out 2
     go_wp2
     go_ret
     exact ⟨by first | rfl | (simp [errW_none, errW_some] <;> rfl) | (simp [*, errW_none, errW_some] <;> rfl), by repeat (first | (with_reducible first | exact HB.out | apply below_alloc | apply bdN | apply bd1 | refine below_set ?_ GE186.out) | exact HB.out)⟩
    ·rw [if_neg c8] at H
     have c8b0 : decide (1048576 < a0_1) = false := decide_eq_false c8
     clear c8
     by_cases c10 : (l0_2.length : Int) = 0
     ·rw [if_pos c10] at H
      have c10b0 : ((l0_2.length : Int) == 0) = true := beq_iff_eq.mpr c10
      have c10b1 : ((l0_2.length : Int) != 0) = false := bne_eq_false_iff_eq.mpr c10
      clear c10
      obtain rfl := Option.some.inj H
      have hcz11_0 : wc.cell? ⟨gb186, 0, none⟩ = some (.int .i64 a0_0) := (blk_cell BK186.out 0).trans rfl
      have hcz11_1 : wc.cell? ⟨gb186, 1, none⟩ = some (.int .i64 a0_1) := (blk_cell BK186.out 1).trans rfl
      have hcz11_2 : wc.cell? ⟨gb186, 2, none⟩ = some (.slice A0_2 l0_2.length c0_2) := (blk_cell BK186.out 2).trans rfl
      have hfz11_0 := blk_frozen BK186.out 0
      have hfz11_1 := blk_frozen BK186.out 1
      have hfz11_2 := blk_frozen BK186.out 2
      go_wp2
      go_ret
      exact ⟨by first | rfl | (simp [errW_none, errW_some] <;> rfl) | (simp [*, errW_none, errW_some] <;> rfl), by repeat (first | (with_reducible first | exact HB.out | apply below_alloc | apply bdN | apply bd1 | refine below_set ?_ GE186.out) | exact HB.out)⟩
     ·rw [if_neg c10] at H
      have c10b0 : ((l0_2.length : Int) == 0) = false := beq_eq_false_iff_ne.mpr c10
      have c10b1 : ((l0_2.length : Int) != 0) = true := bne_iff_ne.mpr c10
      have c10b2 : ¬ (l0_2 = []) := fun h_ => c10 (by rw [h_]; rfl)
      have HC12 := As0 H
      clear H
      have hcz13_0 : wc.cell? ⟨gb186, 0, none⟩ = some (.int .i64 a0_0) := (blk_cell BK186.out 0).trans rfl
      have hcz13_1 : wc.cell? ⟨gb186, 1, none⟩ = some (.int .i64 a0_1) := (blk_cell BK186.out 1).trans rfl
      have hcz13_2 : wc.cell? ⟨gb186, 2, none⟩ = some (.slice A0_2 l0_2.length c0_2) := (blk_cell BK186.out 2).trans rfl
      have hfz13_0 := blk_frozen BK186.out 0
      have hfz13_1 := blk_frozen BK186.out 1
      have hfz13_2 := blk_frozen BK186.out 2
      go_upto_region 7 with (fail)
      go_cut [33] (fun v33 wc => ∃ (kq : Nat) (x33_11 : Bool), v33 = .bool x33_11 ∧ Aside0 (regcertref07_Check.j1 kq x33_11 a0_0 a0_1 l0_2 = some r) ∧ Aside0 (kq ≤ kj1) ∧ Aside0 (wc.heap[gb186]? = some (.cells #[.int .i64 a0_0, .int .i64 a0_1, (.slice A0_2 l0_2.length c0_2)] 34 (0, 0))) ∧ Aside0 (Below w.heap.size w wc))
      case first =>
       have H := HC12.out
       clear HC12
       by_cases c14 : (l0_2.length : Int) > 1048576
       ·rw [if_pos c14] at H
        have c14b0 : decide (1048576 < (l0_2.length : Int)) = true := decide_eq_true c14
        have c14b1 : decide (1048576 < l0_2.length) = true := decide_eq_true (by omega)
        clear c14
        (first | rw [c14b0] | (simp only [i64_w, i32_w]; rw [c14b0]) | skip)
        have H' := As0 H
        clear H
        have hcz15_0 : wc.cell? ⟨gb186, 0, none⟩ = some (.int .i64 a0_0) := (blk_cell BK186.out 0).trans rfl
        have hcz15_1 : wc.cell? ⟨gb186, 1, none⟩ = some (.int .i64 a0_1) := (blk_cell BK186.out 1).trans rfl
        have hcz15_2 : wc.cell? ⟨gb186, 2, none⟩ = some (.slice A0_2 l0_2.length c0_2) := (blk_cell BK186.out 2).trans rfl
        have hfz15_0 := blk_frozen BK186.out 0
        have hfz15_1 := blk_frozen BK186.out 1
        have hfz15_2 := blk_frozen BK186.out 2
        go_wp2
        go_meet
        case rel => exact ⟨_, (true), (by first | rfl | (simp; done) | (simp [*]; done)), H', ⟨by have := HJ1.out; first | omega | exact Nat.le_refl _⟩, ⟨by (with_reducible repeat (first | refine blk_drewN ?_ _ | refine blk_drew ?_ | refine blk_alloc ?_ _)); exact BK186.out⟩, ⟨by repeat (first | (with_reducible first | exact HB.out | apply below_alloc | apply bdN | apply bd1 | refine below_set ?_ GE186.out) | exact HB.out)⟩⟩
       ·rw [if_neg c14] at H
        have c14b0 : decide (1048576 < (l0_2.length : Int)) = false := decide_eq_false c14
        have c14b1 : decide (1048576 < l0_2.length) = false := decide_eq_false (by omega)
        clear c14
        (first | rw [c14b0] | (simp only [i64_w, i32_w]; rw [c14b0]) | skip)
        replace H := Option.bind_eq_some_iff.mp H
        obtain ⟨t187, A160, H⟩ := H
        replace H : (regcertref07_Check.j1 kj1 (decide (t187 > 1048576)) a0_0 a0_1 l0_2) = some r := H
        have A16 := As0 A160
        clear A160
        have H' := As0 H
        clear H
        have hcz17_0 : wc.cell? ⟨gb186, 0, none⟩ = some (.int .i64 a0_0) := (blk_cell BK186.out 0).trans rfl
        have hcz17_1 : wc.cell? ⟨gb186, 1, none⟩ = some (.int .i64 a0_1) := (blk_cell BK186.out 1).trans rfl
        have hcz17_2 : wc.cell? ⟨gb186, 2, none⟩ = some (.slice A0_2 l0_2.length c0_2) := (blk_cell BK186.out 2).trans rfl
        have hfz17_0 := blk_frozen BK186.out 0
        have hfz17_1 := blk_frozen BK186.out 1
        have hfz17_2 := blk_frozen BK186.out 2
        go_wp2_with (first | (go_at_call 64; (with_reducible refine (regcertref07_Code.calls kj1 a0_0 a0_1 _ _ l0_2 t187 _ ?side1 ?side2 A16.out).mono ?_); (case side1 => repeat (first | exact (Kd.C_below HR0_2.out HB.out) | (with_reducible refine Kd.C_alloc ?_ _) | (with_reducible refine Kd.C_drewN ?_ _) | (with_reducible refine Kd.C_drew ?_))); (case side2 => exact HC0_2.out); rintro e w18 ⟨rfl, hb⟩; have n0_ := As0 (blk_below (g := gb186) (o := .cells #[.int .i64 a0_0, .int .i64 a0_1, .slice A0_2 l0_2.length c0_2] 34 (0, 0)) (by (with_reducible repeat (first | refine blk_drewN ?_ _ | refine blk_drew ?_ | refine blk_alloc ?_ _)); exact BK186.out) hb); have n1_ := As0 (below_step (by repeat (first | (with_reducible first | exact HB.out | apply below_alloc | apply bdN | apply bd1 | refine below_set ?_ GE186.out) | exact HB.out)) hb); clear BK186 HB; have BK186 := n0_; have HB := n1_; clear n0_ n1_; (try clear hb); (try clear hb2); (try clear hk); (try clear hi)))
        go_meet
        case rel => exact ⟨_, (decide (t187 > 1048576)), (by first | rfl | (simp; done) | (simp [*]; done)), H', ⟨by have := HJ1.out; first | omega | exact Nat.le_refl _⟩, ⟨by (with_reducible repeat (first | refine blk_drewN ?_ _ | refine blk_drew ?_ | refine blk_alloc ?_ _)); exact BK186.out⟩, ⟨by repeat (first | (with_reducible first | exact HB.out | apply below_alloc | apply bdN | apply bd1 | refine below_set ?_ GE186.out) | exact HB.out)⟩⟩
      case rest =>
       clear HC12
       try clear c1
       try clear p2
       try clear c3
       try clear c4
       try clear c4b0
       try clear c7
       try clear c8
       try clear c8b0
       try clear c10
       try clear c10b0
       try clear c10b1
       try clear c10b2
       try clear c14
       try clear c14b0
       try clear c14b1
       try clear hcz11_0
       try clear hcz11_1
       try clear hcz11_2
       try clear hcz13_0
       try clear hcz13_1
       try clear hcz13_2
       try clear hcz15_0
       try clear hcz15_1
       try clear hcz15_2
       try clear hcz17_0
       try clear hcz17_1
       try clear hcz17_2
       try clear hcz5_0
       try clear hcz5_1
       try clear hcz5_2
       try clear hcz6_0
       try clear hcz6_1
       try clear hcz6_2
       try clear hcz9_0
       try clear hcz9_1
       try clear hcz9_2
       try clear hfz11_0
       try clear hfz11_1
       try clear hfz11_2
       try clear hfz13_0
       try clear hfz13_1
       try clear hfz13_2
       try clear hfz15_0
       try clear hfz15_1
       try clear hfz15_2
       try clear hfz17_0
       try clear hfz17_1
       try clear hfz17_2
       try clear hfz5_0
       try clear hfz5_1
       try clear hfz5_2
       try clear hfz6_0
       try clear hfz6_1
       try clear hfz6_2
       try clear hfz9_0
       try clear hfz9_1
       try clear hfz9_2
       try clear p2
       obtain ⟨kq, x33_11, rfl, HA, HJ11, BK186, HB⟩ := hcut
       cases kq with
       | zero => exact absurd HA.out (by simp [regcertref07_Check.j1])
       | succ kj11 =>
        have H := HA.out
        clear HA
        simp only [regcertref07_Check.j1] at H
        by_cases c19 : x33_11 = true
        ·subst c19
         have H1 : (some 6) = some r := by rw [if_pos rfl] at H; exact H
         clear H
         have H := H1
         clear H1
         obtain rfl := Option.some.inj H
         go_wp2
         go_ret
         exact ⟨by first | rfl | (simp [errW_none, errW_some] <;> rfl) | (simp [*, errW_none, errW_some] <;> rfl), by repeat (first | (with_reducible first | exact HB.out | apply below_alloc | apply bdN | apply bd1 | refine below_set ?_ GE186.out) | exact HB.out)⟩
        ·replace c19 := Bool.eq_false_iff.mpr c19
         subst c19
         have H1 : (regcertref07_Check.l0 kj11 0 a0_0 a0_1 l0_2) = some r := by rw [if_neg (show ¬ (false = true) by decide)] at H; exact H
         clear H
         have H := H1
         clear H1
         have H' := As0 H
         clear H
         go_wp2
         go_loopg [3] kj11 (fun kq v3 w' => ∃ (x3_3 : Int), v3 = .int .i64 x3_3 ∧ Aside0 (regcertref07_Check.l0 kq x3_3 a0_0 a0_1 l0_2 = some r) ∧ Aside0 (kq ≤ kj11) ∧ Aside0 (w'.heap[gb186]? = some (.cells #[.int .i64 a0_0, .int .i64 a0_1, (.slice A0_2 l0_2.length c0_2)] 34 (0, 0))) ∧ Aside0 (Below w.heap.size w w'))
         case atStart => exact ⟨(0), (by first | rfl | (simp; done) | (simp [*]; done)), H', ⟨Nat.le_refl _⟩, ⟨by (with_reducible repeat (first | refine blk_drewN ?_ _ | refine blk_drew ?_ | refine blk_alloc ?_ _)); exact BK186.out⟩, ⟨by repeat (first | (with_reducible first | exact HB.out | apply below_alloc | apply bdN | apply bd1 | refine below_set ?_ GE186.out) | exact HB.out)⟩⟩
         case round =>
          clear H'
          try clear c1
          try clear p2
          try clear c3
          try clear c4
          try clear c4b0
          try clear c7
          try clear c8
          try clear c8b0
          try clear c10
          try clear c10b0
          try clear c10b1
          try clear c10b2
          try clear c14
          try clear c14b0
          try clear c14b1
          try clear c19
          try clear hcz11_0
          try clear hcz11_1
          try clear hcz11_2
          try clear hcz13_0
          try clear hcz13_1
          try clear hcz13_2
          try clear hcz15_0
          try clear hcz15_1
          try clear hcz15_2
          try clear hcz17_0
          try clear hcz17_1
          try clear hcz17_2
          try clear hcz5_0
          try clear hcz5_1
          try clear hcz5_2
          try clear hcz6_0
          try clear hcz6_1
          try clear hcz6_2
          try clear hcz9_0
          try clear hcz9_1
          try clear hcz9_2
          try clear hfz11_0
          try clear hfz11_1
          try clear hfz11_2
          try clear hfz13_0
          try clear hfz13_1
          try clear hfz13_2
          try clear hfz15_0
          try clear hfz15_1
          try clear hfz15_2
          try clear hfz17_0
          try clear hfz17_1
          try clear hfz17_2
          try clear hfz5_0
          try clear hfz5_1
          try clear hfz5_2
          try clear hfz6_0
          try clear hfz6_1
          try clear hfz6_2
          try clear hfz9_0
          try clear hfz9_1
          try clear hfz9_2
          try clear p2
          obtain ⟨x3_3, rfl, HA, HK3, BK186, HB⟩ := hrel
          cases gk with
          | zero => exact absurd HA.out (by simp [regcertref07_Check.l0])
          | succ k3 =>
           have H := HA.out
           clear HA
           simp only [regcertref07_Check.l0] at H
           by_cases c20 : x3_3 < (l0_2.length : Int)
           ·rw [if_pos c20] at H
            have c20b0 : decide (x3_3 < (l0_2.length : Int)) = true := decide_eq_true c20
            clear c20
            by_cases c21 : 0 ≤ x3_3
            ·rw [if_pos c21] at H
             have c21b0 : decide (0 ≤ x3_3) = true := decide_eq_true c21
             clear c21
             have H' := As0 H
             clear H
             have hcz22_0 : wr.cell? ⟨gb186, 0, none⟩ = some (.int .i64 a0_0) := (blk_cell BK186.out 0).trans rfl
             have hcz22_1 : wr.cell? ⟨gb186, 1, none⟩ = some (.int .i64 a0_1) := (blk_cell BK186.out 1).trans rfl
             have hcz22_2 : wr.cell? ⟨gb186, 2, none⟩ = some (.slice A0_2 l0_2.length c0_2) := (blk_cell BK186.out 2).trans rfl
             have hfz22_0 := blk_frozen BK186.out 0
             have hfz22_1 := blk_frozen BK186.out 1
             have hfz22_2 := blk_frozen BK186.out 2
             have p188 : 0 ≤ (x3_3 : Int) := of_decide_eq_true (by first | (with_reducible assumption) | assumption)
             have q188 : x3_3 < (l0_2.length : Int) := of_decide_eq_true (by first | (with_reducible assumption) | assumption)
             obtain ⟨ad188, A188_0, c188_0, e188, hx188_0, hx188_1, hx188_2, hx188_3, hx188_4, hl188_0, hi188_0⟩ := at_T50 HR0_2.out x3_3 p188 q188
             cases e188
             replace hx188_0 := (HB.out.cell (wblt w hx188_0)).trans hx188_0
             replace hx188_1 := (HB.out.cell (wblt w hx188_1)).trans hx188_1
             replace hx188_2 := (HB.out.cell (wblt w hx188_2)).trans hx188_2
             replace hx188_3 := (HB.out.cell (wblt w hx188_3)).trans hx188_3
             replace hx188_4 := (HB.out.cell (wblt w hx188_4)).trans hx188_4
             have HR188_0 := As0 hi188_0
             have HC188_0 := As0 hl188_0
             clear hi188_0 hl188_0
             replace p188 := eq_true p188
             replace q188 := eq_true q188
             go_wp2_with (first | ((with_reducible refine gate_dst (N := 4) rfl ?_); refine box_event ?hg (N := 4) ?hd (cs := #[.slice none 0 0, .int .i64 0, .int .i64 0, .int .i64 0, .int .i64 0]) (t := 50) ?hr ?_; (case hd => rfl); (case hg => rfl); (case hr => first | (go_simp; done) | (go_simp; rfl)); intro gb189 hg w23 hbox hb; have n0_ := As0 (blk_below (g := gb186) (o := .cells #[.int .i64 a0_0, .int .i64 a0_1, .slice (some ad188) l0_2.length c0_2] 34 (0, 0)) (by (with_reducible repeat (first | refine blk_drewN ?_ _ | refine blk_drew ?_ | refine blk_alloc ?_ _)); exact BK186.out) hb); have n1_ := As0 (below_step (by repeat (first | (with_reducible first | exact HB.out | apply below_alloc | apply bdN | apply bd1 | refine below_set ?_ GE186.out) | exact HB.out)) hb); have n2_ := As0 (hbox); have n3_ := As0 ((by rw [hg]; exact (below_size (by repeat (first | (with_reducible first | exact HB.out | apply below_alloc | apply bdN | apply bd1 | refine below_set ?_ GE186.out) | exact HB.out))) : w.heap.size ≤ gb189)); have n4_ := As0 ((by rw [hg]; exact (below_size (by repeat (first | (with_reducible first | exact HB.out | apply below_alloc | apply bdN | apply bd1 | refine below_set ?_ GE186.out) | exact HB.out))) : w.heap.size ≤ gb189)); have n5_ := As0 ((by rw [hg]; exact Nat.ne_of_lt (blk_lt (g := gb186) (o := .cells #[.int .i64 a0_0, .int .i64 a0_1, .slice (some ad188) l0_2.length c0_2] 34 (0, 0)) (by (with_reducible repeat (first | refine blk_drewN ?_ _ | refine blk_drew ?_ | refine blk_alloc ?_ _)); exact BK186.out)) : gb186 ≠ gb189)); have n6_ := As0 ((by rw [hg]; exact Nat.ne_of_gt (blk_lt (g := gb186) (o := .cells #[.int .i64 a0_0, .int .i64 a0_1, .slice (some ad188) l0_2.length c0_2] 34 (0, 0)) (by (with_reducible repeat (first | refine blk_drewN ?_ _ | refine blk_drew ?_ | refine blk_alloc ?_ _)); exact BK186.out)) : gb189 ≠ gb186)); clear BK186 HB; have BK186 := n0_; have HB := n1_; have BK189 := n2_; have GW189 := n3_; have GE189 := n4_; have NB186_189 := n5_; have NB189_186 := n6_; clear n0_ n1_ n2_ n3_ n4_ n5_ n6_ hb hbox hg; have hnb24 := NB189_186.out; have hnc24 := NB186_189.out; have hcz25_0 : w23.cell? ⟨gb189, 0, none⟩ = some (.slice none 0 0) := (blk_cell BK189.out 0).trans rfl; have hcz25_1 : w23.cell? ⟨gb189, 1, none⟩ = some (.int .i64 0) := (blk_cell BK189.out 1).trans rfl; have hcz25_2 : w23.cell? ⟨gb189, 2, none⟩ = some (.int .i64 0) := (blk_cell BK189.out 2).trans rfl; have hcz25_3 : w23.cell? ⟨gb189, 3, none⟩ = some (.int .i64 0) := (blk_cell BK189.out 3).trans rfl; have hcz25_4 : w23.cell? ⟨gb189, 4, none⟩ = some (.int .i64 0) := (blk_cell BK189.out 4).trans rfl; have hfz25_0 := blk_frozen BK189.out 0; have hfz25_1 := blk_frozen BK189.out 1; have hfz25_2 := blk_frozen BK189.out 2; have hfz25_3 := blk_frozen BK189.out 3; have hfz25_4 := blk_frozen BK189.out 4))
             go_loopg [5] k3 (fun kq v5 w' => ∃ (x5_4 : Int), v5 = .int .i64 x5_4 ∧ Aside0 (regcertref07_Check.l1 kq x3_3 x5_4 a0_0 a0_1 l0_2 ((rd_T50 l0_2 x3_3).f0) ((rd_T50 l0_2 x3_3).f1.f0) ((rd_T50 l0_2 x3_3).f1.f1) ((rd_T50 l0_2 x3_3).f1.f2) ((rd_T50 l0_2 x3_3).f1.f3) = some r) ∧ Aside0 (kq ≤ k3) ∧ Aside0 (w'.heap[gb186]? = some (.cells #[.int .i64 a0_0, .int .i64 a0_1, (.slice (some ad188) l0_2.length c0_2)] 34 (0, 0))) ∧ Aside0 (w'.heap[gb189]? = some (.cells #[(.slice A188_0 ((rd_T50 l0_2 x3_3).f0).length c188_0), .int .i64 ((rd_T50 l0_2 x3_3).f1.f0), .int .i64 ((rd_T50 l0_2 x3_3).f1.f1), .int .i64 ((rd_T50 l0_2 x3_3).f1.f2), .int .i64 ((rd_T50 l0_2 x3_3).f1.f3)] 50 (0, 0))) ∧ Aside0 (Below w.heap.size w w'))
             case atStart => exact ⟨(0), (by first | rfl | (simp; done) | (simp [*]; done)), H', ⟨Nat.le_refl _⟩, ⟨by (with_reducible repeat (first | refine blk_drewN ?_ _ | refine blk_drew ?_ | refine blk_alloc ?_ _)); refine blk_far ?_ NB186_189.out _; (with_reducible repeat (first | refine blk_drewN ?_ _ | refine blk_drew ?_ | refine blk_alloc ?_ _)); refine blk_far ?_ NB186_189.out _; (with_reducible repeat (first | refine blk_drewN ?_ _ | refine blk_drew ?_ | refine blk_alloc ?_ _)); refine blk_far ?_ NB186_189.out _; (with_reducible repeat (first | refine blk_drewN ?_ _ | refine blk_drew ?_ | refine blk_alloc ?_ _)); refine blk_far ?_ NB186_189.out _; (with_reducible repeat (first | refine blk_drewN ?_ _ | refine blk_drew ?_ | refine blk_alloc ?_ _)); refine blk_far ?_ NB186_189.out _; (with_reducible repeat (first | refine blk_drewN ?_ _ | refine blk_drew ?_ | refine blk_alloc ?_ _)); exact BK186.out⟩, ⟨by (with_reducible repeat (first | refine blk_drewN ?_ _ | refine blk_drew ?_ | refine blk_alloc ?_ _)); refine blk_put (cs := #[.slice A188_0 ((rd_T50 l0_2 x3_3).f0).length c188_0, .int .i64 ((rd_T50 l0_2 x3_3).f1.f0), .int .i64 ((rd_T50 l0_2 x3_3).f1.f1), .int .i64 ((rd_T50 l0_2 x3_3).f1.f2), .int .i64 0]) ?_ 4 _ rfl; (with_reducible repeat (first | refine blk_drewN ?_ _ | refine blk_drew ?_ | refine blk_alloc ?_ _)); refine blk_put (cs := #[.slice A188_0 ((rd_T50 l0_2 x3_3).f0).length c188_0, .int .i64 ((rd_T50 l0_2 x3_3).f1.f0), .int .i64 ((rd_T50 l0_2 x3_3).f1.f1), .int .i64 0, .int .i64 0]) ?_ 3 _ rfl; (with_reducible repeat (first | refine blk_drewN ?_ _ | refine blk_drew ?_ | refine blk_alloc ?_ _)); refine blk_put (cs := #[.slice A188_0 ((rd_T50 l0_2 x3_3).f0).length c188_0, .int .i64 ((rd_T50 l0_2 x3_3).f1.f0), .int .i64 0, .int .i64 0, .int .i64 0]) ?_ 2 _ rfl; (with_reducible repeat (first | refine blk_drewN ?_ _ | refine blk_drew ?_ | refine blk_alloc ?_ _)); refine blk_put (cs := #[.slice A188_0 ((rd_T50 l0_2 x3_3).f0).length c188_0, .int .i64 0, .int .i64 0, .int .i64 0, .int .i64 0]) ?_ 1 _ rfl; (with_reducible repeat (first | refine blk_drewN ?_ _ | refine blk_drew ?_ | refine blk_alloc ?_ _)); refine blk_put (cs := #[.slice none 0 0, .int .i64 0, .int .i64 0, .int .i64 0, .int .i64 0]) ?_ 0 _ rfl; (with_reducible repeat (first | refine blk_drewN ?_ _ | refine blk_drew ?_ | refine blk_alloc ?_ _)); exact BK189.out⟩, ⟨by repeat (first | (with_reducible first | exact HB.out | apply below_alloc | apply bdN | apply bd1 | refine below_set ?_ GE186.out | refine below_set ?_ GE189.out) | exact HB.out)⟩⟩
             case round =>
              clear H'
              try clear c1
              try clear p1
              try clear q1
              try clear hx1
              try clear c2
              try clear p2
              try clear c3
              try clear c4
              try clear c4b0
              try clear c7
              try clear c8
              try clear c8b0
              try clear c10
              try clear c10b0
              try clear c10b1
              try clear c10b2
              try clear c14
              try clear c14b0
              try clear c14b1
              try clear c18
              try clear p18
              try clear q18
              try clear hx18
              try clear c19
              try clear c20
              try clear c20b0
              try clear c21
              try clear c21b0
              try clear c24
              try clear hcz11_0
              try clear hcz11_1
              try clear hcz11_2
              try clear hcz13_0
              try clear hcz13_1
              try clear hcz13_2
              try clear hcz15_0
              try clear hcz15_1
              try clear hcz15_2
              try clear hcz17_0
              try clear hcz17_1
              try clear hcz17_2
              try clear hcz22_0
              try clear hcz22_1
              try clear hcz22_2
              try clear hcz25_0
              try clear hcz25_1
              try clear hcz25_2
              try clear hcz25_3
              try clear hcz25_4
              try clear hcz5_0
              try clear hcz5_1
              try clear hcz5_2
              try clear hcz6_0
              try clear hcz6_1
              try clear hcz6_2
              try clear hcz9_0
              try clear hcz9_1
              try clear hcz9_2
              try clear hfz11_0
              try clear hfz11_1
              try clear hfz11_2
              try clear hfz13_0
              try clear hfz13_1
              try clear hfz13_2
              try clear hfz15_0
              try clear hfz15_1
              try clear hfz15_2
              try clear hfz17_0
              try clear hfz17_1
              try clear hfz17_2
              try clear hfz22_0
              try clear hfz22_1
              try clear hfz22_2
              try clear hfz25_0
              try clear hfz25_1
              try clear hfz25_2
              try clear hfz25_3
              try clear hfz25_4
              try clear hfz5_0
              try clear hfz5_1
              try clear hfz5_2
              try clear hfz6_0
              try clear hfz6_1
              try clear hfz6_2
              try clear hfz9_0
              try clear hfz9_1
              try clear hfz9_2
              try clear hx188_0
              try clear hx188_1
              try clear hx188_2
              try clear hx188_3
              try clear hx188_4
              try clear p188
              try clear p2
              try clear q188
              obtain ⟨x5_4, rfl, HA, HK4, BK186, BK189, HB⟩ := hrel
              cases gk with
              | zero => exact absurd HA.out (by simp [regcertref07_Check.l1])
              | succ k4 =>
               have H := HA.out
               clear HA
               simp only [regcertref07_Check.l1] at H
               by_cases c26 : x5_4 < (((rd_T50 l0_2 x3_3).f0).length : Int)
               ·rw [if_pos c26] at H
                have c26b0 : decide (x5_4 < (((rd_T50 l0_2 x3_3).f0).length : Int)) = true := decide_eq_true c26
                clear c26
                by_cases c27 : 0 ≤ x5_4
                ·rw [if_pos c27] at H
                 have c27b0 : decide (0 ≤ x5_4) = true := decide_eq_true c27
                 clear c27
                 replace H := Option.bind_eq_some_iff.mp H
                 obtain ⟨t191, A280, H⟩ := H
                 replace H : (if t191 = 0 then (regcertref07_Check.l1 k4 x3_3 (wrap64 (x5_4 + 1)) a0_0 a0_1 l0_2 ((rd_T50 l0_2 x3_3).f0) ((rd_T50 l0_2 x3_3).f1.f0) ((rd_T50 l0_2 x3_3).f1.f1) ((rd_T50 l0_2 x3_3).f1.f2) ((rd_T50 l0_2 x3_3).f1.f3)) else (some t191)) = some r := H
                 have A28 := As0 A280
                 clear A280
                 by_cases c29 : t191 = 0
                 ·rw [if_pos c29] at H
                  have c29b0 : (t191 == 0) = true := beq_iff_eq.mpr c29
                  have c29b1 : (t191 != 0) = false := bne_eq_false_iff_eq.mpr c29
                  clear c29
                  have H' := As0 H
                  clear H
                  have hnb30 := NB189_186.out
                  have hnc30 := NB186_189.out
                  have hcz31_0 : wr.cell? ⟨gb189, 0, none⟩ = some (.slice A188_0 ((rd_T50 l0_2 x3_3).f0).length c188_0) := (blk_cell BK189.out 0).trans rfl
                  have hcz31_1 : wr.cell? ⟨gb189, 1, none⟩ = some (.int .i64 ((rd_T50 l0_2 x3_3).f1.f0)) := (blk_cell BK189.out 1).trans rfl
                  have hcz31_2 : wr.cell? ⟨gb189, 2, none⟩ = some (.int .i64 ((rd_T50 l0_2 x3_3).f1.f1)) := (blk_cell BK189.out 2).trans rfl
                  have hcz31_3 : wr.cell? ⟨gb189, 3, none⟩ = some (.int .i64 ((rd_T50 l0_2 x3_3).f1.f2)) := (blk_cell BK189.out 3).trans rfl
                  have hcz31_4 : wr.cell? ⟨gb189, 4, none⟩ = some (.int .i64 ((rd_T50 l0_2 x3_3).f1.f3)) := (blk_cell BK189.out 4).trans rfl
                  have hfz31_0 := blk_frozen BK189.out 0
                  have hfz31_1 := blk_frozen BK189.out 1
                  have hfz31_2 := blk_frozen BK189.out 2
                  have hfz31_3 := blk_frozen BK189.out 3
                  have hfz31_4 := blk_frozen BK189.out 4
                  try go_wp2
                  have n0_ := As0 (blk_drew BK186.out)
                  have n1_ := As0 (blk_drew BK189.out)
                  have n2_ := As0 (bd1 HB.out)
                  clear BK186
                  clear BK189
                  clear HB
                  have BK186 := n0_
                  have BK189 := n1_
                  have HB := n2_
                  clear n0_ n1_ n2_
                  have p190 : 0 ≤ (x5_4 : Int) := of_decide_eq_true (by first | (with_reducible assumption) | assumption)
                  have q190 : x5_4 < (((rd_T50 l0_2 x3_3).f0).length : Int) := of_decide_eq_true (by first | (with_reducible assumption) | assumption)
                  obtain ⟨ad190, e190, hx190_0, hx190_1, hx190_2, hx190_3, hx190_4⟩ := at_T97 HR188_0.out x5_4 p190 q190
                  have hw190_4 := hx190_4
                  have hw190_3 := hx190_3
                  have hw190_2 := hx190_2
                  have hw190_1 := hx190_1
                  have hw190_0 := hx190_0
                  cases e190
                  replace hx190_0 := (HB.out.cell (wblt w hx190_0)).trans hx190_0
                  replace hx190_1 := (HB.out.cell (wblt w hx190_1)).trans hx190_1
                  replace hx190_2 := (HB.out.cell (wblt w hx190_2)).trans hx190_2
                  replace hx190_3 := (HB.out.cell (wblt w hx190_3)).trans hx190_3
                  replace hx190_4 := (HB.out.cell (wblt w hx190_4)).trans hx190_4
                  replace p190 := eq_true p190
                  replace q190 := eq_true q190
                  refine start_ (n := 9) (S := fun w' => w'.cell? ⟨gb189, 0, none⟩ = some (.slice (some ad190) ((rd_T50 l0_2 x3_3).f0).length c188_0) ∧ w'.cell? ⟨gb189, 1, none⟩ = some (.int .i64 ((rd_T50 l0_2 x3_3).f1.f0)) ∧ w'.cell? ⟨gb189, 2, none⟩ = some (.int .i64 ((rd_T50 l0_2 x3_3).f1.f1)) ∧ w'.cell? ⟨gb189, 3, none⟩ = some (.int .i64 ((rd_T50 l0_2 x3_3).f1.f2)) ∧ w'.cell? ⟨gb189, 4, none⟩ = some (.int .i64 ((rd_T50 l0_2 x3_3).f1.f3)) ∧ w'.cell? ⟨gb186, 0, none⟩ = some (.int .i64 a0_0) ∧ w'.cell? ⟨gb186, 1, none⟩ = some (.int .i64 a0_1) ∧ w'.cell? ⟨gb186, 2, none⟩ = some (.slice (some ad188) l0_2.length c0_2) ∧ w'.cell? (ad190.add ((x5_4).toNat * 5)) = some (.int .i64 ((rd_T97 ((rd_T50 l0_2 x3_3).f0) x5_4).f0)) ∧ w'.cell? ⟨(ad190.add ((x5_4).toNat * 5)).block, (ad190.add ((x5_4).toNat * 5)).off + 1, none⟩ = some (.int .i64 ((rd_T97 ((rd_T50 l0_2 x3_3).f0) x5_4).f1)) ∧ w'.cell? ⟨(ad190.add ((x5_4).toNat * 5)).block, (ad190.add ((x5_4).toNat * 5)).off + 2, none⟩ = some (.int .i64 ((rd_T97 ((rd_T50 l0_2 x3_3).f0) x5_4).f2)) ∧ w'.cell? ⟨(ad190.add ((x5_4).toNat * 5)).block, (ad190.add ((x5_4).toNat * 5)).off + 3, none⟩ = some (.int .i64 ((rd_T97 ((rd_T50 l0_2 x3_3).f0) x5_4).f3)) ∧ w'.cell? ⟨(ad190.add ((x5_4).toNat * 5)).block, (ad190.add ((x5_4).toNat * 5)).off + 4, none⟩ = some (.int .i64 ((rd_T97 ((rd_T50 l0_2 x3_3).f0) x5_4).f4))) (ds := []) #[false, false, false, false, false, false, false, false, false] (by kernel_rfl) rfl rfl ⟨(blk_cell BK189.out 0).trans rfl, (blk_cell BK189.out 1).trans rfl, (blk_cell BK189.out 2).trans rfl, (blk_cell BK189.out 3).trans rfl, (blk_cell BK189.out 4).trans rfl, (blk_cell BK186.out 0).trans rfl, (blk_cell BK186.out 1).trans rfl, (blk_cell BK186.out 2).trans rfl, ((HB.out.cell (wblt w hw190_0)).trans hw190_0), ((HB.out.cell (wblt w hw190_1)).trans hw190_1), ((HB.out.cell (wblt w hw190_2)).trans hw190_2), ((HB.out.cell (wblt w hw190_3)).trans hw190_3), ((HB.out.cell (wblt w hw190_4)).trans hw190_4)⟩ (fun hHeld => ?_); refine with_tabW regcertref07_Check.tab16 regcertref07_Check.bits16 (fun HT_ HW_ => ?_)
                  generalize wr.drew = w32 at BK186 BK189 HB hx190_0 hx190_1 hx190_2 hx190_3 hx190_4 hHeld ⊢
                  refine pure_ (i := 0) (N := some 53) (v := ?_) (a' := ?_) #[true, false, false, false, false, false, false, false, false] rfl rfl (any_of HT_.out (by kernel_rfl)) (fun _ _ _ h => h) (Or.inl ⟨by rfl, ?_⟩) ?_ ?_
                  rotate_left
                  ·intro w'
                   go_simp
                   with_reducible rfl
                  rotate_left
                  ·simp only [Act.put, sL1, sL2, sL3, i64_w, i32_w]
                   rfl
                  refine pure_ (i := 2) (N := some 55) (v := ?_) (a' := ?_) #[true, false, true, false, false, false, false, false, false] rfl rfl (any_of HT_.out (by kernel_rfl)) (fun _ _ _ h => h) (Or.inl ⟨by rfl, ?_⟩) ?_ ?_
                  rotate_left
                  ·intro w'
                   go_simp
                   with_reducible rfl
                  rotate_left
                  ·simp only [Act.put, sL1, sL2, sL3, i64_w, i32_w]
                   rfl
                  refine pure_ (i := 5) (N := some 58) (v := ?_) (a' := ?_) #[true, false, true, false, false, true, false, false, false] rfl rfl (any_of HT_.out (by kernel_rfl)) (fun _ _ _ h => h) (Or.inl ⟨by rfl, ?_⟩) ?_ ?_
                  rotate_left
                  ·intro w'
                   go_simp
                   with_reducible rfl
                  rotate_left
                  ·simp only [Act.put, sL1, sL2, sL3, i64_w, i32_w]
                   rfl
                  refine take_ (i := 1) (N := some 54) (v := ?_) (a' := ?_) #[true, true, true, false, false, true, false, false, false] rfl rfl (take_ofW HT_.out HW_.out (by kernel_rfl)) (fun _ _ _ h => h) (Or.inl ⟨by rfl, ?_⟩) hHeld ?_ ?_
                  rotate_left
                  ·rintro w' ⟨s0, s1, s2, s3, s4, s5, s6, s7, s8, s9, s10, s11, s12⟩
                   go_simp
                   with_reducible rfl
                  rotate_left
                  ·simp only [Act.put, sL1, sL2, sL3, i64_w, i32_w]
                   rfl
                  refine pure_ (i := 3) (N := some 56) (v := ?_) (a' := ?_) #[true, true, true, true, false, true, false, false, false] rfl rfl (any_of HT_.out (by kernel_rfl)) (fun _ _ _ h => h) (Or.inl ⟨by rfl, ?_⟩) ?_ ?_
                  rotate_left
                  ·intro w'
                   go_simp
                   with_reducible rfl
                  rotate_left
                  ·simp only [Act.put, sL1, sL2, sL3, i64_w, i32_w]
                   rfl
                  refine take_ (i := 4) (N := some 57) (v := ?_) (a' := ?_) #[true, true, true, true, true, true, false, false, false] rfl rfl (take_ofW HT_.out HW_.out (by kernel_rfl)) (fun _ _ _ h => h) (Or.inl ⟨by rfl, ?_⟩) hHeld ?_ ?_
                  rotate_left
                  ·rintro w' ⟨s0, s1, s2, s3, s4, s5, s6, s7, s8, s9, s10, s11, s12⟩
                   go_simp
                   with_reducible rfl
                  rotate_left
                  ·simp only [Act.put, sL1, sL2, sL3, i64_w, i32_w]
                   rfl
                  refine take_ (i := 6) (N := some 59) (v := ?_) (a' := ?_) #[true, true, true, true, true, true, true, false, false] rfl rfl (take_ofW HT_.out HW_.out (by kernel_rfl)) (fun _ _ _ h => h) (Or.inl ⟨by rfl, ?_⟩) hHeld ?_ ?_
                  rotate_left
                  ·rintro w' ⟨s0, s1, s2, s3, s4, s5, s6, s7, s8, s9, s10, s11, s12⟩
                   go_simp
                   with_reducible rfl
                  rotate_left
                  ·simp only [Act.put, sL1, sL2, sL3, i64_w, i32_w]
                   rfl
                  refine one_ (i := 7) (N := some 60) #[true, true, true, true, true, true, true, true, false] rfl rfl (one_of HT_.out (by kernel_rfl)) (by decide) (fun K hK => ?_)
                  refine goes_ Try.func65 (by kernel_rfl) rfl #[.agg #[.int .i64 ((rd_T97 ((rd_T50 l0_2 x3_3).f0) x5_4).f0), .int .i64 ((rd_T97 ((rd_T50 l0_2 x3_3).f0) x5_4).f1), .int .i64 ((rd_T97 ((rd_T50 l0_2 x3_3).f0) x5_4).f2), .int .i64 ((rd_T97 ((rd_T50 l0_2 x3_3).f0) x5_4).f3), .int .i64 ((rd_T97 ((rd_T50 l0_2 x3_3).f0) x5_4).f4)], .int .i64 a0_1] (by rfl) rfl rfl (by (try simp only [List.map_toArray, List.map_cons, List.map_nil]); first | done | rfl | (simp only [List.length_drop, List.length_take]; rfl)) ?_
                  with_reducible refine (regcertref07_Instr.calls ((rd_T97 ((rd_T50 l0_2 x3_3).f0) x5_4).f0) ((rd_T97 ((rd_T50 l0_2 x3_3).f0) x5_4).f1) ((rd_T97 ((rd_T50 l0_2 x3_3).f0) x5_4).f2) ((rd_T97 ((rd_T50 l0_2 x3_3).f0) x5_4).f3) ((rd_T97 ((rd_T50 l0_2 x3_3).f0) x5_4).f4) a0_1 t191 _ A28.out).mono ?_
                  rintro e w33 ⟨rfl, hb⟩
                  refine ⟨_, rfl, ?_⟩
                  have n0_ := As0 (blk_below (g := gb186) (o := .cells #[.int .i64 a0_0, .int .i64 a0_1, .slice (some ad188) l0_2.length c0_2] 34 (0, 0)) (by (with_reducible repeat (first | refine blk_drewN ?_ _ | refine blk_drew ?_ | refine blk_alloc ?_ _)); exact BK186.out) hb)
                  have n1_ := As0 (blk_below (g := gb189) (o := .cells #[.slice (some ad190) ((rd_T50 l0_2 x3_3).f0).length c188_0, .int .i64 ((rd_T50 l0_2 x3_3).f1.f0), .int .i64 ((rd_T50 l0_2 x3_3).f1.f1), .int .i64 ((rd_T50 l0_2 x3_3).f1.f2), .int .i64 ((rd_T50 l0_2 x3_3).f1.f3)] 50 (0, 0)) (by (with_reducible repeat (first | refine blk_drewN ?_ _ | refine blk_drew ?_ | refine blk_alloc ?_ _)); exact BK189.out) hb)
                  have n2_ := As0 (below_step (by repeat (first | (with_reducible first | exact HB.out | apply below_alloc | apply bdN | apply bd1 | refine below_set ?_ GE186.out | refine below_set ?_ GE189.out) | exact HB.out)) hb)
                  clear BK186
                  clear BK189
                  clear HB
                  have BK186 := n0_
                  have BK189 := n1_
                  have HB := n2_
                  clear n0_ n1_ n2_
                  (try clear hb)
                  (try clear hb2)
                  (try clear hk)
                  (try clear hi)
                  refine hK.out _ _ ⟨(blk_cell BK189.out 0).trans rfl, (blk_cell BK189.out 1).trans rfl, (blk_cell BK189.out 2).trans rfl, (blk_cell BK189.out 3).trans rfl, (blk_cell BK189.out 4).trans rfl, (blk_cell BK186.out 0).trans rfl, (blk_cell BK186.out 1).trans rfl, (blk_cell BK186.out 2).trans rfl, ((HB.out.cell (wblt w hw190_0)).trans hw190_0), ((HB.out.cell (wblt w hw190_1)).trans hw190_1), ((HB.out.cell (wblt w hw190_2)).trans hw190_2), ((HB.out.cell (wblt w hw190_3)).trans hw190_3), ((HB.out.cell (wblt w hw190_4)).trans hw190_4)⟩ (fun hHeld => ?_)
                  clear hK K
                  refine norm_ (a' := ?_) ?_ ?_
                  rotate_left
                  ·show Act.put _ (some 60) _ = _
                   simp only [Act.put, sL1, sL2, sL3, i64_w, i32_w]
                   rfl
                  refine pure_ (i := 8) (N := some 6) (v := ?_) (a' := ?_) #[true, true, true, true, true, true, true, true, true] rfl rfl (any_of HT_.out (by kernel_rfl)) (fun _ _ _ h => h) (Or.inl ⟨by rfl, ?_⟩) ?_ ?_
                  rotate_left
                  ·intro w'
                   go_simp
                   with_reducible rfl
                  rotate_left
                  ·simp only [Act.put, sL1, sL2, sL3, i64_w, i32_w]
                   rfl
                  refine done_ (done_of HT_.out (by kernel_rfl)) ?_
                  try go_wp2
                  go_roundg k4
                  case measure => have := HJ1.out; have := HJ11.out; have := HK3.out; have := HK4.out; omega
                  case rel => exact ⟨(wrap64 (x5_4 + 1)), (by first | rfl | (simp; done) | (simp [*]; done)), H', ⟨by have := HJ1.out; have := HJ11.out; have := HK3.out; have := HK4.out; omega⟩, ⟨by (with_reducible repeat (first | refine blk_drewN ?_ _ | refine blk_drew ?_ | refine blk_alloc ?_ _)); exact BK186.out⟩, ⟨by (with_reducible repeat (first | refine blk_drewN ?_ _ | refine blk_drew ?_ | refine blk_alloc ?_ _)); exact BK189.out⟩, ⟨by repeat (first | (with_reducible first | exact HB.out | apply below_alloc | apply bdN | apply bd1 | refine below_set ?_ GE186.out | refine below_set ?_ GE189.out) | exact HB.out)⟩⟩
                 ·rw [if_neg c29] at H
                  have c29b0 : (t191 == 0) = false := beq_eq_false_iff_ne.mpr c29
                  have c29b1 : (t191 != 0) = true := bne_iff_ne.mpr c29
                  obtain rfl := Option.some.inj H
                  have hnb34 := NB189_186.out
                  have hnc34 := NB186_189.out
                  have hcz35_0 : wr.cell? ⟨gb189, 0, none⟩ = some (.slice A188_0 ((rd_T50 l0_2 x3_3).f0).length c188_0) := (blk_cell BK189.out 0).trans rfl
                  have hcz35_1 : wr.cell? ⟨gb189, 1, none⟩ = some (.int .i64 ((rd_T50 l0_2 x3_3).f1.f0)) := (blk_cell BK189.out 1).trans rfl
                  have hcz35_2 : wr.cell? ⟨gb189, 2, none⟩ = some (.int .i64 ((rd_T50 l0_2 x3_3).f1.f1)) := (blk_cell BK189.out 2).trans rfl
                  have hcz35_3 : wr.cell? ⟨gb189, 3, none⟩ = some (.int .i64 ((rd_T50 l0_2 x3_3).f1.f2)) := (blk_cell BK189.out 3).trans rfl
                  have hcz35_4 : wr.cell? ⟨gb189, 4, none⟩ = some (.int .i64 ((rd_T50 l0_2 x3_3).f1.f3)) := (blk_cell BK189.out 4).trans rfl
                  have hfz35_0 := blk_frozen BK189.out 0
                  have hfz35_1 := blk_frozen BK189.out 1
                  have hfz35_2 := blk_frozen BK189.out 2
                  have hfz35_3 := blk_frozen BK189.out 3
                  have hfz35_4 := blk_frozen BK189.out 4
                  try go_wp2
                  have n0_ := As0 (blk_drew BK186.out)
                  have n1_ := As0 (blk_drew BK189.out)
                  have n2_ := As0 (bd1 HB.out)
                  clear BK186
                  clear BK189
                  clear HB
                  have BK186 := n0_
                  have BK189 := n1_
                  have HB := n2_
                  clear n0_ n1_ n2_
                  have p190 : 0 ≤ (x5_4 : Int) := of_decide_eq_true (by first | (with_reducible assumption) | assumption)
                  have q190 : x5_4 < (((rd_T50 l0_2 x3_3).f0).length : Int) := of_decide_eq_true (by first | (with_reducible assumption) | assumption)
                  obtain ⟨ad190, e190, hx190_0, hx190_1, hx190_2, hx190_3, hx190_4⟩ := at_T97 HR188_0.out x5_4 p190 q190
                  have hw190_4 := hx190_4
                  have hw190_3 := hx190_3
                  have hw190_2 := hx190_2
                  have hw190_1 := hx190_1
                  have hw190_0 := hx190_0
                  cases e190
                  replace hx190_0 := (HB.out.cell (wblt w hx190_0)).trans hx190_0
                  replace hx190_1 := (HB.out.cell (wblt w hx190_1)).trans hx190_1
                  replace hx190_2 := (HB.out.cell (wblt w hx190_2)).trans hx190_2
                  replace hx190_3 := (HB.out.cell (wblt w hx190_3)).trans hx190_3
                  replace hx190_4 := (HB.out.cell (wblt w hx190_4)).trans hx190_4
                  replace p190 := eq_true p190
                  replace q190 := eq_true q190
                  refine start_ (n := 9) (S := fun w' => w'.cell? ⟨gb189, 0, none⟩ = some (.slice (some ad190) ((rd_T50 l0_2 x3_3).f0).length c188_0) ∧ w'.cell? ⟨gb189, 1, none⟩ = some (.int .i64 ((rd_T50 l0_2 x3_3).f1.f0)) ∧ w'.cell? ⟨gb189, 2, none⟩ = some (.int .i64 ((rd_T50 l0_2 x3_3).f1.f1)) ∧ w'.cell? ⟨gb189, 3, none⟩ = some (.int .i64 ((rd_T50 l0_2 x3_3).f1.f2)) ∧ w'.cell? ⟨gb189, 4, none⟩ = some (.int .i64 ((rd_T50 l0_2 x3_3).f1.f3)) ∧ w'.cell? ⟨gb186, 0, none⟩ = some (.int .i64 a0_0) ∧ w'.cell? ⟨gb186, 1, none⟩ = some (.int .i64 a0_1) ∧ w'.cell? ⟨gb186, 2, none⟩ = some (.slice (some ad188) l0_2.length c0_2) ∧ w'.cell? (ad190.add ((x5_4).toNat * 5)) = some (.int .i64 ((rd_T97 ((rd_T50 l0_2 x3_3).f0) x5_4).f0)) ∧ w'.cell? ⟨(ad190.add ((x5_4).toNat * 5)).block, (ad190.add ((x5_4).toNat * 5)).off + 1, none⟩ = some (.int .i64 ((rd_T97 ((rd_T50 l0_2 x3_3).f0) x5_4).f1)) ∧ w'.cell? ⟨(ad190.add ((x5_4).toNat * 5)).block, (ad190.add ((x5_4).toNat * 5)).off + 2, none⟩ = some (.int .i64 ((rd_T97 ((rd_T50 l0_2 x3_3).f0) x5_4).f2)) ∧ w'.cell? ⟨(ad190.add ((x5_4).toNat * 5)).block, (ad190.add ((x5_4).toNat * 5)).off + 3, none⟩ = some (.int .i64 ((rd_T97 ((rd_T50 l0_2 x3_3).f0) x5_4).f3)) ∧ w'.cell? ⟨(ad190.add ((x5_4).toNat * 5)).block, (ad190.add ((x5_4).toNat * 5)).off + 4, none⟩ = some (.int .i64 ((rd_T97 ((rd_T50 l0_2 x3_3).f0) x5_4).f4))) (ds := []) #[false, false, false, false, false, false, false, false, false] (by kernel_rfl) rfl rfl ⟨(blk_cell BK189.out 0).trans rfl, (blk_cell BK189.out 1).trans rfl, (blk_cell BK189.out 2).trans rfl, (blk_cell BK189.out 3).trans rfl, (blk_cell BK189.out 4).trans rfl, (blk_cell BK186.out 0).trans rfl, (blk_cell BK186.out 1).trans rfl, (blk_cell BK186.out 2).trans rfl, ((HB.out.cell (wblt w hw190_0)).trans hw190_0), ((HB.out.cell (wblt w hw190_1)).trans hw190_1), ((HB.out.cell (wblt w hw190_2)).trans hw190_2), ((HB.out.cell (wblt w hw190_3)).trans hw190_3), ((HB.out.cell (wblt w hw190_4)).trans hw190_4)⟩ (fun hHeld => ?_); refine with_tabW regcertref07_Check.tab16 regcertref07_Check.bits16 (fun HT_ HW_ => ?_)
                  generalize wr.drew = w36 at BK186 BK189 HB hx190_0 hx190_1 hx190_2 hx190_3 hx190_4 hHeld ⊢
                  refine pure_ (i := 0) (N := some 53) (v := ?_) (a' := ?_) #[true, false, false, false, false, false, false, false, false] rfl rfl (any_of HT_.out (by kernel_rfl)) (fun _ _ _ h => h) (Or.inl ⟨by rfl, ?_⟩) ?_ ?_
                  rotate_left
                  ·intro w'
                   go_simp
                   with_reducible rfl
                  rotate_left
                  ·simp only [Act.put, sL1, sL2, sL3, i64_w, i32_w]
                   rfl
                  refine pure_ (i := 2) (N := some 55) (v := ?_) (a' := ?_) #[true, false, true, false, false, false, false, false, false] rfl rfl (any_of HT_.out (by kernel_rfl)) (fun _ _ _ h => h) (Or.inl ⟨by rfl, ?_⟩) ?_ ?_
                  rotate_left
                  ·intro w'
                   go_simp
                   with_reducible rfl
                  rotate_left
                  ·simp only [Act.put, sL1, sL2, sL3, i64_w, i32_w]
                   rfl
                  refine pure_ (i := 5) (N := some 58) (v := ?_) (a' := ?_) #[true, false, true, false, false, true, false, false, false] rfl rfl (any_of HT_.out (by kernel_rfl)) (fun _ _ _ h => h) (Or.inl ⟨by rfl, ?_⟩) ?_ ?_
                  rotate_left
                  ·intro w'
                   go_simp
                   with_reducible rfl
                  rotate_left
                  ·simp only [Act.put, sL1, sL2, sL3, i64_w, i32_w]
                   rfl
                  refine take_ (i := 1) (N := some 54) (v := ?_) (a' := ?_) #[true, true, true, false, false, true, false, false, false] rfl rfl (take_ofW HT_.out HW_.out (by kernel_rfl)) (fun _ _ _ h => h) (Or.inl ⟨by rfl, ?_⟩) hHeld ?_ ?_
                  rotate_left
                  ·rintro w' ⟨s0, s1, s2, s3, s4, s5, s6, s7, s8, s9, s10, s11, s12⟩
                   go_simp
                   with_reducible rfl
                  rotate_left
                  ·simp only [Act.put, sL1, sL2, sL3, i64_w, i32_w]
                   rfl
                  refine pure_ (i := 3) (N := some 56) (v := ?_) (a' := ?_) #[true, true, true, true, false, true, false, false, false] rfl rfl (any_of HT_.out (by kernel_rfl)) (fun _ _ _ h => h) (Or.inl ⟨by rfl, ?_⟩) ?_ ?_
                  rotate_left
                  ·intro w'
                   go_simp
                   with_reducible rfl
                  rotate_left
                  ·simp only [Act.put, sL1, sL2, sL3, i64_w, i32_w]
                   rfl
                  refine take_ (i := 4) (N := some 57) (v := ?_) (a' := ?_) #[true, true, true, true, true, true, false, false, false] rfl rfl (take_ofW HT_.out HW_.out (by kernel_rfl)) (fun _ _ _ h => h) (Or.inl ⟨by rfl, ?_⟩) hHeld ?_ ?_
                  rotate_left
                  ·rintro w' ⟨s0, s1, s2, s3, s4, s5, s6, s7, s8, s9, s10, s11, s12⟩
                   go_simp
                   with_reducible rfl
                  rotate_left
                  ·simp only [Act.put, sL1, sL2, sL3, i64_w, i32_w]
                   rfl
                  refine take_ (i := 6) (N := some 59) (v := ?_) (a' := ?_) #[true, true, true, true, true, true, true, false, false] rfl rfl (take_ofW HT_.out HW_.out (by kernel_rfl)) (fun _ _ _ h => h) (Or.inl ⟨by rfl, ?_⟩) hHeld ?_ ?_
                  rotate_left
                  ·rintro w' ⟨s0, s1, s2, s3, s4, s5, s6, s7, s8, s9, s10, s11, s12⟩
                   go_simp
                   with_reducible rfl
                  rotate_left
                  ·simp only [Act.put, sL1, sL2, sL3, i64_w, i32_w]
                   rfl
                  refine one_ (i := 7) (N := some 60) #[true, true, true, true, true, true, true, true, false] rfl rfl (one_of HT_.out (by kernel_rfl)) (by decide) (fun K hK => ?_)
                  refine goes_ Try.func65 (by kernel_rfl) rfl #[.agg #[.int .i64 ((rd_T97 ((rd_T50 l0_2 x3_3).f0) x5_4).f0), .int .i64 ((rd_T97 ((rd_T50 l0_2 x3_3).f0) x5_4).f1), .int .i64 ((rd_T97 ((rd_T50 l0_2 x3_3).f0) x5_4).f2), .int .i64 ((rd_T97 ((rd_T50 l0_2 x3_3).f0) x5_4).f3), .int .i64 ((rd_T97 ((rd_T50 l0_2 x3_3).f0) x5_4).f4)], .int .i64 a0_1] (by rfl) rfl rfl (by (try simp only [List.map_toArray, List.map_cons, List.map_nil]); first | done | rfl | (simp only [List.length_drop, List.length_take]; rfl)) ?_
                  with_reducible refine (regcertref07_Instr.calls ((rd_T97 ((rd_T50 l0_2 x3_3).f0) x5_4).f0) ((rd_T97 ((rd_T50 l0_2 x3_3).f0) x5_4).f1) ((rd_T97 ((rd_T50 l0_2 x3_3).f0) x5_4).f2) ((rd_T97 ((rd_T50 l0_2 x3_3).f0) x5_4).f3) ((rd_T97 ((rd_T50 l0_2 x3_3).f0) x5_4).f4) a0_1 t191 _ A28.out).mono ?_
                  rintro e w37 ⟨rfl, hb⟩
                  refine ⟨_, rfl, ?_⟩
                  have n0_ := As0 (blk_below (g := gb186) (o := .cells #[.int .i64 a0_0, .int .i64 a0_1, .slice (some ad188) l0_2.length c0_2] 34 (0, 0)) (by (with_reducible repeat (first | refine blk_drewN ?_ _ | refine blk_drew ?_ | refine blk_alloc ?_ _)); exact BK186.out) hb)
                  have n1_ := As0 (blk_below (g := gb189) (o := .cells #[.slice (some ad190) ((rd_T50 l0_2 x3_3).f0).length c188_0, .int .i64 ((rd_T50 l0_2 x3_3).f1.f0), .int .i64 ((rd_T50 l0_2 x3_3).f1.f1), .int .i64 ((rd_T50 l0_2 x3_3).f1.f2), .int .i64 ((rd_T50 l0_2 x3_3).f1.f3)] 50 (0, 0)) (by (with_reducible repeat (first | refine blk_drewN ?_ _ | refine blk_drew ?_ | refine blk_alloc ?_ _)); exact BK189.out) hb)
                  have n2_ := As0 (below_step (by repeat (first | (with_reducible first | exact HB.out | apply below_alloc | apply bdN | apply bd1 | refine below_set ?_ GE186.out | refine below_set ?_ GE189.out) | exact HB.out)) hb)
                  clear BK186
                  clear BK189
                  clear HB
                  have BK186 := n0_
                  have BK189 := n1_
                  have HB := n2_
                  clear n0_ n1_ n2_
                  (try clear hb)
                  (try clear hb2)
                  (try clear hk)
                  (try clear hi)
                  refine hK.out _ _ ⟨(blk_cell BK189.out 0).trans rfl, (blk_cell BK189.out 1).trans rfl, (blk_cell BK189.out 2).trans rfl, (blk_cell BK189.out 3).trans rfl, (blk_cell BK189.out 4).trans rfl, (blk_cell BK186.out 0).trans rfl, (blk_cell BK186.out 1).trans rfl, (blk_cell BK186.out 2).trans rfl, ((HB.out.cell (wblt w hw190_0)).trans hw190_0), ((HB.out.cell (wblt w hw190_1)).trans hw190_1), ((HB.out.cell (wblt w hw190_2)).trans hw190_2), ((HB.out.cell (wblt w hw190_3)).trans hw190_3), ((HB.out.cell (wblt w hw190_4)).trans hw190_4)⟩ (fun hHeld => ?_)
                  clear hK K
                  refine norm_ (a' := ?_) ?_ ?_
                  rotate_left
                  ·show Act.put _ (some 60) _ = _
                   simp only [Act.put, sL1, sL2, sL3, i64_w, i32_w]
                   rfl
                  refine pure_ (i := 8) (N := some 6) (v := ?_) (a' := ?_) #[true, true, true, true, true, true, true, true, true] rfl rfl (any_of HT_.out (by kernel_rfl)) (fun _ _ _ h => h) (Or.inl ⟨by rfl, ?_⟩) ?_ ?_
                  rotate_left
                  ·intro w'
                   go_simp
                   with_reducible rfl
                  rotate_left
                  ·simp only [Act.put, sL1, sL2, sL3, i64_w, i32_w]
                   rfl
                  refine done_ (done_of HT_.out (by kernel_rfl)) ?_
                  try go_wp2
                  go_ret
                  exact ⟨by first | rfl | (simp [errW_none, errW_some] <;> rfl) | (simp [*, errW_none, errW_some] <;> rfl), by repeat (first | (with_reducible first | exact HB.out | apply below_alloc | apply bdN | apply bd1 | refine below_set ?_ GE186.out | refine below_set ?_ GE189.out) | exact HB.out)⟩
                ·rw [if_neg c27] at H
                 exact absurd H (by simp)
               ·rw [if_neg c26] at H
                have c26b0 : decide (x5_4 < (((rd_T50 l0_2 x3_3).f0).length : Int)) = false := decide_eq_false c26
                clear c26
                replace H := Option.bind_eq_some_iff.mp H
                obtain ⟨t192, A380, H⟩ := H
                replace H : (if t192 = 0 then (regcertref07_Check.l0 k4 (wrap64 (x3_3 + 1)) a0_0 a0_1 l0_2) else (some t192)) = some r := H
                have A38 := As0 A380
                clear A380
                by_cases c39 : t192 = 0
                ·rw [if_pos c39] at H
                 have c39b0 : (t192 == 0) = true := beq_iff_eq.mpr c39
                 have c39b1 : (t192 != 0) = false := bne_eq_false_iff_eq.mpr c39
                 clear c39
                 have H' := As0 H
                 clear H
                 have hnb40 := NB189_186.out
                 have hnc40 := NB186_189.out
                 have hcz41_0 : wr.cell? ⟨gb189, 0, none⟩ = some (.slice A188_0 ((rd_T50 l0_2 x3_3).f0).length c188_0) := (blk_cell BK189.out 0).trans rfl
                 have hcz41_1 : wr.cell? ⟨gb189, 1, none⟩ = some (.int .i64 ((rd_T50 l0_2 x3_3).f1.f0)) := (blk_cell BK189.out 1).trans rfl
                 have hcz41_2 : wr.cell? ⟨gb189, 2, none⟩ = some (.int .i64 ((rd_T50 l0_2 x3_3).f1.f1)) := (blk_cell BK189.out 2).trans rfl
                 have hcz41_3 : wr.cell? ⟨gb189, 3, none⟩ = some (.int .i64 ((rd_T50 l0_2 x3_3).f1.f2)) := (blk_cell BK189.out 3).trans rfl
                 have hcz41_4 : wr.cell? ⟨gb189, 4, none⟩ = some (.int .i64 ((rd_T50 l0_2 x3_3).f1.f3)) := (blk_cell BK189.out 4).trans rfl
                 have hfz41_0 := blk_frozen BK189.out 0
                 have hfz41_1 := blk_frozen BK189.out 1
                 have hfz41_2 := blk_frozen BK189.out 2
                 have hfz41_3 := blk_frozen BK189.out 3
                 have hfz41_4 := blk_frozen BK189.out 4
                 have hcz42_0 : wr.cell? ⟨gb186, 0, none⟩ = some (.int .i64 a0_0) := (blk_cell BK186.out 0).trans rfl
                 have hcz42_1 : wr.cell? ⟨gb186, 1, none⟩ = some (.int .i64 a0_1) := (blk_cell BK186.out 1).trans rfl
                 have hcz42_2 : wr.cell? ⟨gb186, 2, none⟩ = some (.slice (some ad188) l0_2.length c0_2) := (blk_cell BK186.out 2).trans rfl
                 have hfz42_0 := blk_frozen BK186.out 0
                 have hfz42_1 := blk_frozen BK186.out 1
                 have hfz42_2 := blk_frozen BK186.out 2
                 go_wp2_with (first | ((with_reducible refine gate_callee (f := 66) rfl ?_); refine goesL_ (some 71) rfl rfl Try.func66 (by kernel_rfl) rfl #[.agg #[.int .i64 ((rd_T50 l0_2 x3_3).f1.f0), .int .i64 ((rd_T50 l0_2 x3_3).f1.f1), .int .i64 ((rd_T50 l0_2 x3_3).f1.f2), .int .i64 ((rd_T50 l0_2 x3_3).f1.f3)], .int .i64 a0_1, .int .i64 (l0_2.length : Int)] rfl (by (try simp only [List.map_toArray, List.map_cons, List.map_nil]); first | done | rfl | (simp only [List.length_drop, List.length_take]; rfl)) ?_; (with_reducible refine (regcertref07_Term.calls ((rd_T50 l0_2 x3_3).f1.f0) ((rd_T50 l0_2 x3_3).f1.f1) ((rd_T50 l0_2 x3_3).f1.f2) ((rd_T50 l0_2 x3_3).f1.f3) a0_1 (l0_2.length : Int) t192 _ A38.out).mono ?_); rintro e w43 ⟨rfl, hb⟩; refine ⟨_, rfl, ?_⟩; have n0_ := As0 (blk_below (g := gb186) (o := .cells #[.int .i64 a0_0, .int .i64 a0_1, .slice (some ad188) l0_2.length c0_2] 34 (0, 0)) (by (with_reducible repeat (first | refine blk_drewN ?_ _ | refine blk_drew ?_ | refine blk_alloc ?_ _)); exact BK186.out) hb); have n1_ := As0 (blk_below (g := gb189) (o := .cells #[.slice A188_0 ((rd_T50 l0_2 x3_3).f0).length c188_0, .int .i64 ((rd_T50 l0_2 x3_3).f1.f0), .int .i64 ((rd_T50 l0_2 x3_3).f1.f1), .int .i64 ((rd_T50 l0_2 x3_3).f1.f2), .int .i64 ((rd_T50 l0_2 x3_3).f1.f3)] 50 (0, 0)) (by (with_reducible repeat (first | refine blk_drewN ?_ _ | refine blk_drew ?_ | refine blk_alloc ?_ _)); exact BK189.out) hb); have n2_ := As0 (below_step (by repeat (first | (with_reducible first | exact HB.out | apply below_alloc | apply bdN | apply bd1 | refine below_set ?_ GE186.out | refine below_set ?_ GE189.out) | exact HB.out)) hb); clear BK186 BK189 HB; have BK186 := n0_; have BK189 := n1_; have HB := n2_; clear n0_ n1_ n2_; (try clear hb); (try clear hb2); (try clear hk); (try clear hi)))
                 go_roundg k4
                 case measure => have := HJ1.out; have := HJ11.out; have := HK3.out; have := HK4.out; omega
                 case rel => exact ⟨(wrap64 (x3_3 + 1)), (by first | rfl | (simp; done) | (simp [*]; done)), H', ⟨by have := HJ1.out; have := HJ11.out; have := HK3.out; have := HK4.out; omega⟩, ⟨by (with_reducible repeat (first | refine blk_drewN ?_ _ | refine blk_drew ?_ | refine blk_alloc ?_ _)); exact BK186.out⟩, ⟨by repeat (first | (with_reducible first | exact HB.out | apply below_alloc | apply bdN | apply bd1 | refine below_set ?_ GE186.out | refine below_set ?_ GE189.out) | exact HB.out)⟩⟩
                ·rw [if_neg c39] at H
                 have c39b0 : (t192 == 0) = false := beq_eq_false_iff_ne.mpr c39
                 have c39b1 : (t192 != 0) = true := bne_iff_ne.mpr c39
                 obtain rfl := Option.some.inj H
                 have hnb44 := NB189_186.out
                 have hnc44 := NB186_189.out
                 have hcz45_0 : wr.cell? ⟨gb189, 0, none⟩ = some (.slice A188_0 ((rd_T50 l0_2 x3_3).f0).length c188_0) := (blk_cell BK189.out 0).trans rfl
                 have hcz45_1 : wr.cell? ⟨gb189, 1, none⟩ = some (.int .i64 ((rd_T50 l0_2 x3_3).f1.f0)) := (blk_cell BK189.out 1).trans rfl
                 have hcz45_2 : wr.cell? ⟨gb189, 2, none⟩ = some (.int .i64 ((rd_T50 l0_2 x3_3).f1.f1)) := (blk_cell BK189.out 2).trans rfl
                 have hcz45_3 : wr.cell? ⟨gb189, 3, none⟩ = some (.int .i64 ((rd_T50 l0_2 x3_3).f1.f2)) := (blk_cell BK189.out 3).trans rfl
                 have hcz45_4 : wr.cell? ⟨gb189, 4, none⟩ = some (.int .i64 ((rd_T50 l0_2 x3_3).f1.f3)) := (blk_cell BK189.out 4).trans rfl
                 have hfz45_0 := blk_frozen BK189.out 0
                 have hfz45_1 := blk_frozen BK189.out 1
                 have hfz45_2 := blk_frozen BK189.out 2
                 have hfz45_3 := blk_frozen BK189.out 3
                 have hfz45_4 := blk_frozen BK189.out 4
                 have hcz46_0 : wr.cell? ⟨gb186, 0, none⟩ = some (.int .i64 a0_0) := (blk_cell BK186.out 0).trans rfl
                 have hcz46_1 : wr.cell? ⟨gb186, 1, none⟩ = some (.int .i64 a0_1) := (blk_cell BK186.out 1).trans rfl
                 have hcz46_2 : wr.cell? ⟨gb186, 2, none⟩ = some (.slice (some ad188) l0_2.length c0_2) := (blk_cell BK186.out 2).trans rfl
                 have hfz46_0 := blk_frozen BK186.out 0
                 have hfz46_1 := blk_frozen BK186.out 1
                 have hfz46_2 := blk_frozen BK186.out 2
                 go_wp2_with (first | ((with_reducible refine gate_callee (f := 66) rfl ?_); refine goesL_ (some 71) rfl rfl Try.func66 (by kernel_rfl) rfl #[.agg #[.int .i64 ((rd_T50 l0_2 x3_3).f1.f0), .int .i64 ((rd_T50 l0_2 x3_3).f1.f1), .int .i64 ((rd_T50 l0_2 x3_3).f1.f2), .int .i64 ((rd_T50 l0_2 x3_3).f1.f3)], .int .i64 a0_1, .int .i64 (l0_2.length : Int)] rfl (by (try simp only [List.map_toArray, List.map_cons, List.map_nil]); first | done | rfl | (simp only [List.length_drop, List.length_take]; rfl)) ?_; (with_reducible refine (regcertref07_Term.calls ((rd_T50 l0_2 x3_3).f1.f0) ((rd_T50 l0_2 x3_3).f1.f1) ((rd_T50 l0_2 x3_3).f1.f2) ((rd_T50 l0_2 x3_3).f1.f3) a0_1 (l0_2.length : Int) t192 _ A38.out).mono ?_); rintro e w47 ⟨rfl, hb⟩; refine ⟨_, rfl, ?_⟩; have n0_ := As0 (blk_below (g := gb186) (o := .cells #[.int .i64 a0_0, .int .i64 a0_1, .slice (some ad188) l0_2.length c0_2] 34 (0, 0)) (by (with_reducible repeat (first | refine blk_drewN ?_ _ | refine blk_drew ?_ | refine blk_alloc ?_ _)); exact BK186.out) hb); have n1_ := As0 (blk_below (g := gb189) (o := .cells #[.slice A188_0 ((rd_T50 l0_2 x3_3).f0).length c188_0, .int .i64 ((rd_T50 l0_2 x3_3).f1.f0), .int .i64 ((rd_T50 l0_2 x3_3).f1.f1), .int .i64 ((rd_T50 l0_2 x3_3).f1.f2), .int .i64 ((rd_T50 l0_2 x3_3).f1.f3)] 50 (0, 0)) (by (with_reducible repeat (first | refine blk_drewN ?_ _ | refine blk_drew ?_ | refine blk_alloc ?_ _)); exact BK189.out) hb); have n2_ := As0 (below_step (by repeat (first | (with_reducible first | exact HB.out | apply below_alloc | apply bdN | apply bd1 | refine below_set ?_ GE186.out | refine below_set ?_ GE189.out) | exact HB.out)) hb); clear BK186 BK189 HB; have BK186 := n0_; have BK189 := n1_; have HB := n2_; clear n0_ n1_ n2_; (try clear hb); (try clear hb2); (try clear hk); (try clear hi)))
                 go_ret
                 exact ⟨by first | rfl | (simp [errW_none, errW_some] <;> rfl) | (simp [*, errW_none, errW_some] <;> rfl), by repeat (first | (with_reducible first | exact HB.out | apply below_alloc | apply bdN | apply bd1 | refine below_set ?_ GE186.out | refine below_set ?_ GE189.out) | exact HB.out)⟩
            ·rw [if_neg c21] at H
             exact absurd H (by simp)
           ·rw [if_neg c20] at H
            have c20b0 : decide (x3_3 < (l0_2.length : Int)) = false := decide_eq_false c20
            clear c20
            obtain rfl := Option.some.inj H
            have hcz48_0 : wr.cell? ⟨gb186, 0, none⟩ = some (.int .i64 a0_0) := (blk_cell BK186.out 0).trans rfl
            have hcz48_1 : wr.cell? ⟨gb186, 1, none⟩ = some (.int .i64 a0_1) := (blk_cell BK186.out 1).trans rfl
            have hcz48_2 : wr.cell? ⟨gb186, 2, none⟩ = some (.slice A0_2 l0_2.length c0_2) := (blk_cell BK186.out 2).trans rfl
            have hfz48_0 := blk_frozen BK186.out 0
            have hfz48_1 := blk_frozen BK186.out 1
            have hfz48_2 := blk_frozen BK186.out 2
            go_wp2
            go_ret
            exact ⟨by first | rfl | (simp [errW_none, errW_some] <;> rfl) | (simp [*, errW_none, errW_some] <;> rfl), by repeat (first | (with_reducible first | exact HB.out | apply below_alloc | apply bdN | apply bd1 | refine below_set ?_ GE186.out) | exact HB.out)⟩

/-! ### regcertref09_Right: function 30 -/
def regcertref09_Right.f (k : Nat) (a0_0 : Int) (a0_1 : Int) (l0_2 : List (S50)) (l1 : List Int) (a2 : Int) : Option (Bool) := (regcertref07_Few.f k a0_0 a0_1 l0_2).bind fun t194 => (if t194 = true then ((regcertref07_Check.f k a0_0 a0_1 l0_2).bind fun t195 => (if t195 = 0 then (if a2 ≤ 400 then (some (decide ((l1.length : Int) ≤ 100))) else (some false)) else (some false))) else (some false))
theorem regcertref09_Right.mono : ∀ a0 a1 a2 a3 a4 k, LeO (regcertref09_Right.f k a0 a1 a2 a3 a4) (regcertref09_Right.f (k + 1) a0 a1 a2 a3 a4) := by
 intro a0 a1 a2 a3 a4 k
 unfold regcertref09_Right.f
 repeat' first
   | (with_reducible exact regcertref07_Check.mono _ _ _ _)
   | (with_reducible exact regcertref07_Few.mono _ _ _ _)
   | (with_reducible exact LeO.refl _)
   | (with_reducible exact LeO.none _)
   | (with_reducible refine LeO.ite ?_ ?_)
   | (with_reducible refine LeO.bind ?_ (fun _ => ?_))
   | exact regcertref07_Check.mono _ _ _ _
   | exact regcertref07_Few.mono _ _ _ _
   | exact LeO.none _
   | refine LeO.ite ?_ ?_
   | refine LeO.bind ?_ (fun _ => ?_)
set_option maxHeartbeats 8000000 in
set_option maxRecDepth 100000 in
theorem regcertref09_Right.calls (k : Nat) (a0_0 : Int) (a0_1 : Int) (A0_2 : Option Addr) (c0_2 : Nat) (l0_2 : List (S50)) (A1 : Option Addr) (c1 : Nat) (l1 : List Int) (a2 : Int) (r : Bool) (w : World) (hr0_2 : Kd.C k50 w A0_2 l0_2.length l0_2) (hc0_2 : l0_2.length ≤ c0_2) (hr1 : Kd.C (Kd.int .i64) w A1 l1.length l1) (hc1 : l1.length ≤ c1) (h : regcertref09_Right.f k a0_0 a0_1 l0_2 l1 a2 = some r) :
  Calls Try.prog 30 #[.agg #[.int .i64 a0_0, .int .i64 a0_1, .slice A0_2 l0_2.length c0_2], .slice A1 l1.length c1, .int .i64 a2] w fun e w' => e = .returned (.bool r) ∧ Below w.heap.size w w' := by
 have hu34 := Try.underlying34
 have HR0_2 := As0 hr0_2
 have HC0_2 := As0 hc0_2
 clear hr0_2 hc0_2
 have HR1 := As0 hr1
 have HC1 := As0 hc1
 clear hr1 hc1
 have HB := As0 (Below.refl w.heap.size w)
 have H : ((regcertref07_Few.f k a0_0 a0_1 l0_2).bind fun t194 => (if t194 = true then ((regcertref07_Check.f k a0_0 a0_1 l0_2).bind fun t195 => (if t195 = 0 then (if a2 ≤ 400 then (some (decide ((l1.length : Int) ≤ 100))) else (some false)) else (some false))) else (some false))) = some r := h
 clear h
 replace H := Option.bind_eq_some_iff.mp H
 obtain ⟨t194, A40, H⟩ := H
 replace H : (if t194 = true then ((regcertref07_Check.f k a0_0 a0_1 l0_2).bind fun t195 => (if t195 = 0 then (if a2 ≤ 400 then (some (decide ((l1.length : Int) ≤ 100))) else (some false)) else (some false))) else (some false)) = some r := H
 have A4 := As0 A40
 clear A40
 by_cases c5 : t194 = true
 ·subst c5
  have H1 : ((regcertref07_Check.f k a0_0 a0_1 l0_2).bind fun t195 => (if t195 = 0 then (if a2 ≤ 400 then (some (decide ((l1.length : Int) ≤ 100))) else (some false)) else (some false))) = some r := by rw [if_pos rfl] at H; exact H
  clear H
  have H := H1
  clear H1
  replace H := Option.bind_eq_some_iff.mp H
  obtain ⟨t195, A60, H⟩ := H
  replace H : (if t195 = 0 then (if a2 ≤ 400 then (some (decide ((l1.length : Int) ≤ 100))) else (some false)) else (some false)) = some r := H
  have A6 := As0 A60
  clear A60
  by_cases c7 : t195 = 0
  ·rw [if_pos c7] at H
   have c7b0 : (t195 == 0) = true := beq_iff_eq.mpr c7
   have c7b1 : (t195 != 0) = false := bne_eq_false_iff_eq.mpr c7
   clear c7
   by_cases c8 : a2 ≤ 400
   ·rw [if_pos c8] at H
    have c8b0 : decide (a2 ≤ 400) = true := decide_eq_true c8
    clear c8
    obtain rfl := Option.some.inj H
    go_enter Try.func30, Try.ntmps30
    go_wp2_with (first | ((with_reducible refine gate_dst (N := 3) rfl ?_); (try (refine gate_guard (by rfl) ?_; dsimp only)); refine box_event ?hg (N := 3) ?hd (cs := #[.int .i64 a0_0, .int .i64 a0_1, .slice A0_2 l0_2.length c0_2]) (t := 34) ?hr ?_; (case hd => rfl); (case hg => rfl); (case hr => first | (go_simp; done) | (go_simp; rfl)); intro gb193 hg w9 hbox hb; have n0_ := As0 (below_step (by repeat (first | (with_reducible first | exact HB.out | apply below_alloc | apply bdN | apply bd1) | exact HB.out)) hb); have n1_ := As0 (hbox); have n2_ := As0 ((by rw [hg]; exact (below_size (by repeat (first | (with_reducible first | exact HB.out | apply below_alloc | apply bdN | apply bd1) | exact HB.out))) : w.heap.size ≤ gb193)); have n3_ := As0 ((by rw [hg]; exact (below_size (by repeat (first | (with_reducible first | exact HB.out | apply below_alloc | apply bdN | apply bd1) | exact HB.out))) : w.heap.size ≤ gb193)); clear HB; have HB := n0_; have BK193 := n1_; have GW193 := n2_; have GE193 := n3_; clear n0_ n1_ n2_ n3_ hb hbox hg; have hcz10_0 : w9.cell? ⟨gb193, 0, none⟩ = some (.int .i64 a0_0) := (blk_cell BK193.out 0).trans rfl; have hcz10_1 : w9.cell? ⟨gb193, 1, none⟩ = some (.int .i64 a0_1) := (blk_cell BK193.out 1).trans rfl; have hcz10_2 : w9.cell? ⟨gb193, 2, none⟩ = some (.slice A0_2 l0_2.length c0_2) := (blk_cell BK193.out 2).trans rfl; have hfz10_0 := blk_frozen BK193.out 0; have hfz10_1 := blk_frozen BK193.out 1; have hfz10_2 := blk_frozen BK193.out 2) | ((with_reducible refine gate_callee (f := 35) rfl ?_); refine goesL_ (some 8) rfl rfl Try.func35 (by kernel_rfl) rfl #[.agg #[.int .i64 a0_0, .int .i64 a0_1, .slice A0_2 l0_2.length c0_2]] rfl (by (try simp only [List.map_toArray, List.map_cons, List.map_nil]); first | done | rfl | (simp only [List.length_drop, List.length_take]; rfl)) ?_; (with_reducible refine (regcertref07_Few.calls k a0_0 a0_1 _ _ l0_2 true _ ?side1 ?side2 A4.out).mono ?_); (case side1 => repeat (first | exact (Kd.C_below HR0_2.out HB.out) | (with_reducible refine Kd.C_alloc ?_ _) | (with_reducible refine Kd.C_drewN ?_ _) | (with_reducible refine Kd.C_drew ?_))); (case side2 => exact HC0_2.out); rintro e w11 ⟨rfl, hb⟩; refine ⟨_, rfl, ?_⟩; have n0_ := As0 (blk_below (g := gb193) (o := .cells #[.int .i64 a0_0, .int .i64 a0_1, .slice A0_2 l0_2.length c0_2] 34 (0, 0)) (by (with_reducible repeat (first | refine blk_drewN ?_ _ | refine blk_drew ?_ | refine blk_alloc ?_ _)); exact BK193.out) hb); have n1_ := As0 (below_step (by repeat (first | (with_reducible first | exact HB.out | apply below_alloc | apply bdN | apply bd1 | refine below_set ?_ GE193.out) | exact HB.out)) hb); clear BK193 HB; have BK193 := n0_; have HB := n1_; clear n0_ n1_; (try clear hb); (try clear hb2); (try clear hk); (try clear hi); have hcz12_0 : w11.cell? ⟨gb193, 0, none⟩ = some (.int .i64 a0_0) := (blk_cell BK193.out 0).trans rfl; have hcz12_1 : w11.cell? ⟨gb193, 1, none⟩ = some (.int .i64 a0_1) := (blk_cell BK193.out 1).trans rfl; have hcz12_2 : w11.cell? ⟨gb193, 2, none⟩ = some (.slice A0_2 l0_2.length c0_2) := (blk_cell BK193.out 2).trans rfl; have hfz12_0 := blk_frozen BK193.out 0; have hfz12_1 := blk_frozen BK193.out 1; have hfz12_2 := blk_frozen BK193.out 2) | (go_at_call 36; (with_reducible refine (regcertref07_Check.calls k a0_0 a0_1 _ _ l0_2 t195 _ ?side1 ?side2 A6.out).mono ?_); (case side1 => repeat (first | exact (Kd.C_below HR0_2.out HB.out) | (with_reducible refine Kd.C_alloc ?_ _) | (with_reducible refine Kd.C_drewN ?_ _) | (with_reducible refine Kd.C_drew ?_))); (case side2 => exact HC0_2.out); rintro e w13 ⟨rfl, hb⟩; have n0_ := As0 (blk_below (g := gb193) (o := .cells #[.int .i64 a0_0, .int .i64 a0_1, .slice A0_2 l0_2.length c0_2] 34 (0, 0)) (by (with_reducible repeat (first | refine blk_drewN ?_ _ | refine blk_drew ?_ | refine blk_alloc ?_ _)); exact BK193.out) hb); have n1_ := As0 (below_step (by repeat (first | (with_reducible first | exact HB.out | apply below_alloc | apply bdN | apply bd1 | refine below_set ?_ GE193.out) | exact HB.out)) hb); clear BK193 HB; have BK193 := n0_; have HB := n1_; clear n0_ n1_; (try clear hb); (try clear hb2); (try clear hk); (try clear hi)))
    go_ret
    exact ⟨by first | rfl | (simp [errW_none, errW_some] <;> rfl) | (simp [*, errW_none, errW_some] <;> rfl), by repeat (first | (with_reducible first | exact HB.out | apply below_alloc | apply bdN | apply bd1 | refine below_set ?_ GE193.out) | exact HB.out)⟩
   ·rw [if_neg c8] at H
    have c8b0 : decide (a2 ≤ 400) = false := decide_eq_false c8
    clear c8
    obtain rfl := Option.some.inj H
    go_enter Try.func30, Try.ntmps30
    go_wp2_with (first | ((with_reducible refine gate_dst (N := 3) rfl ?_); (try (refine gate_guard (by rfl) ?_; dsimp only)); refine box_event ?hg (N := 3) ?hd (cs := #[.int .i64 a0_0, .int .i64 a0_1, .slice A0_2 l0_2.length c0_2]) (t := 34) ?hr ?_; (case hd => rfl); (case hg => rfl); (case hr => first | (go_simp; done) | (go_simp; rfl)); intro gb193 hg w14 hbox hb; have n0_ := As0 (below_step (by repeat (first | (with_reducible first | exact HB.out | apply below_alloc | apply bdN | apply bd1) | exact HB.out)) hb); have n1_ := As0 (hbox); have n2_ := As0 ((by rw [hg]; exact (below_size (by repeat (first | (with_reducible first | exact HB.out | apply below_alloc | apply bdN | apply bd1) | exact HB.out))) : w.heap.size ≤ gb193)); have n3_ := As0 ((by rw [hg]; exact (below_size (by repeat (first | (with_reducible first | exact HB.out | apply below_alloc | apply bdN | apply bd1) | exact HB.out))) : w.heap.size ≤ gb193)); clear HB; have HB := n0_; have BK193 := n1_; have GW193 := n2_; have GE193 := n3_; clear n0_ n1_ n2_ n3_ hb hbox hg; have hcz15_0 : w14.cell? ⟨gb193, 0, none⟩ = some (.int .i64 a0_0) := (blk_cell BK193.out 0).trans rfl; have hcz15_1 : w14.cell? ⟨gb193, 1, none⟩ = some (.int .i64 a0_1) := (blk_cell BK193.out 1).trans rfl; have hcz15_2 : w14.cell? ⟨gb193, 2, none⟩ = some (.slice A0_2 l0_2.length c0_2) := (blk_cell BK193.out 2).trans rfl; have hfz15_0 := blk_frozen BK193.out 0; have hfz15_1 := blk_frozen BK193.out 1; have hfz15_2 := blk_frozen BK193.out 2) | ((with_reducible refine gate_callee (f := 35) rfl ?_); refine goesL_ (some 8) rfl rfl Try.func35 (by kernel_rfl) rfl #[.agg #[.int .i64 a0_0, .int .i64 a0_1, .slice A0_2 l0_2.length c0_2]] rfl (by (try simp only [List.map_toArray, List.map_cons, List.map_nil]); first | done | rfl | (simp only [List.length_drop, List.length_take]; rfl)) ?_; (with_reducible refine (regcertref07_Few.calls k a0_0 a0_1 _ _ l0_2 true _ ?side1 ?side2 A4.out).mono ?_); (case side1 => repeat (first | exact (Kd.C_below HR0_2.out HB.out) | (with_reducible refine Kd.C_alloc ?_ _) | (with_reducible refine Kd.C_drewN ?_ _) | (with_reducible refine Kd.C_drew ?_))); (case side2 => exact HC0_2.out); rintro e w16 ⟨rfl, hb⟩; refine ⟨_, rfl, ?_⟩; have n0_ := As0 (blk_below (g := gb193) (o := .cells #[.int .i64 a0_0, .int .i64 a0_1, .slice A0_2 l0_2.length c0_2] 34 (0, 0)) (by (with_reducible repeat (first | refine blk_drewN ?_ _ | refine blk_drew ?_ | refine blk_alloc ?_ _)); exact BK193.out) hb); have n1_ := As0 (below_step (by repeat (first | (with_reducible first | exact HB.out | apply below_alloc | apply bdN | apply bd1 | refine below_set ?_ GE193.out) | exact HB.out)) hb); clear BK193 HB; have BK193 := n0_; have HB := n1_; clear n0_ n1_; (try clear hb); (try clear hb2); (try clear hk); (try clear hi); have hcz17_0 : w16.cell? ⟨gb193, 0, none⟩ = some (.int .i64 a0_0) := (blk_cell BK193.out 0).trans rfl; have hcz17_1 : w16.cell? ⟨gb193, 1, none⟩ = some (.int .i64 a0_1) := (blk_cell BK193.out 1).trans rfl; have hcz17_2 : w16.cell? ⟨gb193, 2, none⟩ = some (.slice A0_2 l0_2.length c0_2) := (blk_cell BK193.out 2).trans rfl; have hfz17_0 := blk_frozen BK193.out 0; have hfz17_1 := blk_frozen BK193.out 1; have hfz17_2 := blk_frozen BK193.out 2) | (go_at_call 36; (with_reducible refine (regcertref07_Check.calls k a0_0 a0_1 _ _ l0_2 t195 _ ?side1 ?side2 A6.out).mono ?_); (case side1 => repeat (first | exact (Kd.C_below HR0_2.out HB.out) | (with_reducible refine Kd.C_alloc ?_ _) | (with_reducible refine Kd.C_drewN ?_ _) | (with_reducible refine Kd.C_drew ?_))); (case side2 => exact HC0_2.out); rintro e w18 ⟨rfl, hb⟩; have n0_ := As0 (blk_below (g := gb193) (o := .cells #[.int .i64 a0_0, .int .i64 a0_1, .slice A0_2 l0_2.length c0_2] 34 (0, 0)) (by (with_reducible repeat (first | refine blk_drewN ?_ _ | refine blk_drew ?_ | refine blk_alloc ?_ _)); exact BK193.out) hb); have n1_ := As0 (below_step (by repeat (first | (with_reducible first | exact HB.out | apply below_alloc | apply bdN | apply bd1 | refine below_set ?_ GE193.out) | exact HB.out)) hb); clear BK193 HB; have BK193 := n0_; have HB := n1_; clear n0_ n1_; (try clear hb); (try clear hb2); (try clear hk); (try clear hi)))
    go_ret
    exact ⟨by first | rfl | (simp [errW_none, errW_some] <;> rfl) | (simp [*, errW_none, errW_some] <;> rfl), by repeat (first | (with_reducible first | exact HB.out | apply below_alloc | apply bdN | apply bd1 | refine below_set ?_ GE193.out) | exact HB.out)⟩
  ·rw [if_neg c7] at H
   have c7b0 : (t195 == 0) = false := beq_eq_false_iff_ne.mpr c7
   have c7b1 : (t195 != 0) = true := bne_iff_ne.mpr c7
   obtain rfl := Option.some.inj H
   go_enter Try.func30, Try.ntmps30
   go_wp2_with (first | ((with_reducible refine gate_dst (N := 3) rfl ?_); (try (refine gate_guard (by rfl) ?_; dsimp only)); refine box_event ?hg (N := 3) ?hd (cs := #[.int .i64 a0_0, .int .i64 a0_1, .slice A0_2 l0_2.length c0_2]) (t := 34) ?hr ?_; (case hd => rfl); (case hg => rfl); (case hr => first | (go_simp; done) | (go_simp; rfl)); intro gb193 hg w19 hbox hb; have n0_ := As0 (below_step (by repeat (first | (with_reducible first | exact HB.out | apply below_alloc | apply bdN | apply bd1) | exact HB.out)) hb); have n1_ := As0 (hbox); have n2_ := As0 ((by rw [hg]; exact (below_size (by repeat (first | (with_reducible first | exact HB.out | apply below_alloc | apply bdN | apply bd1) | exact HB.out))) : w.heap.size ≤ gb193)); have n3_ := As0 ((by rw [hg]; exact (below_size (by repeat (first | (with_reducible first | exact HB.out | apply below_alloc | apply bdN | apply bd1) | exact HB.out))) : w.heap.size ≤ gb193)); clear HB; have HB := n0_; have BK193 := n1_; have GW193 := n2_; have GE193 := n3_; clear n0_ n1_ n2_ n3_ hb hbox hg; have hcz20_0 : w19.cell? ⟨gb193, 0, none⟩ = some (.int .i64 a0_0) := (blk_cell BK193.out 0).trans rfl; have hcz20_1 : w19.cell? ⟨gb193, 1, none⟩ = some (.int .i64 a0_1) := (blk_cell BK193.out 1).trans rfl; have hcz20_2 : w19.cell? ⟨gb193, 2, none⟩ = some (.slice A0_2 l0_2.length c0_2) := (blk_cell BK193.out 2).trans rfl; have hfz20_0 := blk_frozen BK193.out 0; have hfz20_1 := blk_frozen BK193.out 1; have hfz20_2 := blk_frozen BK193.out 2) | ((with_reducible refine gate_callee (f := 35) rfl ?_); refine goesL_ (some 8) rfl rfl Try.func35 (by kernel_rfl) rfl #[.agg #[.int .i64 a0_0, .int .i64 a0_1, .slice A0_2 l0_2.length c0_2]] rfl (by (try simp only [List.map_toArray, List.map_cons, List.map_nil]); first | done | rfl | (simp only [List.length_drop, List.length_take]; rfl)) ?_; (with_reducible refine (regcertref07_Few.calls k a0_0 a0_1 _ _ l0_2 true _ ?side1 ?side2 A4.out).mono ?_); (case side1 => repeat (first | exact (Kd.C_below HR0_2.out HB.out) | (with_reducible refine Kd.C_alloc ?_ _) | (with_reducible refine Kd.C_drewN ?_ _) | (with_reducible refine Kd.C_drew ?_))); (case side2 => exact HC0_2.out); rintro e w21 ⟨rfl, hb⟩; refine ⟨_, rfl, ?_⟩; have n0_ := As0 (blk_below (g := gb193) (o := .cells #[.int .i64 a0_0, .int .i64 a0_1, .slice A0_2 l0_2.length c0_2] 34 (0, 0)) (by (with_reducible repeat (first | refine blk_drewN ?_ _ | refine blk_drew ?_ | refine blk_alloc ?_ _)); exact BK193.out) hb); have n1_ := As0 (below_step (by repeat (first | (with_reducible first | exact HB.out | apply below_alloc | apply bdN | apply bd1 | refine below_set ?_ GE193.out) | exact HB.out)) hb); clear BK193 HB; have BK193 := n0_; have HB := n1_; clear n0_ n1_; (try clear hb); (try clear hb2); (try clear hk); (try clear hi); have hcz22_0 : w21.cell? ⟨gb193, 0, none⟩ = some (.int .i64 a0_0) := (blk_cell BK193.out 0).trans rfl; have hcz22_1 : w21.cell? ⟨gb193, 1, none⟩ = some (.int .i64 a0_1) := (blk_cell BK193.out 1).trans rfl; have hcz22_2 : w21.cell? ⟨gb193, 2, none⟩ = some (.slice A0_2 l0_2.length c0_2) := (blk_cell BK193.out 2).trans rfl; have hfz22_0 := blk_frozen BK193.out 0; have hfz22_1 := blk_frozen BK193.out 1; have hfz22_2 := blk_frozen BK193.out 2) | (go_at_call 36; (with_reducible refine (regcertref07_Check.calls k a0_0 a0_1 _ _ l0_2 t195 _ ?side1 ?side2 A6.out).mono ?_); (case side1 => repeat (first | exact (Kd.C_below HR0_2.out HB.out) | (with_reducible refine Kd.C_alloc ?_ _) | (with_reducible refine Kd.C_drewN ?_ _) | (with_reducible refine Kd.C_drew ?_))); (case side2 => exact HC0_2.out); rintro e w23 ⟨rfl, hb⟩; have n0_ := As0 (blk_below (g := gb193) (o := .cells #[.int .i64 a0_0, .int .i64 a0_1, .slice A0_2 l0_2.length c0_2] 34 (0, 0)) (by (with_reducible repeat (first | refine blk_drewN ?_ _ | refine blk_drew ?_ | refine blk_alloc ?_ _)); exact BK193.out) hb); have n1_ := As0 (below_step (by repeat (first | (with_reducible first | exact HB.out | apply below_alloc | apply bdN | apply bd1 | refine below_set ?_ GE193.out) | exact HB.out)) hb); clear BK193 HB; have BK193 := n0_; have HB := n1_; clear n0_ n1_; (try clear hb); (try clear hb2); (try clear hk); (try clear hi)))
   go_ret
   exact ⟨by first | rfl | (simp [errW_none, errW_some] <;> rfl) | (simp [*, errW_none, errW_some] <;> rfl), by repeat (first | (with_reducible first | exact HB.out | apply below_alloc | apply bdN | apply bd1 | refine below_set ?_ GE193.out) | exact HB.out)⟩
 ·replace c5 := Bool.eq_false_iff.mpr c5
  subst c5
  have H1 : (some false) = some r := by rw [if_neg (show ¬ (false = true) by decide)] at H; exact H
  clear H
  have H := H1
  clear H1
  obtain rfl := Option.some.inj H
  go_enter Try.func30, Try.ntmps30
  go_wp2_with (first | ((with_reducible refine gate_dst (N := 3) rfl ?_); (try (refine gate_guard (by rfl) ?_; dsimp only)); refine box_event ?hg (N := 3) ?hd (cs := #[.int .i64 a0_0, .int .i64 a0_1, .slice A0_2 l0_2.length c0_2]) (t := 34) ?hr ?_; (case hd => rfl); (case hg => rfl); (case hr => first | (go_simp; done) | (go_simp; rfl)); intro gb193 hg w24 hbox hb; have n0_ := As0 (below_step (by repeat (first | (with_reducible first | exact HB.out | apply below_alloc | apply bdN | apply bd1) | exact HB.out)) hb); have n1_ := As0 (hbox); have n2_ := As0 ((by rw [hg]; exact (below_size (by repeat (first | (with_reducible first | exact HB.out | apply below_alloc | apply bdN | apply bd1) | exact HB.out))) : w.heap.size ≤ gb193)); have n3_ := As0 ((by rw [hg]; exact (below_size (by repeat (first | (with_reducible first | exact HB.out | apply below_alloc | apply bdN | apply bd1) | exact HB.out))) : w.heap.size ≤ gb193)); clear HB; have HB := n0_; have BK193 := n1_; have GW193 := n2_; have GE193 := n3_; clear n0_ n1_ n2_ n3_ hb hbox hg; have hcz25_0 : w24.cell? ⟨gb193, 0, none⟩ = some (.int .i64 a0_0) := (blk_cell BK193.out 0).trans rfl; have hcz25_1 : w24.cell? ⟨gb193, 1, none⟩ = some (.int .i64 a0_1) := (blk_cell BK193.out 1).trans rfl; have hcz25_2 : w24.cell? ⟨gb193, 2, none⟩ = some (.slice A0_2 l0_2.length c0_2) := (blk_cell BK193.out 2).trans rfl; have hfz25_0 := blk_frozen BK193.out 0; have hfz25_1 := blk_frozen BK193.out 1; have hfz25_2 := blk_frozen BK193.out 2) | ((with_reducible refine gate_callee (f := 35) rfl ?_); refine goesL_ (some 8) rfl rfl Try.func35 (by kernel_rfl) rfl #[.agg #[.int .i64 a0_0, .int .i64 a0_1, .slice A0_2 l0_2.length c0_2]] rfl (by (try simp only [List.map_toArray, List.map_cons, List.map_nil]); first | done | rfl | (simp only [List.length_drop, List.length_take]; rfl)) ?_; (with_reducible refine (regcertref07_Few.calls k a0_0 a0_1 _ _ l0_2 false _ ?side1 ?side2 A4.out).mono ?_); (case side1 => repeat (first | exact (Kd.C_below HR0_2.out HB.out) | (with_reducible refine Kd.C_alloc ?_ _) | (with_reducible refine Kd.C_drewN ?_ _) | (with_reducible refine Kd.C_drew ?_))); (case side2 => exact HC0_2.out); rintro e w26 ⟨rfl, hb⟩; refine ⟨_, rfl, ?_⟩; have n0_ := As0 (blk_below (g := gb193) (o := .cells #[.int .i64 a0_0, .int .i64 a0_1, .slice A0_2 l0_2.length c0_2] 34 (0, 0)) (by (with_reducible repeat (first | refine blk_drewN ?_ _ | refine blk_drew ?_ | refine blk_alloc ?_ _)); exact BK193.out) hb); have n1_ := As0 (below_step (by repeat (first | (with_reducible first | exact HB.out | apply below_alloc | apply bdN | apply bd1 | refine below_set ?_ GE193.out) | exact HB.out)) hb); clear BK193 HB; have BK193 := n0_; have HB := n1_; clear n0_ n1_; (try clear hb); (try clear hb2); (try clear hk); (try clear hi)))
  go_ret
  exact ⟨by first | rfl | (simp [errW_none, errW_some] <;> rfl) | (simp [*, errW_none, errW_some] <;> rfl), by repeat (first | (with_reducible first | exact HB.out | apply below_alloc | apply bdN | apply bd1 | refine below_set ?_ GE193.out) | exact HB.out)⟩

/-! ### regcertref09_Same: function 33 -/
def regcertref09_Same.f (k : Nat) (a0_0 : Int) (a0_1 : Int) (a0_2 : Int) (a0_3 : Int) (l0_4 : List Int) (l0_5 : List Int) (l0_6 : List Int) (a0_7 : Int) (a1_0 : Int) (a1_1 : Int) (a1_2 : Int) (a1_3 : Int) (l1_4 : List Int) (l1_5 : List Int) (l1_6 : List Int) (a1_7 : Int) : Option (Bool) := if a0_0 = a1_0 then (if a0_1 = a1_1 then (if a0_2 = a1_2 then (if a0_3 = a1_3 then (if a0_7 = a1_7 then ((regcertref09_Values.f k l0_4 l1_4).bind fun t198 => (if t198 = true then ((regcertref09_Values.f k l0_5 l1_5).bind fun t199 => (if t199 = true then ((regcertref09_Values.f k l0_6 l1_6).bind fun t200 => (some t200)) else (none))) else (none))) else (none)) else (none)) else (none)) else (none)) else (none)
theorem regcertref09_Same.mono : ∀ a0 a1 a2 a3 a4 a5 a6 a7 a8 a9 a10 a11 a12 a13 a14 a15 k, LeO (regcertref09_Same.f k a0 a1 a2 a3 a4 a5 a6 a7 a8 a9 a10 a11 a12 a13 a14 a15) (regcertref09_Same.f (k + 1) a0 a1 a2 a3 a4 a5 a6 a7 a8 a9 a10 a11 a12 a13 a14 a15) := by
 intro a0 a1 a2 a3 a4 a5 a6 a7 a8 a9 a10 a11 a12 a13 a14 a15 k
 unfold regcertref09_Same.f
 repeat' first
   | (with_reducible exact regcertref09_Values.mono _ _ _)
   | (with_reducible exact LeO.refl _)
   | (with_reducible exact LeO.none _)
   | (with_reducible refine LeO.ite ?_ ?_)
   | (with_reducible refine LeO.bind ?_ (fun _ => ?_))
   | exact regcertref09_Values.mono _ _ _
   | exact LeO.none _
   | refine LeO.ite ?_ ?_
   | refine LeO.bind ?_ (fun _ => ?_)
set_option maxHeartbeats 8000000 in
set_option maxRecDepth 100000 in
theorem regcertref09_Same.calls (k : Nat) (a0_0 : Int) (a0_1 : Int) (a0_2 : Int) (a0_3 : Int) (A0_4 : Option Addr) (c0_4 : Nat) (l0_4 : List Int) (A0_5 : Option Addr) (c0_5 : Nat) (l0_5 : List Int) (A0_6 : Option Addr) (c0_6 : Nat) (l0_6 : List Int) (a0_7 : Int) (a1_0 : Int) (a1_1 : Int) (a1_2 : Int) (a1_3 : Int) (A1_4 : Option Addr) (c1_4 : Nat) (l1_4 : List Int) (A1_5 : Option Addr) (c1_5 : Nat) (l1_5 : List Int) (A1_6 : Option Addr) (c1_6 : Nat) (l1_6 : List Int) (a1_7 : Int) (r : Bool) (w : World) (hr0_4 : Kd.C (Kd.int .i64) w A0_4 l0_4.length l0_4) (hc0_4 : l0_4.length ≤ c0_4) (hr0_5 : Kd.C (Kd.int .i64) w A0_5 l0_5.length l0_5) (hc0_5 : l0_5.length ≤ c0_5) (hr0_6 : Kd.C (Kd.int .i64) w A0_6 l0_6.length l0_6) (hc0_6 : l0_6.length ≤ c0_6) (hr1_4 : Kd.C (Kd.int .i64) w A1_4 l1_4.length l1_4) (hc1_4 : l1_4.length ≤ c1_4) (hr1_5 : Kd.C (Kd.int .i64) w A1_5 l1_5.length l1_5) (hc1_5 : l1_5.length ≤ c1_5) (hr1_6 : Kd.C (Kd.int .i64) w A1_6 l1_6.length l1_6) (hc1_6 : l1_6.length ≤ c1_6) (h : regcertref09_Same.f k a0_0 a0_1 a0_2 a0_3 l0_4 l0_5 l0_6 a0_7 a1_0 a1_1 a1_2 a1_3 l1_4 l1_5 l1_6 a1_7 = some r) :
  Calls Try.prog 33 #[.agg #[.int .i64 a0_0, .int .i64 a0_1, .int .i64 a0_2, .int .i64 a0_3, .slice A0_4 l0_4.length c0_4, .slice A0_5 l0_5.length c0_5, .slice A0_6 l0_6.length c0_6, .int .i64 a0_7], .agg #[.int .i64 a1_0, .int .i64 a1_1, .int .i64 a1_2, .int .i64 a1_3, .slice A1_4 l1_4.length c1_4, .slice A1_5 l1_5.length c1_5, .slice A1_6 l1_6.length c1_6, .int .i64 a1_7]] w fun e w' => e = .returned (.bool r) ∧ Below w.heap.size w w' := by
 have hu39 := Try.underlying39
 have HR0_4 := As0 hr0_4
 have HC0_4 := As0 hc0_4
 clear hr0_4 hc0_4
 have HR0_5 := As0 hr0_5
 have HC0_5 := As0 hc0_5
 clear hr0_5 hc0_5
 have HR0_6 := As0 hr0_6
 have HC0_6 := As0 hc0_6
 clear hr0_6 hc0_6
 have HR1_4 := As0 hr1_4
 have HC1_4 := As0 hc1_4
 clear hr1_4 hc1_4
 have HR1_5 := As0 hr1_5
 have HC1_5 := As0 hc1_5
 clear hr1_5 hc1_5
 have HR1_6 := As0 hr1_6
 have HC1_6 := As0 hc1_6
 clear hr1_6 hc1_6
 have HB := As0 (Below.refl w.heap.size w)
 have H : (if a0_0 = a1_0 then (if a0_1 = a1_1 then (if a0_2 = a1_2 then (if a0_3 = a1_3 then (if a0_7 = a1_7 then ((regcertref09_Values.f k l0_4 l1_4).bind fun t198 => (if t198 = true then ((regcertref09_Values.f k l0_5 l1_5).bind fun t199 => (if t199 = true then ((regcertref09_Values.f k l0_6 l1_6).bind fun t200 => (some t200)) else (none))) else (none))) else (none)) else (none)) else (none)) else (none)) else (none)) = some r := h
 clear h
 by_cases c3 : a0_0 = a1_0
 ·rw [if_pos c3] at H
  have c3b0 : (a0_0 == a1_0) = true := beq_iff_eq.mpr c3
  have c3b1 : (a0_0 != a1_0) = false := bne_eq_false_iff_eq.mpr c3
  clear c3
  by_cases c4 : a0_1 = a1_1
  ·rw [if_pos c4] at H
   have c4b0 : (a0_1 == a1_1) = true := beq_iff_eq.mpr c4
   have c4b1 : (a0_1 != a1_1) = false := bne_eq_false_iff_eq.mpr c4
   clear c4
   by_cases c5 : a0_2 = a1_2
   ·rw [if_pos c5] at H
    have c5b0 : (a0_2 == a1_2) = true := beq_iff_eq.mpr c5
    have c5b1 : (a0_2 != a1_2) = false := bne_eq_false_iff_eq.mpr c5
    clear c5
    by_cases c6 : a0_3 = a1_3
    ·rw [if_pos c6] at H
     have c6b0 : (a0_3 == a1_3) = true := beq_iff_eq.mpr c6
     have c6b1 : (a0_3 != a1_3) = false := bne_eq_false_iff_eq.mpr c6
     clear c6
     by_cases c7 : a0_7 = a1_7
     ·rw [if_pos c7] at H
      have c7b0 : (a0_7 == a1_7) = true := beq_iff_eq.mpr c7
      have c7b1 : (a0_7 != a1_7) = false := bne_eq_false_iff_eq.mpr c7
      clear c7
      replace H := Option.bind_eq_some_iff.mp H
      obtain ⟨t198, A80, H⟩ := H
      replace H : (if t198 = true then ((regcertref09_Values.f k l0_5 l1_5).bind fun t199 => (if t199 = true then ((regcertref09_Values.f k l0_6 l1_6).bind fun t200 => (some t200)) else (none))) else (none)) = some r := H
      have A8 := As0 A80
      clear A80
      by_cases c9 : t198 = true
      ·subst c9
       have H1 : ((regcertref09_Values.f k l0_5 l1_5).bind fun t199 => (if t199 = true then ((regcertref09_Values.f k l0_6 l1_6).bind fun t200 => (some t200)) else (none))) = some r := by rw [if_pos rfl] at H; exact H
       clear H
       have H := H1
       clear H1
       replace H := Option.bind_eq_some_iff.mp H
       obtain ⟨t199, A100, H⟩ := H
       replace H : (if t199 = true then ((regcertref09_Values.f k l0_6 l1_6).bind fun t200 => (some t200)) else (none)) = some r := H
       have A10 := As0 A100
       clear A100
       by_cases c11 : t199 = true
       ·subst c11
        have H1 : ((regcertref09_Values.f k l0_6 l1_6).bind fun t200 => (some t200)) = some r := by rw [if_pos rfl] at H; exact H
        clear H
        have H := H1
        clear H1
        replace H := Option.bind_eq_some_iff.mp H
        obtain ⟨t200, A120, H⟩ := H
        replace H : (some t200) = some r := H
        have A12 := As0 A120
        clear A120
        obtain rfl := Option.some.inj H
        go_enter Try.func33, Try.ntmps33
        go_wp2_with (first | ((with_reducible refine gate_dst (N := 2) rfl ?_); refine box_event ?hg (N := 2) ?hd (cs := #[.int .i64 a0_0, .int .i64 a0_1, .int .i64 a0_2, .int .i64 a0_3, .slice A0_4 l0_4.length c0_4, .slice A0_5 l0_5.length c0_5, .slice A0_6 l0_6.length c0_6, .int .i64 a0_7]) (t := 39) ?hr ?_; (case hd => rfl); (case hg => rfl); (case hr => first | (go_simp; done) | (go_simp; rfl)); intro gb196 hg w13 hbox hb; have n0_ := As0 (below_step (by repeat (first | (with_reducible first | exact HB.out | apply below_alloc | apply bdN | apply bd1) | exact HB.out)) hb); have n1_ := As0 (hbox); have n2_ := As0 ((by rw [hg]; exact (below_size (by repeat (first | (with_reducible first | exact HB.out | apply below_alloc | apply bdN | apply bd1) | exact HB.out))) : w.heap.size ≤ gb196)); have n3_ := As0 ((by rw [hg]; exact (below_size (by repeat (first | (with_reducible first | exact HB.out | apply below_alloc | apply bdN | apply bd1) | exact HB.out))) : w.heap.size ≤ gb196)); clear HB; have HB := n0_; have BK196 := n1_; have GW196 := n2_; have GE196 := n3_; clear n0_ n1_ n2_ n3_ hb hbox hg) | ((with_reducible refine gate_dst (N := 3) rfl ?_); refine box_event ?hg (N := 3) ?hd (cs := #[.int .i64 a1_0, .int .i64 a1_1, .int .i64 a1_2, .int .i64 a1_3, .slice A1_4 l1_4.length c1_4, .slice A1_5 l1_5.length c1_5, .slice A1_6 l1_6.length c1_6, .int .i64 a1_7]) (t := 39) ?hr ?_; (case hd => rfl); (case hg => rfl); (case hr => first | (go_simp; done) | (go_simp; rfl)); intro gb197 hg w14 hbox hb; have n0_ := As0 (blk_below (g := gb196) (o := .cells #[.int .i64 a0_0, .int .i64 a0_1, .int .i64 a0_2, .int .i64 a0_3, .slice A0_4 l0_4.length c0_4, .slice A0_5 l0_5.length c0_5, .slice A0_6 l0_6.length c0_6, .int .i64 a0_7] 39 (0, 0)) (by (with_reducible repeat (first | refine blk_drewN ?_ _ | refine blk_drew ?_ | refine blk_alloc ?_ _)); exact BK196.out) hb); have n1_ := As0 (below_step (by repeat (first | (with_reducible first | exact HB.out | apply below_alloc | apply bdN | apply bd1 | refine below_set ?_ GE196.out) | exact HB.out)) hb); have n2_ := As0 (hbox); have n3_ := As0 ((by rw [hg]; exact (below_size (by repeat (first | (with_reducible first | exact HB.out | apply below_alloc | apply bdN | apply bd1 | refine below_set ?_ GE196.out) | exact HB.out))) : w.heap.size ≤ gb197)); have n4_ := As0 ((by rw [hg]; exact (below_size (by repeat (first | (with_reducible first | exact HB.out | apply below_alloc | apply bdN | apply bd1 | refine below_set ?_ GE196.out) | exact HB.out))) : w.heap.size ≤ gb197)); have n5_ := As0 ((by rw [hg]; exact Nat.ne_of_lt (blk_lt (g := gb196) (o := .cells #[.int .i64 a0_0, .int .i64 a0_1, .int .i64 a0_2, .int .i64 a0_3, .slice A0_4 l0_4.length c0_4, .slice A0_5 l0_5.length c0_5, .slice A0_6 l0_6.length c0_6, .int .i64 a0_7] 39 (0, 0)) (by (with_reducible repeat (first | refine blk_drewN ?_ _ | refine blk_drew ?_ | refine blk_alloc ?_ _)); exact BK196.out)) : gb196 ≠ gb197)); have n6_ := As0 ((by rw [hg]; exact Nat.ne_of_gt (blk_lt (g := gb196) (o := .cells #[.int .i64 a0_0, .int .i64 a0_1, .int .i64 a0_2, .int .i64 a0_3, .slice A0_4 l0_4.length c0_4, .slice A0_5 l0_5.length c0_5, .slice A0_6 l0_6.length c0_6, .int .i64 a0_7] 39 (0, 0)) (by (with_reducible repeat (first | refine blk_drewN ?_ _ | refine blk_drew ?_ | refine blk_alloc ?_ _)); exact BK196.out)) : gb197 ≠ gb196)); clear BK196 HB; have BK196 := n0_; have HB := n1_; have BK197 := n2_; have GW197 := n3_; have GE197 := n4_; have NB196_197 := n5_; have NB197_196 := n6_; clear n0_ n1_ n2_ n3_ n4_ n5_ n6_ hb hbox hg; have hnb15 := NB196_197.out; have hnc15 := NB197_196.out; have hcz16_0 : w14.cell? ⟨gb196, 0, none⟩ = some (.int .i64 a0_0) := (blk_cell BK196.out 0).trans rfl; have hcz16_1 : w14.cell? ⟨gb196, 1, none⟩ = some (.int .i64 a0_1) := (blk_cell BK196.out 1).trans rfl; have hcz16_2 : w14.cell? ⟨gb196, 2, none⟩ = some (.int .i64 a0_2) := (blk_cell BK196.out 2).trans rfl; have hcz16_3 : w14.cell? ⟨gb196, 3, none⟩ = some (.int .i64 a0_3) := (blk_cell BK196.out 3).trans rfl; have hcz16_4 : w14.cell? ⟨gb196, 4, none⟩ = some (.slice A0_4 l0_4.length c0_4) := (blk_cell BK196.out 4).trans rfl; have hcz16_5 : w14.cell? ⟨gb196, 5, none⟩ = some (.slice A0_5 l0_5.length c0_5) := (blk_cell BK196.out 5).trans rfl; have hcz16_6 : w14.cell? ⟨gb196, 6, none⟩ = some (.slice A0_6 l0_6.length c0_6) := (blk_cell BK196.out 6).trans rfl; have hcz16_7 : w14.cell? ⟨gb196, 7, none⟩ = some (.int .i64 a0_7) := (blk_cell BK196.out 7).trans rfl; have hfz16_0 := blk_frozen BK196.out 0; have hfz16_1 := blk_frozen BK196.out 1; have hfz16_2 := blk_frozen BK196.out 2; have hfz16_3 := blk_frozen BK196.out 3; have hfz16_4 := blk_frozen BK196.out 4; have hfz16_5 := blk_frozen BK196.out 5; have hfz16_6 := blk_frozen BK196.out 6; have hfz16_7 := blk_frozen BK196.out 7; have hcz17_0 : w14.cell? ⟨gb197, 0, none⟩ = some (.int .i64 a1_0) := (blk_cell BK197.out 0).trans rfl; have hcz17_1 : w14.cell? ⟨gb197, 1, none⟩ = some (.int .i64 a1_1) := (blk_cell BK197.out 1).trans rfl; have hcz17_2 : w14.cell? ⟨gb197, 2, none⟩ = some (.int .i64 a1_2) := (blk_cell BK197.out 2).trans rfl; have hcz17_3 : w14.cell? ⟨gb197, 3, none⟩ = some (.int .i64 a1_3) := (blk_cell BK197.out 3).trans rfl; have hcz17_4 : w14.cell? ⟨gb197, 4, none⟩ = some (.slice A1_4 l1_4.length c1_4) := (blk_cell BK197.out 4).trans rfl; have hcz17_5 : w14.cell? ⟨gb197, 5, none⟩ = some (.slice A1_5 l1_5.length c1_5) := (blk_cell BK197.out 5).trans rfl; have hcz17_6 : w14.cell? ⟨gb197, 6, none⟩ = some (.slice A1_6 l1_6.length c1_6) := (blk_cell BK197.out 6).trans rfl; have hcz17_7 : w14.cell? ⟨gb197, 7, none⟩ = some (.int .i64 a1_7) := (blk_cell BK197.out 7).trans rfl; have hfz17_0 := blk_frozen BK197.out 0; have hfz17_1 := blk_frozen BK197.out 1; have hfz17_2 := blk_frozen BK197.out 2; have hfz17_3 := blk_frozen BK197.out 3; have hfz17_4 := blk_frozen BK197.out 4; have hfz17_5 := blk_frozen BK197.out 5; have hfz17_6 := blk_frozen BK197.out 6; have hfz17_7 := blk_frozen BK197.out 7) | (go_at_call 37; (with_reducible refine (regcertref09_Values.calls k _ _ l0_4 _ _ l1_4 true _ ?side1 ?side2 ?side3 ?side4 A8.out).mono ?_); (case side1 => repeat (first | exact (Kd.C_below HR0_4.out HB.out) | (with_reducible refine Kd.C_alloc ?_ _) | (with_reducible refine Kd.C_drewN ?_ _) | (with_reducible refine Kd.C_drew ?_))); (case side2 => exact HC0_4.out); (case side3 => repeat (first | exact (Kd.C_below HR1_4.out HB.out) | (with_reducible refine Kd.C_alloc ?_ _) | (with_reducible refine Kd.C_drewN ?_ _) | (with_reducible refine Kd.C_drew ?_))); (case side4 => exact HC1_4.out); rintro e w' ⟨rfl, ⟨nd, rfl⟩⟩) | (go_at_call 37; (with_reducible refine (regcertref09_Values.calls k _ _ l0_5 _ _ l1_5 true _ ?side1 ?side2 ?side3 ?side4 A10.out).mono ?_); (case side1 => repeat (first | exact (Kd.C_below HR0_5.out (by repeat (first | (with_reducible first | exact HB.out | apply below_alloc | apply bdN | apply bd1 | refine below_set ?_ GE196.out | refine below_set ?_ GE197.out) | exact HB.out))) | (with_reducible refine Kd.C_alloc ?_ _) | (with_reducible refine Kd.C_drewN ?_ _) | (with_reducible refine Kd.C_drew ?_))); (case side2 => exact HC0_5.out); (case side3 => repeat (first | exact (Kd.C_below HR1_5.out (by repeat (first | (with_reducible first | exact HB.out | apply below_alloc | apply bdN | apply bd1 | refine below_set ?_ GE196.out | refine below_set ?_ GE197.out) | exact HB.out))) | (with_reducible refine Kd.C_alloc ?_ _) | (with_reducible refine Kd.C_drewN ?_ _) | (with_reducible refine Kd.C_drew ?_))); (case side4 => exact HC1_5.out); rintro e w' ⟨rfl, ⟨nd, rfl⟩⟩) | (go_at_call 37; (with_reducible refine (regcertref09_Values.calls k _ _ l0_6 _ _ l1_6 t200 _ ?side1 ?side2 ?side3 ?side4 A12.out).mono ?_); (case side1 => repeat (first | exact (Kd.C_below HR0_6.out (by repeat (first | (with_reducible first | exact HB.out | apply below_alloc | apply bdN | apply bd1 | refine below_set ?_ GE196.out | refine below_set ?_ GE197.out) | exact HB.out))) | (with_reducible refine Kd.C_alloc ?_ _) | (with_reducible refine Kd.C_drewN ?_ _) | (with_reducible refine Kd.C_drew ?_))); (case side2 => exact HC0_6.out); (case side3 => repeat (first | exact (Kd.C_below HR1_6.out (by repeat (first | (with_reducible first | exact HB.out | apply below_alloc | apply bdN | apply bd1 | refine below_set ?_ GE196.out | refine below_set ?_ GE197.out) | exact HB.out))) | (with_reducible refine Kd.C_alloc ?_ _) | (with_reducible refine Kd.C_drewN ?_ _) | (with_reducible refine Kd.C_drew ?_))); (case side4 => exact HC1_6.out); rintro e w' ⟨rfl, ⟨nd, rfl⟩⟩))
        go_ret
        exact ⟨by first | rfl | (simp [errW_none, errW_some] <;> rfl) | (simp [*, errW_none, errW_some] <;> rfl), by repeat (first | (with_reducible first | exact HB.out | apply below_alloc | apply bdN | apply bd1 | refine below_set ?_ GE196.out | refine below_set ?_ GE197.out) | exact HB.out)⟩
       ·replace c11 := Bool.eq_false_iff.mpr c11
        subst c11
        have H1 : (none) = some r := by rw [if_neg (show ¬ (false = true) by decide)] at H; exact H
        clear H
        have H := H1
        clear H1
        exact absurd H (by simp)
      ·replace c9 := Bool.eq_false_iff.mpr c9
       subst c9
       have H1 : (none) = some r := by rw [if_neg (show ¬ (false = true) by decide)] at H; exact H
       clear H
       have H := H1
       clear H1
       exact absurd H (by simp)
     ·rw [if_neg c7] at H
      exact absurd H (by simp)
    ·rw [if_neg c6] at H
     exact absurd H (by simp)
   ·rw [if_neg c5] at H
    exact absurd H (by simp)
  ·rw [if_neg c4] at H
   exact absurd H (by simp)
 ·rw [if_neg c3] at H
  exact absurd H (by simp)

end Go.Proofs.Ytgkmagfajalnhaa.Y
