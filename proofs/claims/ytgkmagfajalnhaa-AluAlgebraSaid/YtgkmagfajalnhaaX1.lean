-- Written by a program of this session (xprint), out of the translation. Not trusted: Lean checks it.
import Derived.Test.YtgkmagfajalnhaaX0
import Derived.Test.YtgkmagfajalnhaaXEval
import Derived.Test.YtgkmagfajalnhaaXTraps
namespace Go.Proofs.Ytgkmagfajalnhaa.X
open Go.RowKit Go.Proofs.YtgkmagfajalnhaaW.PrintWords Go.Proofs.YtgkmagfajalnhaaW.PrintLast Go.Proofs.YtgkmagfajalnhaaW.PrintMore
attribute [local go_sem] max2_int min2_int max_two min_two max_three min_three max_four min_four   -- for this text's walks alone
set_option linter.unusedVariables false
set_option linter.unusedSimpArgs false

-- NOT PRINTED: function 58 (alu_operation)

-- BY HAND: function 20 (alu_Eval): Derived.Test.YtgkmagfajalnhaaXEval

/-! ### alu_Pure: function 22 -/
def alu_Pure.f (a0 : Int) : Option (Bool) := (alu_Eval.f a0 1 1 1).bind fun bt101 => (some bt101.2)
set_option maxHeartbeats 8000000 in
set_option maxRecDepth 100000 in
theorem alu_Pure.calls (a0 : Int) (r : Bool) (w : World) (h : alu_Pure.f a0 = some r) :
  Calls Try.prog 22 #[.int .i64 a0] w fun e w' => e = .returned (.bool r) ∧ Below w.heap.size w w' := by
 have HB := As0 (Below.refl w.heap.size w)
 have H : ((alu_Eval.f a0 1 1 1).bind fun bt101 => (some bt101.2)) = some r := h
 clear h
 replace H := Option.bind_eq_some_iff.mp H
 obtain ⟨⟨t101, t102⟩, A20, H⟩ := H
 replace H : (some t102) = some r := H
 have A2 := As0 A20
 clear A20
 obtain rfl := Option.some.inj H
 go_enter Try.func22, Try.ntmps22
 go_wp2_with (first | ((with_reducible refine gate_callee (f := 20) rfl ?_); refine goesL_ (some 7) rfl rfl Try.func20 (by kernel_rfl) rfl #[.int .i64 a0, .int .i64 1, .int .i64 1, .int .i64 1] rfl (by (try simp only [List.map_toArray, List.map_cons, List.map_nil]); first | done | rfl | (simp only [List.length_drop, List.length_take]; rfl)) ?_; (with_reducible refine (alu_Eval.calls a0 1 1 1 t101 t102 _ A2.out).mono ?_); rintro e w3 ⟨rfl, hb⟩; refine ⟨_, rfl, ?_⟩; have n0_ := As0 (below_step (by repeat (first | (with_reducible first | exact HB.out | apply below_alloc | apply bdN | apply bd1) | exact HB.out)) hb); clear HB; have HB := n0_; clear n0_; (try clear hb); (try clear hb2); (try clear hk); (try clear hi)))
 go_ret
 exact ⟨by first | rfl | (simp [errW_none, errW_some] <;> rfl) | (simp [*, errW_none, errW_some] <;> rfl), by repeat (first | (with_reducible first | exact HB.out | apply below_alloc | apply bdN | apply bd1) | exact HB.out)⟩

-- BY HAND: function 23 (alu_Traps): Derived.Test.YtgkmagfajalnhaaXTraps

/-! ### regcertlaw06_is: function 27 -/
def regcertlaw06_is.f (a0 : Int) (a1 : Int) (a2 : Int) (a3 : Int) : Option (Bool) := (alu_Eval.f a0 a1 a2 0).bind fun bt103 => (if bt103.2 = true then (some (bt103.1 == a3)) else (some false))
set_option maxHeartbeats 8000000 in
set_option maxRecDepth 100000 in
theorem regcertlaw06_is.calls (a0 : Int) (a1 : Int) (a2 : Int) (a3 : Int) (r : Bool) (w : World) (h : regcertlaw06_is.f a0 a1 a2 a3 = some r) :
  Calls Try.prog 27 #[.int .i64 a0, .int .i64 a1, .int .i64 a2, .int .i64 a3] w fun e w' => e = .returned (.bool r) ∧ Below w.heap.size w w' := by
 have HB := As0 (Below.refl w.heap.size w)
 have H : ((alu_Eval.f a0 a1 a2 0).bind fun bt103 => (if bt103.2 = true then (some (bt103.1 == a3)) else (some false))) = some r := h
 clear h
 replace H := Option.bind_eq_some_iff.mp H
 obtain ⟨⟨t103, t104⟩, A50, H⟩ := H
 replace H : (if t104 = true then (some (t103 == a3)) else (some false)) = some r := H
 have A5 := As0 A50
 clear A50
 by_cases c6 : t104 = true
 ·subst c6
  have H1 : (some (t103 == a3)) = some r := by rw [if_pos rfl] at H; exact H
  clear H
  have H := H1
  clear H1
  obtain rfl := Option.some.inj H
  go_enter Try.func27, Try.ntmps27
  go_wp2_with (first | ((with_reducible refine gate_callee (f := 20) rfl ?_); refine goesL_ (some 15) rfl rfl Try.func20 (by kernel_rfl) rfl #[.int .i64 a0, .int .i64 a1, .int .i64 a2, .int .i64 0] rfl (by (try simp only [List.map_toArray, List.map_cons, List.map_nil]); first | done | rfl | (simp only [List.length_drop, List.length_take]; rfl)) ?_; (with_reducible refine (alu_Eval.calls a0 a1 a2 0 t103 true _ A5.out).mono ?_); rintro e w7 ⟨rfl, hb⟩; refine ⟨_, rfl, ?_⟩; have n0_ := As0 (below_step (by repeat (first | (with_reducible first | exact HB.out | apply below_alloc | apply bdN | apply bd1) | exact HB.out)) hb); clear HB; have HB := n0_; clear n0_; (try clear hb); (try clear hb2); (try clear hk); (try clear hi)))
  go_ret
  exact ⟨by first | rfl | (simp [errW_none, errW_some] <;> rfl) | (simp [*, errW_none, errW_some] <;> rfl), by repeat (first | (with_reducible first | exact HB.out | apply below_alloc | apply bdN | apply bd1) | exact HB.out)⟩
 ·replace c6 := Bool.eq_false_iff.mpr c6
  subst c6
  have H1 : (some false) = some r := by rw [if_neg (show ¬ (false = true) by decide)] at H; exact H
  clear H
  have H := H1
  clear H1
  obtain rfl := Option.some.inj H
  go_enter Try.func27, Try.ntmps27
  go_wp2_with (first | ((with_reducible refine gate_callee (f := 20) rfl ?_); refine goesL_ (some 15) rfl rfl Try.func20 (by kernel_rfl) rfl #[.int .i64 a0, .int .i64 a1, .int .i64 a2, .int .i64 0] rfl (by (try simp only [List.map_toArray, List.map_cons, List.map_nil]); first | done | rfl | (simp only [List.length_drop, List.length_take]; rfl)) ?_; (with_reducible refine (alu_Eval.calls a0 a1 a2 0 t103 false _ A5.out).mono ?_); rintro e w8 ⟨rfl, hb⟩; refine ⟨_, rfl, ?_⟩; have n0_ := As0 (below_step (by repeat (first | (with_reducible first | exact HB.out | apply below_alloc | apply bdN | apply bd1) | exact HB.out)) hb); clear HB; have HB := n0_; clear n0_; (try clear hb); (try clear hb2); (try clear hk); (try clear hi)))
  go_ret
  exact ⟨by first | rfl | (simp [errW_none, errW_some] <;> rfl) | (simp [*, errW_none, errW_some] <;> rfl), by repeat (first | (with_reducible first | exact HB.out | apply below_alloc | apply bdN | apply bd1) | exact HB.out)⟩

/-! ### regcertlaw06_awake: function 19 -/
def regcertlaw06_awake.f  : Option (Bool) := (alu_Eval.f 8 1 0 0).bind fun bt105 => ((alu_Eval.f 17 1 1 1).bind fun bt107 => ((regcertlaw06_is.f 8 (-7) 2 (-3)).bind fun t109 => (if t109 = true then ((regcertlaw06_is.f 9 (-7) 2 (-1)).bind fun t110 => (if t110 = true then ((regcertlaw06_is.f 13 1 65 2).bind fun t111 => (if t111 = true then ((regcertlaw06_is.f 14 (-8) 1 (-4)).bind fun t112 => (if t112 = true then ((regcertlaw06_is.f 8 (-9223372036854775808) (-1) (-9223372036854775808)).bind fun t113 => (if t113 = true then (if bt105.2 = true then (some false) else (if bt107.2 = true then (some false) else ((alu_Traps.f 9).bind fun t114 => (if t114 = true then ((alu_Traps.f 5).bind fun t115 => (if t115 = true then (some false) else ((alu_Pure.f 5).bind fun t116 => (if t116 = true then ((alu_Pure.f 18).bind fun t117 => (some (!t117))) else (some false))))) else (some false))))) else (some false))) else (some false))) else (some false))) else (some false))) else (some false))))
set_option maxHeartbeats 8000000 in
set_option maxRecDepth 100000 in
theorem regcertlaw06_awake.calls  (r : Bool) (w : World) (h : regcertlaw06_awake.f  = some r) :
  Calls Try.prog 19 #[] w fun e w' => e = .returned (.bool r) ∧ Below w.heap.size w w' := by
 have HB := As0 (Below.refl w.heap.size w)
 have H : ((alu_Eval.f 8 1 0 0).bind fun bt105 => ((alu_Eval.f 17 1 1 1).bind fun bt107 => ((regcertlaw06_is.f 8 (-7) 2 (-3)).bind fun t109 => (if t109 = true then ((regcertlaw06_is.f 9 (-7) 2 (-1)).bind fun t110 => (if t110 = true then ((regcertlaw06_is.f 13 1 65 2).bind fun t111 => (if t111 = true then ((regcertlaw06_is.f 14 (-8) 1 (-4)).bind fun t112 => (if t112 = true then ((regcertlaw06_is.f 8 (-9223372036854775808) (-1) (-9223372036854775808)).bind fun t113 => (if t113 = true then (if bt105.2 = true then (some false) else (if bt107.2 = true then (some false) else ((alu_Traps.f 9).bind fun t114 => (if t114 = true then ((alu_Traps.f 5).bind fun t115 => (if t115 = true then (some false) else ((alu_Pure.f 5).bind fun t116 => (if t116 = true then ((alu_Pure.f 18).bind fun t117 => (some (!t117))) else (some false))))) else (some false))))) else (some false))) else (some false))) else (some false))) else (some false))) else (some false))))) = some r := h
 clear h
 replace H := Option.bind_eq_some_iff.mp H
 obtain ⟨⟨t105, t106⟩, A10, H⟩ := H
 replace H : ((alu_Eval.f 17 1 1 1).bind fun bt107 => ((regcertlaw06_is.f 8 (-7) 2 (-3)).bind fun t109 => (if t109 = true then ((regcertlaw06_is.f 9 (-7) 2 (-1)).bind fun t110 => (if t110 = true then ((regcertlaw06_is.f 13 1 65 2).bind fun t111 => (if t111 = true then ((regcertlaw06_is.f 14 (-8) 1 (-4)).bind fun t112 => (if t112 = true then ((regcertlaw06_is.f 8 (-9223372036854775808) (-1) (-9223372036854775808)).bind fun t113 => (if t113 = true then (if t106 = true then (some false) else (if bt107.2 = true then (some false) else ((alu_Traps.f 9).bind fun t114 => (if t114 = true then ((alu_Traps.f 5).bind fun t115 => (if t115 = true then (some false) else ((alu_Pure.f 5).bind fun t116 => (if t116 = true then ((alu_Pure.f 18).bind fun t117 => (some (!t117))) else (some false))))) else (some false))))) else (some false))) else (some false))) else (some false))) else (some false))) else (some false)))) = some r := H
 have A1 := As0 A10
 clear A10
 replace H := Option.bind_eq_some_iff.mp H
 obtain ⟨⟨t107, t108⟩, A20, H⟩ := H
 replace H : ((regcertlaw06_is.f 8 (-7) 2 (-3)).bind fun t109 => (if t109 = true then ((regcertlaw06_is.f 9 (-7) 2 (-1)).bind fun t110 => (if t110 = true then ((regcertlaw06_is.f 13 1 65 2).bind fun t111 => (if t111 = true then ((regcertlaw06_is.f 14 (-8) 1 (-4)).bind fun t112 => (if t112 = true then ((regcertlaw06_is.f 8 (-9223372036854775808) (-1) (-9223372036854775808)).bind fun t113 => (if t113 = true then (if t106 = true then (some false) else (if t108 = true then (some false) else ((alu_Traps.f 9).bind fun t114 => (if t114 = true then ((alu_Traps.f 5).bind fun t115 => (if t115 = true then (some false) else ((alu_Pure.f 5).bind fun t116 => (if t116 = true then ((alu_Pure.f 18).bind fun t117 => (some (!t117))) else (some false))))) else (some false))))) else (some false))) else (some false))) else (some false))) else (some false))) else (some false))) = some r := H
 have A2 := As0 A20
 clear A20
 replace H := Option.bind_eq_some_iff.mp H
 obtain ⟨t109, A30, H⟩ := H
 replace H : (if t109 = true then ((regcertlaw06_is.f 9 (-7) 2 (-1)).bind fun t110 => (if t110 = true then ((regcertlaw06_is.f 13 1 65 2).bind fun t111 => (if t111 = true then ((regcertlaw06_is.f 14 (-8) 1 (-4)).bind fun t112 => (if t112 = true then ((regcertlaw06_is.f 8 (-9223372036854775808) (-1) (-9223372036854775808)).bind fun t113 => (if t113 = true then (if t106 = true then (some false) else (if t108 = true then (some false) else ((alu_Traps.f 9).bind fun t114 => (if t114 = true then ((alu_Traps.f 5).bind fun t115 => (if t115 = true then (some false) else ((alu_Pure.f 5).bind fun t116 => (if t116 = true then ((alu_Pure.f 18).bind fun t117 => (some (!t117))) else (some false))))) else (some false))))) else (some false))) else (some false))) else (some false))) else (some false))) else (some false)) = some r := H
 have A3 := As0 A30
 clear A30
 by_cases c4 : t109 = true
 ·subst c4
  have H1 : ((regcertlaw06_is.f 9 (-7) 2 (-1)).bind fun t110 => (if t110 = true then ((regcertlaw06_is.f 13 1 65 2).bind fun t111 => (if t111 = true then ((regcertlaw06_is.f 14 (-8) 1 (-4)).bind fun t112 => (if t112 = true then ((regcertlaw06_is.f 8 (-9223372036854775808) (-1) (-9223372036854775808)).bind fun t113 => (if t113 = true then (if t106 = true then (some false) else (if t108 = true then (some false) else ((alu_Traps.f 9).bind fun t114 => (if t114 = true then ((alu_Traps.f 5).bind fun t115 => (if t115 = true then (some false) else ((alu_Pure.f 5).bind fun t116 => (if t116 = true then ((alu_Pure.f 18).bind fun t117 => (some (!t117))) else (some false))))) else (some false))))) else (some false))) else (some false))) else (some false))) else (some false))) = some r := by rw [if_pos rfl] at H; exact H
  clear H
  have H := H1
  clear H1
  replace H := Option.bind_eq_some_iff.mp H
  obtain ⟨t110, A50, H⟩ := H
  replace H : (if t110 = true then ((regcertlaw06_is.f 13 1 65 2).bind fun t111 => (if t111 = true then ((regcertlaw06_is.f 14 (-8) 1 (-4)).bind fun t112 => (if t112 = true then ((regcertlaw06_is.f 8 (-9223372036854775808) (-1) (-9223372036854775808)).bind fun t113 => (if t113 = true then (if t106 = true then (some false) else (if t108 = true then (some false) else ((alu_Traps.f 9).bind fun t114 => (if t114 = true then ((alu_Traps.f 5).bind fun t115 => (if t115 = true then (some false) else ((alu_Pure.f 5).bind fun t116 => (if t116 = true then ((alu_Pure.f 18).bind fun t117 => (some (!t117))) else (some false))))) else (some false))))) else (some false))) else (some false))) else (some false))) else (some false)) = some r := H
  have A5 := As0 A50
  clear A50
  by_cases c6 : t110 = true
  ·subst c6
   have H1 : ((regcertlaw06_is.f 13 1 65 2).bind fun t111 => (if t111 = true then ((regcertlaw06_is.f 14 (-8) 1 (-4)).bind fun t112 => (if t112 = true then ((regcertlaw06_is.f 8 (-9223372036854775808) (-1) (-9223372036854775808)).bind fun t113 => (if t113 = true then (if t106 = true then (some false) else (if t108 = true then (some false) else ((alu_Traps.f 9).bind fun t114 => (if t114 = true then ((alu_Traps.f 5).bind fun t115 => (if t115 = true then (some false) else ((alu_Pure.f 5).bind fun t116 => (if t116 = true then ((alu_Pure.f 18).bind fun t117 => (some (!t117))) else (some false))))) else (some false))))) else (some false))) else (some false))) else (some false))) = some r := by rw [if_pos rfl] at H; exact H
   clear H
   have H := H1
   clear H1
   replace H := Option.bind_eq_some_iff.mp H
   obtain ⟨t111, A70, H⟩ := H
   replace H : (if t111 = true then ((regcertlaw06_is.f 14 (-8) 1 (-4)).bind fun t112 => (if t112 = true then ((regcertlaw06_is.f 8 (-9223372036854775808) (-1) (-9223372036854775808)).bind fun t113 => (if t113 = true then (if t106 = true then (some false) else (if t108 = true then (some false) else ((alu_Traps.f 9).bind fun t114 => (if t114 = true then ((alu_Traps.f 5).bind fun t115 => (if t115 = true then (some false) else ((alu_Pure.f 5).bind fun t116 => (if t116 = true then ((alu_Pure.f 18).bind fun t117 => (some (!t117))) else (some false))))) else (some false))))) else (some false))) else (some false))) else (some false)) = some r := H
   have A7 := As0 A70
   clear A70
   by_cases c8 : t111 = true
   ·subst c8
    have H1 : ((regcertlaw06_is.f 14 (-8) 1 (-4)).bind fun t112 => (if t112 = true then ((regcertlaw06_is.f 8 (-9223372036854775808) (-1) (-9223372036854775808)).bind fun t113 => (if t113 = true then (if t106 = true then (some false) else (if t108 = true then (some false) else ((alu_Traps.f 9).bind fun t114 => (if t114 = true then ((alu_Traps.f 5).bind fun t115 => (if t115 = true then (some false) else ((alu_Pure.f 5).bind fun t116 => (if t116 = true then ((alu_Pure.f 18).bind fun t117 => (some (!t117))) else (some false))))) else (some false))))) else (some false))) else (some false))) = some r := by rw [if_pos rfl] at H; exact H
    clear H
    have H := H1
    clear H1
    replace H := Option.bind_eq_some_iff.mp H
    obtain ⟨t112, A90, H⟩ := H
    replace H : (if t112 = true then ((regcertlaw06_is.f 8 (-9223372036854775808) (-1) (-9223372036854775808)).bind fun t113 => (if t113 = true then (if t106 = true then (some false) else (if t108 = true then (some false) else ((alu_Traps.f 9).bind fun t114 => (if t114 = true then ((alu_Traps.f 5).bind fun t115 => (if t115 = true then (some false) else ((alu_Pure.f 5).bind fun t116 => (if t116 = true then ((alu_Pure.f 18).bind fun t117 => (some (!t117))) else (some false))))) else (some false))))) else (some false))) else (some false)) = some r := H
    have A9 := As0 A90
    clear A90
    by_cases c10 : t112 = true
    ·subst c10
     have H1 : ((regcertlaw06_is.f 8 (-9223372036854775808) (-1) (-9223372036854775808)).bind fun t113 => (if t113 = true then (if t106 = true then (some false) else (if t108 = true then (some false) else ((alu_Traps.f 9).bind fun t114 => (if t114 = true then ((alu_Traps.f 5).bind fun t115 => (if t115 = true then (some false) else ((alu_Pure.f 5).bind fun t116 => (if t116 = true then ((alu_Pure.f 18).bind fun t117 => (some (!t117))) else (some false))))) else (some false))))) else (some false))) = some r := by rw [if_pos rfl] at H; exact H
     clear H
     have H := H1
     clear H1
     replace H := Option.bind_eq_some_iff.mp H
     obtain ⟨t113, A110, H⟩ := H
     replace H : (if t113 = true then (if t106 = true then (some false) else (if t108 = true then (some false) else ((alu_Traps.f 9).bind fun t114 => (if t114 = true then ((alu_Traps.f 5).bind fun t115 => (if t115 = true then (some false) else ((alu_Pure.f 5).bind fun t116 => (if t116 = true then ((alu_Pure.f 18).bind fun t117 => (some (!t117))) else (some false))))) else (some false))))) else (some false)) = some r := H
     have A11 := As0 A110
     clear A110
     by_cases c12 : t113 = true
     ·subst c12
      have H1 : (if t106 = true then (some false) else (if t108 = true then (some false) else ((alu_Traps.f 9).bind fun t114 => (if t114 = true then ((alu_Traps.f 5).bind fun t115 => (if t115 = true then (some false) else ((alu_Pure.f 5).bind fun t116 => (if t116 = true then ((alu_Pure.f 18).bind fun t117 => (some (!t117))) else (some false))))) else (some false))))) = some r := by rw [if_pos rfl] at H; exact H
      clear H
      have H := H1
      clear H1
      by_cases c13 : t106 = true
      ·subst c13
       have H1 : (some false) = some r := by rw [if_pos rfl] at H; exact H
       clear H
       have H := H1
       clear H1
       obtain rfl := Option.some.inj H
       go_enter Try.func19, Try.ntmps19
       go_wp2_with (first | ((with_reducible refine gate_callee (f := 20) rfl ?_); refine goesL_ (some 6) rfl rfl Try.func20 (by kernel_rfl) rfl #[.int .i64 8, .int .i64 1, .int .i64 0, .int .i64 0] rfl (by (try simp only [List.map_toArray, List.map_cons, List.map_nil]); first | done | rfl | (simp only [List.length_drop, List.length_take]; rfl)) ?_; (with_reducible refine (alu_Eval.calls 8 1 0 0 t105 true _ A1.out).mono ?_); rintro e w14 ⟨rfl, hb⟩; refine ⟨_, rfl, ?_⟩; have n0_ := As0 (below_step (by repeat (first | (with_reducible first | exact HB.out | apply below_alloc | apply bdN | apply bd1) | exact HB.out)) hb); clear HB; have HB := n0_; clear n0_; (try clear hb); (try clear hb2); (try clear hk); (try clear hi)) | ((with_reducible refine gate_callee (f := 20) rfl ?_); refine goesL_ (some 10) rfl rfl Try.func20 (by kernel_rfl) rfl #[.int .i64 17, .int .i64 1, .int .i64 1, .int .i64 1] rfl (by (try simp only [List.map_toArray, List.map_cons, List.map_nil]); first | done | rfl | (simp only [List.length_drop, List.length_take]; rfl)) ?_; (with_reducible refine (alu_Eval.calls 17 1 1 1 t107 t108 _ A2.out).mono ?_); rintro e w15 ⟨rfl, hb⟩; refine ⟨_, rfl, ?_⟩; have n0_ := As0 (below_step (by repeat (first | (with_reducible first | exact HB.out | apply below_alloc | apply bdN | apply bd1) | exact HB.out)) hb); clear HB; have HB := n0_; clear n0_; (try clear hb); (try clear hb2); (try clear hk); (try clear hi)) | ((with_reducible refine gate_callee (f := 27) rfl ?_); refine goesL_ (some 13) rfl rfl Try.func27 (by kernel_rfl) rfl #[.int .i64 8, .int .i64 (-7), .int .i64 2, .int .i64 (-3)] rfl (by (try simp only [List.map_toArray, List.map_cons, List.map_nil]); first | done | rfl | (simp only [List.length_drop, List.length_take]; rfl)) ?_; (with_reducible refine (regcertlaw06_is.calls 8 (-7) 2 (-3) true _ A3.out).mono ?_); rintro e w16 ⟨rfl, hb⟩; refine ⟨_, rfl, ?_⟩; have n0_ := As0 (below_step (by repeat (first | (with_reducible first | exact HB.out | apply below_alloc | apply bdN | apply bd1) | exact HB.out)) hb); clear HB; have HB := n0_; clear n0_; (try clear hb); (try clear hb2); (try clear hk); (try clear hi)) | (go_at_call 27; (with_reducible refine (regcertlaw06_is.calls 9 (-7) 2 (-1) true _ A5.out).mono ?_); rintro e w17 ⟨rfl, hb⟩; have n0_ := As0 (below_step (by repeat (first | (with_reducible first | exact HB.out | apply below_alloc | apply bdN | apply bd1) | exact HB.out)) hb); clear HB; have HB := n0_; clear n0_; (try clear hb); (try clear hb2); (try clear hk); (try clear hi)) | (go_at_call 27; (with_reducible refine (regcertlaw06_is.calls 13 1 65 2 true _ A7.out).mono ?_); rintro e w18 ⟨rfl, hb⟩; have n0_ := As0 (below_step (by repeat (first | (with_reducible first | exact HB.out | apply below_alloc | apply bdN | apply bd1) | exact HB.out)) hb); clear HB; have HB := n0_; clear n0_; (try clear hb); (try clear hb2); (try clear hk); (try clear hi)) | (go_at_call 27; (with_reducible refine (regcertlaw06_is.calls 14 (-8) 1 (-4) true _ A9.out).mono ?_); rintro e w19 ⟨rfl, hb⟩; have n0_ := As0 (below_step (by repeat (first | (with_reducible first | exact HB.out | apply below_alloc | apply bdN | apply bd1) | exact HB.out)) hb); clear HB; have HB := n0_; clear n0_; (try clear hb); (try clear hb2); (try clear hk); (try clear hi)) | (go_at_call 27; (with_reducible refine (regcertlaw06_is.calls 8 (-9223372036854775808) (-1) (-9223372036854775808) true _ A11.out).mono ?_); rintro e w20 ⟨rfl, hb⟩; have n0_ := As0 (below_step (by repeat (first | (with_reducible first | exact HB.out | apply below_alloc | apply bdN | apply bd1) | exact HB.out)) hb); clear HB; have HB := n0_; clear n0_; (try clear hb); (try clear hb2); (try clear hk); (try clear hi)))
       go_ret
       exact ⟨by first | rfl | (simp [errW_none, errW_some] <;> rfl) | (simp [*, errW_none, errW_some] <;> rfl), by repeat (first | (with_reducible first | exact HB.out | apply below_alloc | apply bdN | apply bd1) | exact HB.out)⟩
      ·replace c13 := Bool.eq_false_iff.mpr c13
       subst c13
       have H1 : (if t108 = true then (some false) else ((alu_Traps.f 9).bind fun t114 => (if t114 = true then ((alu_Traps.f 5).bind fun t115 => (if t115 = true then (some false) else ((alu_Pure.f 5).bind fun t116 => (if t116 = true then ((alu_Pure.f 18).bind fun t117 => (some (!t117))) else (some false))))) else (some false)))) = some r := by rw [if_neg (show ¬ (false = true) by decide)] at H; exact H
       clear H
       have H := H1
       clear H1
       by_cases c21 : t108 = true
       ·subst c21
        have H1 : (some false) = some r := by rw [if_pos rfl] at H; exact H
        clear H
        have H := H1
        clear H1
        obtain rfl := Option.some.inj H
        go_enter Try.func19, Try.ntmps19
        go_wp2_with (first | ((with_reducible refine gate_callee (f := 20) rfl ?_); refine goesL_ (some 6) rfl rfl Try.func20 (by kernel_rfl) rfl #[.int .i64 8, .int .i64 1, .int .i64 0, .int .i64 0] rfl (by (try simp only [List.map_toArray, List.map_cons, List.map_nil]); first | done | rfl | (simp only [List.length_drop, List.length_take]; rfl)) ?_; (with_reducible refine (alu_Eval.calls 8 1 0 0 t105 false _ A1.out).mono ?_); rintro e w22 ⟨rfl, hb⟩; refine ⟨_, rfl, ?_⟩; have n0_ := As0 (below_step (by repeat (first | (with_reducible first | exact HB.out | apply below_alloc | apply bdN | apply bd1) | exact HB.out)) hb); clear HB; have HB := n0_; clear n0_; (try clear hb); (try clear hb2); (try clear hk); (try clear hi)) | ((with_reducible refine gate_callee (f := 20) rfl ?_); refine goesL_ (some 10) rfl rfl Try.func20 (by kernel_rfl) rfl #[.int .i64 17, .int .i64 1, .int .i64 1, .int .i64 1] rfl (by (try simp only [List.map_toArray, List.map_cons, List.map_nil]); first | done | rfl | (simp only [List.length_drop, List.length_take]; rfl)) ?_; (with_reducible refine (alu_Eval.calls 17 1 1 1 t107 true _ A2.out).mono ?_); rintro e w23 ⟨rfl, hb⟩; refine ⟨_, rfl, ?_⟩; have n0_ := As0 (below_step (by repeat (first | (with_reducible first | exact HB.out | apply below_alloc | apply bdN | apply bd1) | exact HB.out)) hb); clear HB; have HB := n0_; clear n0_; (try clear hb); (try clear hb2); (try clear hk); (try clear hi)) | ((with_reducible refine gate_callee (f := 27) rfl ?_); refine goesL_ (some 13) rfl rfl Try.func27 (by kernel_rfl) rfl #[.int .i64 8, .int .i64 (-7), .int .i64 2, .int .i64 (-3)] rfl (by (try simp only [List.map_toArray, List.map_cons, List.map_nil]); first | done | rfl | (simp only [List.length_drop, List.length_take]; rfl)) ?_; (with_reducible refine (regcertlaw06_is.calls 8 (-7) 2 (-3) true _ A3.out).mono ?_); rintro e w24 ⟨rfl, hb⟩; refine ⟨_, rfl, ?_⟩; have n0_ := As0 (below_step (by repeat (first | (with_reducible first | exact HB.out | apply below_alloc | apply bdN | apply bd1) | exact HB.out)) hb); clear HB; have HB := n0_; clear n0_; (try clear hb); (try clear hb2); (try clear hk); (try clear hi)) | (go_at_call 27; (with_reducible refine (regcertlaw06_is.calls 9 (-7) 2 (-1) true _ A5.out).mono ?_); rintro e w25 ⟨rfl, hb⟩; have n0_ := As0 (below_step (by repeat (first | (with_reducible first | exact HB.out | apply below_alloc | apply bdN | apply bd1) | exact HB.out)) hb); clear HB; have HB := n0_; clear n0_; (try clear hb); (try clear hb2); (try clear hk); (try clear hi)) | (go_at_call 27; (with_reducible refine (regcertlaw06_is.calls 13 1 65 2 true _ A7.out).mono ?_); rintro e w26 ⟨rfl, hb⟩; have n0_ := As0 (below_step (by repeat (first | (with_reducible first | exact HB.out | apply below_alloc | apply bdN | apply bd1) | exact HB.out)) hb); clear HB; have HB := n0_; clear n0_; (try clear hb); (try clear hb2); (try clear hk); (try clear hi)) | (go_at_call 27; (with_reducible refine (regcertlaw06_is.calls 14 (-8) 1 (-4) true _ A9.out).mono ?_); rintro e w27 ⟨rfl, hb⟩; have n0_ := As0 (below_step (by repeat (first | (with_reducible first | exact HB.out | apply below_alloc | apply bdN | apply bd1) | exact HB.out)) hb); clear HB; have HB := n0_; clear n0_; (try clear hb); (try clear hb2); (try clear hk); (try clear hi)) | (go_at_call 27; (with_reducible refine (regcertlaw06_is.calls 8 (-9223372036854775808) (-1) (-9223372036854775808) true _ A11.out).mono ?_); rintro e w28 ⟨rfl, hb⟩; have n0_ := As0 (below_step (by repeat (first | (with_reducible first | exact HB.out | apply below_alloc | apply bdN | apply bd1) | exact HB.out)) hb); clear HB; have HB := n0_; clear n0_; (try clear hb); (try clear hb2); (try clear hk); (try clear hi)))
        go_ret
        exact ⟨by first | rfl | (simp [errW_none, errW_some] <;> rfl) | (simp [*, errW_none, errW_some] <;> rfl), by repeat (first | (with_reducible first | exact HB.out | apply below_alloc | apply bdN | apply bd1) | exact HB.out)⟩
       ·replace c21 := Bool.eq_false_iff.mpr c21
        subst c21
        have H1 : ((alu_Traps.f 9).bind fun t114 => (if t114 = true then ((alu_Traps.f 5).bind fun t115 => (if t115 = true then (some false) else ((alu_Pure.f 5).bind fun t116 => (if t116 = true then ((alu_Pure.f 18).bind fun t117 => (some (!t117))) else (some false))))) else (some false))) = some r := by rw [if_neg (show ¬ (false = true) by decide)] at H; exact H
        clear H
        have H := H1
        clear H1
        replace H := Option.bind_eq_some_iff.mp H
        obtain ⟨t114, A290, H⟩ := H
        replace H : (if t114 = true then ((alu_Traps.f 5).bind fun t115 => (if t115 = true then (some false) else ((alu_Pure.f 5).bind fun t116 => (if t116 = true then ((alu_Pure.f 18).bind fun t117 => (some (!t117))) else (some false))))) else (some false)) = some r := H
        have A29 := As0 A290
        clear A290
        by_cases c30 : t114 = true
        ·subst c30
         have H1 : ((alu_Traps.f 5).bind fun t115 => (if t115 = true then (some false) else ((alu_Pure.f 5).bind fun t116 => (if t116 = true then ((alu_Pure.f 18).bind fun t117 => (some (!t117))) else (some false))))) = some r := by rw [if_pos rfl] at H; exact H
         clear H
         have H := H1
         clear H1
         replace H := Option.bind_eq_some_iff.mp H
         obtain ⟨t115, A310, H⟩ := H
         replace H : (if t115 = true then (some false) else ((alu_Pure.f 5).bind fun t116 => (if t116 = true then ((alu_Pure.f 18).bind fun t117 => (some (!t117))) else (some false)))) = some r := H
         have A31 := As0 A310
         clear A310
         by_cases c32 : t115 = true
         ·subst c32
          have H1 : (some false) = some r := by rw [if_pos rfl] at H; exact H
          clear H
          have H := H1
          clear H1
          obtain rfl := Option.some.inj H
          go_enter Try.func19, Try.ntmps19
          go_wp2_with (first | ((with_reducible refine gate_callee (f := 20) rfl ?_); refine goesL_ (some 6) rfl rfl Try.func20 (by kernel_rfl) rfl #[.int .i64 8, .int .i64 1, .int .i64 0, .int .i64 0] rfl (by (try simp only [List.map_toArray, List.map_cons, List.map_nil]); first | done | rfl | (simp only [List.length_drop, List.length_take]; rfl)) ?_; (with_reducible refine (alu_Eval.calls 8 1 0 0 t105 false _ A1.out).mono ?_); rintro e w33 ⟨rfl, hb⟩; refine ⟨_, rfl, ?_⟩; have n0_ := As0 (below_step (by repeat (first | (with_reducible first | exact HB.out | apply below_alloc | apply bdN | apply bd1) | exact HB.out)) hb); clear HB; have HB := n0_; clear n0_; (try clear hb); (try clear hb2); (try clear hk); (try clear hi)) | ((with_reducible refine gate_callee (f := 20) rfl ?_); refine goesL_ (some 10) rfl rfl Try.func20 (by kernel_rfl) rfl #[.int .i64 17, .int .i64 1, .int .i64 1, .int .i64 1] rfl (by (try simp only [List.map_toArray, List.map_cons, List.map_nil]); first | done | rfl | (simp only [List.length_drop, List.length_take]; rfl)) ?_; (with_reducible refine (alu_Eval.calls 17 1 1 1 t107 false _ A2.out).mono ?_); rintro e w34 ⟨rfl, hb⟩; refine ⟨_, rfl, ?_⟩; have n0_ := As0 (below_step (by repeat (first | (with_reducible first | exact HB.out | apply below_alloc | apply bdN | apply bd1) | exact HB.out)) hb); clear HB; have HB := n0_; clear n0_; (try clear hb); (try clear hb2); (try clear hk); (try clear hi)) | ((with_reducible refine gate_callee (f := 27) rfl ?_); refine goesL_ (some 13) rfl rfl Try.func27 (by kernel_rfl) rfl #[.int .i64 8, .int .i64 (-7), .int .i64 2, .int .i64 (-3)] rfl (by (try simp only [List.map_toArray, List.map_cons, List.map_nil]); first | done | rfl | (simp only [List.length_drop, List.length_take]; rfl)) ?_; (with_reducible refine (regcertlaw06_is.calls 8 (-7) 2 (-3) true _ A3.out).mono ?_); rintro e w35 ⟨rfl, hb⟩; refine ⟨_, rfl, ?_⟩; have n0_ := As0 (below_step (by repeat (first | (with_reducible first | exact HB.out | apply below_alloc | apply bdN | apply bd1) | exact HB.out)) hb); clear HB; have HB := n0_; clear n0_; (try clear hb); (try clear hb2); (try clear hk); (try clear hi)) | (go_at_call 27; (with_reducible refine (regcertlaw06_is.calls 9 (-7) 2 (-1) true _ A5.out).mono ?_); rintro e w36 ⟨rfl, hb⟩; have n0_ := As0 (below_step (by repeat (first | (with_reducible first | exact HB.out | apply below_alloc | apply bdN | apply bd1) | exact HB.out)) hb); clear HB; have HB := n0_; clear n0_; (try clear hb); (try clear hb2); (try clear hk); (try clear hi)) | (go_at_call 27; (with_reducible refine (regcertlaw06_is.calls 13 1 65 2 true _ A7.out).mono ?_); rintro e w37 ⟨rfl, hb⟩; have n0_ := As0 (below_step (by repeat (first | (with_reducible first | exact HB.out | apply below_alloc | apply bdN | apply bd1) | exact HB.out)) hb); clear HB; have HB := n0_; clear n0_; (try clear hb); (try clear hb2); (try clear hk); (try clear hi)) | (go_at_call 27; (with_reducible refine (regcertlaw06_is.calls 14 (-8) 1 (-4) true _ A9.out).mono ?_); rintro e w38 ⟨rfl, hb⟩; have n0_ := As0 (below_step (by repeat (first | (with_reducible first | exact HB.out | apply below_alloc | apply bdN | apply bd1) | exact HB.out)) hb); clear HB; have HB := n0_; clear n0_; (try clear hb); (try clear hb2); (try clear hk); (try clear hi)) | (go_at_call 27; (with_reducible refine (regcertlaw06_is.calls 8 (-9223372036854775808) (-1) (-9223372036854775808) true _ A11.out).mono ?_); rintro e w39 ⟨rfl, hb⟩; have n0_ := As0 (below_step (by repeat (first | (with_reducible first | exact HB.out | apply below_alloc | apply bdN | apply bd1) | exact HB.out)) hb); clear HB; have HB := n0_; clear n0_; (try clear hb); (try clear hb2); (try clear hk); (try clear hi)) | (go_at_call 23; (with_reducible refine (alu_Traps.calls 9 true _ A29.out).mono ?_); rintro e w40 ⟨rfl, hb⟩; have n0_ := As0 (below_step (by repeat (first | (with_reducible first | exact HB.out | apply below_alloc | apply bdN | apply bd1) | exact HB.out)) hb); clear HB; have HB := n0_; clear n0_; (try clear hb); (try clear hb2); (try clear hk); (try clear hi)) | (go_at_call 23; (with_reducible refine (alu_Traps.calls 5 true _ A31.out).mono ?_); rintro e w41 ⟨rfl, hb⟩; have n0_ := As0 (below_step (by repeat (first | (with_reducible first | exact HB.out | apply below_alloc | apply bdN | apply bd1) | exact HB.out)) hb); clear HB; have HB := n0_; clear n0_; (try clear hb); (try clear hb2); (try clear hk); (try clear hi)))
          go_ret
          exact ⟨by first | rfl | (simp [errW_none, errW_some] <;> rfl) | (simp [*, errW_none, errW_some] <;> rfl), by repeat (first | (with_reducible first | exact HB.out | apply below_alloc | apply bdN | apply bd1) | exact HB.out)⟩
         ·replace c32 := Bool.eq_false_iff.mpr c32
          subst c32
          have H1 : ((alu_Pure.f 5).bind fun t116 => (if t116 = true then ((alu_Pure.f 18).bind fun t117 => (some (!t117))) else (some false))) = some r := by rw [if_neg (show ¬ (false = true) by decide)] at H; exact H
          clear H
          have H := H1
          clear H1
          replace H := Option.bind_eq_some_iff.mp H
          obtain ⟨t116, A420, H⟩ := H
          replace H : (if t116 = true then ((alu_Pure.f 18).bind fun t117 => (some (!t117))) else (some false)) = some r := H
          have A42 := As0 A420
          clear A420
          by_cases c43 : t116 = true
          ·subst c43
           have H1 : ((alu_Pure.f 18).bind fun t117 => (some (!t117))) = some r := by rw [if_pos rfl] at H; exact H
           clear H
           have H := H1
           clear H1
           replace H := Option.bind_eq_some_iff.mp H
           obtain ⟨t117, A440, H⟩ := H
           replace H : (some (!t117)) = some r := H
           have A44 := As0 A440
           clear A440
           obtain rfl := Option.some.inj H
           go_enter Try.func19, Try.ntmps19
           go_wp2_with (first | ((with_reducible refine gate_callee (f := 20) rfl ?_); refine goesL_ (some 6) rfl rfl Try.func20 (by kernel_rfl) rfl #[.int .i64 8, .int .i64 1, .int .i64 0, .int .i64 0] rfl (by (try simp only [List.map_toArray, List.map_cons, List.map_nil]); first | done | rfl | (simp only [List.length_drop, List.length_take]; rfl)) ?_; (with_reducible refine (alu_Eval.calls 8 1 0 0 t105 false _ A1.out).mono ?_); rintro e w45 ⟨rfl, hb⟩; refine ⟨_, rfl, ?_⟩; have n0_ := As0 (below_step (by repeat (first | (with_reducible first | exact HB.out | apply below_alloc | apply bdN | apply bd1) | exact HB.out)) hb); clear HB; have HB := n0_; clear n0_; (try clear hb); (try clear hb2); (try clear hk); (try clear hi)) | ((with_reducible refine gate_callee (f := 20) rfl ?_); refine goesL_ (some 10) rfl rfl Try.func20 (by kernel_rfl) rfl #[.int .i64 17, .int .i64 1, .int .i64 1, .int .i64 1] rfl (by (try simp only [List.map_toArray, List.map_cons, List.map_nil]); first | done | rfl | (simp only [List.length_drop, List.length_take]; rfl)) ?_; (with_reducible refine (alu_Eval.calls 17 1 1 1 t107 false _ A2.out).mono ?_); rintro e w46 ⟨rfl, hb⟩; refine ⟨_, rfl, ?_⟩; have n0_ := As0 (below_step (by repeat (first | (with_reducible first | exact HB.out | apply below_alloc | apply bdN | apply bd1) | exact HB.out)) hb); clear HB; have HB := n0_; clear n0_; (try clear hb); (try clear hb2); (try clear hk); (try clear hi)) | ((with_reducible refine gate_callee (f := 27) rfl ?_); refine goesL_ (some 13) rfl rfl Try.func27 (by kernel_rfl) rfl #[.int .i64 8, .int .i64 (-7), .int .i64 2, .int .i64 (-3)] rfl (by (try simp only [List.map_toArray, List.map_cons, List.map_nil]); first | done | rfl | (simp only [List.length_drop, List.length_take]; rfl)) ?_; (with_reducible refine (regcertlaw06_is.calls 8 (-7) 2 (-3) true _ A3.out).mono ?_); rintro e w47 ⟨rfl, hb⟩; refine ⟨_, rfl, ?_⟩; have n0_ := As0 (below_step (by repeat (first | (with_reducible first | exact HB.out | apply below_alloc | apply bdN | apply bd1) | exact HB.out)) hb); clear HB; have HB := n0_; clear n0_; (try clear hb); (try clear hb2); (try clear hk); (try clear hi)) | (go_at_call 27; (with_reducible refine (regcertlaw06_is.calls 9 (-7) 2 (-1) true _ A5.out).mono ?_); rintro e w48 ⟨rfl, hb⟩; have n0_ := As0 (below_step (by repeat (first | (with_reducible first | exact HB.out | apply below_alloc | apply bdN | apply bd1) | exact HB.out)) hb); clear HB; have HB := n0_; clear n0_; (try clear hb); (try clear hb2); (try clear hk); (try clear hi)) | (go_at_call 27; (with_reducible refine (regcertlaw06_is.calls 13 1 65 2 true _ A7.out).mono ?_); rintro e w49 ⟨rfl, hb⟩; have n0_ := As0 (below_step (by repeat (first | (with_reducible first | exact HB.out | apply below_alloc | apply bdN | apply bd1) | exact HB.out)) hb); clear HB; have HB := n0_; clear n0_; (try clear hb); (try clear hb2); (try clear hk); (try clear hi)) | (go_at_call 27; (with_reducible refine (regcertlaw06_is.calls 14 (-8) 1 (-4) true _ A9.out).mono ?_); rintro e w50 ⟨rfl, hb⟩; have n0_ := As0 (below_step (by repeat (first | (with_reducible first | exact HB.out | apply below_alloc | apply bdN | apply bd1) | exact HB.out)) hb); clear HB; have HB := n0_; clear n0_; (try clear hb); (try clear hb2); (try clear hk); (try clear hi)) | (go_at_call 27; (with_reducible refine (regcertlaw06_is.calls 8 (-9223372036854775808) (-1) (-9223372036854775808) true _ A11.out).mono ?_); rintro e w51 ⟨rfl, hb⟩; have n0_ := As0 (below_step (by repeat (first | (with_reducible first | exact HB.out | apply below_alloc | apply bdN | apply bd1) | exact HB.out)) hb); clear HB; have HB := n0_; clear n0_; (try clear hb); (try clear hb2); (try clear hk); (try clear hi)) | (go_at_call 23; (with_reducible refine (alu_Traps.calls 9 true _ A29.out).mono ?_); rintro e w52 ⟨rfl, hb⟩; have n0_ := As0 (below_step (by repeat (first | (with_reducible first | exact HB.out | apply below_alloc | apply bdN | apply bd1) | exact HB.out)) hb); clear HB; have HB := n0_; clear n0_; (try clear hb); (try clear hb2); (try clear hk); (try clear hi)) | (go_at_call 23; (with_reducible refine (alu_Traps.calls 5 false _ A31.out).mono ?_); rintro e w53 ⟨rfl, hb⟩; have n0_ := As0 (below_step (by repeat (first | (with_reducible first | exact HB.out | apply below_alloc | apply bdN | apply bd1) | exact HB.out)) hb); clear HB; have HB := n0_; clear n0_; (try clear hb); (try clear hb2); (try clear hk); (try clear hi)) | (go_at_call 22; (with_reducible refine (alu_Pure.calls 5 true _ A42.out).mono ?_); rintro e w54 ⟨rfl, hb⟩; have n0_ := As0 (below_step (by repeat (first | (with_reducible first | exact HB.out | apply below_alloc | apply bdN | apply bd1) | exact HB.out)) hb); clear HB; have HB := n0_; clear n0_; (try clear hb); (try clear hb2); (try clear hk); (try clear hi)) | (go_at_call 22; (with_reducible refine (alu_Pure.calls 18 t117 _ A44.out).mono ?_); rintro e w55 ⟨rfl, hb⟩; have n0_ := As0 (below_step (by repeat (first | (with_reducible first | exact HB.out | apply below_alloc | apply bdN | apply bd1) | exact HB.out)) hb); clear HB; have HB := n0_; clear n0_; (try clear hb); (try clear hb2); (try clear hk); (try clear hi)))
           go_ret
           exact ⟨by first | rfl | (simp [errW_none, errW_some] <;> rfl) | (simp [*, errW_none, errW_some] <;> rfl), by repeat (first | (with_reducible first | exact HB.out | apply below_alloc | apply bdN | apply bd1) | exact HB.out)⟩
          ·replace c43 := Bool.eq_false_iff.mpr c43
           subst c43
           have H1 : (some false) = some r := by rw [if_neg (show ¬ (false = true) by decide)] at H; exact H
           clear H
           have H := H1
           clear H1
           obtain rfl := Option.some.inj H
           go_enter Try.func19, Try.ntmps19
           go_wp2_with (first | ((with_reducible refine gate_callee (f := 20) rfl ?_); refine goesL_ (some 6) rfl rfl Try.func20 (by kernel_rfl) rfl #[.int .i64 8, .int .i64 1, .int .i64 0, .int .i64 0] rfl (by (try simp only [List.map_toArray, List.map_cons, List.map_nil]); first | done | rfl | (simp only [List.length_drop, List.length_take]; rfl)) ?_; (with_reducible refine (alu_Eval.calls 8 1 0 0 t105 false _ A1.out).mono ?_); rintro e w56 ⟨rfl, hb⟩; refine ⟨_, rfl, ?_⟩; have n0_ := As0 (below_step (by repeat (first | (with_reducible first | exact HB.out | apply below_alloc | apply bdN | apply bd1) | exact HB.out)) hb); clear HB; have HB := n0_; clear n0_; (try clear hb); (try clear hb2); (try clear hk); (try clear hi)) | ((with_reducible refine gate_callee (f := 20) rfl ?_); refine goesL_ (some 10) rfl rfl Try.func20 (by kernel_rfl) rfl #[.int .i64 17, .int .i64 1, .int .i64 1, .int .i64 1] rfl (by (try simp only [List.map_toArray, List.map_cons, List.map_nil]); first | done | rfl | (simp only [List.length_drop, List.length_take]; rfl)) ?_; (with_reducible refine (alu_Eval.calls 17 1 1 1 t107 false _ A2.out).mono ?_); rintro e w57 ⟨rfl, hb⟩; refine ⟨_, rfl, ?_⟩; have n0_ := As0 (below_step (by repeat (first | (with_reducible first | exact HB.out | apply below_alloc | apply bdN | apply bd1) | exact HB.out)) hb); clear HB; have HB := n0_; clear n0_; (try clear hb); (try clear hb2); (try clear hk); (try clear hi)) | ((with_reducible refine gate_callee (f := 27) rfl ?_); refine goesL_ (some 13) rfl rfl Try.func27 (by kernel_rfl) rfl #[.int .i64 8, .int .i64 (-7), .int .i64 2, .int .i64 (-3)] rfl (by (try simp only [List.map_toArray, List.map_cons, List.map_nil]); first | done | rfl | (simp only [List.length_drop, List.length_take]; rfl)) ?_; (with_reducible refine (regcertlaw06_is.calls 8 (-7) 2 (-3) true _ A3.out).mono ?_); rintro e w58 ⟨rfl, hb⟩; refine ⟨_, rfl, ?_⟩; have n0_ := As0 (below_step (by repeat (first | (with_reducible first | exact HB.out | apply below_alloc | apply bdN | apply bd1) | exact HB.out)) hb); clear HB; have HB := n0_; clear n0_; (try clear hb); (try clear hb2); (try clear hk); (try clear hi)) | (go_at_call 27; (with_reducible refine (regcertlaw06_is.calls 9 (-7) 2 (-1) true _ A5.out).mono ?_); rintro e w59 ⟨rfl, hb⟩; have n0_ := As0 (below_step (by repeat (first | (with_reducible first | exact HB.out | apply below_alloc | apply bdN | apply bd1) | exact HB.out)) hb); clear HB; have HB := n0_; clear n0_; (try clear hb); (try clear hb2); (try clear hk); (try clear hi)) | (go_at_call 27; (with_reducible refine (regcertlaw06_is.calls 13 1 65 2 true _ A7.out).mono ?_); rintro e w60 ⟨rfl, hb⟩; have n0_ := As0 (below_step (by repeat (first | (with_reducible first | exact HB.out | apply below_alloc | apply bdN | apply bd1) | exact HB.out)) hb); clear HB; have HB := n0_; clear n0_; (try clear hb); (try clear hb2); (try clear hk); (try clear hi)) | (go_at_call 27; (with_reducible refine (regcertlaw06_is.calls 14 (-8) 1 (-4) true _ A9.out).mono ?_); rintro e w61 ⟨rfl, hb⟩; have n0_ := As0 (below_step (by repeat (first | (with_reducible first | exact HB.out | apply below_alloc | apply bdN | apply bd1) | exact HB.out)) hb); clear HB; have HB := n0_; clear n0_; (try clear hb); (try clear hb2); (try clear hk); (try clear hi)) | (go_at_call 27; (with_reducible refine (regcertlaw06_is.calls 8 (-9223372036854775808) (-1) (-9223372036854775808) true _ A11.out).mono ?_); rintro e w62 ⟨rfl, hb⟩; have n0_ := As0 (below_step (by repeat (first | (with_reducible first | exact HB.out | apply below_alloc | apply bdN | apply bd1) | exact HB.out)) hb); clear HB; have HB := n0_; clear n0_; (try clear hb); (try clear hb2); (try clear hk); (try clear hi)) | (go_at_call 23; (with_reducible refine (alu_Traps.calls 9 true _ A29.out).mono ?_); rintro e w63 ⟨rfl, hb⟩; have n0_ := As0 (below_step (by repeat (first | (with_reducible first | exact HB.out | apply below_alloc | apply bdN | apply bd1) | exact HB.out)) hb); clear HB; have HB := n0_; clear n0_; (try clear hb); (try clear hb2); (try clear hk); (try clear hi)) | (go_at_call 23; (with_reducible refine (alu_Traps.calls 5 false _ A31.out).mono ?_); rintro e w64 ⟨rfl, hb⟩; have n0_ := As0 (below_step (by repeat (first | (with_reducible first | exact HB.out | apply below_alloc | apply bdN | apply bd1) | exact HB.out)) hb); clear HB; have HB := n0_; clear n0_; (try clear hb); (try clear hb2); (try clear hk); (try clear hi)) | (go_at_call 22; (with_reducible refine (alu_Pure.calls 5 false _ A42.out).mono ?_); rintro e w65 ⟨rfl, hb⟩; have n0_ := As0 (below_step (by repeat (first | (with_reducible first | exact HB.out | apply below_alloc | apply bdN | apply bd1) | exact HB.out)) hb); clear HB; have HB := n0_; clear n0_; (try clear hb); (try clear hb2); (try clear hk); (try clear hi)))
           go_ret
           exact ⟨by first | rfl | (simp [errW_none, errW_some] <;> rfl) | (simp [*, errW_none, errW_some] <;> rfl), by repeat (first | (with_reducible first | exact HB.out | apply below_alloc | apply bdN | apply bd1) | exact HB.out)⟩
        ·replace c30 := Bool.eq_false_iff.mpr c30
         subst c30
         have H1 : (some false) = some r := by rw [if_neg (show ¬ (false = true) by decide)] at H; exact H
         clear H
         have H := H1
         clear H1
         obtain rfl := Option.some.inj H
         go_enter Try.func19, Try.ntmps19
         go_wp2_with (first | ((with_reducible refine gate_callee (f := 20) rfl ?_); refine goesL_ (some 6) rfl rfl Try.func20 (by kernel_rfl) rfl #[.int .i64 8, .int .i64 1, .int .i64 0, .int .i64 0] rfl (by (try simp only [List.map_toArray, List.map_cons, List.map_nil]); first | done | rfl | (simp only [List.length_drop, List.length_take]; rfl)) ?_; (with_reducible refine (alu_Eval.calls 8 1 0 0 t105 false _ A1.out).mono ?_); rintro e w66 ⟨rfl, hb⟩; refine ⟨_, rfl, ?_⟩; have n0_ := As0 (below_step (by repeat (first | (with_reducible first | exact HB.out | apply below_alloc | apply bdN | apply bd1) | exact HB.out)) hb); clear HB; have HB := n0_; clear n0_; (try clear hb); (try clear hb2); (try clear hk); (try clear hi)) | ((with_reducible refine gate_callee (f := 20) rfl ?_); refine goesL_ (some 10) rfl rfl Try.func20 (by kernel_rfl) rfl #[.int .i64 17, .int .i64 1, .int .i64 1, .int .i64 1] rfl (by (try simp only [List.map_toArray, List.map_cons, List.map_nil]); first | done | rfl | (simp only [List.length_drop, List.length_take]; rfl)) ?_; (with_reducible refine (alu_Eval.calls 17 1 1 1 t107 false _ A2.out).mono ?_); rintro e w67 ⟨rfl, hb⟩; refine ⟨_, rfl, ?_⟩; have n0_ := As0 (below_step (by repeat (first | (with_reducible first | exact HB.out | apply below_alloc | apply bdN | apply bd1) | exact HB.out)) hb); clear HB; have HB := n0_; clear n0_; (try clear hb); (try clear hb2); (try clear hk); (try clear hi)) | ((with_reducible refine gate_callee (f := 27) rfl ?_); refine goesL_ (some 13) rfl rfl Try.func27 (by kernel_rfl) rfl #[.int .i64 8, .int .i64 (-7), .int .i64 2, .int .i64 (-3)] rfl (by (try simp only [List.map_toArray, List.map_cons, List.map_nil]); first | done | rfl | (simp only [List.length_drop, List.length_take]; rfl)) ?_; (with_reducible refine (regcertlaw06_is.calls 8 (-7) 2 (-3) true _ A3.out).mono ?_); rintro e w68 ⟨rfl, hb⟩; refine ⟨_, rfl, ?_⟩; have n0_ := As0 (below_step (by repeat (first | (with_reducible first | exact HB.out | apply below_alloc | apply bdN | apply bd1) | exact HB.out)) hb); clear HB; have HB := n0_; clear n0_; (try clear hb); (try clear hb2); (try clear hk); (try clear hi)) | (go_at_call 27; (with_reducible refine (regcertlaw06_is.calls 9 (-7) 2 (-1) true _ A5.out).mono ?_); rintro e w69 ⟨rfl, hb⟩; have n0_ := As0 (below_step (by repeat (first | (with_reducible first | exact HB.out | apply below_alloc | apply bdN | apply bd1) | exact HB.out)) hb); clear HB; have HB := n0_; clear n0_; (try clear hb); (try clear hb2); (try clear hk); (try clear hi)) | (go_at_call 27; (with_reducible refine (regcertlaw06_is.calls 13 1 65 2 true _ A7.out).mono ?_); rintro e w70 ⟨rfl, hb⟩; have n0_ := As0 (below_step (by repeat (first | (with_reducible first | exact HB.out | apply below_alloc | apply bdN | apply bd1) | exact HB.out)) hb); clear HB; have HB := n0_; clear n0_; (try clear hb); (try clear hb2); (try clear hk); (try clear hi)) | (go_at_call 27; (with_reducible refine (regcertlaw06_is.calls 14 (-8) 1 (-4) true _ A9.out).mono ?_); rintro e w71 ⟨rfl, hb⟩; have n0_ := As0 (below_step (by repeat (first | (with_reducible first | exact HB.out | apply below_alloc | apply bdN | apply bd1) | exact HB.out)) hb); clear HB; have HB := n0_; clear n0_; (try clear hb); (try clear hb2); (try clear hk); (try clear hi)) | (go_at_call 27; (with_reducible refine (regcertlaw06_is.calls 8 (-9223372036854775808) (-1) (-9223372036854775808) true _ A11.out).mono ?_); rintro e w72 ⟨rfl, hb⟩; have n0_ := As0 (below_step (by repeat (first | (with_reducible first | exact HB.out | apply below_alloc | apply bdN | apply bd1) | exact HB.out)) hb); clear HB; have HB := n0_; clear n0_; (try clear hb); (try clear hb2); (try clear hk); (try clear hi)) | (go_at_call 23; (with_reducible refine (alu_Traps.calls 9 false _ A29.out).mono ?_); rintro e w73 ⟨rfl, hb⟩; have n0_ := As0 (below_step (by repeat (first | (with_reducible first | exact HB.out | apply below_alloc | apply bdN | apply bd1) | exact HB.out)) hb); clear HB; have HB := n0_; clear n0_; (try clear hb); (try clear hb2); (try clear hk); (try clear hi)))
         go_ret
         exact ⟨by first | rfl | (simp [errW_none, errW_some] <;> rfl) | (simp [*, errW_none, errW_some] <;> rfl), by repeat (first | (with_reducible first | exact HB.out | apply below_alloc | apply bdN | apply bd1) | exact HB.out)⟩
     ·replace c12 := Bool.eq_false_iff.mpr c12
      subst c12
      have H1 : (some false) = some r := by rw [if_neg (show ¬ (false = true) by decide)] at H; exact H
      clear H
      have H := H1
      clear H1
      obtain rfl := Option.some.inj H
      go_enter Try.func19, Try.ntmps19
      go_wp2_with (first | ((with_reducible refine gate_callee (f := 20) rfl ?_); refine goesL_ (some 6) rfl rfl Try.func20 (by kernel_rfl) rfl #[.int .i64 8, .int .i64 1, .int .i64 0, .int .i64 0] rfl (by (try simp only [List.map_toArray, List.map_cons, List.map_nil]); first | done | rfl | (simp only [List.length_drop, List.length_take]; rfl)) ?_; (with_reducible refine (alu_Eval.calls 8 1 0 0 t105 t106 _ A1.out).mono ?_); rintro e w74 ⟨rfl, hb⟩; refine ⟨_, rfl, ?_⟩; have n0_ := As0 (below_step (by repeat (first | (with_reducible first | exact HB.out | apply below_alloc | apply bdN | apply bd1) | exact HB.out)) hb); clear HB; have HB := n0_; clear n0_; (try clear hb); (try clear hb2); (try clear hk); (try clear hi)) | ((with_reducible refine gate_callee (f := 20) rfl ?_); refine goesL_ (some 10) rfl rfl Try.func20 (by kernel_rfl) rfl #[.int .i64 17, .int .i64 1, .int .i64 1, .int .i64 1] rfl (by (try simp only [List.map_toArray, List.map_cons, List.map_nil]); first | done | rfl | (simp only [List.length_drop, List.length_take]; rfl)) ?_; (with_reducible refine (alu_Eval.calls 17 1 1 1 t107 t108 _ A2.out).mono ?_); rintro e w75 ⟨rfl, hb⟩; refine ⟨_, rfl, ?_⟩; have n0_ := As0 (below_step (by repeat (first | (with_reducible first | exact HB.out | apply below_alloc | apply bdN | apply bd1) | exact HB.out)) hb); clear HB; have HB := n0_; clear n0_; (try clear hb); (try clear hb2); (try clear hk); (try clear hi)) | ((with_reducible refine gate_callee (f := 27) rfl ?_); refine goesL_ (some 13) rfl rfl Try.func27 (by kernel_rfl) rfl #[.int .i64 8, .int .i64 (-7), .int .i64 2, .int .i64 (-3)] rfl (by (try simp only [List.map_toArray, List.map_cons, List.map_nil]); first | done | rfl | (simp only [List.length_drop, List.length_take]; rfl)) ?_; (with_reducible refine (regcertlaw06_is.calls 8 (-7) 2 (-3) true _ A3.out).mono ?_); rintro e w76 ⟨rfl, hb⟩; refine ⟨_, rfl, ?_⟩; have n0_ := As0 (below_step (by repeat (first | (with_reducible first | exact HB.out | apply below_alloc | apply bdN | apply bd1) | exact HB.out)) hb); clear HB; have HB := n0_; clear n0_; (try clear hb); (try clear hb2); (try clear hk); (try clear hi)) | (go_at_call 27; (with_reducible refine (regcertlaw06_is.calls 9 (-7) 2 (-1) true _ A5.out).mono ?_); rintro e w77 ⟨rfl, hb⟩; have n0_ := As0 (below_step (by repeat (first | (with_reducible first | exact HB.out | apply below_alloc | apply bdN | apply bd1) | exact HB.out)) hb); clear HB; have HB := n0_; clear n0_; (try clear hb); (try clear hb2); (try clear hk); (try clear hi)) | (go_at_call 27; (with_reducible refine (regcertlaw06_is.calls 13 1 65 2 true _ A7.out).mono ?_); rintro e w78 ⟨rfl, hb⟩; have n0_ := As0 (below_step (by repeat (first | (with_reducible first | exact HB.out | apply below_alloc | apply bdN | apply bd1) | exact HB.out)) hb); clear HB; have HB := n0_; clear n0_; (try clear hb); (try clear hb2); (try clear hk); (try clear hi)) | (go_at_call 27; (with_reducible refine (regcertlaw06_is.calls 14 (-8) 1 (-4) true _ A9.out).mono ?_); rintro e w79 ⟨rfl, hb⟩; have n0_ := As0 (below_step (by repeat (first | (with_reducible first | exact HB.out | apply below_alloc | apply bdN | apply bd1) | exact HB.out)) hb); clear HB; have HB := n0_; clear n0_; (try clear hb); (try clear hb2); (try clear hk); (try clear hi)) | (go_at_call 27; (with_reducible refine (regcertlaw06_is.calls 8 (-9223372036854775808) (-1) (-9223372036854775808) false _ A11.out).mono ?_); rintro e w80 ⟨rfl, hb⟩; have n0_ := As0 (below_step (by repeat (first | (with_reducible first | exact HB.out | apply below_alloc | apply bdN | apply bd1) | exact HB.out)) hb); clear HB; have HB := n0_; clear n0_; (try clear hb); (try clear hb2); (try clear hk); (try clear hi)))
      go_ret
      exact ⟨by first | rfl | (simp [errW_none, errW_some] <;> rfl) | (simp [*, errW_none, errW_some] <;> rfl), by repeat (first | (with_reducible first | exact HB.out | apply below_alloc | apply bdN | apply bd1) | exact HB.out)⟩
    ·replace c10 := Bool.eq_false_iff.mpr c10
     subst c10
     have H1 : (some false) = some r := by rw [if_neg (show ¬ (false = true) by decide)] at H; exact H
     clear H
     have H := H1
     clear H1
     obtain rfl := Option.some.inj H
     go_enter Try.func19, Try.ntmps19
     go_wp2_with (first | ((with_reducible refine gate_callee (f := 20) rfl ?_); refine goesL_ (some 6) rfl rfl Try.func20 (by kernel_rfl) rfl #[.int .i64 8, .int .i64 1, .int .i64 0, .int .i64 0] rfl (by (try simp only [List.map_toArray, List.map_cons, List.map_nil]); first | done | rfl | (simp only [List.length_drop, List.length_take]; rfl)) ?_; (with_reducible refine (alu_Eval.calls 8 1 0 0 t105 t106 _ A1.out).mono ?_); rintro e w81 ⟨rfl, hb⟩; refine ⟨_, rfl, ?_⟩; have n0_ := As0 (below_step (by repeat (first | (with_reducible first | exact HB.out | apply below_alloc | apply bdN | apply bd1) | exact HB.out)) hb); clear HB; have HB := n0_; clear n0_; (try clear hb); (try clear hb2); (try clear hk); (try clear hi)) | ((with_reducible refine gate_callee (f := 20) rfl ?_); refine goesL_ (some 10) rfl rfl Try.func20 (by kernel_rfl) rfl #[.int .i64 17, .int .i64 1, .int .i64 1, .int .i64 1] rfl (by (try simp only [List.map_toArray, List.map_cons, List.map_nil]); first | done | rfl | (simp only [List.length_drop, List.length_take]; rfl)) ?_; (with_reducible refine (alu_Eval.calls 17 1 1 1 t107 t108 _ A2.out).mono ?_); rintro e w82 ⟨rfl, hb⟩; refine ⟨_, rfl, ?_⟩; have n0_ := As0 (below_step (by repeat (first | (with_reducible first | exact HB.out | apply below_alloc | apply bdN | apply bd1) | exact HB.out)) hb); clear HB; have HB := n0_; clear n0_; (try clear hb); (try clear hb2); (try clear hk); (try clear hi)) | ((with_reducible refine gate_callee (f := 27) rfl ?_); refine goesL_ (some 13) rfl rfl Try.func27 (by kernel_rfl) rfl #[.int .i64 8, .int .i64 (-7), .int .i64 2, .int .i64 (-3)] rfl (by (try simp only [List.map_toArray, List.map_cons, List.map_nil]); first | done | rfl | (simp only [List.length_drop, List.length_take]; rfl)) ?_; (with_reducible refine (regcertlaw06_is.calls 8 (-7) 2 (-3) true _ A3.out).mono ?_); rintro e w83 ⟨rfl, hb⟩; refine ⟨_, rfl, ?_⟩; have n0_ := As0 (below_step (by repeat (first | (with_reducible first | exact HB.out | apply below_alloc | apply bdN | apply bd1) | exact HB.out)) hb); clear HB; have HB := n0_; clear n0_; (try clear hb); (try clear hb2); (try clear hk); (try clear hi)) | (go_at_call 27; (with_reducible refine (regcertlaw06_is.calls 9 (-7) 2 (-1) true _ A5.out).mono ?_); rintro e w84 ⟨rfl, hb⟩; have n0_ := As0 (below_step (by repeat (first | (with_reducible first | exact HB.out | apply below_alloc | apply bdN | apply bd1) | exact HB.out)) hb); clear HB; have HB := n0_; clear n0_; (try clear hb); (try clear hb2); (try clear hk); (try clear hi)) | (go_at_call 27; (with_reducible refine (regcertlaw06_is.calls 13 1 65 2 true _ A7.out).mono ?_); rintro e w85 ⟨rfl, hb⟩; have n0_ := As0 (below_step (by repeat (first | (with_reducible first | exact HB.out | apply below_alloc | apply bdN | apply bd1) | exact HB.out)) hb); clear HB; have HB := n0_; clear n0_; (try clear hb); (try clear hb2); (try clear hk); (try clear hi)) | (go_at_call 27; (with_reducible refine (regcertlaw06_is.calls 14 (-8) 1 (-4) false _ A9.out).mono ?_); rintro e w86 ⟨rfl, hb⟩; have n0_ := As0 (below_step (by repeat (first | (with_reducible first | exact HB.out | apply below_alloc | apply bdN | apply bd1) | exact HB.out)) hb); clear HB; have HB := n0_; clear n0_; (try clear hb); (try clear hb2); (try clear hk); (try clear hi)))
     go_ret
     exact ⟨by first | rfl | (simp [errW_none, errW_some] <;> rfl) | (simp [*, errW_none, errW_some] <;> rfl), by repeat (first | (with_reducible first | exact HB.out | apply below_alloc | apply bdN | apply bd1) | exact HB.out)⟩
   ·replace c8 := Bool.eq_false_iff.mpr c8
    subst c8
    have H1 : (some false) = some r := by rw [if_neg (show ¬ (false = true) by decide)] at H; exact H
    clear H
    have H := H1
    clear H1
    obtain rfl := Option.some.inj H
    go_enter Try.func19, Try.ntmps19
    go_wp2_with (first | ((with_reducible refine gate_callee (f := 20) rfl ?_); refine goesL_ (some 6) rfl rfl Try.func20 (by kernel_rfl) rfl #[.int .i64 8, .int .i64 1, .int .i64 0, .int .i64 0] rfl (by (try simp only [List.map_toArray, List.map_cons, List.map_nil]); first | done | rfl | (simp only [List.length_drop, List.length_take]; rfl)) ?_; (with_reducible refine (alu_Eval.calls 8 1 0 0 t105 t106 _ A1.out).mono ?_); rintro e w87 ⟨rfl, hb⟩; refine ⟨_, rfl, ?_⟩; have n0_ := As0 (below_step (by repeat (first | (with_reducible first | exact HB.out | apply below_alloc | apply bdN | apply bd1) | exact HB.out)) hb); clear HB; have HB := n0_; clear n0_; (try clear hb); (try clear hb2); (try clear hk); (try clear hi)) | ((with_reducible refine gate_callee (f := 20) rfl ?_); refine goesL_ (some 10) rfl rfl Try.func20 (by kernel_rfl) rfl #[.int .i64 17, .int .i64 1, .int .i64 1, .int .i64 1] rfl (by (try simp only [List.map_toArray, List.map_cons, List.map_nil]); first | done | rfl | (simp only [List.length_drop, List.length_take]; rfl)) ?_; (with_reducible refine (alu_Eval.calls 17 1 1 1 t107 t108 _ A2.out).mono ?_); rintro e w88 ⟨rfl, hb⟩; refine ⟨_, rfl, ?_⟩; have n0_ := As0 (below_step (by repeat (first | (with_reducible first | exact HB.out | apply below_alloc | apply bdN | apply bd1) | exact HB.out)) hb); clear HB; have HB := n0_; clear n0_; (try clear hb); (try clear hb2); (try clear hk); (try clear hi)) | ((with_reducible refine gate_callee (f := 27) rfl ?_); refine goesL_ (some 13) rfl rfl Try.func27 (by kernel_rfl) rfl #[.int .i64 8, .int .i64 (-7), .int .i64 2, .int .i64 (-3)] rfl (by (try simp only [List.map_toArray, List.map_cons, List.map_nil]); first | done | rfl | (simp only [List.length_drop, List.length_take]; rfl)) ?_; (with_reducible refine (regcertlaw06_is.calls 8 (-7) 2 (-3) true _ A3.out).mono ?_); rintro e w89 ⟨rfl, hb⟩; refine ⟨_, rfl, ?_⟩; have n0_ := As0 (below_step (by repeat (first | (with_reducible first | exact HB.out | apply below_alloc | apply bdN | apply bd1) | exact HB.out)) hb); clear HB; have HB := n0_; clear n0_; (try clear hb); (try clear hb2); (try clear hk); (try clear hi)) | (go_at_call 27; (with_reducible refine (regcertlaw06_is.calls 9 (-7) 2 (-1) true _ A5.out).mono ?_); rintro e w90 ⟨rfl, hb⟩; have n0_ := As0 (below_step (by repeat (first | (with_reducible first | exact HB.out | apply below_alloc | apply bdN | apply bd1) | exact HB.out)) hb); clear HB; have HB := n0_; clear n0_; (try clear hb); (try clear hb2); (try clear hk); (try clear hi)) | (go_at_call 27; (with_reducible refine (regcertlaw06_is.calls 13 1 65 2 false _ A7.out).mono ?_); rintro e w91 ⟨rfl, hb⟩; have n0_ := As0 (below_step (by repeat (first | (with_reducible first | exact HB.out | apply below_alloc | apply bdN | apply bd1) | exact HB.out)) hb); clear HB; have HB := n0_; clear n0_; (try clear hb); (try clear hb2); (try clear hk); (try clear hi)))
    go_ret
    exact ⟨by first | rfl | (simp [errW_none, errW_some] <;> rfl) | (simp [*, errW_none, errW_some] <;> rfl), by repeat (first | (with_reducible first | exact HB.out | apply below_alloc | apply bdN | apply bd1) | exact HB.out)⟩
  ·replace c6 := Bool.eq_false_iff.mpr c6
   subst c6
   have H1 : (some false) = some r := by rw [if_neg (show ¬ (false = true) by decide)] at H; exact H
   clear H
   have H := H1
   clear H1
   obtain rfl := Option.some.inj H
   go_enter Try.func19, Try.ntmps19
   go_wp2_with (first | ((with_reducible refine gate_callee (f := 20) rfl ?_); refine goesL_ (some 6) rfl rfl Try.func20 (by kernel_rfl) rfl #[.int .i64 8, .int .i64 1, .int .i64 0, .int .i64 0] rfl (by (try simp only [List.map_toArray, List.map_cons, List.map_nil]); first | done | rfl | (simp only [List.length_drop, List.length_take]; rfl)) ?_; (with_reducible refine (alu_Eval.calls 8 1 0 0 t105 t106 _ A1.out).mono ?_); rintro e w92 ⟨rfl, hb⟩; refine ⟨_, rfl, ?_⟩; have n0_ := As0 (below_step (by repeat (first | (with_reducible first | exact HB.out | apply below_alloc | apply bdN | apply bd1) | exact HB.out)) hb); clear HB; have HB := n0_; clear n0_; (try clear hb); (try clear hb2); (try clear hk); (try clear hi)) | ((with_reducible refine gate_callee (f := 20) rfl ?_); refine goesL_ (some 10) rfl rfl Try.func20 (by kernel_rfl) rfl #[.int .i64 17, .int .i64 1, .int .i64 1, .int .i64 1] rfl (by (try simp only [List.map_toArray, List.map_cons, List.map_nil]); first | done | rfl | (simp only [List.length_drop, List.length_take]; rfl)) ?_; (with_reducible refine (alu_Eval.calls 17 1 1 1 t107 t108 _ A2.out).mono ?_); rintro e w93 ⟨rfl, hb⟩; refine ⟨_, rfl, ?_⟩; have n0_ := As0 (below_step (by repeat (first | (with_reducible first | exact HB.out | apply below_alloc | apply bdN | apply bd1) | exact HB.out)) hb); clear HB; have HB := n0_; clear n0_; (try clear hb); (try clear hb2); (try clear hk); (try clear hi)) | ((with_reducible refine gate_callee (f := 27) rfl ?_); refine goesL_ (some 13) rfl rfl Try.func27 (by kernel_rfl) rfl #[.int .i64 8, .int .i64 (-7), .int .i64 2, .int .i64 (-3)] rfl (by (try simp only [List.map_toArray, List.map_cons, List.map_nil]); first | done | rfl | (simp only [List.length_drop, List.length_take]; rfl)) ?_; (with_reducible refine (regcertlaw06_is.calls 8 (-7) 2 (-3) true _ A3.out).mono ?_); rintro e w94 ⟨rfl, hb⟩; refine ⟨_, rfl, ?_⟩; have n0_ := As0 (below_step (by repeat (first | (with_reducible first | exact HB.out | apply below_alloc | apply bdN | apply bd1) | exact HB.out)) hb); clear HB; have HB := n0_; clear n0_; (try clear hb); (try clear hb2); (try clear hk); (try clear hi)) | (go_at_call 27; (with_reducible refine (regcertlaw06_is.calls 9 (-7) 2 (-1) false _ A5.out).mono ?_); rintro e w95 ⟨rfl, hb⟩; have n0_ := As0 (below_step (by repeat (first | (with_reducible first | exact HB.out | apply below_alloc | apply bdN | apply bd1) | exact HB.out)) hb); clear HB; have HB := n0_; clear n0_; (try clear hb); (try clear hb2); (try clear hk); (try clear hi)))
   go_ret
   exact ⟨by first | rfl | (simp [errW_none, errW_some] <;> rfl) | (simp [*, errW_none, errW_some] <;> rfl), by repeat (first | (with_reducible first | exact HB.out | apply below_alloc | apply bdN | apply bd1) | exact HB.out)⟩
 ·replace c4 := Bool.eq_false_iff.mpr c4
  subst c4
  have H1 : (some false) = some r := by rw [if_neg (show ¬ (false = true) by decide)] at H; exact H
  clear H
  have H := H1
  clear H1
  obtain rfl := Option.some.inj H
  go_enter Try.func19, Try.ntmps19
  go_wp2_with (first | ((with_reducible refine gate_callee (f := 20) rfl ?_); refine goesL_ (some 6) rfl rfl Try.func20 (by kernel_rfl) rfl #[.int .i64 8, .int .i64 1, .int .i64 0, .int .i64 0] rfl (by (try simp only [List.map_toArray, List.map_cons, List.map_nil]); first | done | rfl | (simp only [List.length_drop, List.length_take]; rfl)) ?_; (with_reducible refine (alu_Eval.calls 8 1 0 0 t105 t106 _ A1.out).mono ?_); rintro e w96 ⟨rfl, hb⟩; refine ⟨_, rfl, ?_⟩; have n0_ := As0 (below_step (by repeat (first | (with_reducible first | exact HB.out | apply below_alloc | apply bdN | apply bd1) | exact HB.out)) hb); clear HB; have HB := n0_; clear n0_; (try clear hb); (try clear hb2); (try clear hk); (try clear hi)) | ((with_reducible refine gate_callee (f := 20) rfl ?_); refine goesL_ (some 10) rfl rfl Try.func20 (by kernel_rfl) rfl #[.int .i64 17, .int .i64 1, .int .i64 1, .int .i64 1] rfl (by (try simp only [List.map_toArray, List.map_cons, List.map_nil]); first | done | rfl | (simp only [List.length_drop, List.length_take]; rfl)) ?_; (with_reducible refine (alu_Eval.calls 17 1 1 1 t107 t108 _ A2.out).mono ?_); rintro e w97 ⟨rfl, hb⟩; refine ⟨_, rfl, ?_⟩; have n0_ := As0 (below_step (by repeat (first | (with_reducible first | exact HB.out | apply below_alloc | apply bdN | apply bd1) | exact HB.out)) hb); clear HB; have HB := n0_; clear n0_; (try clear hb); (try clear hb2); (try clear hk); (try clear hi)) | ((with_reducible refine gate_callee (f := 27) rfl ?_); refine goesL_ (some 13) rfl rfl Try.func27 (by kernel_rfl) rfl #[.int .i64 8, .int .i64 (-7), .int .i64 2, .int .i64 (-3)] rfl (by (try simp only [List.map_toArray, List.map_cons, List.map_nil]); first | done | rfl | (simp only [List.length_drop, List.length_take]; rfl)) ?_; (with_reducible refine (regcertlaw06_is.calls 8 (-7) 2 (-3) false _ A3.out).mono ?_); rintro e w98 ⟨rfl, hb⟩; refine ⟨_, rfl, ?_⟩; have n0_ := As0 (below_step (by repeat (first | (with_reducible first | exact HB.out | apply below_alloc | apply bdN | apply bd1) | exact HB.out)) hb); clear HB; have HB := n0_; clear n0_; (try clear hb); (try clear hb2); (try clear hk); (try clear hi)))
  go_ret
  exact ⟨by first | rfl | (simp [errW_none, errW_some] <;> rfl) | (simp [*, errW_none, errW_some] <;> rfl), by repeat (first | (with_reducible first | exact HB.out | apply below_alloc | apply bdN | apply bd1) | exact HB.out)⟩

/-! ### regcertref06_bit: function 87 -/
def regcertref06_bit.l0 : Nat → Int → Int → Int → Option (Bool)
 | 0, _, _, _ => none
 | k + 1, x0, x1, x5 => if x5 < x1 then (regcertref06_bit.l0 k (IntKind.u64.wrap (Int.tdiv x0 2)) x1 (wrap64 (x5 + 1))) else (some ((Int.tmod x0 2) == 1))
def regcertref06_bit.f (k : Nat) (a0 : Int) (a1 : Int) : Option (Bool) := regcertref06_bit.l0 k a0 a1 0
theorem regcertref06_bit.mono_l : ∀ k, (∀ y0 y1 y2, LeO (regcertref06_bit.l0 k y0 y1 y2) (regcertref06_bit.l0 (k + 1) y0 y1 y2))
 | 0 => fun _ _ _ r h => by simp [regcertref06_bit.l0] at h
 | k + 1 => by
  have ih0 := regcertref06_bit.mono_l k
  ·intro y0 y1 y2
   unfold regcertref06_bit.l0
   repeat' first
   | (with_reducible exact ih0 _ _ _)
   | (with_reducible exact LeO.refl _)
   | (with_reducible exact LeO.none _)
   | (with_reducible refine LeO.ite ?_ ?_)
   | (with_reducible refine LeO.bind ?_ (fun _ => ?_))
   | exact ih0 _ _ _
   | exact LeO.none _
   | refine LeO.ite ?_ ?_
   | refine LeO.bind ?_ (fun _ => ?_)
theorem regcertref06_bit.mono : ∀ a0 a1 k, LeO (regcertref06_bit.f k a0 a1) (regcertref06_bit.f (k + 1) a0 a1) := by
 intro a0 a1 k
 have ih0 := regcertref06_bit.mono_l k
 unfold regcertref06_bit.f
 repeat' first
   | (with_reducible exact ih0 _ _ _)
   | (with_reducible exact LeO.refl _)
   | (with_reducible exact LeO.none _)
   | (with_reducible refine LeO.ite ?_ ?_)
   | (with_reducible refine LeO.bind ?_ (fun _ => ?_))
   | exact ih0 _ _ _
   | exact LeO.none _
   | refine LeO.ite ?_ ?_
   | refine LeO.bind ?_ (fun _ => ?_)
set_option maxHeartbeats 8000000 in
set_option maxRecDepth 100000 in
theorem regcertref06_bit.calls (k : Nat) (a0 : Int) (a1 : Int) (r : Bool) (w : World) (h : regcertref06_bit.f k a0 a1 = some r) :
  Calls Try.prog 87 #[.int .u64 a0, .int .i64 a1] w fun e w' => e = .returned (.bool r) ∧ Drawn0 w w' := by
 have H : (regcertref06_bit.l0 k a0 a1 0) = some r := h
 clear h
 have H' := As0 H
 clear H
 go_enter Try.func87, Try.ntmps87
 go_wp2
 go_loopg [0, 5] k (fun kq v0 v5 w' => ∃ (x0_1 : Int) (x5_1 : Int), v0 = .int .u64 x0_1 ∧ v5 = .int .i64 x5_1 ∧ Aside0 (regcertref06_bit.l0 kq x0_1 a1 x5_1 = some r) ∧ Aside0 (kq ≤ k) ∧ Drawn0 w w')
 case atStart => exact ⟨(a0), (0), (by first | rfl | (simp; done) | (simp [*]; done)), (by first | rfl | (simp; done) | (simp [*]; done)), H', ⟨Nat.le_refl _⟩, by repeat (first | exact Drawn0.refl _ | apply Drawn0.step)⟩
 case round =>
  clear H'
  try clear p2
  obtain ⟨x0_1, x5_1, rfl, rfl, HA, HK1, ⟨m1, rfl⟩⟩ := hrel
  cases gk with
  | zero => exact absurd HA.out (by simp [regcertref06_bit.l0])
  | succ k1 =>
   have H := HA.out
   clear HA
   simp only [regcertref06_bit.l0] at H
   by_cases c3 : x5_1 < a1
   ·rw [if_pos c3] at H
    have c3b0 : decide (x5_1 < a1) = true := decide_eq_true c3
    clear c3
    have H' := As0 H
    clear H
    go_wp2
    go_roundg k1
    case measure => have := HK1.out; omega
    case rel => exact ⟨(IntKind.u64.wrap (Int.tdiv x0_1 2)), (wrap64 (x5_1 + 1)), (by first | rfl | (simp; done) | (simp [*]; done)), (by first | rfl | (simp; done) | (simp [*]; done)), H', ⟨by have := HK1.out; omega⟩, by repeat (first | exact Drawn0.refl _ | apply Drawn0.step)⟩
   ·rw [if_neg c3] at H
    have c3b0 : decide (x5_1 < a1) = false := decide_eq_false c3
    clear c3
    obtain rfl := Option.some.inj H
    go_wp2
    go_ret
    exact ⟨by first | rfl | (simp; done) | (simp [*]; done), by repeat (first | exact Drawn0.refl _ | apply Drawn0.step)⟩

/-! ### regcertref06_bits: function 59 -/
mutual
def regcertref06_bits.l0 : Nat → Int → Int → List Bool → Int → Int → Int → Option (Int)
 | 0, _, _, _, _, _, _ => none
 | k + 1, x0, x1, x2, x7, x8, x9 => if x9 < 64 then ((regcertref06_bit.f k (IntKind.u64.wrap (x0)) x9).bind fun t118 => (if t118 = true then (regcertref06_bits.j1 k x0 x1 x2 x7 x8 x9 2) else (regcertref06_bits.j1 k x0 x1 x2 x7 x8 x9 0))) else (some (wrap64 (x7)))
def regcertref06_bits.j1 : Nat → Int → Int → List Bool → Int → Int → Int → Int → Option (Int)
 | 0, _, _, _, _, _, _, _ => none
 | k + 1, x0, x1, x2, x7, x8, x9, x10 => (regcertref06_bit.f k (IntKind.u64.wrap (x1)) x9).bind fun t119 => (if t119 = true then (regcertref06_bits.j2 k x0 x1 x2 x7 x8 x9 (wrap64 (x10 + 1))) else (regcertref06_bits.j2 k x0 x1 x2 x7 x8 x9 x10))
def regcertref06_bits.j2 : Nat → Int → Int → List Bool → Int → Int → Int → Int → Option (Int)
 | 0, _, _, _, _, _, _, _ => none
 | k + 1, x0, x1, x2, x7, x8, x9, x10 => if 0 ≤ x10 then (if x10 < (x2.length : Int) then (if rdOf false x2 x10 = true then (regcertref06_bits.l0 k x0 x1 x2 (IntKind.u64.wrap (x7 + x8)) (IntKind.u64.wrap (x8 * 2)) (wrap64 (x9 + 1))) else (regcertref06_bits.l0 k x0 x1 x2 x7 (IntKind.u64.wrap (x8 * 2)) (wrap64 (x9 + 1)))) else (none)) else (none)
end
def regcertref06_bits.f (k : Nat) (a0 : Int) (a1 : Int) (l2 : List Bool) : Option (Int) := regcertref06_bits.l0 k a0 a1 l2 0 1 0
theorem regcertref06_bits.mono_l : ∀ k, (∀ y0 y1 y2 y3 y4 y5, LeO (regcertref06_bits.l0 k y0 y1 y2 y3 y4 y5) (regcertref06_bits.l0 (k + 1) y0 y1 y2 y3 y4 y5)) ∧ (∀ y0 y1 y2 y3 y4 y5 y6, LeO (regcertref06_bits.j1 k y0 y1 y2 y3 y4 y5 y6) (regcertref06_bits.j1 (k + 1) y0 y1 y2 y3 y4 y5 y6)) ∧ (∀ y0 y1 y2 y3 y4 y5 y6, LeO (regcertref06_bits.j2 k y0 y1 y2 y3 y4 y5 y6) (regcertref06_bits.j2 (k + 1) y0 y1 y2 y3 y4 y5 y6))
 | 0 => ⟨fun _ _ _ _ _ _ r h => by simp [regcertref06_bits.l0] at h, fun _ _ _ _ _ _ _ r h => by simp [regcertref06_bits.j1] at h, fun _ _ _ _ _ _ _ r h => by simp [regcertref06_bits.j2] at h⟩
 | k + 1 => by
  obtain ⟨ih0, ih1, ih2⟩ := regcertref06_bits.mono_l k
  refine ⟨?_, ?_, ?_⟩
  ·intro y0 y1 y2 y3 y4 y5
   unfold regcertref06_bits.l0
   repeat' first
   | (with_reducible exact ih0 _ _ _ _ _ _)
   | (with_reducible exact ih1 _ _ _ _ _ _ _)
   | (with_reducible exact ih2 _ _ _ _ _ _ _)
   | (with_reducible exact regcertref06_bit.mono _ _ _)
   | (with_reducible exact LeO.refl _)
   | (with_reducible exact LeO.none _)
   | (with_reducible refine LeO.ite ?_ ?_)
   | (with_reducible refine LeO.bind ?_ (fun _ => ?_))
   | exact ih0 _ _ _ _ _ _
   | exact ih1 _ _ _ _ _ _ _
   | exact ih2 _ _ _ _ _ _ _
   | exact regcertref06_bit.mono _ _ _
   | exact LeO.none _
   | refine LeO.ite ?_ ?_
   | refine LeO.bind ?_ (fun _ => ?_)
  ·intro y0 y1 y2 y3 y4 y5 y6
   unfold regcertref06_bits.j1
   repeat' first
   | (with_reducible exact ih0 _ _ _ _ _ _)
   | (with_reducible exact ih1 _ _ _ _ _ _ _)
   | (with_reducible exact ih2 _ _ _ _ _ _ _)
   | (with_reducible exact regcertref06_bit.mono _ _ _)
   | (with_reducible exact LeO.refl _)
   | (with_reducible exact LeO.none _)
   | (with_reducible refine LeO.ite ?_ ?_)
   | (with_reducible refine LeO.bind ?_ (fun _ => ?_))
   | exact ih0 _ _ _ _ _ _
   | exact ih1 _ _ _ _ _ _ _
   | exact ih2 _ _ _ _ _ _ _
   | exact regcertref06_bit.mono _ _ _
   | exact LeO.none _
   | refine LeO.ite ?_ ?_
   | refine LeO.bind ?_ (fun _ => ?_)
  ·intro y0 y1 y2 y3 y4 y5 y6
   unfold regcertref06_bits.j2
   repeat' first
   | (with_reducible exact ih0 _ _ _ _ _ _)
   | (with_reducible exact ih1 _ _ _ _ _ _ _)
   | (with_reducible exact ih2 _ _ _ _ _ _ _)
   | (with_reducible exact regcertref06_bit.mono _ _ _)
   | (with_reducible exact LeO.refl _)
   | (with_reducible exact LeO.none _)
   | (with_reducible refine LeO.ite ?_ ?_)
   | (with_reducible refine LeO.bind ?_ (fun _ => ?_))
   | exact ih0 _ _ _ _ _ _
   | exact ih1 _ _ _ _ _ _ _
   | exact ih2 _ _ _ _ _ _ _
   | exact regcertref06_bit.mono _ _ _
   | exact LeO.none _
   | refine LeO.ite ?_ ?_
   | refine LeO.bind ?_ (fun _ => ?_)
theorem regcertref06_bits.mono : ∀ a0 a1 a2 k, LeO (regcertref06_bits.f k a0 a1 a2) (regcertref06_bits.f (k + 1) a0 a1 a2) := by
 intro a0 a1 a2 k
 obtain ⟨ih0, ih1, ih2⟩ := regcertref06_bits.mono_l k
 unfold regcertref06_bits.f
 repeat' first
   | (with_reducible exact ih0 _ _ _ _ _ _)
   | (with_reducible exact ih1 _ _ _ _ _ _ _)
   | (with_reducible exact ih2 _ _ _ _ _ _ _)
   | (with_reducible exact regcertref06_bit.mono _ _ _)
   | (with_reducible exact LeO.refl _)
   | (with_reducible exact LeO.none _)
   | (with_reducible refine LeO.ite ?_ ?_)
   | (with_reducible refine LeO.bind ?_ (fun _ => ?_))
   | exact ih0 _ _ _ _ _ _
   | exact ih1 _ _ _ _ _ _ _
   | exact ih2 _ _ _ _ _ _ _
   | exact regcertref06_bit.mono _ _ _
   | exact LeO.none _
   | refine LeO.ite ?_ ?_
   | refine LeO.bind ?_ (fun _ => ?_)
set_option maxHeartbeats 8000000 in
set_option maxRecDepth 100000 in
theorem regcertref06_bits.calls (k : Nat) (a0 : Int) (a1 : Int) (A2 : Option Addr) (c2 : Nat) (l2 : List Bool) (r : Int) (w : World) (hr2 : Kd.C Kd.bool w A2 l2.length l2) (hc2 : l2.length ≤ c2) (h : regcertref06_bits.f k a0 a1 l2 = some r) :
  Calls Try.prog 59 #[.int .i64 a0, .int .i64 a1, .slice A2 l2.length c2] w fun e w' => e = .returned (.int .i64 r) ∧ Drawn0 w w' := by
 have HR2 := As0 hr2
 have HC2 := As0 hc2
 clear hr2 hc2
 have H : (regcertref06_bits.l0 k a0 a1 l2 0 1 0) = some r := h
 clear h
 have H' := As0 H
 clear H
 go_enter Try.func59, Try.ntmps59
 go_wp2
 go_loopg [7, 8, 9] k (fun kq v7 v8 v9 w' => ∃ (x7_1 : Int) (x8_1 : Int) (x9_1 : Int), v7 = .int .u64 x7_1 ∧ v8 = .int .u64 x8_1 ∧ v9 = .int .i64 x9_1 ∧ Aside0 (regcertref06_bits.l0 kq a0 a1 l2 x7_1 x8_1 x9_1 = some r) ∧ Aside0 (kq ≤ k) ∧ Drawn0 w w')
 case atStart => exact ⟨(0), (1), (0), (by first | rfl | (simp; done) | (simp [*]; done)), (by first | rfl | (simp; done) | (simp [*]; done)), (by first | rfl | (simp; done) | (simp [*]; done)), H', ⟨Nat.le_refl _⟩, by repeat (first | exact Drawn0.refl _ | apply Drawn0.step)⟩
 case round =>
  clear H'
  try clear c2
  try clear p2
  obtain ⟨x7_1, x8_1, x9_1, rfl, rfl, rfl, HA, HK1, ⟨m1, rfl⟩⟩ := hrel
  cases gk with
  | zero => exact absurd HA.out (by simp [regcertref06_bits.l0])
  | succ k1 =>
   have H := HA.out
   clear HA
   simp only [regcertref06_bits.l0] at H
   by_cases c4 : x9_1 < 64
   ·rw [if_pos c4] at H
    have c4b0 : decide (x9_1 < 64) = true := decide_eq_true c4
    clear c4
    replace H := Option.bind_eq_some_iff.mp H
    obtain ⟨t118, A50, H⟩ := H
    replace H : (if t118 = true then (regcertref06_bits.j1 k1 a0 a1 l2 x7_1 x8_1 x9_1 2) else (regcertref06_bits.j1 k1 a0 a1 l2 x7_1 x8_1 x9_1 0)) = some r := H
    have A5 := As0 A50
    clear A50
    have HC6 := As0 H
    clear H
    go_upto_if 18 with (first | ((with_reducible refine gate_callee (f := 87) rfl ?_); refine goesL_ (some 18) rfl rfl Try.func87 (by kernel_rfl) rfl #[.int .u64 (IntKind.u64.wrap (a0)), .int .i64 x9_1] rfl (by (try simp only [List.map_toArray, List.map_cons, List.map_nil]); first | done | rfl | (simp only [List.length_drop, List.length_take]; rfl)) ?_; (with_reducible refine (regcertref06_bit.calls k1 (IntKind.u64.wrap (a0)) x9_1 t118 _ A5.out).mono ?_); rintro e w' ⟨rfl, ⟨nd, rfl⟩⟩; refine ⟨_, rfl, ?_⟩))
    (try simp only [Act.put, sL1, sL2, sL3])
    go_cut [10] (fun v10 wc => ∃ (kq : Nat) (x10_5 : Int), v10 = .int .i64 x10_5 ∧ Aside0 (regcertref06_bits.j1 kq a0 a1 l2 x7_1 x8_1 x9_1 x10_5 = some r) ∧ Aside0 (kq ≤ k1) ∧ Drawn0 w wc)
    case first =>
     have H := HC6.out
     clear HC6
     by_cases c7 : t118 = true
     ·subst c7
      have H1 : (regcertref06_bits.j1 k1 a0 a1 l2 x7_1 x8_1 x9_1 2) = some r := by rw [if_pos rfl] at H; exact H
      clear H
      have H := H1
      clear H1
      have H' := As0 H
      clear H
      go_wp2
      go_meet
      case rel => exact ⟨_, (2), (by first | rfl | (simp; done) | (simp [*]; done)), H', ⟨by have := HK1.out; first | omega | exact Nat.le_refl _⟩, by repeat (first | exact Drawn0.refl _ | apply Drawn0.step)⟩
     ·replace c7 := Bool.eq_false_iff.mpr c7
      subst c7
      have H1 : (regcertref06_bits.j1 k1 a0 a1 l2 x7_1 x8_1 x9_1 0) = some r := by rw [if_neg (show ¬ (false = true) by decide)] at H; exact H
      clear H
      have H := H1
      clear H1
      have H' := As0 H
      clear H
      go_wp2
      go_meet
      case rel => exact ⟨_, (0), (by first | rfl | (simp; done) | (simp [*]; done)), H', ⟨by have := HK1.out; first | omega | exact Nat.le_refl _⟩, by repeat (first | exact Drawn0.refl _ | apply Drawn0.step)⟩
    case rest =>
     clear HC6
     try clear c2
     try clear p2
     try clear c4
     try clear c4b0
     try clear c5
     try clear c7
     try clear p2
     obtain ⟨kq, x10_5, rfl, HA, HJ5, ⟨mc5, rfl⟩⟩ := hcut
     cases kq with
     | zero => exact absurd HA.out (by simp [regcertref06_bits.j1])
     | succ kj5 =>
      have H := HA.out
      clear HA
      simp only [regcertref06_bits.j1] at H
      replace H := Option.bind_eq_some_iff.mp H
      obtain ⟨t119, A80, H⟩ := H
      replace H : (if t119 = true then (regcertref06_bits.j2 kj5 a0 a1 l2 x7_1 x8_1 x9_1 (wrap64 (x10_5 + 1))) else (regcertref06_bits.j2 kj5 a0 a1 l2 x7_1 x8_1 x9_1 x10_5)) = some r := H
      have A8 := As0 A80
      clear A80
      have HC9 := As0 H
      clear H
      go_upto_if 22 with (first | ((with_reducible refine gate_callee (f := 87) rfl ?_); refine goesL_ (some 22) rfl rfl Try.func87 (by kernel_rfl) rfl #[.int .u64 (IntKind.u64.wrap (a1)), .int .i64 x9_1] rfl (by (try simp only [List.map_toArray, List.map_cons, List.map_nil]); first | done | rfl | (simp only [List.length_drop, List.length_take]; rfl)) ?_; (with_reducible refine (regcertref06_bit.calls kj5 (IntKind.u64.wrap (a1)) x9_1 t119 _ A8.out).mono ?_); rintro e w' ⟨rfl, ⟨nd, rfl⟩⟩; refine ⟨_, rfl, ?_⟩))
      (try simp only [Act.put, sL1, sL2, sL3])
      go_cut [10] (fun v10 wc => ∃ (kq : Nat) (x10_8 : Int), v10 = .int .i64 x10_8 ∧ Aside0 (regcertref06_bits.j2 kq a0 a1 l2 x7_1 x8_1 x9_1 x10_8 = some r) ∧ Aside0 (kq ≤ kj5) ∧ Drawn0 w wc)
      case first =>
       have H := HC9.out
       clear HC9
       by_cases c10 : t119 = true
       ·subst c10
        have H1 : (regcertref06_bits.j2 kj5 a0 a1 l2 x7_1 x8_1 x9_1 (wrap64 (x10_5 + 1))) = some r := by rw [if_pos rfl] at H; exact H
        clear H
        have H := H1
        clear H1
        have H' := As0 H
        clear H
        go_wp2
        go_meet
        case rel => exact ⟨_, (wrap64 (x10_5 + 1)), (by first | rfl | (simp; done) | (simp [*]; done)), H', ⟨by have := HK1.out; have := HJ5.out; first | omega | exact Nat.le_refl _⟩, by repeat (first | exact Drawn0.refl _ | apply Drawn0.step)⟩
       ·replace c10 := Bool.eq_false_iff.mpr c10
        subst c10
        have H1 : (regcertref06_bits.j2 kj5 a0 a1 l2 x7_1 x8_1 x9_1 x10_5) = some r := by rw [if_neg (show ¬ (false = true) by decide)] at H; exact H
        clear H
        have H := H1
        clear H1
        have H' := As0 H
        clear H
        go_wp2
        go_meet
        case rel => exact ⟨_, (x10_5), (by first | rfl | (simp; done) | (simp [*]; done)), H', ⟨by have := HK1.out; have := HJ5.out; first | omega | exact Nat.le_refl _⟩, by repeat (first | exact Drawn0.refl _ | apply Drawn0.step)⟩
      case rest =>
       clear HC9
       try clear c1
       try clear c2
       try clear p2
       try clear c4
       try clear c4b0
       try clear c5
       try clear p6
       try clear c7
       try clear c8
       try clear c10
       try clear p2
       obtain ⟨kq, x10_8, rfl, HA, HJ8, ⟨mc8, rfl⟩⟩ := hcut
       cases kq with
       | zero => exact absurd HA.out (by simp [regcertref06_bits.j2])
       | succ kj8 =>
        have H := HA.out
        clear HA
        simp only [regcertref06_bits.j2] at H
        by_cases c11 : 0 ≤ x10_8
        ·rw [if_pos c11] at H
         have c11b0 : decide (0 ≤ x10_8) = true := decide_eq_true c11
         clear c11
         by_cases c12 : x10_8 < (l2.length : Int)
         ·rw [if_pos c12] at H
          have c12b0 : decide (x10_8 < (l2.length : Int)) = true := decide_eq_true c12
          clear c12
          obtain ⟨bq13, hbq13⟩ : ∃ b_ : Bool, b_ = (rdOf false l2 x10_8) := ⟨_, rfl⟩
          replace H : (if bq13 = true then (regcertref06_bits.l0 kj8 a0 a1 l2 (IntKind.u64.wrap (x7_1 + x8_1)) (IntKind.u64.wrap (x8_1 * 2)) (wrap64 (x9_1 + 1))) else (regcertref06_bits.l0 kj8 a0 a1 l2 x7_1 (IntKind.u64.wrap (x8_1 * 2)) (wrap64 (x9_1 + 1)))) = some r := by rw [← hbq13] at H; exact H
          have Nbq13 := As0 hbq13
          clear hbq13
          by_cases c14 : bq13 = true
          ·subst c14
           have H1 : (regcertref06_bits.l0 kj8 a0 a1 l2 (IntKind.u64.wrap (x7_1 + x8_1)) (IntKind.u64.wrap (x8_1 * 2)) (wrap64 (x9_1 + 1))) = some r := by rw [if_pos rfl] at H; exact H
           clear H
           have H := H1
           clear H1
           have H' := As0 H
           clear H
           have p120 : 0 ≤ (x10_8 : Int) := of_decide_eq_true (by first | (with_reducible assumption) | assumption)
           have q120 : x10_8 < (l2.length : Int) := of_decide_eq_true (by first | (with_reducible assumption) | assumption)
           obtain ⟨ad120, e120, hx120_0⟩ := Kd.at_bool HR2.out x10_8 p120 q120
           (try rw [← Nbq13.out] at hx120_0)
           cases e120
           replace p120 := eq_true p120
           replace q120 := eq_true q120
           go_wp2
           go_roundg kj8
           case measure => have := HK1.out; have := HJ5.out; have := HJ8.out; omega
           case rel => exact ⟨(IntKind.u64.wrap (x7_1 + x8_1)), (IntKind.u64.wrap (x8_1 * 2)), (wrap64 (x9_1 + 1)), (by first | rfl | (simp; done) | (simp [*]; done)), (by first | rfl | (simp; done) | (simp [*]; done)), (by first | rfl | (simp; done) | (simp [*]; done)), H', ⟨by have := HK1.out; have := HJ5.out; have := HJ8.out; omega⟩, by repeat (first | exact Drawn0.refl _ | apply Drawn0.step)⟩
          ·replace c14 := Bool.eq_false_iff.mpr c14
           subst c14
           have H1 : (regcertref06_bits.l0 kj8 a0 a1 l2 x7_1 (IntKind.u64.wrap (x8_1 * 2)) (wrap64 (x9_1 + 1))) = some r := by rw [if_neg (show ¬ (false = true) by decide)] at H; exact H
           clear H
           have H := H1
           clear H1
           have H' := As0 H
           clear H
           have p120 : 0 ≤ (x10_8 : Int) := of_decide_eq_true (by first | (with_reducible assumption) | assumption)
           have q120 : x10_8 < (l2.length : Int) := of_decide_eq_true (by first | (with_reducible assumption) | assumption)
           obtain ⟨ad120, e120, hx120_0⟩ := Kd.at_bool HR2.out x10_8 p120 q120
           (try rw [← Nbq13.out] at hx120_0)
           cases e120
           replace p120 := eq_true p120
           replace q120 := eq_true q120
           go_wp2
           go_roundg kj8
           case measure => have := HK1.out; have := HJ5.out; have := HJ8.out; omega
           case rel => exact ⟨(x7_1), (IntKind.u64.wrap (x8_1 * 2)), (wrap64 (x9_1 + 1)), (by first | rfl | (simp; done) | (simp [*]; done)), (by first | rfl | (simp; done) | (simp [*]; done)), (by first | rfl | (simp; done) | (simp [*]; done)), H', ⟨by have := HK1.out; have := HJ5.out; have := HJ8.out; omega⟩, by repeat (first | exact Drawn0.refl _ | apply Drawn0.step)⟩
         ·rw [if_neg c12] at H
          exact absurd H (by simp)
        ·rw [if_neg c11] at H
         exact absurd H (by simp)
   ·rw [if_neg c4] at H
    have c4b0 : decide (x9_1 < 64) = false := decide_eq_false c4
    clear c4
    obtain rfl := Option.some.inj H
    go_wp2
    go_ret
    exact ⟨by first | rfl | (simp; done) | (simp [*]; done), by repeat (first | exact Drawn0.refl _ | apply Drawn0.step)⟩

/-! ### regcertref06_half: function 60 -/
def regcertref06_half.j0 : Nat → Int → Bool → Option (Int)
 | 0, _, _ => none
 | k + 1, x0, x9 => if x9 = true then (some (wrap64 ((wrap64 (Int.tdiv x0 2)) - 1))) else (some (wrap64 (Int.tdiv x0 2)))
def regcertref06_half.f (k : Nat) (a0 : Int) : Option (Int) := if a0 < 0 then (regcertref06_half.j0 k a0 ((Int.tmod a0 2) != 0)) else (regcertref06_half.j0 k a0 false)
theorem regcertref06_half.mono_l : ∀ k, (∀ y0 y1, LeO (regcertref06_half.j0 k y0 y1) (regcertref06_half.j0 (k + 1) y0 y1))
 | 0 => fun _ _ r h => by simp [regcertref06_half.j0] at h
 | k + 1 => by
  have ih0 := regcertref06_half.mono_l k
  ·intro y0 y1
   unfold regcertref06_half.j0
   repeat' first
   | (with_reducible exact ih0 _ _)
   | (with_reducible exact LeO.refl _)
   | (with_reducible exact LeO.none _)
   | (with_reducible refine LeO.ite ?_ ?_)
   | (with_reducible refine LeO.bind ?_ (fun _ => ?_))
   | exact ih0 _ _
   | exact LeO.none _
   | refine LeO.ite ?_ ?_
   | refine LeO.bind ?_ (fun _ => ?_)
theorem regcertref06_half.mono : ∀ a0 k, LeO (regcertref06_half.f k a0) (regcertref06_half.f (k + 1) a0) := by
 intro a0 k
 have ih0 := regcertref06_half.mono_l k
 unfold regcertref06_half.f
 repeat' first
   | (with_reducible exact ih0 _ _)
   | (with_reducible exact LeO.refl _)
   | (with_reducible exact LeO.none _)
   | (with_reducible refine LeO.ite ?_ ?_)
   | (with_reducible refine LeO.bind ?_ (fun _ => ?_))
   | exact ih0 _ _
   | exact LeO.none _
   | refine LeO.ite ?_ ?_
   | refine LeO.bind ?_ (fun _ => ?_)
set_option maxHeartbeats 8000000 in
set_option maxRecDepth 100000 in
theorem regcertref06_half.calls (k : Nat) (a0 : Int) (r : Int) (w : World) (h : regcertref06_half.f k a0 = some r) :
  Calls Try.prog 60 #[.int .i64 a0] w fun e w' => e = .returned (.int .i64 r) ∧ Drawn0 w w' := by
 have H : (if a0 < 0 then (regcertref06_half.j0 k a0 ((Int.tmod a0 2) != 0)) else (regcertref06_half.j0 k a0 false)) = some r := h
 clear h
 have HC2 := As0 H
 clear H
 go_enter Try.func60, Try.ntmps60
 go_upto_region 1 with (fail)
 go_cut [9] (fun v9 wc => ∃ (kq : Nat) (x9_1 : Bool), v9 = .bool x9_1 ∧ Aside0 (regcertref06_half.j0 kq a0 x9_1 = some r) ∧ Aside0 (kq ≤ k) ∧ Drawn0 w wc)
 case first =>
  have H := HC2.out
  clear HC2
  by_cases c3 : a0 < 0
  ·rw [if_pos c3] at H
   have c3b0 : decide (a0 < 0) = true := decide_eq_true c3
   clear c3
   (first | rw [c3b0] | (simp only [i64_w, i32_w]; rw [c3b0]) | skip)
   have H' := As0 H
   clear H
   go_wp2
   go_meet
   case rel => exact ⟨_, (((Int.tmod a0 2) != 0)), (by first | rfl | (simp; done) | (simp [*]; done)), H', ⟨by first | omega | exact Nat.le_refl _⟩, by repeat (first | exact Drawn0.refl _ | apply Drawn0.step)⟩
  ·rw [if_neg c3] at H
   have c3b0 : decide (a0 < 0) = false := decide_eq_false c3
   clear c3
   (first | rw [c3b0] | (simp only [i64_w, i32_w]; rw [c3b0]) | skip)
   have H' := As0 H
   clear H
   go_wp2
   go_meet
   case rel => exact ⟨_, (false), (by first | rfl | (simp; done) | (simp [*]; done)), H', ⟨by first | omega | exact Nat.le_refl _⟩, by repeat (first | exact Drawn0.refl _ | apply Drawn0.step)⟩
 case rest =>
  clear HC2
  try clear p2
  try clear c3
  try clear c3b0
  obtain ⟨kq, x9_1, rfl, HA, HJ1, ⟨mc1, rfl⟩⟩ := hcut
  cases kq with
  | zero => exact absurd HA.out (by simp [regcertref06_half.j0])
  | succ kj1 =>
   have H := HA.out
   clear HA
   simp only [regcertref06_half.j0] at H
   by_cases c4 : x9_1 = true
   ·subst c4
    have H1 : (some (wrap64 ((wrap64 (Int.tdiv a0 2)) - 1))) = some r := by rw [if_pos rfl] at H; exact H
    clear H
    have H := H1
    clear H1
    obtain rfl := Option.some.inj H
    go_wp2
    go_ret
    exact ⟨by first | rfl | (simp; done) | (simp [*]; done), by repeat (first | exact Drawn0.refl _ | apply Drawn0.step)⟩
   ·replace c4 := Bool.eq_false_iff.mpr c4
    subst c4
    have H1 : (some (wrap64 (Int.tdiv a0 2))) = some r := by rw [if_neg (show ¬ (false = true) by decide)] at H; exact H
    clear H
    have H := H1
    clear H1
    obtain rfl := Option.some.inj H
    go_wp2
    go_ret
    exact ⟨by first | rfl | (simp; done) | (simp [*]; done), by repeat (first | exact Drawn0.refl _ | apply Drawn0.step)⟩

/-! ### regcertref06_truth: function 61 -/
def regcertref06_truth.f (a0 : Bool) : Option (Int) := if a0 = true then (some 1) else (some 0)
set_option maxHeartbeats 8000000 in
set_option maxRecDepth 100000 in
theorem regcertref06_truth.calls (a0 : Bool) (r : Int) (w : World) (h : regcertref06_truth.f a0 = some r) :
  Calls Try.prog 61 #[.bool a0] w fun e w' => e = .returned (.int .i64 r) ∧ Drawn0 w w' := by
 have H : (if a0 = true then (some 1) else (some 0)) = some r := h
 clear h
 by_cases c2 : a0 = true
 ·subst c2
  have H1 : (some 1) = some r := by rw [if_pos rfl] at H; exact H
  clear H
  have H := H1
  clear H1
  obtain rfl := Option.some.inj H
  go_enter Try.func61, Try.ntmps61
  go_wp2
  go_ret
  exact ⟨by first | rfl | (simp; done) | (simp [*]; done), by repeat (first | exact Drawn0.refl _ | apply Drawn0.step)⟩
 ·replace c2 := Bool.eq_false_iff.mpr c2
  subst c2
  have H1 : (some 0) = some r := by rw [if_neg (show ¬ (false = true) by decide)] at H; exact H
  clear H
  have H := H1
  clear H1
  obtain rfl := Option.some.inj H
  go_enter Try.func61, Try.ntmps61
  go_wp2
  go_ret
  exact ⟨by first | rfl | (simp; done) | (simp [*]; done), by repeat (first | exact Drawn0.refl _ | apply Drawn0.step)⟩

/-! ### regcertref06_Eval: function 21 -/
mutual
def regcertref06_Eval.j0 : Nat → Int → Int → Int → Int → Bool → Option (Int × Bool)
 | 0, _, _, _, _, _ => none
 | k + 1, x0, x1, x2, x13, x44 => if x44 = true then (if x2 = 0 then (some (0, false)) else (if x2 = (-1) then (regcertref06_Eval.j1 k x0 x1 x2 (wrap64 (-x1))) else (regcertref06_Eval.j1 k x0 x1 x2 (wrap64 (Int.tdiv x1 x2))))) else (if x13 = 10 then ((regcertref06_bits.f k x1 x2 (([false, false, false, true] : List Bool))).bind fun t124 => (some (t124, true))) else (if x13 = 11 then ((regcertref06_bits.f k x1 x2 (([false, true, true, true] : List Bool))).bind fun t128 => (some (t128, true))) else (if x13 = 12 then ((regcertref06_bits.f k x1 x2 (([false, true, true, false] : List Bool))).bind fun t132 => (some (t132, true))) else (if x13 = 13 then (regcertref06_Eval.j2 k x0 x1 x2 x13 (x13 == 13)) else (regcertref06_Eval.j2 k x0 x1 x2 x13 (x13 == 14))))))
def regcertref06_Eval.j1 : Nat → Int → Int → Int → Int → Option (Int × Bool)
 | 0, _, _, _, _ => none
 | k + 1, x0, x1, x2, x10 => if x0 = 8 then (some (x10, true)) else (some (wrap64 (x1 - (wrap64 (x2 * x10))), true))
def regcertref06_Eval.j2 : Nat → Int → Int → Int → Int → Bool → Option (Int × Bool)
 | 0, _, _, _, _, _ => none
 | k + 1, x0, x1, x2, x13, x83 => if x83 = true then (regcertref06_Eval.l0 k x0 x1 (wrap64 (Int.tmod (IntKind.u64.wrap (x2)) 64)) 0) else (if x13 = 15 then ((regcertref06_truth.f (x1 == x2)).bind fun t134 => (some (t134, true))) else (if x13 = 16 then ((regcertref06_truth.f (decide (x1 < x2))).bind fun t135 => (some (t135, true))) else (some (0, false))))
def regcertref06_Eval.l0 : Nat → Int → Int → Int → Int → Option (Int × Bool)
 | 0, _, _, _, _ => none
 | k + 1, x0, x1, x11, x12 => if x12 < x11 then (if x0 = 13 then (regcertref06_Eval.l0 k x0 (wrap64 (x1 * 2)) x11 (wrap64 (x12 + 1))) else ((regcertref06_half.f k x1).bind fun t133 => (regcertref06_Eval.l0 k x0 t133 x11 (wrap64 (x12 + 1))))) else (some (x1, true))
end
def regcertref06_Eval.f (k : Nat) (a0 : Int) (a1 : Int) (a2 : Int) (a3 : Int) : Option (Int × Bool) := if a0 = 1 then (some (a3, true)) else (if a0 = 2 then (some (a1, true)) else (if a0 = 3 then (some (wrap64 (-a1), true)) else (if a0 = 4 then (some (wrap64 ((wrap64 (-a1)) - 1), true)) else (if a0 = 5 then (some (wrap64 (a1 + a2), true)) else (if a0 = 6 then (some (wrap64 (a1 - a2), true)) else (if a0 = 7 then (some (wrap64 (a1 * a2), true)) else (if a0 = 8 then (regcertref06_Eval.j0 k a0 a1 a2 a0 (a0 == 8)) else (regcertref06_Eval.j0 k a0 a1 a2 a0 (a0 == 9)))))))))
theorem regcertref06_Eval.mono_l : ∀ k, (∀ y0 y1 y2 y3 y4, LeO (regcertref06_Eval.j0 k y0 y1 y2 y3 y4) (regcertref06_Eval.j0 (k + 1) y0 y1 y2 y3 y4)) ∧ (∀ y0 y1 y2 y3, LeO (regcertref06_Eval.j1 k y0 y1 y2 y3) (regcertref06_Eval.j1 (k + 1) y0 y1 y2 y3)) ∧ (∀ y0 y1 y2 y3 y4, LeO (regcertref06_Eval.j2 k y0 y1 y2 y3 y4) (regcertref06_Eval.j2 (k + 1) y0 y1 y2 y3 y4)) ∧ (∀ y0 y1 y2 y3, LeO (regcertref06_Eval.l0 k y0 y1 y2 y3) (regcertref06_Eval.l0 (k + 1) y0 y1 y2 y3))
 | 0 => ⟨fun _ _ _ _ _ r h => by simp [regcertref06_Eval.j0] at h, fun _ _ _ _ r h => by simp [regcertref06_Eval.j1] at h, fun _ _ _ _ _ r h => by simp [regcertref06_Eval.j2] at h, fun _ _ _ _ r h => by simp [regcertref06_Eval.l0] at h⟩
 | k + 1 => by
  obtain ⟨ih0, ih1, ih2, ih3⟩ := regcertref06_Eval.mono_l k
  refine ⟨?_, ?_, ?_, ?_⟩
  ·intro y0 y1 y2 y3 y4
   unfold regcertref06_Eval.j0
   repeat' first
   | (with_reducible exact ih0 _ _ _ _ _)
   | (with_reducible exact ih1 _ _ _ _)
   | (with_reducible exact ih2 _ _ _ _ _)
   | (with_reducible exact ih3 _ _ _ _)
   | (with_reducible exact regcertref06_bits.mono _ _ _ _)
   | (with_reducible exact regcertref06_half.mono _ _)
   | (with_reducible exact LeO.refl _)
   | (with_reducible exact LeO.none _)
   | (with_reducible refine LeO.ite ?_ ?_)
   | (with_reducible refine LeO.bind ?_ (fun _ => ?_))
   | exact ih0 _ _ _ _ _
   | exact ih1 _ _ _ _
   | exact ih2 _ _ _ _ _
   | exact ih3 _ _ _ _
   | exact regcertref06_bits.mono _ _ _ _
   | exact regcertref06_half.mono _ _
   | exact LeO.none _
   | refine LeO.ite ?_ ?_
   | refine LeO.bind ?_ (fun _ => ?_)
  ·intro y0 y1 y2 y3
   unfold regcertref06_Eval.j1
   repeat' first
   | (with_reducible exact ih0 _ _ _ _ _)
   | (with_reducible exact ih1 _ _ _ _)
   | (with_reducible exact ih2 _ _ _ _ _)
   | (with_reducible exact ih3 _ _ _ _)
   | (with_reducible exact regcertref06_bits.mono _ _ _ _)
   | (with_reducible exact regcertref06_half.mono _ _)
   | (with_reducible exact LeO.refl _)
   | (with_reducible exact LeO.none _)
   | (with_reducible refine LeO.ite ?_ ?_)
   | (with_reducible refine LeO.bind ?_ (fun _ => ?_))
   | exact ih0 _ _ _ _ _
   | exact ih1 _ _ _ _
   | exact ih2 _ _ _ _ _
   | exact ih3 _ _ _ _
   | exact regcertref06_bits.mono _ _ _ _
   | exact regcertref06_half.mono _ _
   | exact LeO.none _
   | refine LeO.ite ?_ ?_
   | refine LeO.bind ?_ (fun _ => ?_)
  ·intro y0 y1 y2 y3 y4
   unfold regcertref06_Eval.j2
   repeat' first
   | (with_reducible exact ih0 _ _ _ _ _)
   | (with_reducible exact ih1 _ _ _ _)
   | (with_reducible exact ih2 _ _ _ _ _)
   | (with_reducible exact ih3 _ _ _ _)
   | (with_reducible exact regcertref06_bits.mono _ _ _ _)
   | (with_reducible exact regcertref06_half.mono _ _)
   | (with_reducible exact LeO.refl _)
   | (with_reducible exact LeO.none _)
   | (with_reducible refine LeO.ite ?_ ?_)
   | (with_reducible refine LeO.bind ?_ (fun _ => ?_))
   | exact ih0 _ _ _ _ _
   | exact ih1 _ _ _ _
   | exact ih2 _ _ _ _ _
   | exact ih3 _ _ _ _
   | exact regcertref06_bits.mono _ _ _ _
   | exact regcertref06_half.mono _ _
   | exact LeO.none _
   | refine LeO.ite ?_ ?_
   | refine LeO.bind ?_ (fun _ => ?_)
  ·intro y0 y1 y2 y3
   unfold regcertref06_Eval.l0
   repeat' first
   | (with_reducible exact ih0 _ _ _ _ _)
   | (with_reducible exact ih1 _ _ _ _)
   | (with_reducible exact ih2 _ _ _ _ _)
   | (with_reducible exact ih3 _ _ _ _)
   | (with_reducible exact regcertref06_bits.mono _ _ _ _)
   | (with_reducible exact regcertref06_half.mono _ _)
   | (with_reducible exact LeO.refl _)
   | (with_reducible exact LeO.none _)
   | (with_reducible refine LeO.ite ?_ ?_)
   | (with_reducible refine LeO.bind ?_ (fun _ => ?_))
   | exact ih0 _ _ _ _ _
   | exact ih1 _ _ _ _
   | exact ih2 _ _ _ _ _
   | exact ih3 _ _ _ _
   | exact regcertref06_bits.mono _ _ _ _
   | exact regcertref06_half.mono _ _
   | exact LeO.none _
   | refine LeO.ite ?_ ?_
   | refine LeO.bind ?_ (fun _ => ?_)
theorem regcertref06_Eval.mono : ∀ a0 a1 a2 a3 k, LeO (regcertref06_Eval.f k a0 a1 a2 a3) (regcertref06_Eval.f (k + 1) a0 a1 a2 a3) := by
 intro a0 a1 a2 a3 k
 obtain ⟨ih0, ih1, ih2, ih3⟩ := regcertref06_Eval.mono_l k
 unfold regcertref06_Eval.f
 repeat' first
   | (with_reducible exact ih0 _ _ _ _ _)
   | (with_reducible exact ih1 _ _ _ _)
   | (with_reducible exact ih2 _ _ _ _ _)
   | (with_reducible exact ih3 _ _ _ _)
   | (with_reducible exact regcertref06_bits.mono _ _ _ _)
   | (with_reducible exact regcertref06_half.mono _ _)
   | (with_reducible exact LeO.refl _)
   | (with_reducible exact LeO.none _)
   | (with_reducible refine LeO.ite ?_ ?_)
   | (with_reducible refine LeO.bind ?_ (fun _ => ?_))
   | exact ih0 _ _ _ _ _
   | exact ih1 _ _ _ _
   | exact ih2 _ _ _ _ _
   | exact ih3 _ _ _ _
   | exact regcertref06_bits.mono _ _ _ _
   | exact regcertref06_half.mono _ _
   | exact LeO.none _
   | refine LeO.ite ?_ ?_
   | refine LeO.bind ?_ (fun _ => ?_)
set_option maxHeartbeats 8000000 in
set_option maxRecDepth 100000 in
theorem regcertref06_Eval.calls (k : Nat) (a0 : Int) (a1 : Int) (a2 : Int) (a3 : Int) (r1 : Int) (r2 : Bool) (w : World) (h : regcertref06_Eval.f k a0 a1 a2 a3 = some (r1, r2)) :
  Calls Try.prog 21 #[.int .i64 a0, .int .i64 a1, .int .i64 a2, .int .i64 a3] w fun e w' => e = .returned (.tuple #[.int .i64 r1, .bool r2]) ∧ Below w.heap.size w w' := by
 have HB := As0 (Below.refl w.heap.size w)
 have H : (if a0 = 1 then (some (a3, true)) else (if a0 = 2 then (some (a1, true)) else (if a0 = 3 then (some (wrap64 (-a1), true)) else (if a0 = 4 then (some (wrap64 ((wrap64 (-a1)) - 1), true)) else (if a0 = 5 then (some (wrap64 (a1 + a2), true)) else (if a0 = 6 then (some (wrap64 (a1 - a2), true)) else (if a0 = 7 then (some (wrap64 (a1 * a2), true)) else (if a0 = 8 then (regcertref06_Eval.j0 k a0 a1 a2 a0 (a0 == 8)) else (regcertref06_Eval.j0 k a0 a1 a2 a0 (a0 == 9)))))))))) = some (r1, r2) := h
 clear h
 by_cases c5 : a0 = 1
 ·rw [if_pos c5] at H
  have c5b0 : (a0 == 1) = true := beq_iff_eq.mpr c5
  have c5b1 : (a0 != 1) = false := bne_eq_false_iff_eq.mpr c5
  clear c5
  simp only [Option.some.injEq, Prod.mk.injEq] at H
  obtain ⟨rfl, rfl⟩ := H
  go_enter Try.func21, Try.ntmps21
  go_wp2
  go_ret2
  exact ⟨by first | rfl | (simp [errW_none, errW_some] <;> rfl) | (simp [*, errW_none, errW_some] <;> rfl), by repeat (first | (with_reducible first | exact HB.out | apply below_alloc | apply bdN | apply bd1) | exact HB.out)⟩
 ·rw [if_neg c5] at H
  have c5b0 : (a0 == 1) = false := beq_eq_false_iff_ne.mpr c5
  have c5b1 : (a0 != 1) = true := bne_iff_ne.mpr c5
  by_cases c6 : a0 = 2
  ·rw [if_pos c6] at H
   have c6b0 : (a0 == 2) = true := beq_iff_eq.mpr c6
   have c6b1 : (a0 != 2) = false := bne_eq_false_iff_eq.mpr c6
   clear c6
   simp only [Option.some.injEq, Prod.mk.injEq] at H
   obtain ⟨rfl, rfl⟩ := H
   go_enter Try.func21, Try.ntmps21
   go_wp2
   go_ret2
   exact ⟨by first | rfl | (simp [errW_none, errW_some] <;> rfl) | (simp [*, errW_none, errW_some] <;> rfl), by repeat (first | (with_reducible first | exact HB.out | apply below_alloc | apply bdN | apply bd1) | exact HB.out)⟩
  ·rw [if_neg c6] at H
   have c6b0 : (a0 == 2) = false := beq_eq_false_iff_ne.mpr c6
   have c6b1 : (a0 != 2) = true := bne_iff_ne.mpr c6
   by_cases c7 : a0 = 3
   ·rw [if_pos c7] at H
    have c7b0 : (a0 == 3) = true := beq_iff_eq.mpr c7
    have c7b1 : (a0 != 3) = false := bne_eq_false_iff_eq.mpr c7
    clear c7
    simp only [Option.some.injEq, Prod.mk.injEq] at H
    obtain ⟨rfl, rfl⟩ := H
    go_enter Try.func21, Try.ntmps21
    go_wp2
    go_ret2
    exact ⟨by first | rfl | (simp [errW_none, errW_some] <;> rfl) | (simp [*, errW_none, errW_some] <;> rfl), by repeat (first | (with_reducible first | exact HB.out | apply below_alloc | apply bdN | apply bd1) | exact HB.out)⟩
   ·rw [if_neg c7] at H
    have c7b0 : (a0 == 3) = false := beq_eq_false_iff_ne.mpr c7
    have c7b1 : (a0 != 3) = true := bne_iff_ne.mpr c7
    by_cases c8 : a0 = 4
    ·rw [if_pos c8] at H
     have c8b0 : (a0 == 4) = true := beq_iff_eq.mpr c8
     have c8b1 : (a0 != 4) = false := bne_eq_false_iff_eq.mpr c8
     clear c8
     simp only [Option.some.injEq, Prod.mk.injEq] at H
     obtain ⟨rfl, rfl⟩ := H
     go_enter Try.func21, Try.ntmps21
     go_wp2
     go_ret2
     exact ⟨by first | rfl | (simp [errW_none, errW_some] <;> rfl) | (simp [*, errW_none, errW_some] <;> rfl), by repeat (first | (with_reducible first | exact HB.out | apply below_alloc | apply bdN | apply bd1) | exact HB.out)⟩
    ·rw [if_neg c8] at H
     have c8b0 : (a0 == 4) = false := beq_eq_false_iff_ne.mpr c8
     have c8b1 : (a0 != 4) = true := bne_iff_ne.mpr c8
     by_cases c9 : a0 = 5
     ·rw [if_pos c9] at H
      have c9b0 : (a0 == 5) = true := beq_iff_eq.mpr c9
      have c9b1 : (a0 != 5) = false := bne_eq_false_iff_eq.mpr c9
      clear c9
      simp only [Option.some.injEq, Prod.mk.injEq] at H
      obtain ⟨rfl, rfl⟩ := H
      go_enter Try.func21, Try.ntmps21
      go_wp2
      go_ret2
      exact ⟨by first | rfl | (simp [errW_none, errW_some] <;> rfl) | (simp [*, errW_none, errW_some] <;> rfl), by repeat (first | (with_reducible first | exact HB.out | apply below_alloc | apply bdN | apply bd1) | exact HB.out)⟩
     ·rw [if_neg c9] at H
      have c9b0 : (a0 == 5) = false := beq_eq_false_iff_ne.mpr c9
      have c9b1 : (a0 != 5) = true := bne_iff_ne.mpr c9
      by_cases c10 : a0 = 6
      ·rw [if_pos c10] at H
       have c10b0 : (a0 == 6) = true := beq_iff_eq.mpr c10
       have c10b1 : (a0 != 6) = false := bne_eq_false_iff_eq.mpr c10
       clear c10
       simp only [Option.some.injEq, Prod.mk.injEq] at H
       obtain ⟨rfl, rfl⟩ := H
       go_enter Try.func21, Try.ntmps21
       go_wp2
       go_ret2
       exact ⟨by first | rfl | (simp [errW_none, errW_some] <;> rfl) | (simp [*, errW_none, errW_some] <;> rfl), by repeat (first | (with_reducible first | exact HB.out | apply below_alloc | apply bdN | apply bd1) | exact HB.out)⟩
      ·rw [if_neg c10] at H
       have c10b0 : (a0 == 6) = false := beq_eq_false_iff_ne.mpr c10
       have c10b1 : (a0 != 6) = true := bne_iff_ne.mpr c10
       by_cases c11 : a0 = 7
       ·rw [if_pos c11] at H
        have c11b0 : (a0 == 7) = true := beq_iff_eq.mpr c11
        have c11b1 : (a0 != 7) = false := bne_eq_false_iff_eq.mpr c11
        clear c11
        simp only [Option.some.injEq, Prod.mk.injEq] at H
        obtain ⟨rfl, rfl⟩ := H
        go_enter Try.func21, Try.ntmps21
        go_wp2
        go_ret2
        exact ⟨by first | rfl | (simp [errW_none, errW_some] <;> rfl) | (simp [*, errW_none, errW_some] <;> rfl), by repeat (first | (with_reducible first | exact HB.out | apply below_alloc | apply bdN | apply bd1) | exact HB.out)⟩
       ·rw [if_neg c11] at H
        have c11b0 : (a0 == 7) = false := beq_eq_false_iff_ne.mpr c11
        have c11b1 : (a0 != 7) = true := bne_iff_ne.mpr c11
        have HC12 := As0 H
        clear H
        go_enter Try.func21, Try.ntmps21
        go_upto_if 44 with (fail)
        go_cut [44] (fun v44 wc => ∃ (kq : Nat) (x44_11 : Bool), v44 = .bool x44_11 ∧ Aside0 (regcertref06_Eval.j0 kq a0 a1 a2 a0 x44_11 = some (r1, r2)) ∧ Aside0 (kq ≤ k) ∧ Aside0 (Below w.heap.size w wc))
        case first =>
         have H := HC12.out
         clear HC12
         by_cases c13 : a0 = 8
         ·rw [if_pos c13] at H
          have c13b0 : (a0 == 8) = true := beq_iff_eq.mpr c13
          have c13b1 : (a0 != 8) = false := bne_eq_false_iff_eq.mpr c13
          clear c13
          (first | rw [c13b0] | (simp only [i64_w, i32_w]; rw [c13b0]) | skip)
          have H' := As0 H
          clear H
          go_wp2
          go_meet
          case rel => exact ⟨_, ((a0 == 8)), (by first | rfl | (simp; done) | (simp [*]; done)), H', ⟨by first | omega | exact Nat.le_refl _⟩, ⟨by repeat (first | (with_reducible first | exact HB.out | apply below_alloc | apply bdN | apply bd1) | exact HB.out)⟩⟩
         ·rw [if_neg c13] at H
          have c13b0 : (a0 == 8) = false := beq_eq_false_iff_ne.mpr c13
          have c13b1 : (a0 != 8) = true := bne_iff_ne.mpr c13
          (first | rw [c13b0] | (simp only [i64_w, i32_w]; rw [c13b0]) | skip)
          have H' := As0 H
          clear H
          go_wp2
          go_meet
          case rel => exact ⟨_, ((a0 == 9)), (by first | rfl | (simp; done) | (simp [*]; done)), H', ⟨by first | omega | exact Nat.le_refl _⟩, ⟨by repeat (first | (with_reducible first | exact HB.out | apply below_alloc | apply bdN | apply bd1) | exact HB.out)⟩⟩
        case rest =>
         clear HC12
         try clear c1
         try clear c2
         try clear p2
         try clear c5
         try clear c5b0
         try clear c5b1
         try clear c6
         try clear c6b0
         try clear c6b1
         try clear p6
         try clear c7
         try clear c7b0
         try clear c7b1
         try clear c8
         try clear c8b0
         try clear c8b1
         try clear c9
         try clear c9b0
         try clear c9b1
         try clear c10
         try clear c10b0
         try clear c10b1
         try clear c11
         try clear c11b0
         try clear c11b1
         try clear c13
         try clear c13b0
         try clear c13b1
         obtain ⟨kq, x44_11, rfl, HA, HJ11, HB⟩ := hcut
         cases kq with
         | zero => exact absurd HA.out (by simp [regcertref06_Eval.j0])
         | succ kj11 =>
          have H := HA.out
          clear HA
          simp only [regcertref06_Eval.j0] at H
          by_cases c14 : x44_11 = true
          ·subst c14
           have H1 : (if a2 = 0 then (some (0, false)) else (if a2 = (-1) then (regcertref06_Eval.j1 kj11 a0 a1 a2 (wrap64 (-a1))) else (regcertref06_Eval.j1 kj11 a0 a1 a2 (wrap64 (Int.tdiv a1 a2))))) = some (r1, r2) := by rw [if_pos rfl] at H; exact H
           clear H
           have H := H1
           clear H1
           by_cases c15 : a2 = 0
           ·rw [if_pos c15] at H
            have c15b0 : (a2 == 0) = true := beq_iff_eq.mpr c15
            have c15b1 : (a2 != 0) = false := bne_eq_false_iff_eq.mpr c15
            clear c15
            simp only [Option.some.injEq, Prod.mk.injEq] at H
            obtain ⟨rfl, rfl⟩ := H
            go_wp2
            go_ret2
            exact ⟨by first | rfl | (simp [errW_none, errW_some] <;> rfl) | (simp [*, errW_none, errW_some] <;> rfl), by repeat (first | (with_reducible first | exact HB.out | apply below_alloc | apply bdN | apply bd1) | exact HB.out)⟩
           ·rw [if_neg c15] at H
            have c15b0 : (a2 == 0) = false := beq_eq_false_iff_ne.mpr c15
            have c15b1 : (a2 != 0) = true := bne_iff_ne.mpr c15
            have HC16 := As0 H
            clear H
            go_upto_if 51 with (fail)
            go_cut [10] (fun v10 wc => ∃ (kq : Nat) (x10_15 : Int), v10 = .int .i64 x10_15 ∧ Aside0 (regcertref06_Eval.j1 kq a0 a1 a2 x10_15 = some (r1, r2)) ∧ Aside0 (kq ≤ kj11) ∧ Aside0 (Below w.heap.size w wc))
            case first =>
             have H := HC16.out
             clear HC16
             by_cases c17 : a2 = (-1)
             ·rw [if_pos c17] at H
              have c17b0 : (a2 == (-1)) = true := beq_iff_eq.mpr c17
              have c17b1 : (a2 != (-1)) = false := bne_eq_false_iff_eq.mpr c17
              clear c17
              (first | rw [c17b0] | (simp only [i64_w, i32_w]; rw [c17b0]) | skip)
              have H' := As0 H
              clear H
              go_wp2
              go_meet
              case rel => exact ⟨_, (wrap64 (-a1)), (by first | rfl | (simp; done) | (simp [*]; done)), H', ⟨by have := HJ11.out; first | omega | exact Nat.le_refl _⟩, ⟨by repeat (first | (with_reducible first | exact HB.out | apply below_alloc | apply bdN | apply bd1) | exact HB.out)⟩⟩
             ·rw [if_neg c17] at H
              have c17b0 : (a2 == (-1)) = false := beq_eq_false_iff_ne.mpr c17
              have c17b1 : (a2 != (-1)) = true := bne_iff_ne.mpr c17
              (first | rw [c17b0] | (simp only [i64_w, i32_w]; rw [c17b0]) | skip)
              have H' := As0 H
              clear H
              go_wp2
              go_meet
              case rel => exact ⟨_, (wrap64 (Int.tdiv a1 a2)), (by first | rfl | (simp; done) | (simp [*]; done)), H', ⟨by have := HJ11.out; first | omega | exact Nat.le_refl _⟩, ⟨by repeat (first | (with_reducible first | exact HB.out | apply below_alloc | apply bdN | apply bd1) | exact HB.out)⟩⟩
            case rest =>
             clear HC16
             try clear c1
             try clear c2
             try clear p2
             try clear c5
             try clear c5b0
             try clear c5b1
             try clear c6
             try clear c6b0
             try clear c6b1
             try clear p6
             try clear c7
             try clear c7b0
             try clear c7b1
             try clear c8
             try clear c8b0
             try clear c8b1
             try clear c9
             try clear c9b0
             try clear c9b1
             try clear c10
             try clear c10b0
             try clear c10b1
             try clear c11
             try clear c11b0
             try clear c11b1
             try clear c13
             try clear c13b0
             try clear c13b1
             try clear c14
             try clear c15
             try clear c15b0
             try clear c15b1
             try clear c17
             try clear c17b0
             try clear c17b1
             try clear p2
             try clear p6
             obtain ⟨kq, x10_15, rfl, HA, HJ15, HB⟩ := hcut
             cases kq with
             | zero => exact absurd HA.out (by simp [regcertref06_Eval.j1])
             | succ kj15 =>
              have H := HA.out
              clear HA
              simp only [regcertref06_Eval.j1] at H
              by_cases c18 : a0 = 8
              ·rw [if_pos c18] at H
               have c18b0 : (a0 == 8) = true := beq_iff_eq.mpr c18
               have c18b1 : (a0 != 8) = false := bne_eq_false_iff_eq.mpr c18
               clear c18
               simp only [Option.some.injEq, Prod.mk.injEq] at H
               obtain ⟨rfl, rfl⟩ := H
               go_wp2
               go_ret2
               exact ⟨by first | rfl | (simp [errW_none, errW_some] <;> rfl) | (simp [*, errW_none, errW_some] <;> rfl), by repeat (first | (with_reducible first | exact HB.out | apply below_alloc | apply bdN | apply bd1) | exact HB.out)⟩
              ·rw [if_neg c18] at H
               have c18b0 : (a0 == 8) = false := beq_eq_false_iff_ne.mpr c18
               have c18b1 : (a0 != 8) = true := bne_iff_ne.mpr c18
               simp only [Option.some.injEq, Prod.mk.injEq] at H
               obtain ⟨rfl, rfl⟩ := H
               go_wp2
               go_ret2
               exact ⟨by first | rfl | (simp [errW_none, errW_some] <;> rfl) | (simp [*, errW_none, errW_some] <;> rfl), by repeat (first | (with_reducible first | exact HB.out | apply below_alloc | apply bdN | apply bd1) | exact HB.out)⟩
          ·replace c14 := Bool.eq_false_iff.mpr c14
           subst c14
           have H1 : (if a0 = 10 then ((regcertref06_bits.f kj11 a1 a2 (([false, false, false, true] : List Bool))).bind fun t124 => (some (t124, true))) else (if a0 = 11 then ((regcertref06_bits.f kj11 a1 a2 (([false, true, true, true] : List Bool))).bind fun t128 => (some (t128, true))) else (if a0 = 12 then ((regcertref06_bits.f kj11 a1 a2 (([false, true, true, false] : List Bool))).bind fun t132 => (some (t132, true))) else (if a0 = 13 then (regcertref06_Eval.j2 kj11 a0 a1 a2 a0 (a0 == 13)) else (regcertref06_Eval.j2 kj11 a0 a1 a2 a0 (a0 == 14)))))) = some (r1, r2) := by rw [if_neg (show ¬ (false = true) by decide)] at H; exact H
           clear H
           have H := H1
           clear H1
           by_cases c19 : a0 = 10
           ·rw [if_pos c19] at H
            have c19b0 : (a0 == 10) = true := beq_iff_eq.mpr c19
            have c19b1 : (a0 != 10) = false := bne_eq_false_iff_eq.mpr c19
            clear c19
            obtain ⟨y121, hy121⟩ : ∃ y_ : List Bool, y_ = (([false, false, false, true] : List Bool)) := ⟨_, rfl⟩
            replace H : ((regcertref06_bits.f kj11 a1 a2 y121).bind fun t124 => (some (t124, true))) = some (r1, r2) := by first | (rw [hy121]; with_reducible exact H) | (have H2_ := (Option.bind_some _ _).symm.trans H; rw [hy121]; with_reducible exact H2_) | (have H2_ := (Option.bind_some _ _).symm.trans H; with_reducible exact H2_) | with_reducible exact H | (rw [hy121]; exact H) | exact H
            have Ny121 := As0 hy121
            clear hy121
            replace H := Option.bind_eq_some_iff.mp H
            obtain ⟨t124, A200, H⟩ := H
            replace H : (some (t124, true)) = some (r1, r2) := H
            have A20 := As0 A200
            clear A200
            simp only [Option.some.injEq, Prod.mk.injEq] at H
            obtain ⟨rfl, rfl⟩ := H
            go_wp2_with (first | ((with_reducible refine gate_dst (N := 69) rfl ?_); refine Kd.R_lit Kd.bool _ 4 ?hg (N := 69) ?hd (xs := ([false, false, false, true] : List Bool)) (inner := [.bool false, .bool false, .bool false, .bool true]) (ok := fun _ => True) (okp := fun _ => True) ?hr ?hp (fun _ hk => hk) trivial (Below.refl _ _) (Nat.le_refl _) (by simp) ?_; (case hd => rfl); (case hg => rfl); (case hr => first | (go_simp; done) | (go_simp; rfl)); (case hp => exact (Reps.one (show Kd.M Kd.bool _ _ _ false [.bool false] from rfl) (Reps.one (show Kd.M Kd.bool _ _ _ false [.bool false] from rfl) (Reps.one (show Kd.M Kd.bool _ _ _ false [.bool false] from rfl) (Reps.one (show Kd.M Kd.bool _ _ _ true [.bool true] from rfl) (Reps.none _ _)))))); intro v122 w21 ho22 hb hg_ hnew_; clear hg_ hnew_; (first | rw [← Ny121.out] at ho22 | (simp only [Int.reduceToNat] at ho22; rw [← Ny121.out] at ho22)); have n0_ := As0 (Kd.R_lower ho22 (below_size (by repeat (first | (with_reducible first | exact HB.out | apply below_alloc | apply bdN | apply bd1) | exact HB.out)))); have n1_ := As0 (below_step (by repeat (first | (with_reducible first | exact HB.out | apply below_alloc | apply bdN | apply bd1) | exact HB.out)) hb); clear HB; have HO123 := n0_; have HB := n1_; clear n0_ n1_; clear hb ho22; obtain ⟨Ao23, co23, eo23⟩ := Kd.R_slice HO123.out; subst eo23) | ((with_reducible refine gate_callee (f := 59) rfl ?_); refine goesL_ (some 70) rfl rfl Try.func59 (by kernel_rfl) rfl #[.int .i64 a1, .int .i64 a2, .slice Ao23 y121.length co23] rfl (by (try simp only [List.map_toArray, List.map_cons, List.map_nil]); first | done | rfl | (simp only [List.length_drop, List.length_take]; rfl)) ?_; (with_reducible refine (regcertref06_bits.calls kj11 a1 a2 _ _ y121 t124 _ ?side1 ?side2 A20.out).mono ?_); (case side1 => repeat (first | exact (Kd.R_reads' HO123.out).2.2 | (with_reducible refine Kd.C_alloc ?_ _) | (with_reducible refine Kd.C_drewN ?_ _) | (with_reducible refine Kd.C_drew ?_))); (case side2 => exact (Kd.R_reads' HO123.out).2.1); rintro e w' ⟨rfl, ⟨nd, rfl⟩⟩; refine ⟨_, rfl, ?_⟩))
            go_ret2
            exact ⟨by first | rfl | (simp [errW_none, errW_some] <;> rfl) | (simp [*, errW_none, errW_some] <;> rfl), by repeat (first | (with_reducible first | exact HB.out | apply below_alloc | apply bdN | apply bd1) | exact HB.out)⟩
           ·rw [if_neg c19] at H
            have c19b0 : (a0 == 10) = false := beq_eq_false_iff_ne.mpr c19
            have c19b1 : (a0 != 10) = true := bne_iff_ne.mpr c19
            by_cases c24 : a0 = 11
            ·rw [if_pos c24] at H
             have c24b0 : (a0 == 11) = true := beq_iff_eq.mpr c24
             have c24b1 : (a0 != 11) = false := bne_eq_false_iff_eq.mpr c24
             clear c24
             obtain ⟨y125, hy125⟩ : ∃ y_ : List Bool, y_ = (([false, true, true, true] : List Bool)) := ⟨_, rfl⟩
             replace H : ((regcertref06_bits.f kj11 a1 a2 y125).bind fun t128 => (some (t128, true))) = some (r1, r2) := by first | (rw [hy125]; with_reducible exact H) | (have H2_ := (Option.bind_some _ _).symm.trans H; rw [hy125]; with_reducible exact H2_) | (have H2_ := (Option.bind_some _ _).symm.trans H; with_reducible exact H2_) | with_reducible exact H | (rw [hy125]; exact H) | exact H
             have Ny125 := As0 hy125
             clear hy125
             replace H := Option.bind_eq_some_iff.mp H
             obtain ⟨t128, A250, H⟩ := H
             replace H : (some (t128, true)) = some (r1, r2) := H
             have A25 := As0 A250
             clear A250
             simp only [Option.some.injEq, Prod.mk.injEq] at H
             obtain ⟨rfl, rfl⟩ := H
             go_wp2_with (first | ((with_reducible refine gate_dst (N := 75) rfl ?_); refine Kd.R_lit Kd.bool _ 4 ?hg (N := 75) ?hd (xs := ([false, true, true, true] : List Bool)) (inner := [.bool false, .bool true, .bool true, .bool true]) (ok := fun _ => True) (okp := fun _ => True) ?hr ?hp (fun _ hk => hk) trivial (Below.refl _ _) (Nat.le_refl _) (by simp) ?_; (case hd => rfl); (case hg => rfl); (case hr => first | (go_simp; done) | (go_simp; rfl)); (case hp => exact (Reps.one (show Kd.M Kd.bool _ _ _ false [.bool false] from rfl) (Reps.one (show Kd.M Kd.bool _ _ _ true [.bool true] from rfl) (Reps.one (show Kd.M Kd.bool _ _ _ true [.bool true] from rfl) (Reps.one (show Kd.M Kd.bool _ _ _ true [.bool true] from rfl) (Reps.none _ _)))))); intro v126 w26 ho27 hb hg_ hnew_; clear hg_ hnew_; (first | rw [← Ny125.out] at ho27 | (simp only [Int.reduceToNat] at ho27; rw [← Ny125.out] at ho27)); have n0_ := As0 (Kd.R_lower ho27 (below_size (by repeat (first | (with_reducible first | exact HB.out | apply below_alloc | apply bdN | apply bd1) | exact HB.out)))); have n1_ := As0 (below_step (by repeat (first | (with_reducible first | exact HB.out | apply below_alloc | apply bdN | apply bd1) | exact HB.out)) hb); clear HB; have HO127 := n0_; have HB := n1_; clear n0_ n1_; clear hb ho27; obtain ⟨Ao28, co28, eo28⟩ := Kd.R_slice HO127.out; subst eo28) | ((with_reducible refine gate_callee (f := 59) rfl ?_); refine goesL_ (some 76) rfl rfl Try.func59 (by kernel_rfl) rfl #[.int .i64 a1, .int .i64 a2, .slice Ao28 y125.length co28] rfl (by (try simp only [List.map_toArray, List.map_cons, List.map_nil]); first | done | rfl | (simp only [List.length_drop, List.length_take]; rfl)) ?_; (with_reducible refine (regcertref06_bits.calls kj11 a1 a2 _ _ y125 t128 _ ?side1 ?side2 A25.out).mono ?_); (case side1 => repeat (first | exact (Kd.R_reads' HO127.out).2.2 | (with_reducible refine Kd.C_alloc ?_ _) | (with_reducible refine Kd.C_drewN ?_ _) | (with_reducible refine Kd.C_drew ?_))); (case side2 => exact (Kd.R_reads' HO127.out).2.1); rintro e w' ⟨rfl, ⟨nd, rfl⟩⟩; refine ⟨_, rfl, ?_⟩))
             go_ret2
             exact ⟨by first | rfl | (simp [errW_none, errW_some] <;> rfl) | (simp [*, errW_none, errW_some] <;> rfl), by repeat (first | (with_reducible first | exact HB.out | apply below_alloc | apply bdN | apply bd1) | exact HB.out)⟩
            ·rw [if_neg c24] at H
             have c24b0 : (a0 == 11) = false := beq_eq_false_iff_ne.mpr c24
             have c24b1 : (a0 != 11) = true := bne_iff_ne.mpr c24
             by_cases c29 : a0 = 12
             ·rw [if_pos c29] at H
              have c29b0 : (a0 == 12) = true := beq_iff_eq.mpr c29
              have c29b1 : (a0 != 12) = false := bne_eq_false_iff_eq.mpr c29
              clear c29
              obtain ⟨y129, hy129⟩ : ∃ y_ : List Bool, y_ = (([false, true, true, false] : List Bool)) := ⟨_, rfl⟩
              replace H : ((regcertref06_bits.f kj11 a1 a2 y129).bind fun t132 => (some (t132, true))) = some (r1, r2) := by first | (rw [hy129]; with_reducible exact H) | (have H2_ := (Option.bind_some _ _).symm.trans H; rw [hy129]; with_reducible exact H2_) | (have H2_ := (Option.bind_some _ _).symm.trans H; with_reducible exact H2_) | with_reducible exact H | (rw [hy129]; exact H) | exact H
              have Ny129 := As0 hy129
              clear hy129
              replace H := Option.bind_eq_some_iff.mp H
              obtain ⟨t132, A300, H⟩ := H
              replace H : (some (t132, true)) = some (r1, r2) := H
              have A30 := As0 A300
              clear A300
              simp only [Option.some.injEq, Prod.mk.injEq] at H
              obtain ⟨rfl, rfl⟩ := H
              go_wp2_with (first | ((with_reducible refine gate_dst (N := 81) rfl ?_); refine Kd.R_lit Kd.bool _ 4 ?hg (N := 81) ?hd (xs := ([false, true, true, false] : List Bool)) (inner := [.bool false, .bool true, .bool true, .bool false]) (ok := fun _ => True) (okp := fun _ => True) ?hr ?hp (fun _ hk => hk) trivial (Below.refl _ _) (Nat.le_refl _) (by simp) ?_; (case hd => rfl); (case hg => rfl); (case hr => first | (go_simp; done) | (go_simp; rfl)); (case hp => exact (Reps.one (show Kd.M Kd.bool _ _ _ false [.bool false] from rfl) (Reps.one (show Kd.M Kd.bool _ _ _ true [.bool true] from rfl) (Reps.one (show Kd.M Kd.bool _ _ _ true [.bool true] from rfl) (Reps.one (show Kd.M Kd.bool _ _ _ false [.bool false] from rfl) (Reps.none _ _)))))); intro v130 w31 ho32 hb hg_ hnew_; clear hg_ hnew_; (first | rw [← Ny129.out] at ho32 | (simp only [Int.reduceToNat] at ho32; rw [← Ny129.out] at ho32)); have n0_ := As0 (Kd.R_lower ho32 (below_size (by repeat (first | (with_reducible first | exact HB.out | apply below_alloc | apply bdN | apply bd1) | exact HB.out)))); have n1_ := As0 (below_step (by repeat (first | (with_reducible first | exact HB.out | apply below_alloc | apply bdN | apply bd1) | exact HB.out)) hb); clear HB; have HO131 := n0_; have HB := n1_; clear n0_ n1_; clear hb ho32; obtain ⟨Ao33, co33, eo33⟩ := Kd.R_slice HO131.out; subst eo33) | ((with_reducible refine gate_callee (f := 59) rfl ?_); refine goesL_ (some 82) rfl rfl Try.func59 (by kernel_rfl) rfl #[.int .i64 a1, .int .i64 a2, .slice Ao33 y129.length co33] rfl (by (try simp only [List.map_toArray, List.map_cons, List.map_nil]); first | done | rfl | (simp only [List.length_drop, List.length_take]; rfl)) ?_; (with_reducible refine (regcertref06_bits.calls kj11 a1 a2 _ _ y129 t132 _ ?side1 ?side2 A30.out).mono ?_); (case side1 => repeat (first | exact (Kd.R_reads' HO131.out).2.2 | (with_reducible refine Kd.C_alloc ?_ _) | (with_reducible refine Kd.C_drewN ?_ _) | (with_reducible refine Kd.C_drew ?_))); (case side2 => exact (Kd.R_reads' HO131.out).2.1); rintro e w' ⟨rfl, ⟨nd, rfl⟩⟩; refine ⟨_, rfl, ?_⟩))
              go_ret2
              exact ⟨by first | rfl | (simp [errW_none, errW_some] <;> rfl) | (simp [*, errW_none, errW_some] <;> rfl), by repeat (first | (with_reducible first | exact HB.out | apply below_alloc | apply bdN | apply bd1) | exact HB.out)⟩
             ·rw [if_neg c29] at H
              have c29b0 : (a0 == 12) = false := beq_eq_false_iff_ne.mpr c29
              have c29b1 : (a0 != 12) = true := bne_iff_ne.mpr c29
              have HC34 := As0 H
              clear H
              go_upto_if 83 with (fail)
              go_cut [83] (fun v83 wc => ∃ (kq : Nat) (x83_33 : Bool), v83 = .bool x83_33 ∧ Aside0 (regcertref06_Eval.j2 kq a0 a1 a2 a0 x83_33 = some (r1, r2)) ∧ Aside0 (kq ≤ kj11) ∧ Aside0 (Below w.heap.size w wc))
              case first =>
               have H := HC34.out
               clear HC34
               by_cases c35 : a0 = 13
               ·rw [if_pos c35] at H
                have c35b0 : (a0 == 13) = true := beq_iff_eq.mpr c35
                have c35b1 : (a0 != 13) = false := bne_eq_false_iff_eq.mpr c35
                clear c35
                (first | rw [c35b0] | (simp only [i64_w, i32_w]; rw [c35b0]) | skip)
                have H' := As0 H
                clear H
                go_wp2
                go_meet
                case rel => exact ⟨_, ((a0 == 13)), (by first | rfl | (simp; done) | (simp [*]; done)), H', ⟨by have := HJ11.out; first | omega | exact Nat.le_refl _⟩, ⟨by repeat (first | (with_reducible first | exact HB.out | apply below_alloc | apply bdN | apply bd1) | exact HB.out)⟩⟩
               ·rw [if_neg c35] at H
                have c35b0 : (a0 == 13) = false := beq_eq_false_iff_ne.mpr c35
                have c35b1 : (a0 != 13) = true := bne_iff_ne.mpr c35
                (first | rw [c35b0] | (simp only [i64_w, i32_w]; rw [c35b0]) | skip)
                have H' := As0 H
                clear H
                go_wp2
                go_meet
                case rel => exact ⟨_, ((a0 == 14)), (by first | rfl | (simp; done) | (simp [*]; done)), H', ⟨by have := HJ11.out; first | omega | exact Nat.le_refl _⟩, ⟨by repeat (first | (with_reducible first | exact HB.out | apply below_alloc | apply bdN | apply bd1) | exact HB.out)⟩⟩
              case rest =>
               clear HC34
               try clear c1
               try clear c2
               try clear p2
               try clear c3
               try clear c5
               try clear c5b0
               try clear c5b1
               try clear c6
               try clear c6b0
               try clear c6b1
               try clear p6
               try clear c7
               try clear c7b0
               try clear c7b1
               try clear c8
               try clear c8b0
               try clear c8b1
               try clear c9
               try clear c9b0
               try clear c9b1
               try clear c10
               try clear c10b0
               try clear c10b1
               try clear c11
               try clear c11b0
               try clear c11b1
               try clear c13
               try clear c13b0
               try clear c13b1
               try clear c14
               try clear c15
               try clear c15b0
               try clear c15b1
               try clear c17
               try clear c17b0
               try clear c17b1
               try clear c18
               try clear c18b0
               try clear c18b1
               try clear c19
               try clear c19b0
               try clear c19b1
               try clear c21
               try clear c24
               try clear c24b0
               try clear c24b1
               try clear c29
               try clear c29b0
               try clear c29b1
               try clear c35
               try clear c35b0
               try clear c35b1
               try clear p2
               try clear p6
               obtain ⟨kq, x83_33, rfl, HA, HJ33, HB⟩ := hcut
               cases kq with
               | zero => exact absurd HA.out (by simp [regcertref06_Eval.j2])
               | succ kj33 =>
                have H := HA.out
                clear HA
                simp only [regcertref06_Eval.j2] at H
                by_cases c36 : x83_33 = true
                ·subst c36
                 have H1 : (regcertref06_Eval.l0 kj33 a0 a1 (wrap64 (Int.tmod (IntKind.u64.wrap (a2)) 64)) 0) = some (r1, r2) := by rw [if_pos rfl] at H; exact H
                 clear H
                 have H := H1
                 clear H1
                 have H' := As0 H
                 clear H
                 go_wp2
                 go_loopg [1, 12] kj33 (fun kq v1 v12 w' => ∃ (x1_3 : Int) (x12_3 : Int), v1 = .int .i64 x1_3 ∧ v12 = .int .i64 x12_3 ∧ Aside0 (regcertref06_Eval.l0 kq a0 x1_3 (wrap64 (Int.tmod (IntKind.u64.wrap (a2)) 64)) x12_3 = some (r1, r2)) ∧ Aside0 (kq ≤ kj33) ∧ Aside0 (Below w.heap.size w w'))
                 case atStart => exact ⟨(a1), (0), (by first | rfl | (simp; done) | (simp [*]; done)), (by first | rfl | (simp; done) | (simp [*]; done)), H', ⟨Nat.le_refl _⟩, ⟨by repeat (first | (with_reducible first | exact HB.out | apply below_alloc | apply bdN | apply bd1) | exact HB.out)⟩⟩
                 case round =>
                  clear H'
                  try clear c1
                  try clear c2
                  try clear p2
                  try clear c3
                  try clear c5
                  try clear c5b0
                  try clear c5b1
                  try clear c6
                  try clear c6b0
                  try clear c6b1
                  try clear p6
                  try clear c7
                  try clear c7b0
                  try clear c7b1
                  try clear c8
                  try clear c8b0
                  try clear c8b1
                  try clear c9
                  try clear c9b0
                  try clear c9b1
                  try clear c10
                  try clear c10b0
                  try clear c10b1
                  try clear c11
                  try clear c11b0
                  try clear c11b1
                  try clear c13
                  try clear c13b0
                  try clear c13b1
                  try clear c14
                  try clear c15
                  try clear c15b0
                  try clear c15b1
                  try clear c17
                  try clear c17b0
                  try clear c17b1
                  try clear c18
                  try clear c18b0
                  try clear c18b1
                  try clear c19
                  try clear c19b0
                  try clear c19b1
                  try clear c21
                  try clear c24
                  try clear c24b0
                  try clear c24b1
                  try clear c29
                  try clear c29b0
                  try clear c29b1
                  try clear c35
                  try clear c35b0
                  try clear c35b1
                  try clear c36
                  try clear p2
                  try clear p6
                  obtain ⟨x1_3, x12_3, rfl, rfl, HA, HK3, HB⟩ := hrel
                  cases gk with
                  | zero => exact absurd HA.out (by simp [regcertref06_Eval.l0])
                  | succ k3 =>
                   have H := HA.out
                   clear HA
                   simp only [regcertref06_Eval.l0] at H
                   by_cases c37 : x12_3 < (wrap64 (Int.tmod (IntKind.u64.wrap (a2)) 64))
                   ·rw [if_pos c37] at H
                    have c37b0 : decide (x12_3 < (wrap64 (Int.tmod (IntKind.u64.wrap (a2)) 64))) = true := decide_eq_true c37
                    clear c37
                    by_cases c38 : a0 = 13
                    ·rw [if_pos c38] at H
                     have c38b0 : (a0 == 13) = true := beq_iff_eq.mpr c38
                     have c38b1 : (a0 != 13) = false := bne_eq_false_iff_eq.mpr c38
                     clear c38
                     have H' := As0 H
                     clear H
                     go_wp2
                     go_roundg k3
                     case measure => have := HJ11.out; have := HJ33.out; have := HK3.out; omega
                     case rel => exact ⟨(wrap64 (x1_3 * 2)), (wrap64 (x12_3 + 1)), (by first | rfl | (simp; done) | (simp [*]; done)), (by first | rfl | (simp; done) | (simp [*]; done)), H', ⟨by have := HJ11.out; have := HJ33.out; have := HK3.out; omega⟩, ⟨by repeat (first | (with_reducible first | exact HB.out | apply below_alloc | apply bdN | apply bd1) | exact HB.out)⟩⟩
                    ·rw [if_neg c38] at H
                     have c38b0 : (a0 == 13) = false := beq_eq_false_iff_ne.mpr c38
                     have c38b1 : (a0 != 13) = true := bne_iff_ne.mpr c38
                     replace H := Option.bind_eq_some_iff.mp H
                     obtain ⟨t133, A390, H⟩ := H
                     replace H : (regcertref06_Eval.l0 k3 a0 t133 (wrap64 (Int.tmod (IntKind.u64.wrap (a2)) 64)) (wrap64 (x12_3 + 1))) = some (r1, r2) := H
                     have A39 := As0 A390
                     clear A390
                     have H' := As0 H
                     clear H
                     go_wp2_with (first | ((with_reducible refine gate_callee (f := 60) rfl ?_); refine goesL_ (some 100) rfl rfl Try.func60 (by kernel_rfl) rfl #[.int .i64 x1_3] rfl (by (try simp only [List.map_toArray, List.map_cons, List.map_nil]); first | done | rfl | (simp only [List.length_drop, List.length_take]; rfl)) ?_; (with_reducible refine (regcertref06_half.calls k3 x1_3 t133 _ A39.out).mono ?_); rintro e w' ⟨rfl, ⟨nd, rfl⟩⟩; refine ⟨_, rfl, ?_⟩))
                     go_roundg k3
                     case measure => have := HJ11.out; have := HJ33.out; have := HK3.out; omega
                     case rel => exact ⟨(t133), (wrap64 (x12_3 + 1)), (by first | rfl | (simp; done) | (simp [*]; done)), (by first | rfl | (simp; done) | (simp [*]; done)), H', ⟨by have := HJ11.out; have := HJ33.out; have := HK3.out; omega⟩, ⟨by repeat (first | (with_reducible first | exact HB.out | apply below_alloc | apply bdN | apply bd1) | exact HB.out)⟩⟩
                   ·rw [if_neg c37] at H
                    have c37b0 : decide (x12_3 < (wrap64 (Int.tmod (IntKind.u64.wrap (a2)) 64))) = false := decide_eq_false c37
                    clear c37
                    simp only [Option.some.injEq, Prod.mk.injEq] at H
                    obtain ⟨rfl, rfl⟩ := H
                    go_wp2
                    go_ret2
                    exact ⟨by first | rfl | (simp [errW_none, errW_some] <;> rfl) | (simp [*, errW_none, errW_some] <;> rfl), by repeat (first | (with_reducible first | exact HB.out | apply below_alloc | apply bdN | apply bd1) | exact HB.out)⟩
                ·replace c36 := Bool.eq_false_iff.mpr c36
                 subst c36
                 have H1 : (if a0 = 15 then ((regcertref06_truth.f (a1 == a2)).bind fun t134 => (some (t134, true))) else (if a0 = 16 then ((regcertref06_truth.f (decide (a1 < a2))).bind fun t135 => (some (t135, true))) else (some (0, false)))) = some (r1, r2) := by rw [if_neg (show ¬ (false = true) by decide)] at H; exact H
                 clear H
                 have H := H1
                 clear H1
                 by_cases c40 : a0 = 15
                 ·rw [if_pos c40] at H
                  have c40b0 : (a0 == 15) = true := beq_iff_eq.mpr c40
                  have c40b1 : (a0 != 15) = false := bne_eq_false_iff_eq.mpr c40
                  clear c40
                  replace H := Option.bind_eq_some_iff.mp H
                  obtain ⟨t134, A410, H⟩ := H
                  replace H : (some (t134, true)) = some (r1, r2) := H
                  have A41 := As0 A410
                  clear A410
                  simp only [Option.some.injEq, Prod.mk.injEq] at H
                  obtain ⟨rfl, rfl⟩ := H
                  go_wp2_with (first | ((with_reducible refine gate_callee (f := 61) rfl ?_); refine goesL_ (some 107) rfl rfl Try.func61 (by kernel_rfl) rfl #[.bool (a1 == a2)] rfl (by (try simp only [List.map_toArray, List.map_cons, List.map_nil]); first | done | rfl | (simp only [List.length_drop, List.length_take]; rfl)) ?_; (with_reducible refine (regcertref06_truth.calls (a1 == a2) t134 _ A41.out).mono ?_); rintro e w' ⟨rfl, ⟨nd, rfl⟩⟩; refine ⟨_, rfl, ?_⟩))
                  go_ret2
                  exact ⟨by first | rfl | (simp [errW_none, errW_some] <;> rfl) | (simp [*, errW_none, errW_some] <;> rfl), by repeat (first | (with_reducible first | exact HB.out | apply below_alloc | apply bdN | apply bd1) | exact HB.out)⟩
                 ·rw [if_neg c40] at H
                  have c40b0 : (a0 == 15) = false := beq_eq_false_iff_ne.mpr c40
                  have c40b1 : (a0 != 15) = true := bne_iff_ne.mpr c40
                  by_cases c42 : a0 = 16
                  ·rw [if_pos c42] at H
                   have c42b0 : (a0 == 16) = true := beq_iff_eq.mpr c42
                   have c42b1 : (a0 != 16) = false := bne_eq_false_iff_eq.mpr c42
                   clear c42
                   replace H := Option.bind_eq_some_iff.mp H
                   obtain ⟨t135, A430, H⟩ := H
                   replace H : (some (t135, true)) = some (r1, r2) := H
                   have A43 := As0 A430
                   clear A430
                   simp only [Option.some.injEq, Prod.mk.injEq] at H
                   obtain ⟨rfl, rfl⟩ := H
                   go_wp2_with (first | ((with_reducible refine gate_callee (f := 61) rfl ?_); refine goesL_ (some 113) rfl rfl Try.func61 (by kernel_rfl) rfl #[.bool (decide (a1 < a2))] rfl (by (try simp only [List.map_toArray, List.map_cons, List.map_nil]); first | done | rfl | (simp only [List.length_drop, List.length_take]; rfl)) ?_; (with_reducible refine (regcertref06_truth.calls (decide (a1 < a2)) t135 _ A43.out).mono ?_); rintro e w' ⟨rfl, ⟨nd, rfl⟩⟩; refine ⟨_, rfl, ?_⟩))
                   go_ret2
                   exact ⟨by first | rfl | (simp [errW_none, errW_some] <;> rfl) | (simp [*, errW_none, errW_some] <;> rfl), by repeat (first | (with_reducible first | exact HB.out | apply below_alloc | apply bdN | apply bd1) | exact HB.out)⟩
                  ·rw [if_neg c42] at H
                   have c42b0 : (a0 == 16) = false := beq_eq_false_iff_ne.mpr c42
                   have c42b1 : (a0 != 16) = true := bne_iff_ne.mpr c42
                   simp only [Option.some.injEq, Prod.mk.injEq] at H
                   obtain ⟨rfl, rfl⟩ := H
                   go_wp2
                   go_ret2
                   exact ⟨by first | rfl | (simp [errW_none, errW_some] <;> rfl) | (simp [*, errW_none, errW_some] <;> rfl), by repeat (first | (with_reducible first | exact HB.out | apply below_alloc | apply bdN | apply bd1) | exact HB.out)⟩

/-! ### regcertlaw06_AluMatchesReference: function 3 -/
def regcertlaw06_AluMatchesReference.f (k : Nat) (a0 : Int) (a1 : Int) (a2 : Int) (a3 : Int) : Option (Bool) := (regcertlaw06_awake.f).bind fun t136 => (if t136 = true then ((alu_Eval.f a0 a1 a2 a3).bind fun bt137 => ((regcertref06_Eval.f k a0 a1 a2 a3).bind fun bt139 => (if bt137.1 = bt139.1 then (if (bt137.2 == bt139.2) = true then ((alu_Pure.f a0).bind fun t141 => (if a0 ≥ 1 then (if (t141 == (decide (a0 ≤ 16))) = true then ((alu_Traps.f a0).bind fun t142 => (if a0 = 8 then (some (t142 == true)) else (some (t142 == (a0 == 9))))) else (some false)) else (if (t141 == false) = true then ((alu_Traps.f a0).bind fun t143 => (if a0 = 8 then (some (t143 == true)) else (some (t143 == (a0 == 9))))) else (some false)))) else (some false)) else (some false)))) else (some false))
theorem regcertlaw06_AluMatchesReference.mono : ∀ a0 a1 a2 a3 k, LeO (regcertlaw06_AluMatchesReference.f k a0 a1 a2 a3) (regcertlaw06_AluMatchesReference.f (k + 1) a0 a1 a2 a3) := by
 intro a0 a1 a2 a3 k
 unfold regcertlaw06_AluMatchesReference.f
 repeat' first
   | (with_reducible exact regcertref06_Eval.mono _ _ _ _ _)
   | (with_reducible exact LeO.refl _)
   | (with_reducible exact LeO.none _)
   | (with_reducible refine LeO.ite ?_ ?_)
   | (with_reducible refine LeO.bind ?_ (fun _ => ?_))
   | exact regcertref06_Eval.mono _ _ _ _ _
   | exact LeO.none _
   | refine LeO.ite ?_ ?_
   | refine LeO.bind ?_ (fun _ => ?_)
set_option maxHeartbeats 8000000 in
set_option maxRecDepth 100000 in
theorem regcertlaw06_AluMatchesReference.calls (k : Nat) (a0 : Int) (a1 : Int) (a2 : Int) (a3 : Int) (r : Bool) (w : World) (h : regcertlaw06_AluMatchesReference.f k a0 a1 a2 a3 = some r) :
  Calls Try.prog 3 #[.int .i64 a0, .int .i64 a1, .int .i64 a2, .int .i64 a3] w fun e w' => e = .returned (.bool r) ∧ Below w.heap.size w w' := by
 have HB := As0 (Below.refl w.heap.size w)
 have H : ((regcertlaw06_awake.f).bind fun t136 => (if t136 = true then ((alu_Eval.f a0 a1 a2 a3).bind fun bt137 => ((regcertref06_Eval.f k a0 a1 a2 a3).bind fun bt139 => (if bt137.1 = bt139.1 then (if (bt137.2 == bt139.2) = true then ((alu_Pure.f a0).bind fun t141 => (if a0 ≥ 1 then (if (t141 == (decide (a0 ≤ 16))) = true then ((alu_Traps.f a0).bind fun t142 => (if a0 = 8 then (some (t142 == true)) else (some (t142 == (a0 == 9))))) else (some false)) else (if (t141 == false) = true then ((alu_Traps.f a0).bind fun t143 => (if a0 = 8 then (some (t143 == true)) else (some (t143 == (a0 == 9))))) else (some false)))) else (some false)) else (some false)))) else (some false))) = some r := h
 clear h
 replace H := Option.bind_eq_some_iff.mp H
 obtain ⟨t136, A50, H⟩ := H
 replace H : (if t136 = true then ((alu_Eval.f a0 a1 a2 a3).bind fun bt137 => ((regcertref06_Eval.f k a0 a1 a2 a3).bind fun bt139 => (if bt137.1 = bt139.1 then (if (bt137.2 == bt139.2) = true then ((alu_Pure.f a0).bind fun t141 => (if a0 ≥ 1 then (if (t141 == (decide (a0 ≤ 16))) = true then ((alu_Traps.f a0).bind fun t142 => (if a0 = 8 then (some (t142 == true)) else (some (t142 == (a0 == 9))))) else (some false)) else (if (t141 == false) = true then ((alu_Traps.f a0).bind fun t143 => (if a0 = 8 then (some (t143 == true)) else (some (t143 == (a0 == 9))))) else (some false)))) else (some false)) else (some false)))) else (some false)) = some r := H
 have A5 := As0 A50
 clear A50
 by_cases c6 : t136 = true
 ·subst c6
  have H1 : ((alu_Eval.f a0 a1 a2 a3).bind fun bt137 => ((regcertref06_Eval.f k a0 a1 a2 a3).bind fun bt139 => (if bt137.1 = bt139.1 then (if (bt137.2 == bt139.2) = true then ((alu_Pure.f a0).bind fun t141 => (if a0 ≥ 1 then (if (t141 == (decide (a0 ≤ 16))) = true then ((alu_Traps.f a0).bind fun t142 => (if a0 = 8 then (some (t142 == true)) else (some (t142 == (a0 == 9))))) else (some false)) else (if (t141 == false) = true then ((alu_Traps.f a0).bind fun t143 => (if a0 = 8 then (some (t143 == true)) else (some (t143 == (a0 == 9))))) else (some false)))) else (some false)) else (some false)))) = some r := by rw [if_pos rfl] at H; exact H
  clear H
  have H := H1
  clear H1
  replace H := Option.bind_eq_some_iff.mp H
  obtain ⟨⟨t137, t138⟩, A70, H⟩ := H
  replace H : ((regcertref06_Eval.f k a0 a1 a2 a3).bind fun bt139 => (if t137 = bt139.1 then (if (t138 == bt139.2) = true then ((alu_Pure.f a0).bind fun t141 => (if a0 ≥ 1 then (if (t141 == (decide (a0 ≤ 16))) = true then ((alu_Traps.f a0).bind fun t142 => (if a0 = 8 then (some (t142 == true)) else (some (t142 == (a0 == 9))))) else (some false)) else (if (t141 == false) = true then ((alu_Traps.f a0).bind fun t143 => (if a0 = 8 then (some (t143 == true)) else (some (t143 == (a0 == 9))))) else (some false)))) else (some false)) else (some false))) = some r := H
  have A7 := As0 A70
  clear A70
  replace H := Option.bind_eq_some_iff.mp H
  obtain ⟨⟨t139, t140⟩, A80, H⟩ := H
  replace H : (if t137 = t139 then (if (t138 == t140) = true then ((alu_Pure.f a0).bind fun t141 => (if a0 ≥ 1 then (if (t141 == (decide (a0 ≤ 16))) = true then ((alu_Traps.f a0).bind fun t142 => (if a0 = 8 then (some (t142 == true)) else (some (t142 == (a0 == 9))))) else (some false)) else (if (t141 == false) = true then ((alu_Traps.f a0).bind fun t143 => (if a0 = 8 then (some (t143 == true)) else (some (t143 == (a0 == 9))))) else (some false)))) else (some false)) else (some false)) = some r := H
  have A8 := As0 A80
  clear A80
  by_cases c9 : t137 = t139
  ·rw [if_pos c9] at H
   have c9b0 : (t137 == t139) = true := beq_iff_eq.mpr c9
   have c9b1 : (t137 != t139) = false := bne_eq_false_iff_eq.mpr c9
   clear c9
   by_cases c10 : (t138 == t140) = true
   ·rw [if_pos c10] at H
    have c10b0 : (t138 == t140) = true := c10
    (try (have c10b1 : decide (t138 = t140) = true := by simpa using c10))
    (try (have c10b2 : (t138 == t140) = true := by simpa using c10))
    clear c10
    replace H := Option.bind_eq_some_iff.mp H
    obtain ⟨t141, A110, H⟩ := H
    replace H : (if a0 ≥ 1 then (if (t141 == (decide (a0 ≤ 16))) = true then ((alu_Traps.f a0).bind fun t142 => (if a0 = 8 then (some (t142 == true)) else (some (t142 == (a0 == 9))))) else (some false)) else (if (t141 == false) = true then ((alu_Traps.f a0).bind fun t143 => (if a0 = 8 then (some (t143 == true)) else (some (t143 == (a0 == 9))))) else (some false))) = some r := H
    have A11 := As0 A110
    clear A110
    by_cases c12 : a0 ≥ 1
    ·rw [if_pos c12] at H
     have c12b0 : decide (1 ≤ a0) = true := decide_eq_true c12
     clear c12
     by_cases c13 : (t141 == (decide (a0 ≤ 16))) = true
     ·rw [if_pos c13] at H
      have c13b0 : (t141 == (decide (a0 ≤ 16))) = true := c13
      (try (have c13b1 : decide (t141 = (decide (a0 ≤ 16))) = true := by simpa using c13))
      (try (have c13b2 : (t141 == (decide (a0 ≤ 16))) = true := by simpa using c13))
      clear c13
      replace H := Option.bind_eq_some_iff.mp H
      obtain ⟨t142, A140, H⟩ := H
      replace H : (if a0 = 8 then (some (t142 == true)) else (some (t142 == (a0 == 9)))) = some r := H
      have A14 := As0 A140
      clear A140
      by_cases c15 : a0 = 8
      ·rw [if_pos c15] at H
       have c15b0 : (a0 == 8) = true := beq_iff_eq.mpr c15
       have c15b1 : (a0 != 8) = false := bne_eq_false_iff_eq.mpr c15
       clear c15
       obtain rfl := Option.some.inj H
       go_enter Try.func3, Try.ntmps3
       go_wp2_with (first | ((with_reducible refine gate_callee (f := 19) rfl ?_); refine goesL_ (some 13) rfl rfl Try.func19 (by kernel_rfl) rfl #[] rfl (by (try simp only [List.map_toArray, List.map_cons, List.map_nil]); first | done | rfl | (simp only [List.length_drop, List.length_take]; rfl)) ?_; (with_reducible refine (regcertlaw06_awake.calls  true _ A5.out).mono ?_); rintro e w16 ⟨rfl, hb⟩; refine ⟨_, rfl, ?_⟩; have n0_ := As0 (below_step (by repeat (first | (with_reducible first | exact HB.out | apply below_alloc | apply bdN | apply bd1) | exact HB.out)) hb); clear HB; have HB := n0_; clear n0_; (try clear hb); (try clear hb2); (try clear hk); (try clear hi)) | ((with_reducible refine gate_callee (f := 20) rfl ?_); refine goesL_ (some 20) rfl rfl Try.func20 (by kernel_rfl) rfl #[.int .i64 a0, .int .i64 a1, .int .i64 a2, .int .i64 a3] rfl (by (try simp only [List.map_toArray, List.map_cons, List.map_nil]); first | done | rfl | (simp only [List.length_drop, List.length_take]; rfl)) ?_; (with_reducible refine (alu_Eval.calls a0 a1 a2 a3 t137 t138 _ A7.out).mono ?_); rintro e w17 ⟨rfl, hb⟩; refine ⟨_, rfl, ?_⟩; have n0_ := As0 (below_step (by repeat (first | (with_reducible first | exact HB.out | apply below_alloc | apply bdN | apply bd1) | exact HB.out)) hb); clear HB; have HB := n0_; clear n0_; (try clear hb); (try clear hb2); (try clear hk); (try clear hi)) | ((with_reducible refine gate_callee (f := 21) rfl ?_); refine goesL_ (some 28) rfl rfl Try.func21 (by kernel_rfl) rfl #[.int .i64 a0, .int .i64 a1, .int .i64 a2, .int .i64 a3] rfl (by (try simp only [List.map_toArray, List.map_cons, List.map_nil]); first | done | rfl | (simp only [List.length_drop, List.length_take]; rfl)) ?_; (with_reducible refine (regcertref06_Eval.calls k a0 a1 a2 a3 t139 t140 _ A8.out).mono ?_); rintro e w18 ⟨rfl, hb⟩; refine ⟨_, rfl, ?_⟩; have n0_ := As0 (below_step (by repeat (first | (with_reducible first | exact HB.out | apply below_alloc | apply bdN | apply bd1) | exact HB.out)) hb); clear HB; have HB := n0_; clear n0_; (try clear hb); (try clear hb2); (try clear hk); (try clear hi)) | (go_at_call 22; (with_reducible refine (alu_Pure.calls a0 t141 _ A11.out).mono ?_); rintro e w19 ⟨rfl, hb⟩; have n0_ := As0 (below_step (by repeat (first | (with_reducible first | exact HB.out | apply below_alloc | apply bdN | apply bd1) | exact HB.out)) hb); clear HB; have HB := n0_; clear n0_; (try clear hb); (try clear hb2); (try clear hk); (try clear hi)) | (go_at_call 23; (with_reducible refine (alu_Traps.calls a0 t142 _ A14.out).mono ?_); rintro e w20 ⟨rfl, hb⟩; have n0_ := As0 (below_step (by repeat (first | (with_reducible first | exact HB.out | apply below_alloc | apply bdN | apply bd1) | exact HB.out)) hb); clear HB; have HB := n0_; clear n0_; (try clear hb); (try clear hb2); (try clear hk); (try clear hi)))
       go_ret
       exact ⟨by first | rfl | (simp [errW_none, errW_some] <;> rfl) | (simp [*, errW_none, errW_some] <;> rfl), by repeat (first | (with_reducible first | exact HB.out | apply below_alloc | apply bdN | apply bd1) | exact HB.out)⟩
      ·rw [if_neg c15] at H
       have c15b0 : (a0 == 8) = false := beq_eq_false_iff_ne.mpr c15
       have c15b1 : (a0 != 8) = true := bne_iff_ne.mpr c15
       obtain rfl := Option.some.inj H
       go_enter Try.func3, Try.ntmps3
       go_wp2_with (first | ((with_reducible refine gate_callee (f := 19) rfl ?_); refine goesL_ (some 13) rfl rfl Try.func19 (by kernel_rfl) rfl #[] rfl (by (try simp only [List.map_toArray, List.map_cons, List.map_nil]); first | done | rfl | (simp only [List.length_drop, List.length_take]; rfl)) ?_; (with_reducible refine (regcertlaw06_awake.calls  true _ A5.out).mono ?_); rintro e w21 ⟨rfl, hb⟩; refine ⟨_, rfl, ?_⟩; have n0_ := As0 (below_step (by repeat (first | (with_reducible first | exact HB.out | apply below_alloc | apply bdN | apply bd1) | exact HB.out)) hb); clear HB; have HB := n0_; clear n0_; (try clear hb); (try clear hb2); (try clear hk); (try clear hi)) | ((with_reducible refine gate_callee (f := 20) rfl ?_); refine goesL_ (some 20) rfl rfl Try.func20 (by kernel_rfl) rfl #[.int .i64 a0, .int .i64 a1, .int .i64 a2, .int .i64 a3] rfl (by (try simp only [List.map_toArray, List.map_cons, List.map_nil]); first | done | rfl | (simp only [List.length_drop, List.length_take]; rfl)) ?_; (with_reducible refine (alu_Eval.calls a0 a1 a2 a3 t137 t138 _ A7.out).mono ?_); rintro e w22 ⟨rfl, hb⟩; refine ⟨_, rfl, ?_⟩; have n0_ := As0 (below_step (by repeat (first | (with_reducible first | exact HB.out | apply below_alloc | apply bdN | apply bd1) | exact HB.out)) hb); clear HB; have HB := n0_; clear n0_; (try clear hb); (try clear hb2); (try clear hk); (try clear hi)) | ((with_reducible refine gate_callee (f := 21) rfl ?_); refine goesL_ (some 28) rfl rfl Try.func21 (by kernel_rfl) rfl #[.int .i64 a0, .int .i64 a1, .int .i64 a2, .int .i64 a3] rfl (by (try simp only [List.map_toArray, List.map_cons, List.map_nil]); first | done | rfl | (simp only [List.length_drop, List.length_take]; rfl)) ?_; (with_reducible refine (regcertref06_Eval.calls k a0 a1 a2 a3 t139 t140 _ A8.out).mono ?_); rintro e w23 ⟨rfl, hb⟩; refine ⟨_, rfl, ?_⟩; have n0_ := As0 (below_step (by repeat (first | (with_reducible first | exact HB.out | apply below_alloc | apply bdN | apply bd1) | exact HB.out)) hb); clear HB; have HB := n0_; clear n0_; (try clear hb); (try clear hb2); (try clear hk); (try clear hi)) | (go_at_call 22; (with_reducible refine (alu_Pure.calls a0 t141 _ A11.out).mono ?_); rintro e w24 ⟨rfl, hb⟩; have n0_ := As0 (below_step (by repeat (first | (with_reducible first | exact HB.out | apply below_alloc | apply bdN | apply bd1) | exact HB.out)) hb); clear HB; have HB := n0_; clear n0_; (try clear hb); (try clear hb2); (try clear hk); (try clear hi)) | (go_at_call 23; (with_reducible refine (alu_Traps.calls a0 t142 _ A14.out).mono ?_); rintro e w25 ⟨rfl, hb⟩; have n0_ := As0 (below_step (by repeat (first | (with_reducible first | exact HB.out | apply below_alloc | apply bdN | apply bd1) | exact HB.out)) hb); clear HB; have HB := n0_; clear n0_; (try clear hb); (try clear hb2); (try clear hk); (try clear hi)))
       go_ret
       exact ⟨by first | rfl | (simp [errW_none, errW_some] <;> rfl) | (simp [*, errW_none, errW_some] <;> rfl), by repeat (first | (with_reducible first | exact HB.out | apply below_alloc | apply bdN | apply bd1) | exact HB.out)⟩
     ·rw [if_neg c13] at H
      have c13b0 : (t141 == (decide (a0 ≤ 16))) = false := by simpa using c13
      (try (have c13b1 : decide (t141 = (decide (a0 ≤ 16))) = false := by simpa using c13))
      (try (have c13b2 : (t141 == (decide (a0 ≤ 16))) = false := by simpa using c13))
      (try (have c13b3 : ¬ (t141 = (decide (a0 ≤ 16))) := by simpa using c13))
      clear c13
      obtain rfl := Option.some.inj H
      go_enter Try.func3, Try.ntmps3
      go_wp2_with (first | ((with_reducible refine gate_callee (f := 19) rfl ?_); refine goesL_ (some 13) rfl rfl Try.func19 (by kernel_rfl) rfl #[] rfl (by (try simp only [List.map_toArray, List.map_cons, List.map_nil]); first | done | rfl | (simp only [List.length_drop, List.length_take]; rfl)) ?_; (with_reducible refine (regcertlaw06_awake.calls  true _ A5.out).mono ?_); rintro e w26 ⟨rfl, hb⟩; refine ⟨_, rfl, ?_⟩; have n0_ := As0 (below_step (by repeat (first | (with_reducible first | exact HB.out | apply below_alloc | apply bdN | apply bd1) | exact HB.out)) hb); clear HB; have HB := n0_; clear n0_; (try clear hb); (try clear hb2); (try clear hk); (try clear hi)) | ((with_reducible refine gate_callee (f := 20) rfl ?_); refine goesL_ (some 20) rfl rfl Try.func20 (by kernel_rfl) rfl #[.int .i64 a0, .int .i64 a1, .int .i64 a2, .int .i64 a3] rfl (by (try simp only [List.map_toArray, List.map_cons, List.map_nil]); first | done | rfl | (simp only [List.length_drop, List.length_take]; rfl)) ?_; (with_reducible refine (alu_Eval.calls a0 a1 a2 a3 t137 t138 _ A7.out).mono ?_); rintro e w27 ⟨rfl, hb⟩; refine ⟨_, rfl, ?_⟩; have n0_ := As0 (below_step (by repeat (first | (with_reducible first | exact HB.out | apply below_alloc | apply bdN | apply bd1) | exact HB.out)) hb); clear HB; have HB := n0_; clear n0_; (try clear hb); (try clear hb2); (try clear hk); (try clear hi)) | ((with_reducible refine gate_callee (f := 21) rfl ?_); refine goesL_ (some 28) rfl rfl Try.func21 (by kernel_rfl) rfl #[.int .i64 a0, .int .i64 a1, .int .i64 a2, .int .i64 a3] rfl (by (try simp only [List.map_toArray, List.map_cons, List.map_nil]); first | done | rfl | (simp only [List.length_drop, List.length_take]; rfl)) ?_; (with_reducible refine (regcertref06_Eval.calls k a0 a1 a2 a3 t139 t140 _ A8.out).mono ?_); rintro e w28 ⟨rfl, hb⟩; refine ⟨_, rfl, ?_⟩; have n0_ := As0 (below_step (by repeat (first | (with_reducible first | exact HB.out | apply below_alloc | apply bdN | apply bd1) | exact HB.out)) hb); clear HB; have HB := n0_; clear n0_; (try clear hb); (try clear hb2); (try clear hk); (try clear hi)) | (go_at_call 22; (with_reducible refine (alu_Pure.calls a0 t141 _ A11.out).mono ?_); rintro e w29 ⟨rfl, hb⟩; have n0_ := As0 (below_step (by repeat (first | (with_reducible first | exact HB.out | apply below_alloc | apply bdN | apply bd1) | exact HB.out)) hb); clear HB; have HB := n0_; clear n0_; (try clear hb); (try clear hb2); (try clear hk); (try clear hi)))
      go_ret
      exact ⟨by first | rfl | (simp [errW_none, errW_some] <;> rfl) | (simp [*, errW_none, errW_some] <;> rfl), by repeat (first | (with_reducible first | exact HB.out | apply below_alloc | apply bdN | apply bd1) | exact HB.out)⟩
    ·rw [if_neg c12] at H
     have c12b0 : decide (1 ≤ a0) = false := decide_eq_false c12
     clear c12
     by_cases c30 : (t141 == false) = true
     ·rw [if_pos c30] at H
      have c30b0 : (t141 == false) = true := c30
      (try (have c30b1 : decide (t141 = false) = true := by simpa using c30))
      (try (have c30b2 : (t141 == false) = true := by simpa using c30))
      clear c30
      replace H := Option.bind_eq_some_iff.mp H
      obtain ⟨t143, A310, H⟩ := H
      replace H : (if a0 = 8 then (some (t143 == true)) else (some (t143 == (a0 == 9)))) = some r := H
      have A31 := As0 A310
      clear A310
      by_cases c32 : a0 = 8
      ·rw [if_pos c32] at H
       have c32b0 : (a0 == 8) = true := beq_iff_eq.mpr c32
       have c32b1 : (a0 != 8) = false := bne_eq_false_iff_eq.mpr c32
       clear c32
       obtain rfl := Option.some.inj H
       go_enter Try.func3, Try.ntmps3
       go_wp2_with (first | ((with_reducible refine gate_callee (f := 19) rfl ?_); refine goesL_ (some 13) rfl rfl Try.func19 (by kernel_rfl) rfl #[] rfl (by (try simp only [List.map_toArray, List.map_cons, List.map_nil]); first | done | rfl | (simp only [List.length_drop, List.length_take]; rfl)) ?_; (with_reducible refine (regcertlaw06_awake.calls  true _ A5.out).mono ?_); rintro e w33 ⟨rfl, hb⟩; refine ⟨_, rfl, ?_⟩; have n0_ := As0 (below_step (by repeat (first | (with_reducible first | exact HB.out | apply below_alloc | apply bdN | apply bd1) | exact HB.out)) hb); clear HB; have HB := n0_; clear n0_; (try clear hb); (try clear hb2); (try clear hk); (try clear hi)) | ((with_reducible refine gate_callee (f := 20) rfl ?_); refine goesL_ (some 20) rfl rfl Try.func20 (by kernel_rfl) rfl #[.int .i64 a0, .int .i64 a1, .int .i64 a2, .int .i64 a3] rfl (by (try simp only [List.map_toArray, List.map_cons, List.map_nil]); first | done | rfl | (simp only [List.length_drop, List.length_take]; rfl)) ?_; (with_reducible refine (alu_Eval.calls a0 a1 a2 a3 t137 t138 _ A7.out).mono ?_); rintro e w34 ⟨rfl, hb⟩; refine ⟨_, rfl, ?_⟩; have n0_ := As0 (below_step (by repeat (first | (with_reducible first | exact HB.out | apply below_alloc | apply bdN | apply bd1) | exact HB.out)) hb); clear HB; have HB := n0_; clear n0_; (try clear hb); (try clear hb2); (try clear hk); (try clear hi)) | ((with_reducible refine gate_callee (f := 21) rfl ?_); refine goesL_ (some 28) rfl rfl Try.func21 (by kernel_rfl) rfl #[.int .i64 a0, .int .i64 a1, .int .i64 a2, .int .i64 a3] rfl (by (try simp only [List.map_toArray, List.map_cons, List.map_nil]); first | done | rfl | (simp only [List.length_drop, List.length_take]; rfl)) ?_; (with_reducible refine (regcertref06_Eval.calls k a0 a1 a2 a3 t139 t140 _ A8.out).mono ?_); rintro e w35 ⟨rfl, hb⟩; refine ⟨_, rfl, ?_⟩; have n0_ := As0 (below_step (by repeat (first | (with_reducible first | exact HB.out | apply below_alloc | apply bdN | apply bd1) | exact HB.out)) hb); clear HB; have HB := n0_; clear n0_; (try clear hb); (try clear hb2); (try clear hk); (try clear hi)) | (go_at_call 22; (with_reducible refine (alu_Pure.calls a0 t141 _ A11.out).mono ?_); rintro e w36 ⟨rfl, hb⟩; have n0_ := As0 (below_step (by repeat (first | (with_reducible first | exact HB.out | apply below_alloc | apply bdN | apply bd1) | exact HB.out)) hb); clear HB; have HB := n0_; clear n0_; (try clear hb); (try clear hb2); (try clear hk); (try clear hi)) | (go_at_call 23; (with_reducible refine (alu_Traps.calls a0 t143 _ A31.out).mono ?_); rintro e w37 ⟨rfl, hb⟩; have n0_ := As0 (below_step (by repeat (first | (with_reducible first | exact HB.out | apply below_alloc | apply bdN | apply bd1) | exact HB.out)) hb); clear HB; have HB := n0_; clear n0_; (try clear hb); (try clear hb2); (try clear hk); (try clear hi)))
       go_ret
       exact ⟨by first | rfl | (simp [errW_none, errW_some] <;> rfl) | (simp [*, errW_none, errW_some] <;> rfl), by repeat (first | (with_reducible first | exact HB.out | apply below_alloc | apply bdN | apply bd1) | exact HB.out)⟩
      ·rw [if_neg c32] at H
       have c32b0 : (a0 == 8) = false := beq_eq_false_iff_ne.mpr c32
       have c32b1 : (a0 != 8) = true := bne_iff_ne.mpr c32
       obtain rfl := Option.some.inj H
       go_enter Try.func3, Try.ntmps3
       go_wp2_with (first | ((with_reducible refine gate_callee (f := 19) rfl ?_); refine goesL_ (some 13) rfl rfl Try.func19 (by kernel_rfl) rfl #[] rfl (by (try simp only [List.map_toArray, List.map_cons, List.map_nil]); first | done | rfl | (simp only [List.length_drop, List.length_take]; rfl)) ?_; (with_reducible refine (regcertlaw06_awake.calls  true _ A5.out).mono ?_); rintro e w38 ⟨rfl, hb⟩; refine ⟨_, rfl, ?_⟩; have n0_ := As0 (below_step (by repeat (first | (with_reducible first | exact HB.out | apply below_alloc | apply bdN | apply bd1) | exact HB.out)) hb); clear HB; have HB := n0_; clear n0_; (try clear hb); (try clear hb2); (try clear hk); (try clear hi)) | ((with_reducible refine gate_callee (f := 20) rfl ?_); refine goesL_ (some 20) rfl rfl Try.func20 (by kernel_rfl) rfl #[.int .i64 a0, .int .i64 a1, .int .i64 a2, .int .i64 a3] rfl (by (try simp only [List.map_toArray, List.map_cons, List.map_nil]); first | done | rfl | (simp only [List.length_drop, List.length_take]; rfl)) ?_; (with_reducible refine (alu_Eval.calls a0 a1 a2 a3 t137 t138 _ A7.out).mono ?_); rintro e w39 ⟨rfl, hb⟩; refine ⟨_, rfl, ?_⟩; have n0_ := As0 (below_step (by repeat (first | (with_reducible first | exact HB.out | apply below_alloc | apply bdN | apply bd1) | exact HB.out)) hb); clear HB; have HB := n0_; clear n0_; (try clear hb); (try clear hb2); (try clear hk); (try clear hi)) | ((with_reducible refine gate_callee (f := 21) rfl ?_); refine goesL_ (some 28) rfl rfl Try.func21 (by kernel_rfl) rfl #[.int .i64 a0, .int .i64 a1, .int .i64 a2, .int .i64 a3] rfl (by (try simp only [List.map_toArray, List.map_cons, List.map_nil]); first | done | rfl | (simp only [List.length_drop, List.length_take]; rfl)) ?_; (with_reducible refine (regcertref06_Eval.calls k a0 a1 a2 a3 t139 t140 _ A8.out).mono ?_); rintro e w40 ⟨rfl, hb⟩; refine ⟨_, rfl, ?_⟩; have n0_ := As0 (below_step (by repeat (first | (with_reducible first | exact HB.out | apply below_alloc | apply bdN | apply bd1) | exact HB.out)) hb); clear HB; have HB := n0_; clear n0_; (try clear hb); (try clear hb2); (try clear hk); (try clear hi)) | (go_at_call 22; (with_reducible refine (alu_Pure.calls a0 t141 _ A11.out).mono ?_); rintro e w41 ⟨rfl, hb⟩; have n0_ := As0 (below_step (by repeat (first | (with_reducible first | exact HB.out | apply below_alloc | apply bdN | apply bd1) | exact HB.out)) hb); clear HB; have HB := n0_; clear n0_; (try clear hb); (try clear hb2); (try clear hk); (try clear hi)) | (go_at_call 23; (with_reducible refine (alu_Traps.calls a0 t143 _ A31.out).mono ?_); rintro e w42 ⟨rfl, hb⟩; have n0_ := As0 (below_step (by repeat (first | (with_reducible first | exact HB.out | apply below_alloc | apply bdN | apply bd1) | exact HB.out)) hb); clear HB; have HB := n0_; clear n0_; (try clear hb); (try clear hb2); (try clear hk); (try clear hi)))
       go_ret
       exact ⟨by first | rfl | (simp [errW_none, errW_some] <;> rfl) | (simp [*, errW_none, errW_some] <;> rfl), by repeat (first | (with_reducible first | exact HB.out | apply below_alloc | apply bdN | apply bd1) | exact HB.out)⟩
     ·rw [if_neg c30] at H
      have c30b0 : (t141 == false) = false := by simpa using c30
      (try (have c30b1 : decide (t141 = false) = false := by simpa using c30))
      (try (have c30b2 : (t141 == false) = false := by simpa using c30))
      (try (have c30b3 : ¬ (t141 = false) := by simpa using c30))
      clear c30
      obtain rfl := Option.some.inj H
      go_enter Try.func3, Try.ntmps3
      go_wp2_with (first | ((with_reducible refine gate_callee (f := 19) rfl ?_); refine goesL_ (some 13) rfl rfl Try.func19 (by kernel_rfl) rfl #[] rfl (by (try simp only [List.map_toArray, List.map_cons, List.map_nil]); first | done | rfl | (simp only [List.length_drop, List.length_take]; rfl)) ?_; (with_reducible refine (regcertlaw06_awake.calls  true _ A5.out).mono ?_); rintro e w43 ⟨rfl, hb⟩; refine ⟨_, rfl, ?_⟩; have n0_ := As0 (below_step (by repeat (first | (with_reducible first | exact HB.out | apply below_alloc | apply bdN | apply bd1) | exact HB.out)) hb); clear HB; have HB := n0_; clear n0_; (try clear hb); (try clear hb2); (try clear hk); (try clear hi)) | ((with_reducible refine gate_callee (f := 20) rfl ?_); refine goesL_ (some 20) rfl rfl Try.func20 (by kernel_rfl) rfl #[.int .i64 a0, .int .i64 a1, .int .i64 a2, .int .i64 a3] rfl (by (try simp only [List.map_toArray, List.map_cons, List.map_nil]); first | done | rfl | (simp only [List.length_drop, List.length_take]; rfl)) ?_; (with_reducible refine (alu_Eval.calls a0 a1 a2 a3 t137 t138 _ A7.out).mono ?_); rintro e w44 ⟨rfl, hb⟩; refine ⟨_, rfl, ?_⟩; have n0_ := As0 (below_step (by repeat (first | (with_reducible first | exact HB.out | apply below_alloc | apply bdN | apply bd1) | exact HB.out)) hb); clear HB; have HB := n0_; clear n0_; (try clear hb); (try clear hb2); (try clear hk); (try clear hi)) | ((with_reducible refine gate_callee (f := 21) rfl ?_); refine goesL_ (some 28) rfl rfl Try.func21 (by kernel_rfl) rfl #[.int .i64 a0, .int .i64 a1, .int .i64 a2, .int .i64 a3] rfl (by (try simp only [List.map_toArray, List.map_cons, List.map_nil]); first | done | rfl | (simp only [List.length_drop, List.length_take]; rfl)) ?_; (with_reducible refine (regcertref06_Eval.calls k a0 a1 a2 a3 t139 t140 _ A8.out).mono ?_); rintro e w45 ⟨rfl, hb⟩; refine ⟨_, rfl, ?_⟩; have n0_ := As0 (below_step (by repeat (first | (with_reducible first | exact HB.out | apply below_alloc | apply bdN | apply bd1) | exact HB.out)) hb); clear HB; have HB := n0_; clear n0_; (try clear hb); (try clear hb2); (try clear hk); (try clear hi)) | (go_at_call 22; (with_reducible refine (alu_Pure.calls a0 t141 _ A11.out).mono ?_); rintro e w46 ⟨rfl, hb⟩; have n0_ := As0 (below_step (by repeat (first | (with_reducible first | exact HB.out | apply below_alloc | apply bdN | apply bd1) | exact HB.out)) hb); clear HB; have HB := n0_; clear n0_; (try clear hb); (try clear hb2); (try clear hk); (try clear hi)))
      go_ret
      exact ⟨by first | rfl | (simp [errW_none, errW_some] <;> rfl) | (simp [*, errW_none, errW_some] <;> rfl), by repeat (first | (with_reducible first | exact HB.out | apply below_alloc | apply bdN | apply bd1) | exact HB.out)⟩
   ·rw [if_neg c10] at H
    have c10b0 : (t138 == t140) = false := by simpa using c10
    (try (have c10b1 : decide (t138 = t140) = false := by simpa using c10))
    (try (have c10b2 : (t138 == t140) = false := by simpa using c10))
    (try (have c10b3 : ¬ (t138 = t140) := by simpa using c10))
    clear c10
    obtain rfl := Option.some.inj H
    go_enter Try.func3, Try.ntmps3
    go_wp2_with (first | ((with_reducible refine gate_callee (f := 19) rfl ?_); refine goesL_ (some 13) rfl rfl Try.func19 (by kernel_rfl) rfl #[] rfl (by (try simp only [List.map_toArray, List.map_cons, List.map_nil]); first | done | rfl | (simp only [List.length_drop, List.length_take]; rfl)) ?_; (with_reducible refine (regcertlaw06_awake.calls  true _ A5.out).mono ?_); rintro e w47 ⟨rfl, hb⟩; refine ⟨_, rfl, ?_⟩; have n0_ := As0 (below_step (by repeat (first | (with_reducible first | exact HB.out | apply below_alloc | apply bdN | apply bd1) | exact HB.out)) hb); clear HB; have HB := n0_; clear n0_; (try clear hb); (try clear hb2); (try clear hk); (try clear hi)) | ((with_reducible refine gate_callee (f := 20) rfl ?_); refine goesL_ (some 20) rfl rfl Try.func20 (by kernel_rfl) rfl #[.int .i64 a0, .int .i64 a1, .int .i64 a2, .int .i64 a3] rfl (by (try simp only [List.map_toArray, List.map_cons, List.map_nil]); first | done | rfl | (simp only [List.length_drop, List.length_take]; rfl)) ?_; (with_reducible refine (alu_Eval.calls a0 a1 a2 a3 t137 t138 _ A7.out).mono ?_); rintro e w48 ⟨rfl, hb⟩; refine ⟨_, rfl, ?_⟩; have n0_ := As0 (below_step (by repeat (first | (with_reducible first | exact HB.out | apply below_alloc | apply bdN | apply bd1) | exact HB.out)) hb); clear HB; have HB := n0_; clear n0_; (try clear hb); (try clear hb2); (try clear hk); (try clear hi)) | ((with_reducible refine gate_callee (f := 21) rfl ?_); refine goesL_ (some 28) rfl rfl Try.func21 (by kernel_rfl) rfl #[.int .i64 a0, .int .i64 a1, .int .i64 a2, .int .i64 a3] rfl (by (try simp only [List.map_toArray, List.map_cons, List.map_nil]); first | done | rfl | (simp only [List.length_drop, List.length_take]; rfl)) ?_; (with_reducible refine (regcertref06_Eval.calls k a0 a1 a2 a3 t139 t140 _ A8.out).mono ?_); rintro e w49 ⟨rfl, hb⟩; refine ⟨_, rfl, ?_⟩; have n0_ := As0 (below_step (by repeat (first | (with_reducible first | exact HB.out | apply below_alloc | apply bdN | apply bd1) | exact HB.out)) hb); clear HB; have HB := n0_; clear n0_; (try clear hb); (try clear hb2); (try clear hk); (try clear hi)))
    go_ret
    exact ⟨by first | rfl | (simp [errW_none, errW_some] <;> rfl) | (simp [*, errW_none, errW_some] <;> rfl), by repeat (first | (with_reducible first | exact HB.out | apply below_alloc | apply bdN | apply bd1) | exact HB.out)⟩
  ·rw [if_neg c9] at H
   have c9b0 : (t137 == t139) = false := beq_eq_false_iff_ne.mpr c9
   have c9b1 : (t137 != t139) = true := bne_iff_ne.mpr c9
   obtain rfl := Option.some.inj H
   go_enter Try.func3, Try.ntmps3
   go_wp2_with (first | ((with_reducible refine gate_callee (f := 19) rfl ?_); refine goesL_ (some 13) rfl rfl Try.func19 (by kernel_rfl) rfl #[] rfl (by (try simp only [List.map_toArray, List.map_cons, List.map_nil]); first | done | rfl | (simp only [List.length_drop, List.length_take]; rfl)) ?_; (with_reducible refine (regcertlaw06_awake.calls  true _ A5.out).mono ?_); rintro e w50 ⟨rfl, hb⟩; refine ⟨_, rfl, ?_⟩; have n0_ := As0 (below_step (by repeat (first | (with_reducible first | exact HB.out | apply below_alloc | apply bdN | apply bd1) | exact HB.out)) hb); clear HB; have HB := n0_; clear n0_; (try clear hb); (try clear hb2); (try clear hk); (try clear hi)) | ((with_reducible refine gate_callee (f := 20) rfl ?_); refine goesL_ (some 20) rfl rfl Try.func20 (by kernel_rfl) rfl #[.int .i64 a0, .int .i64 a1, .int .i64 a2, .int .i64 a3] rfl (by (try simp only [List.map_toArray, List.map_cons, List.map_nil]); first | done | rfl | (simp only [List.length_drop, List.length_take]; rfl)) ?_; (with_reducible refine (alu_Eval.calls a0 a1 a2 a3 t137 t138 _ A7.out).mono ?_); rintro e w51 ⟨rfl, hb⟩; refine ⟨_, rfl, ?_⟩; have n0_ := As0 (below_step (by repeat (first | (with_reducible first | exact HB.out | apply below_alloc | apply bdN | apply bd1) | exact HB.out)) hb); clear HB; have HB := n0_; clear n0_; (try clear hb); (try clear hb2); (try clear hk); (try clear hi)) | ((with_reducible refine gate_callee (f := 21) rfl ?_); refine goesL_ (some 28) rfl rfl Try.func21 (by kernel_rfl) rfl #[.int .i64 a0, .int .i64 a1, .int .i64 a2, .int .i64 a3] rfl (by (try simp only [List.map_toArray, List.map_cons, List.map_nil]); first | done | rfl | (simp only [List.length_drop, List.length_take]; rfl)) ?_; (with_reducible refine (regcertref06_Eval.calls k a0 a1 a2 a3 t139 t140 _ A8.out).mono ?_); rintro e w52 ⟨rfl, hb⟩; refine ⟨_, rfl, ?_⟩; have n0_ := As0 (below_step (by repeat (first | (with_reducible first | exact HB.out | apply below_alloc | apply bdN | apply bd1) | exact HB.out)) hb); clear HB; have HB := n0_; clear n0_; (try clear hb); (try clear hb2); (try clear hk); (try clear hi)))
   go_ret
   exact ⟨by first | rfl | (simp [errW_none, errW_some] <;> rfl) | (simp [*, errW_none, errW_some] <;> rfl), by repeat (first | (with_reducible first | exact HB.out | apply below_alloc | apply bdN | apply bd1) | exact HB.out)⟩
 ·replace c6 := Bool.eq_false_iff.mpr c6
  subst c6
  have H1 : (some false) = some r := by rw [if_neg (show ¬ (false = true) by decide)] at H; exact H
  clear H
  have H := H1
  clear H1
  obtain rfl := Option.some.inj H
  go_enter Try.func3, Try.ntmps3
  go_wp2_with (first | ((with_reducible refine gate_callee (f := 19) rfl ?_); refine goesL_ (some 13) rfl rfl Try.func19 (by kernel_rfl) rfl #[] rfl (by (try simp only [List.map_toArray, List.map_cons, List.map_nil]); first | done | rfl | (simp only [List.length_drop, List.length_take]; rfl)) ?_; (with_reducible refine (regcertlaw06_awake.calls  false _ A5.out).mono ?_); rintro e w53 ⟨rfl, hb⟩; refine ⟨_, rfl, ?_⟩; have n0_ := As0 (below_step (by repeat (first | (with_reducible first | exact HB.out | apply below_alloc | apply bdN | apply bd1) | exact HB.out)) hb); clear HB; have HB := n0_; clear n0_; (try clear hb); (try clear hb2); (try clear hk); (try clear hi)))
  go_ret
  exact ⟨by first | rfl | (simp [errW_none, errW_some] <;> rfl) | (simp [*, errW_none, errW_some] <;> rfl), by repeat (first | (with_reducible first | exact HB.out | apply below_alloc | apply bdN | apply bd1) | exact HB.out)⟩

/-! ### regcertref05_UsesA: function 24 -/
def regcertref05_UsesA.f (a0 : Int) : Option (Bool) := if a0 ≥ 2 then (some (decide (a0 ≤ 17))) else (some false)
set_option maxHeartbeats 8000000 in
set_option maxRecDepth 100000 in
theorem regcertref05_UsesA.calls (a0 : Int) (r : Bool) (w : World) (h : regcertref05_UsesA.f a0 = some r) :
  Calls Try.prog 24 #[.int .i64 a0] w fun e w' => e = .returned (.bool r) ∧ Drawn0 w w' := by
 have H : (if a0 ≥ 2 then (some (decide (a0 ≤ 17))) else (some false)) = some r := h
 clear h
 by_cases c2 : a0 ≥ 2
 ·rw [if_pos c2] at H
  have c2b0 : decide (2 ≤ a0) = true := decide_eq_true c2
  clear c2
  obtain rfl := Option.some.inj H
  go_enter Try.func24, Try.ntmps24
  go_wp2
  go_ret
  exact ⟨by first | rfl | (simp; done) | (simp [*]; done), by repeat (first | exact Drawn0.refl _ | apply Drawn0.step)⟩
 ·rw [if_neg c2] at H
  have c2b0 : decide (2 ≤ a0) = false := decide_eq_false c2
  clear c2
  obtain rfl := Option.some.inj H
  go_enter Try.func24, Try.ntmps24
  go_wp2
  go_ret
  exact ⟨by first | rfl | (simp; done) | (simp [*]; done), by repeat (first | exact Drawn0.refl _ | apply Drawn0.step)⟩

/-! ### regcertref05_UsesB: function 25 -/
def regcertref05_UsesB.f (a0 : Int) : Option (Bool) := if a0 ≥ 5 then (some (decide (a0 ≤ 16))) else (some false)
set_option maxHeartbeats 8000000 in
set_option maxRecDepth 100000 in
theorem regcertref05_UsesB.calls (a0 : Int) (r : Bool) (w : World) (h : regcertref05_UsesB.f a0 = some r) :
  Calls Try.prog 25 #[.int .i64 a0] w fun e w' => e = .returned (.bool r) ∧ Drawn0 w w' := by
 have H : (if a0 ≥ 5 then (some (decide (a0 ≤ 16))) else (some false)) = some r := h
 clear h
 by_cases c2 : a0 ≥ 5
 ·rw [if_pos c2] at H
  have c2b0 : decide (5 ≤ a0) = true := decide_eq_true c2
  clear c2
  obtain rfl := Option.some.inj H
  go_enter Try.func25, Try.ntmps25
  go_wp2
  go_ret
  exact ⟨by first | rfl | (simp; done) | (simp [*]; done), by repeat (first | exact Drawn0.refl _ | apply Drawn0.step)⟩
 ·rw [if_neg c2] at H
  have c2b0 : decide (5 ≤ a0) = false := decide_eq_false c2
  clear c2
  obtain rfl := Option.some.inj H
  go_enter Try.func25, Try.ntmps25
  go_wp2
  go_ret
  exact ⟨by first | rfl | (simp; done) | (simp [*]; done), by repeat (first | exact Drawn0.refl _ | apply Drawn0.step)⟩

/-! ### regcertref05_UsesImm: function 26 -/
def regcertref05_UsesImm.f (a0 : Int) : Option (Bool) := some (a0 == 1)
set_option maxHeartbeats 8000000 in
set_option maxRecDepth 100000 in
theorem regcertref05_UsesImm.calls (a0 : Int) (r : Bool) (w : World) (h : regcertref05_UsesImm.f a0 = some r) :
  Calls Try.prog 26 #[.int .i64 a0] w fun e w' => e = .returned (.bool r) ∧ Drawn0 w w' := by
 have H : (some (a0 == 1)) = some r := h
 clear h
 obtain rfl := Option.some.inj H
 go_enter Try.func26, Try.ntmps26
 go_wp2
 go_ret
 exact ⟨by first | rfl | (simp; done) | (simp [*]; done), by repeat (first | exact Drawn0.refl _ | apply Drawn0.step)⟩

/-! ### regcertlaw06_AluUnusedOperands: function 4 -/
mutual
def regcertlaw06_AluUnusedOperands.j0 : Nat → Int → Int → Int → Bool → Int → Int → Int → Option (Bool)
 | 0, _, _, _, _, _, _, _ => none
 | k + 1, x0, x4, x11, x12, x13, x14, x15 => (regcertref05_UsesB.f x0).bind fun t148 => (if t148 = true then (regcertlaw06_AluUnusedOperands.j1 k x0 x4 x11 x12 x13 x14 x15) else (regcertlaw06_AluUnusedOperands.j1 k x0 x4 x11 x12 x13 x4 x15))
def regcertlaw06_AluUnusedOperands.j1 : Nat → Int → Int → Int → Bool → Int → Int → Int → Option (Bool)
 | 0, _, _, _, _, _, _, _ => none
 | k + 1, x0, x4, x11, x12, x13, x14, x15 => (regcertref05_UsesImm.f x0).bind fun t149 => (if t149 = true then ((alu_Eval.f x0 x13 x14 x15).bind fun bt150 => (if x11 = bt150.1 then (some (x12 == bt150.2)) else (some false))) else ((alu_Eval.f x0 x13 x14 x4).bind fun bt152 => (if x11 = bt152.1 then (some (x12 == bt152.2)) else (some false))))
end
def regcertlaw06_AluUnusedOperands.f (k : Nat) (a0 : Int) (a1 : Int) (a2 : Int) (a3 : Int) (a4 : Int) : Option (Bool) := (regcertlaw06_awake.f).bind fun t144 => (if t144 = true then ((alu_Eval.f a0 a1 a2 a3).bind fun bt145 => ((regcertref05_UsesA.f a0).bind fun t147 => (if t147 = true then (regcertlaw06_AluUnusedOperands.j0 k a0 a4 bt145.1 bt145.2 a1 a2 a3) else (regcertlaw06_AluUnusedOperands.j0 k a0 a4 bt145.1 bt145.2 a4 a2 a3)))) else (some false))
theorem regcertlaw06_AluUnusedOperands.mono_l : ∀ k, (∀ y0 y1 y2 y3 y4 y5 y6, LeO (regcertlaw06_AluUnusedOperands.j0 k y0 y1 y2 y3 y4 y5 y6) (regcertlaw06_AluUnusedOperands.j0 (k + 1) y0 y1 y2 y3 y4 y5 y6)) ∧ (∀ y0 y1 y2 y3 y4 y5 y6, LeO (regcertlaw06_AluUnusedOperands.j1 k y0 y1 y2 y3 y4 y5 y6) (regcertlaw06_AluUnusedOperands.j1 (k + 1) y0 y1 y2 y3 y4 y5 y6))
 | 0 => ⟨fun _ _ _ _ _ _ _ r h => by simp [regcertlaw06_AluUnusedOperands.j0] at h, fun _ _ _ _ _ _ _ r h => by simp [regcertlaw06_AluUnusedOperands.j1] at h⟩
 | k + 1 => by
  obtain ⟨ih0, ih1⟩ := regcertlaw06_AluUnusedOperands.mono_l k
  refine ⟨?_, ?_⟩
  ·intro y0 y1 y2 y3 y4 y5 y6
   unfold regcertlaw06_AluUnusedOperands.j0
   repeat' first
   | (with_reducible exact ih0 _ _ _ _ _ _ _)
   | (with_reducible exact ih1 _ _ _ _ _ _ _)
   | (with_reducible exact LeO.refl _)
   | (with_reducible exact LeO.none _)
   | (with_reducible refine LeO.ite ?_ ?_)
   | (with_reducible refine LeO.bind ?_ (fun _ => ?_))
   | exact ih0 _ _ _ _ _ _ _
   | exact ih1 _ _ _ _ _ _ _
   | exact LeO.none _
   | refine LeO.ite ?_ ?_
   | refine LeO.bind ?_ (fun _ => ?_)
  ·intro y0 y1 y2 y3 y4 y5 y6
   unfold regcertlaw06_AluUnusedOperands.j1
   repeat' first
   | (with_reducible exact ih0 _ _ _ _ _ _ _)
   | (with_reducible exact ih1 _ _ _ _ _ _ _)
   | (with_reducible exact LeO.refl _)
   | (with_reducible exact LeO.none _)
   | (with_reducible refine LeO.ite ?_ ?_)
   | (with_reducible refine LeO.bind ?_ (fun _ => ?_))
   | exact ih0 _ _ _ _ _ _ _
   | exact ih1 _ _ _ _ _ _ _
   | exact LeO.none _
   | refine LeO.ite ?_ ?_
   | refine LeO.bind ?_ (fun _ => ?_)
theorem regcertlaw06_AluUnusedOperands.mono : ∀ a0 a1 a2 a3 a4 k, LeO (regcertlaw06_AluUnusedOperands.f k a0 a1 a2 a3 a4) (regcertlaw06_AluUnusedOperands.f (k + 1) a0 a1 a2 a3 a4) := by
 intro a0 a1 a2 a3 a4 k
 obtain ⟨ih0, ih1⟩ := regcertlaw06_AluUnusedOperands.mono_l k
 unfold regcertlaw06_AluUnusedOperands.f
 repeat' first
   | (with_reducible exact ih0 _ _ _ _ _ _ _)
   | (with_reducible exact ih1 _ _ _ _ _ _ _)
   | (with_reducible exact LeO.refl _)
   | (with_reducible exact LeO.none _)
   | (with_reducible refine LeO.ite ?_ ?_)
   | (with_reducible refine LeO.bind ?_ (fun _ => ?_))
   | exact ih0 _ _ _ _ _ _ _
   | exact ih1 _ _ _ _ _ _ _
   | exact LeO.none _
   | refine LeO.ite ?_ ?_
   | refine LeO.bind ?_ (fun _ => ?_)
set_option maxHeartbeats 8000000 in
set_option maxRecDepth 100000 in
theorem regcertlaw06_AluUnusedOperands.calls (k : Nat) (a0 : Int) (a1 : Int) (a2 : Int) (a3 : Int) (a4 : Int) (r : Bool) (w : World) (h : regcertlaw06_AluUnusedOperands.f k a0 a1 a2 a3 a4 = some r) :
  Calls Try.prog 4 #[.int .i64 a0, .int .i64 a1, .int .i64 a2, .int .i64 a3, .int .i64 a4] w fun e w' => e = .returned (.bool r) ∧ Below w.heap.size w w' := by
 have HB := As0 (Below.refl w.heap.size w)
 have H : ((regcertlaw06_awake.f).bind fun t144 => (if t144 = true then ((alu_Eval.f a0 a1 a2 a3).bind fun bt145 => ((regcertref05_UsesA.f a0).bind fun t147 => (if t147 = true then (regcertlaw06_AluUnusedOperands.j0 k a0 a4 bt145.1 bt145.2 a1 a2 a3) else (regcertlaw06_AluUnusedOperands.j0 k a0 a4 bt145.1 bt145.2 a4 a2 a3)))) else (some false))) = some r := h
 clear h
 replace H := Option.bind_eq_some_iff.mp H
 obtain ⟨t144, A60, H⟩ := H
 replace H : (if t144 = true then ((alu_Eval.f a0 a1 a2 a3).bind fun bt145 => ((regcertref05_UsesA.f a0).bind fun t147 => (if t147 = true then (regcertlaw06_AluUnusedOperands.j0 k a0 a4 bt145.1 bt145.2 a1 a2 a3) else (regcertlaw06_AluUnusedOperands.j0 k a0 a4 bt145.1 bt145.2 a4 a2 a3)))) else (some false)) = some r := H
 have A6 := As0 A60
 clear A60
 by_cases c7 : t144 = true
 ·subst c7
  have H1 : ((alu_Eval.f a0 a1 a2 a3).bind fun bt145 => ((regcertref05_UsesA.f a0).bind fun t147 => (if t147 = true then (regcertlaw06_AluUnusedOperands.j0 k a0 a4 bt145.1 bt145.2 a1 a2 a3) else (regcertlaw06_AluUnusedOperands.j0 k a0 a4 bt145.1 bt145.2 a4 a2 a3)))) = some r := by rw [if_pos rfl] at H; exact H
  clear H
  have H := H1
  clear H1
  replace H := Option.bind_eq_some_iff.mp H
  obtain ⟨⟨t145, t146⟩, A80, H⟩ := H
  replace H : ((regcertref05_UsesA.f a0).bind fun t147 => (if t147 = true then (regcertlaw06_AluUnusedOperands.j0 k a0 a4 t145 t146 a1 a2 a3) else (regcertlaw06_AluUnusedOperands.j0 k a0 a4 t145 t146 a4 a2 a3))) = some r := H
  have A8 := As0 A80
  clear A80
  replace H := Option.bind_eq_some_iff.mp H
  obtain ⟨t147, A90, H⟩ := H
  replace H : (if t147 = true then (regcertlaw06_AluUnusedOperands.j0 k a0 a4 t145 t146 a1 a2 a3) else (regcertlaw06_AluUnusedOperands.j0 k a0 a4 t145 t146 a4 a2 a3)) = some r := H
  have A9 := As0 A90
  clear A90
  have HC10 := As0 H
  clear H
  go_enter Try.func4, Try.ntmps4
  go_upto_if 33 with (first | ((with_reducible refine gate_callee (f := 19) rfl ?_); refine goesL_ (some 18) rfl rfl Try.func19 (by kernel_rfl) rfl #[] rfl (by (try simp only [List.map_toArray, List.map_cons, List.map_nil]); first | done | rfl | (simp only [List.length_drop, List.length_take]; rfl)) ?_; (with_reducible refine (regcertlaw06_awake.calls  true _ A6.out).mono ?_); rintro e w11 ⟨rfl, hb⟩; refine ⟨_, rfl, ?_⟩; have n0_ := As0 (below_step (by repeat (first | (with_reducible first | exact HB.out | apply below_alloc | apply bdN | apply bd1) | exact HB.out)) hb); clear HB; have HB := n0_; clear n0_; (try clear hb); (try clear hb2); (try clear hk); (try clear hi)) | ((with_reducible refine gate_callee (f := 20) rfl ?_); refine goesL_ (some 25) rfl rfl Try.func20 (by kernel_rfl) rfl #[.int .i64 a0, .int .i64 a1, .int .i64 a2, .int .i64 a3] rfl (by (try simp only [List.map_toArray, List.map_cons, List.map_nil]); first | done | rfl | (simp only [List.length_drop, List.length_take]; rfl)) ?_; (with_reducible refine (alu_Eval.calls a0 a1 a2 a3 t145 t146 _ A8.out).mono ?_); rintro e w12 ⟨rfl, hb⟩; refine ⟨_, rfl, ?_⟩; have n0_ := As0 (below_step (by repeat (first | (with_reducible first | exact HB.out | apply below_alloc | apply bdN | apply bd1) | exact HB.out)) hb); clear HB; have HB := n0_; clear n0_; (try clear hb); (try clear hb2); (try clear hk); (try clear hi)) | ((with_reducible refine gate_callee (f := 24) rfl ?_); refine goesL_ (some 32) rfl rfl Try.func24 (by kernel_rfl) rfl #[.int .i64 a0] rfl (by (try simp only [List.map_toArray, List.map_cons, List.map_nil]); first | done | rfl | (simp only [List.length_drop, List.length_take]; rfl)) ?_; (with_reducible refine (regcertref05_UsesA.calls a0 t147 _ A9.out).mono ?_); rintro e w' ⟨rfl, ⟨nd, rfl⟩⟩; refine ⟨_, rfl, ?_⟩))
  (try simp only [Act.put, sL1, sL2, sL3])
  go_cut [13] (fun v13 wc => ∃ (kq : Nat) (x13_9 : Int), v13 = .int .i64 x13_9 ∧ Aside0 (regcertlaw06_AluUnusedOperands.j0 kq a0 a4 t145 t146 x13_9 a2 a3 = some r) ∧ Aside0 (kq ≤ k) ∧ Aside0 (Below w.heap.size w wc))
  case first =>
   have H := HC10.out
   clear HC10
   by_cases c13 : t147 = true
   ·subst c13
    have H1 : (regcertlaw06_AluUnusedOperands.j0 k a0 a4 t145 t146 a1 a2 a3) = some r := by rw [if_pos rfl] at H; exact H
    clear H
    have H := H1
    clear H1
    have H' := As0 H
    clear H
    go_wp2
    go_meet
    case rel => exact ⟨_, (a1), (by first | rfl | (simp; done) | (simp [*]; done)), H', ⟨by first | omega | exact Nat.le_refl _⟩, ⟨by repeat (first | (with_reducible first | exact HB.out | apply below_alloc | apply bdN | apply bd1) | exact HB.out)⟩⟩
   ·replace c13 := Bool.eq_false_iff.mpr c13
    subst c13
    have H1 : (regcertlaw06_AluUnusedOperands.j0 k a0 a4 t145 t146 a4 a2 a3) = some r := by rw [if_neg (show ¬ (false = true) by decide)] at H; exact H
    clear H
    have H := H1
    clear H1
    have H' := As0 H
    clear H
    go_wp2
    go_meet
    case rel => exact ⟨_, (a4), (by first | rfl | (simp; done) | (simp [*]; done)), H', ⟨by first | omega | exact Nat.le_refl _⟩, ⟨by repeat (first | (with_reducible first | exact HB.out | apply below_alloc | apply bdN | apply bd1) | exact HB.out)⟩⟩
  case rest =>
   clear HC10
   try clear c1
   try clear c2
   try clear p2
   try clear c4
   try clear c7
   try clear c13
   obtain ⟨kq, x13_9, rfl, HA, HJ9, HB⟩ := hcut
   cases kq with
   | zero => exact absurd HA.out (by simp [regcertlaw06_AluUnusedOperands.j0])
   | succ kj9 =>
    have H := HA.out
    clear HA
    simp only [regcertlaw06_AluUnusedOperands.j0] at H
    replace H := Option.bind_eq_some_iff.mp H
    obtain ⟨t148, A140, H⟩ := H
    replace H : (if t148 = true then (regcertlaw06_AluUnusedOperands.j1 kj9 a0 a4 t145 t146 x13_9 a2 a3) else (regcertlaw06_AluUnusedOperands.j1 kj9 a0 a4 t145 t146 x13_9 a4 a3)) = some r := H
    have A14 := As0 A140
    clear A140
    have HC15 := As0 H
    clear H
    go_upto_if 37 with (first | ((with_reducible refine gate_callee (f := 25) rfl ?_); refine goesL_ (some 36) rfl rfl Try.func25 (by kernel_rfl) rfl #[.int .i64 a0] rfl (by (try simp only [List.map_toArray, List.map_cons, List.map_nil]); first | done | rfl | (simp only [List.length_drop, List.length_take]; rfl)) ?_; (with_reducible refine (regcertref05_UsesB.calls a0 t148 _ A14.out).mono ?_); rintro e w' ⟨rfl, ⟨nd, rfl⟩⟩; refine ⟨_, rfl, ?_⟩))
    (try simp only [Act.put, sL1, sL2, sL3])
    go_cut [14] (fun v14 wc => ∃ (kq : Nat) (x14_14 : Int), v14 = .int .i64 x14_14 ∧ Aside0 (regcertlaw06_AluUnusedOperands.j1 kq a0 a4 t145 t146 x13_9 x14_14 a3 = some r) ∧ Aside0 (kq ≤ kj9) ∧ Aside0 (Below w.heap.size w wc))
    case first =>
     have H := HC15.out
     clear HC15
     by_cases c16 : t148 = true
     ·subst c16
      have H1 : (regcertlaw06_AluUnusedOperands.j1 kj9 a0 a4 t145 t146 x13_9 a2 a3) = some r := by rw [if_pos rfl] at H; exact H
      clear H
      have H := H1
      clear H1
      have H' := As0 H
      clear H
      go_wp2
      go_meet
      case rel => exact ⟨_, (a2), (by first | rfl | (simp; done) | (simp [*]; done)), H', ⟨by have := HJ9.out; first | omega | exact Nat.le_refl _⟩, ⟨by repeat (first | (with_reducible first | exact HB.out | apply below_alloc | apply bdN | apply bd1) | exact HB.out)⟩⟩
     ·replace c16 := Bool.eq_false_iff.mpr c16
      subst c16
      have H1 : (regcertlaw06_AluUnusedOperands.j1 kj9 a0 a4 t145 t146 x13_9 a4 a3) = some r := by rw [if_neg (show ¬ (false = true) by decide)] at H; exact H
      clear H
      have H := H1
      clear H1
      have H' := As0 H
      clear H
      go_wp2
      go_meet
      case rel => exact ⟨_, (a4), (by first | rfl | (simp; done) | (simp [*]; done)), H', ⟨by have := HJ9.out; first | omega | exact Nat.le_refl _⟩, ⟨by repeat (first | (with_reducible first | exact HB.out | apply below_alloc | apply bdN | apply bd1) | exact HB.out)⟩⟩
    case rest =>
     clear HC15
     try clear c1
     try clear c2
     try clear p2
     try clear c4
     try clear c7
     try clear c13
     try clear c16
     try clear p2
     obtain ⟨kq, x14_14, rfl, HA, HJ14, HB⟩ := hcut
     cases kq with
     | zero => exact absurd HA.out (by simp [regcertlaw06_AluUnusedOperands.j1])
     | succ kj14 =>
      have H := HA.out
      clear HA
      simp only [regcertlaw06_AluUnusedOperands.j1] at H
      replace H := Option.bind_eq_some_iff.mp H
      obtain ⟨t149, A170, H⟩ := H
      replace H : (if t149 = true then ((alu_Eval.f a0 x13_9 x14_14 a3).bind fun bt150 => (if t145 = bt150.1 then (some (t146 == bt150.2)) else (some false))) else ((alu_Eval.f a0 x13_9 x14_14 a4).bind fun bt152 => (if t145 = bt152.1 then (some (t146 == bt152.2)) else (some false)))) = some r := H
      have A17 := As0 A170
      clear A170
      by_cases c18 : t149 = true
      ·subst c18
       have H1 : ((alu_Eval.f a0 x13_9 x14_14 a3).bind fun bt150 => (if t145 = bt150.1 then (some (t146 == bt150.2)) else (some false))) = some r := by rw [if_pos rfl] at H; exact H
       clear H
       have H := H1
       clear H1
       replace H := Option.bind_eq_some_iff.mp H
       obtain ⟨⟨t150, t151⟩, A190, H⟩ := H
       replace H : (if t145 = t150 then (some (t146 == t151)) else (some false)) = some r := H
       have A19 := As0 A190
       clear A190
       by_cases c20 : t145 = t150
       ·rw [if_pos c20] at H
        have c20b0 : (t145 == t150) = true := beq_iff_eq.mpr c20
        have c20b1 : (t145 != t150) = false := bne_eq_false_iff_eq.mpr c20
        clear c20
        obtain rfl := Option.some.inj H
        go_wp2_with (first | ((with_reducible refine gate_callee (f := 26) rfl ?_); refine goesL_ (some 40) rfl rfl Try.func26 (by kernel_rfl) rfl #[.int .i64 a0] rfl (by (try simp only [List.map_toArray, List.map_cons, List.map_nil]); first | done | rfl | (simp only [List.length_drop, List.length_take]; rfl)) ?_; (with_reducible refine (regcertref05_UsesImm.calls a0 true _ A17.out).mono ?_); rintro e w' ⟨rfl, ⟨nd, rfl⟩⟩; refine ⟨_, rfl, ?_⟩) | ((with_reducible refine gate_callee (f := 20) rfl ?_); refine goesL_ (some 48) rfl rfl Try.func20 (by kernel_rfl) rfl #[.int .i64 a0, .int .i64 x13_9, .int .i64 x14_14, .int .i64 a3] rfl (by (try simp only [List.map_toArray, List.map_cons, List.map_nil]); first | done | rfl | (simp only [List.length_drop, List.length_take]; rfl)) ?_; (with_reducible refine (alu_Eval.calls a0 x13_9 x14_14 a3 t150 t151 _ A19.out).mono ?_); rintro e w21 ⟨rfl, hb⟩; refine ⟨_, rfl, ?_⟩; have n0_ := As0 (below_step (by repeat (first | (with_reducible first | exact HB.out | apply below_alloc | apply bdN | apply bd1) | exact HB.out)) hb); clear HB; have HB := n0_; clear n0_; (try clear hb); (try clear hb2); (try clear hk); (try clear hi)))
        go_ret
        exact ⟨by first | rfl | (simp [errW_none, errW_some] <;> rfl) | (simp [*, errW_none, errW_some] <;> rfl), by repeat (first | (with_reducible first | exact HB.out | apply below_alloc | apply bdN | apply bd1) | exact HB.out)⟩
       ·rw [if_neg c20] at H
        have c20b0 : (t145 == t150) = false := beq_eq_false_iff_ne.mpr c20
        have c20b1 : (t145 != t150) = true := bne_iff_ne.mpr c20
        obtain rfl := Option.some.inj H
        go_wp2_with (first | ((with_reducible refine gate_callee (f := 26) rfl ?_); refine goesL_ (some 40) rfl rfl Try.func26 (by kernel_rfl) rfl #[.int .i64 a0] rfl (by (try simp only [List.map_toArray, List.map_cons, List.map_nil]); first | done | rfl | (simp only [List.length_drop, List.length_take]; rfl)) ?_; (with_reducible refine (regcertref05_UsesImm.calls a0 true _ A17.out).mono ?_); rintro e w' ⟨rfl, ⟨nd, rfl⟩⟩; refine ⟨_, rfl, ?_⟩) | ((with_reducible refine gate_callee (f := 20) rfl ?_); refine goesL_ (some 48) rfl rfl Try.func20 (by kernel_rfl) rfl #[.int .i64 a0, .int .i64 x13_9, .int .i64 x14_14, .int .i64 a3] rfl (by (try simp only [List.map_toArray, List.map_cons, List.map_nil]); first | done | rfl | (simp only [List.length_drop, List.length_take]; rfl)) ?_; (with_reducible refine (alu_Eval.calls a0 x13_9 x14_14 a3 t150 t151 _ A19.out).mono ?_); rintro e w22 ⟨rfl, hb⟩; refine ⟨_, rfl, ?_⟩; have n0_ := As0 (below_step (by repeat (first | (with_reducible first | exact HB.out | apply below_alloc | apply bdN | apply bd1) | exact HB.out)) hb); clear HB; have HB := n0_; clear n0_; (try clear hb); (try clear hb2); (try clear hk); (try clear hi)))
        go_ret
        exact ⟨by first | rfl | (simp [errW_none, errW_some] <;> rfl) | (simp [*, errW_none, errW_some] <;> rfl), by repeat (first | (with_reducible first | exact HB.out | apply below_alloc | apply bdN | apply bd1) | exact HB.out)⟩
      ·replace c18 := Bool.eq_false_iff.mpr c18
       subst c18
       have H1 : ((alu_Eval.f a0 x13_9 x14_14 a4).bind fun bt152 => (if t145 = bt152.1 then (some (t146 == bt152.2)) else (some false))) = some r := by rw [if_neg (show ¬ (false = true) by decide)] at H; exact H
       clear H
       have H := H1
       clear H1
       replace H := Option.bind_eq_some_iff.mp H
       obtain ⟨⟨t152, t153⟩, A230, H⟩ := H
       replace H : (if t145 = t152 then (some (t146 == t153)) else (some false)) = some r := H
       have A23 := As0 A230
       clear A230
       by_cases c24 : t145 = t152
       ·rw [if_pos c24] at H
        have c24b0 : (t145 == t152) = true := beq_iff_eq.mpr c24
        have c24b1 : (t145 != t152) = false := bne_eq_false_iff_eq.mpr c24
        clear c24
        obtain rfl := Option.some.inj H
        go_wp2_with (first | ((with_reducible refine gate_callee (f := 26) rfl ?_); refine goesL_ (some 40) rfl rfl Try.func26 (by kernel_rfl) rfl #[.int .i64 a0] rfl (by (try simp only [List.map_toArray, List.map_cons, List.map_nil]); first | done | rfl | (simp only [List.length_drop, List.length_take]; rfl)) ?_; (with_reducible refine (regcertref05_UsesImm.calls a0 false _ A17.out).mono ?_); rintro e w' ⟨rfl, ⟨nd, rfl⟩⟩; refine ⟨_, rfl, ?_⟩) | ((with_reducible refine gate_callee (f := 20) rfl ?_); refine goesL_ (some 48) rfl rfl Try.func20 (by kernel_rfl) rfl #[.int .i64 a0, .int .i64 x13_9, .int .i64 x14_14, .int .i64 a4] rfl (by (try simp only [List.map_toArray, List.map_cons, List.map_nil]); first | done | rfl | (simp only [List.length_drop, List.length_take]; rfl)) ?_; (with_reducible refine (alu_Eval.calls a0 x13_9 x14_14 a4 t152 t153 _ A23.out).mono ?_); rintro e w25 ⟨rfl, hb⟩; refine ⟨_, rfl, ?_⟩; have n0_ := As0 (below_step (by repeat (first | (with_reducible first | exact HB.out | apply below_alloc | apply bdN | apply bd1) | exact HB.out)) hb); clear HB; have HB := n0_; clear n0_; (try clear hb); (try clear hb2); (try clear hk); (try clear hi)))
        go_ret
        exact ⟨by first | rfl | (simp [errW_none, errW_some] <;> rfl) | (simp [*, errW_none, errW_some] <;> rfl), by repeat (first | (with_reducible first | exact HB.out | apply below_alloc | apply bdN | apply bd1) | exact HB.out)⟩
       ·rw [if_neg c24] at H
        have c24b0 : (t145 == t152) = false := beq_eq_false_iff_ne.mpr c24
        have c24b1 : (t145 != t152) = true := bne_iff_ne.mpr c24
        obtain rfl := Option.some.inj H
        go_wp2_with (first | ((with_reducible refine gate_callee (f := 26) rfl ?_); refine goesL_ (some 40) rfl rfl Try.func26 (by kernel_rfl) rfl #[.int .i64 a0] rfl (by (try simp only [List.map_toArray, List.map_cons, List.map_nil]); first | done | rfl | (simp only [List.length_drop, List.length_take]; rfl)) ?_; (with_reducible refine (regcertref05_UsesImm.calls a0 false _ A17.out).mono ?_); rintro e w' ⟨rfl, ⟨nd, rfl⟩⟩; refine ⟨_, rfl, ?_⟩) | ((with_reducible refine gate_callee (f := 20) rfl ?_); refine goesL_ (some 48) rfl rfl Try.func20 (by kernel_rfl) rfl #[.int .i64 a0, .int .i64 x13_9, .int .i64 x14_14, .int .i64 a4] rfl (by (try simp only [List.map_toArray, List.map_cons, List.map_nil]); first | done | rfl | (simp only [List.length_drop, List.length_take]; rfl)) ?_; (with_reducible refine (alu_Eval.calls a0 x13_9 x14_14 a4 t152 t153 _ A23.out).mono ?_); rintro e w26 ⟨rfl, hb⟩; refine ⟨_, rfl, ?_⟩; have n0_ := As0 (below_step (by repeat (first | (with_reducible first | exact HB.out | apply below_alloc | apply bdN | apply bd1) | exact HB.out)) hb); clear HB; have HB := n0_; clear n0_; (try clear hb); (try clear hb2); (try clear hk); (try clear hi)))
        go_ret
        exact ⟨by first | rfl | (simp [errW_none, errW_some] <;> rfl) | (simp [*, errW_none, errW_some] <;> rfl), by repeat (first | (with_reducible first | exact HB.out | apply below_alloc | apply bdN | apply bd1) | exact HB.out)⟩
 ·replace c7 := Bool.eq_false_iff.mpr c7
  subst c7
  have H1 : (some false) = some r := by rw [if_neg (show ¬ (false = true) by decide)] at H; exact H
  clear H
  have H := H1
  clear H1
  obtain rfl := Option.some.inj H
  go_enter Try.func4, Try.ntmps4
  go_wp2_with (first | ((with_reducible refine gate_callee (f := 19) rfl ?_); refine goesL_ (some 18) rfl rfl Try.func19 (by kernel_rfl) rfl #[] rfl (by (try simp only [List.map_toArray, List.map_cons, List.map_nil]); first | done | rfl | (simp only [List.length_drop, List.length_take]; rfl)) ?_; (with_reducible refine (regcertlaw06_awake.calls  false _ A6.out).mono ?_); rintro e w27 ⟨rfl, hb⟩; refine ⟨_, rfl, ?_⟩; have n0_ := As0 (below_step (by repeat (first | (with_reducible first | exact HB.out | apply below_alloc | apply bdN | apply bd1) | exact HB.out)) hb); clear HB; have HB := n0_; clear n0_; (try clear hb); (try clear hb2); (try clear hk); (try clear hi)))
  go_ret
  exact ⟨by first | rfl | (simp [errW_none, errW_some] <;> rfl) | (simp [*, errW_none, errW_some] <;> rfl), by repeat (first | (with_reducible first | exact HB.out | apply below_alloc | apply bdN | apply bd1) | exact HB.out)⟩

/-! ### regcertlaw06_AluDivision: function 5 -/
def regcertlaw06_AluDivision.j0 : Nat → Int → Int → Int → Int → Bool → Option (Bool)
 | 0, _, _, _, _, _ => none
 | k + 1, x0, x1, x5, x7, x65 => if x65 = true then (some false) else (if x1 = (-9223372036854775808) then (if x5 = 0 then (if x7 = x0 then (some true) else (if x0 = x1 then (if x5 = 1 then (some (x7 == 0)) else (some false)) else (some false))) else (if x0 = x1 then (if x5 = 1 then (some (x7 == 0)) else (some false)) else (some false))) else (if x1 < 0 then (if x7 > (wrap64 (-(wrap64 (-x1)))) then (some (decide (x7 < (wrap64 (-x1))))) else (some false)) else (if x7 > (wrap64 (-x1)) then (some (decide (x7 < x1))) else (some false))))
def regcertlaw06_AluDivision.f (k : Nat) (a0 : Int) (a1 : Int) : Option (Bool) := (regcertlaw06_awake.f).bind fun t154 => (if t154 = true then ((alu_Eval.f 8 a0 a1 0).bind fun bt155 => ((alu_Eval.f 9 a0 a1 0).bind fun bt157 => (if a1 = 0 then (if bt155.2 = true then (some false) else (if bt157.2 = true then (some false) else (if bt155.1 = 0 then (some (bt157.1 == 0)) else (some false)))) else (if bt155.2 = true then (if bt157.2 = true then (if a0 = (wrap64 ((wrap64 (a1 * bt155.1)) + bt157.1)) then (if bt157.1 = 0 then (regcertlaw06_AluDivision.j0 k a0 a1 bt155.1 bt157.1 false) else (regcertlaw06_AluDivision.j0 k a0 a1 bt155.1 bt157.1 ((decide (bt157.1 < 0)) != (decide (a0 < 0))))) else (regcertlaw06_AluDivision.j0 k a0 a1 bt155.1 bt157.1 true)) else (regcertlaw06_AluDivision.j0 k a0 a1 bt155.1 bt157.1 true)) else (regcertlaw06_AluDivision.j0 k a0 a1 bt155.1 bt157.1 true))))) else (some false))
theorem regcertlaw06_AluDivision.mono_l : ∀ k, (∀ y0 y1 y2 y3 y4, LeO (regcertlaw06_AluDivision.j0 k y0 y1 y2 y3 y4) (regcertlaw06_AluDivision.j0 (k + 1) y0 y1 y2 y3 y4))
 | 0 => fun _ _ _ _ _ r h => by simp [regcertlaw06_AluDivision.j0] at h
 | k + 1 => by
  have ih0 := regcertlaw06_AluDivision.mono_l k
  ·intro y0 y1 y2 y3 y4
   unfold regcertlaw06_AluDivision.j0
   repeat' first
   | (with_reducible exact ih0 _ _ _ _ _)
   | (with_reducible exact LeO.refl _)
   | (with_reducible exact LeO.none _)
   | (with_reducible refine LeO.ite ?_ ?_)
   | (with_reducible refine LeO.bind ?_ (fun _ => ?_))
   | exact ih0 _ _ _ _ _
   | exact LeO.none _
   | refine LeO.ite ?_ ?_
   | refine LeO.bind ?_ (fun _ => ?_)
theorem regcertlaw06_AluDivision.mono : ∀ a0 a1 k, LeO (regcertlaw06_AluDivision.f k a0 a1) (regcertlaw06_AluDivision.f (k + 1) a0 a1) := by
 intro a0 a1 k
 have ih0 := regcertlaw06_AluDivision.mono_l k
 unfold regcertlaw06_AluDivision.f
 repeat' first
   | (with_reducible exact ih0 _ _ _ _ _)
   | (with_reducible exact LeO.refl _)
   | (with_reducible exact LeO.none _)
   | (with_reducible refine LeO.ite ?_ ?_)
   | (with_reducible refine LeO.bind ?_ (fun _ => ?_))
   | exact ih0 _ _ _ _ _
   | exact LeO.none _
   | refine LeO.ite ?_ ?_
   | refine LeO.bind ?_ (fun _ => ?_)
set_option maxHeartbeats 8000000 in
set_option maxRecDepth 100000 in
theorem regcertlaw06_AluDivision.calls (k : Nat) (a0 : Int) (a1 : Int) (r : Bool) (w : World) (h : regcertlaw06_AluDivision.f k a0 a1 = some r) :
  Calls Try.prog 5 #[.int .i64 a0, .int .i64 a1] w fun e w' => e = .returned (.bool r) ∧ Below w.heap.size w w' := by
 have HB := As0 (Below.refl w.heap.size w)
 have H : ((regcertlaw06_awake.f).bind fun t154 => (if t154 = true then ((alu_Eval.f 8 a0 a1 0).bind fun bt155 => ((alu_Eval.f 9 a0 a1 0).bind fun bt157 => (if a1 = 0 then (if bt155.2 = true then (some false) else (if bt157.2 = true then (some false) else (if bt155.1 = 0 then (some (bt157.1 == 0)) else (some false)))) else (if bt155.2 = true then (if bt157.2 = true then (if a0 = (wrap64 ((wrap64 (a1 * bt155.1)) + bt157.1)) then (if bt157.1 = 0 then (regcertlaw06_AluDivision.j0 k a0 a1 bt155.1 bt157.1 false) else (regcertlaw06_AluDivision.j0 k a0 a1 bt155.1 bt157.1 ((decide (bt157.1 < 0)) != (decide (a0 < 0))))) else (regcertlaw06_AluDivision.j0 k a0 a1 bt155.1 bt157.1 true)) else (regcertlaw06_AluDivision.j0 k a0 a1 bt155.1 bt157.1 true)) else (regcertlaw06_AluDivision.j0 k a0 a1 bt155.1 bt157.1 true))))) else (some false))) = some r := h
 clear h
 replace H := Option.bind_eq_some_iff.mp H
 obtain ⟨t154, A30, H⟩ := H
 replace H : (if t154 = true then ((alu_Eval.f 8 a0 a1 0).bind fun bt155 => ((alu_Eval.f 9 a0 a1 0).bind fun bt157 => (if a1 = 0 then (if bt155.2 = true then (some false) else (if bt157.2 = true then (some false) else (if bt155.1 = 0 then (some (bt157.1 == 0)) else (some false)))) else (if bt155.2 = true then (if bt157.2 = true then (if a0 = (wrap64 ((wrap64 (a1 * bt155.1)) + bt157.1)) then (if bt157.1 = 0 then (regcertlaw06_AluDivision.j0 k a0 a1 bt155.1 bt157.1 false) else (regcertlaw06_AluDivision.j0 k a0 a1 bt155.1 bt157.1 ((decide (bt157.1 < 0)) != (decide (a0 < 0))))) else (regcertlaw06_AluDivision.j0 k a0 a1 bt155.1 bt157.1 true)) else (regcertlaw06_AluDivision.j0 k a0 a1 bt155.1 bt157.1 true)) else (regcertlaw06_AluDivision.j0 k a0 a1 bt155.1 bt157.1 true))))) else (some false)) = some r := H
 have A3 := As0 A30
 clear A30
 by_cases c4 : t154 = true
 ·subst c4
  have H1 : ((alu_Eval.f 8 a0 a1 0).bind fun bt155 => ((alu_Eval.f 9 a0 a1 0).bind fun bt157 => (if a1 = 0 then (if bt155.2 = true then (some false) else (if bt157.2 = true then (some false) else (if bt155.1 = 0 then (some (bt157.1 == 0)) else (some false)))) else (if bt155.2 = true then (if bt157.2 = true then (if a0 = (wrap64 ((wrap64 (a1 * bt155.1)) + bt157.1)) then (if bt157.1 = 0 then (regcertlaw06_AluDivision.j0 k a0 a1 bt155.1 bt157.1 false) else (regcertlaw06_AluDivision.j0 k a0 a1 bt155.1 bt157.1 ((decide (bt157.1 < 0)) != (decide (a0 < 0))))) else (regcertlaw06_AluDivision.j0 k a0 a1 bt155.1 bt157.1 true)) else (regcertlaw06_AluDivision.j0 k a0 a1 bt155.1 bt157.1 true)) else (regcertlaw06_AluDivision.j0 k a0 a1 bt155.1 bt157.1 true))))) = some r := by rw [if_pos rfl] at H; exact H
  clear H
  have H := H1
  clear H1
  replace H := Option.bind_eq_some_iff.mp H
  obtain ⟨⟨t155, t156⟩, A50, H⟩ := H
  replace H : ((alu_Eval.f 9 a0 a1 0).bind fun bt157 => (if a1 = 0 then (if t156 = true then (some false) else (if bt157.2 = true then (some false) else (if t155 = 0 then (some (bt157.1 == 0)) else (some false)))) else (if t156 = true then (if bt157.2 = true then (if a0 = (wrap64 ((wrap64 (a1 * t155)) + bt157.1)) then (if bt157.1 = 0 then (regcertlaw06_AluDivision.j0 k a0 a1 t155 bt157.1 false) else (regcertlaw06_AluDivision.j0 k a0 a1 t155 bt157.1 ((decide (bt157.1 < 0)) != (decide (a0 < 0))))) else (regcertlaw06_AluDivision.j0 k a0 a1 t155 bt157.1 true)) else (regcertlaw06_AluDivision.j0 k a0 a1 t155 bt157.1 true)) else (regcertlaw06_AluDivision.j0 k a0 a1 t155 bt157.1 true)))) = some r := H
  have A5 := As0 A50
  clear A50
  replace H := Option.bind_eq_some_iff.mp H
  obtain ⟨⟨t157, t158⟩, A60, H⟩ := H
  replace H : (if a1 = 0 then (if t156 = true then (some false) else (if t158 = true then (some false) else (if t155 = 0 then (some (t157 == 0)) else (some false)))) else (if t156 = true then (if t158 = true then (if a0 = (wrap64 ((wrap64 (a1 * t155)) + t157)) then (if t157 = 0 then (regcertlaw06_AluDivision.j0 k a0 a1 t155 t157 false) else (regcertlaw06_AluDivision.j0 k a0 a1 t155 t157 ((decide (t157 < 0)) != (decide (a0 < 0))))) else (regcertlaw06_AluDivision.j0 k a0 a1 t155 t157 true)) else (regcertlaw06_AluDivision.j0 k a0 a1 t155 t157 true)) else (regcertlaw06_AluDivision.j0 k a0 a1 t155 t157 true))) = some r := H
  have A6 := As0 A60
  clear A60
  by_cases c7 : a1 = 0
  ·rw [if_pos c7] at H
   have c7b0 : (a1 == 0) = true := beq_iff_eq.mpr c7
   have c7b1 : (a1 != 0) = false := bne_eq_false_iff_eq.mpr c7
   clear c7
   by_cases c8 : t156 = true
   ·subst c8
    have H1 : (some false) = some r := by rw [if_pos rfl] at H; exact H
    clear H
    have H := H1
    clear H1
    obtain rfl := Option.some.inj H
    go_enter Try.func5, Try.ntmps5
    go_wp2_with (first | ((with_reducible refine gate_callee (f := 19) rfl ?_); refine goesL_ (some 10) rfl rfl Try.func19 (by kernel_rfl) rfl #[] rfl (by (try simp only [List.map_toArray, List.map_cons, List.map_nil]); first | done | rfl | (simp only [List.length_drop, List.length_take]; rfl)) ?_; (with_reducible refine (regcertlaw06_awake.calls  true _ A3.out).mono ?_); rintro e w9 ⟨rfl, hb⟩; refine ⟨_, rfl, ?_⟩; have n0_ := As0 (below_step (by repeat (first | (with_reducible first | exact HB.out | apply below_alloc | apply bdN | apply bd1) | exact HB.out)) hb); clear HB; have HB := n0_; clear n0_; (try clear hb); (try clear hb2); (try clear hk); (try clear hi)) | ((with_reducible refine gate_callee (f := 20) rfl ?_); refine goesL_ (some 15) rfl rfl Try.func20 (by kernel_rfl) rfl #[.int .i64 8, .int .i64 a0, .int .i64 a1, .int .i64 0] rfl (by (try simp only [List.map_toArray, List.map_cons, List.map_nil]); first | done | rfl | (simp only [List.length_drop, List.length_take]; rfl)) ?_; (with_reducible refine (alu_Eval.calls 8 a0 a1 0 t155 true _ A5.out).mono ?_); rintro e w10 ⟨rfl, hb⟩; refine ⟨_, rfl, ?_⟩; have n0_ := As0 (below_step (by repeat (first | (with_reducible first | exact HB.out | apply below_alloc | apply bdN | apply bd1) | exact HB.out)) hb); clear HB; have HB := n0_; clear n0_; (try clear hb); (try clear hb2); (try clear hk); (try clear hi)) | ((with_reducible refine gate_callee (f := 20) rfl ?_); refine goesL_ (some 21) rfl rfl Try.func20 (by kernel_rfl) rfl #[.int .i64 9, .int .i64 a0, .int .i64 a1, .int .i64 0] rfl (by (try simp only [List.map_toArray, List.map_cons, List.map_nil]); first | done | rfl | (simp only [List.length_drop, List.length_take]; rfl)) ?_; (with_reducible refine (alu_Eval.calls 9 a0 a1 0 t157 t158 _ A6.out).mono ?_); rintro e w11 ⟨rfl, hb⟩; refine ⟨_, rfl, ?_⟩; have n0_ := As0 (below_step (by repeat (first | (with_reducible first | exact HB.out | apply below_alloc | apply bdN | apply bd1) | exact HB.out)) hb); clear HB; have HB := n0_; clear n0_; (try clear hb); (try clear hb2); (try clear hk); (try clear hi)))
    go_ret
    exact ⟨by first | rfl | (simp [errW_none, errW_some] <;> rfl) | (simp [*, errW_none, errW_some] <;> rfl), by repeat (first | (with_reducible first | exact HB.out | apply below_alloc | apply bdN | apply bd1) | exact HB.out)⟩
   ·replace c8 := Bool.eq_false_iff.mpr c8
    subst c8
    have H1 : (if t158 = true then (some false) else (if t155 = 0 then (some (t157 == 0)) else (some false))) = some r := by rw [if_neg (show ¬ (false = true) by decide)] at H; exact H
    clear H
    have H := H1
    clear H1
    by_cases c12 : t158 = true
    ·subst c12
     have H1 : (some false) = some r := by rw [if_pos rfl] at H; exact H
     clear H
     have H := H1
     clear H1
     obtain rfl := Option.some.inj H
     go_enter Try.func5, Try.ntmps5
     go_wp2_with (first | ((with_reducible refine gate_callee (f := 19) rfl ?_); refine goesL_ (some 10) rfl rfl Try.func19 (by kernel_rfl) rfl #[] rfl (by (try simp only [List.map_toArray, List.map_cons, List.map_nil]); first | done | rfl | (simp only [List.length_drop, List.length_take]; rfl)) ?_; (with_reducible refine (regcertlaw06_awake.calls  true _ A3.out).mono ?_); rintro e w13 ⟨rfl, hb⟩; refine ⟨_, rfl, ?_⟩; have n0_ := As0 (below_step (by repeat (first | (with_reducible first | exact HB.out | apply below_alloc | apply bdN | apply bd1) | exact HB.out)) hb); clear HB; have HB := n0_; clear n0_; (try clear hb); (try clear hb2); (try clear hk); (try clear hi)) | ((with_reducible refine gate_callee (f := 20) rfl ?_); refine goesL_ (some 15) rfl rfl Try.func20 (by kernel_rfl) rfl #[.int .i64 8, .int .i64 a0, .int .i64 a1, .int .i64 0] rfl (by (try simp only [List.map_toArray, List.map_cons, List.map_nil]); first | done | rfl | (simp only [List.length_drop, List.length_take]; rfl)) ?_; (with_reducible refine (alu_Eval.calls 8 a0 a1 0 t155 false _ A5.out).mono ?_); rintro e w14 ⟨rfl, hb⟩; refine ⟨_, rfl, ?_⟩; have n0_ := As0 (below_step (by repeat (first | (with_reducible first | exact HB.out | apply below_alloc | apply bdN | apply bd1) | exact HB.out)) hb); clear HB; have HB := n0_; clear n0_; (try clear hb); (try clear hb2); (try clear hk); (try clear hi)) | ((with_reducible refine gate_callee (f := 20) rfl ?_); refine goesL_ (some 21) rfl rfl Try.func20 (by kernel_rfl) rfl #[.int .i64 9, .int .i64 a0, .int .i64 a1, .int .i64 0] rfl (by (try simp only [List.map_toArray, List.map_cons, List.map_nil]); first | done | rfl | (simp only [List.length_drop, List.length_take]; rfl)) ?_; (with_reducible refine (alu_Eval.calls 9 a0 a1 0 t157 true _ A6.out).mono ?_); rintro e w15 ⟨rfl, hb⟩; refine ⟨_, rfl, ?_⟩; have n0_ := As0 (below_step (by repeat (first | (with_reducible first | exact HB.out | apply below_alloc | apply bdN | apply bd1) | exact HB.out)) hb); clear HB; have HB := n0_; clear n0_; (try clear hb); (try clear hb2); (try clear hk); (try clear hi)))
     go_ret
     exact ⟨by first | rfl | (simp [errW_none, errW_some] <;> rfl) | (simp [*, errW_none, errW_some] <;> rfl), by repeat (first | (with_reducible first | exact HB.out | apply below_alloc | apply bdN | apply bd1) | exact HB.out)⟩
    ·replace c12 := Bool.eq_false_iff.mpr c12
     subst c12
     have H1 : (if t155 = 0 then (some (t157 == 0)) else (some false)) = some r := by rw [if_neg (show ¬ (false = true) by decide)] at H; exact H
     clear H
     have H := H1
     clear H1
     by_cases c16 : t155 = 0
     ·rw [if_pos c16] at H
      have c16b0 : (t155 == 0) = true := beq_iff_eq.mpr c16
      have c16b1 : (t155 != 0) = false := bne_eq_false_iff_eq.mpr c16
      clear c16
      obtain rfl := Option.some.inj H
      go_enter Try.func5, Try.ntmps5
      go_wp2_with (first | ((with_reducible refine gate_callee (f := 19) rfl ?_); refine goesL_ (some 10) rfl rfl Try.func19 (by kernel_rfl) rfl #[] rfl (by (try simp only [List.map_toArray, List.map_cons, List.map_nil]); first | done | rfl | (simp only [List.length_drop, List.length_take]; rfl)) ?_; (with_reducible refine (regcertlaw06_awake.calls  true _ A3.out).mono ?_); rintro e w17 ⟨rfl, hb⟩; refine ⟨_, rfl, ?_⟩; have n0_ := As0 (below_step (by repeat (first | (with_reducible first | exact HB.out | apply below_alloc | apply bdN | apply bd1) | exact HB.out)) hb); clear HB; have HB := n0_; clear n0_; (try clear hb); (try clear hb2); (try clear hk); (try clear hi)) | ((with_reducible refine gate_callee (f := 20) rfl ?_); refine goesL_ (some 15) rfl rfl Try.func20 (by kernel_rfl) rfl #[.int .i64 8, .int .i64 a0, .int .i64 a1, .int .i64 0] rfl (by (try simp only [List.map_toArray, List.map_cons, List.map_nil]); first | done | rfl | (simp only [List.length_drop, List.length_take]; rfl)) ?_; (with_reducible refine (alu_Eval.calls 8 a0 a1 0 t155 false _ A5.out).mono ?_); rintro e w18 ⟨rfl, hb⟩; refine ⟨_, rfl, ?_⟩; have n0_ := As0 (below_step (by repeat (first | (with_reducible first | exact HB.out | apply below_alloc | apply bdN | apply bd1) | exact HB.out)) hb); clear HB; have HB := n0_; clear n0_; (try clear hb); (try clear hb2); (try clear hk); (try clear hi)) | ((with_reducible refine gate_callee (f := 20) rfl ?_); refine goesL_ (some 21) rfl rfl Try.func20 (by kernel_rfl) rfl #[.int .i64 9, .int .i64 a0, .int .i64 a1, .int .i64 0] rfl (by (try simp only [List.map_toArray, List.map_cons, List.map_nil]); first | done | rfl | (simp only [List.length_drop, List.length_take]; rfl)) ?_; (with_reducible refine (alu_Eval.calls 9 a0 a1 0 t157 false _ A6.out).mono ?_); rintro e w19 ⟨rfl, hb⟩; refine ⟨_, rfl, ?_⟩; have n0_ := As0 (below_step (by repeat (first | (with_reducible first | exact HB.out | apply below_alloc | apply bdN | apply bd1) | exact HB.out)) hb); clear HB; have HB := n0_; clear n0_; (try clear hb); (try clear hb2); (try clear hk); (try clear hi)))
      go_ret
      exact ⟨by first | rfl | (simp [errW_none, errW_some] <;> rfl) | (simp [*, errW_none, errW_some] <;> rfl), by repeat (first | (with_reducible first | exact HB.out | apply below_alloc | apply bdN | apply bd1) | exact HB.out)⟩
     ·rw [if_neg c16] at H
      have c16b0 : (t155 == 0) = false := beq_eq_false_iff_ne.mpr c16
      have c16b1 : (t155 != 0) = true := bne_iff_ne.mpr c16
      obtain rfl := Option.some.inj H
      go_enter Try.func5, Try.ntmps5
      go_wp2_with (first | ((with_reducible refine gate_callee (f := 19) rfl ?_); refine goesL_ (some 10) rfl rfl Try.func19 (by kernel_rfl) rfl #[] rfl (by (try simp only [List.map_toArray, List.map_cons, List.map_nil]); first | done | rfl | (simp only [List.length_drop, List.length_take]; rfl)) ?_; (with_reducible refine (regcertlaw06_awake.calls  true _ A3.out).mono ?_); rintro e w20 ⟨rfl, hb⟩; refine ⟨_, rfl, ?_⟩; have n0_ := As0 (below_step (by repeat (first | (with_reducible first | exact HB.out | apply below_alloc | apply bdN | apply bd1) | exact HB.out)) hb); clear HB; have HB := n0_; clear n0_; (try clear hb); (try clear hb2); (try clear hk); (try clear hi)) | ((with_reducible refine gate_callee (f := 20) rfl ?_); refine goesL_ (some 15) rfl rfl Try.func20 (by kernel_rfl) rfl #[.int .i64 8, .int .i64 a0, .int .i64 a1, .int .i64 0] rfl (by (try simp only [List.map_toArray, List.map_cons, List.map_nil]); first | done | rfl | (simp only [List.length_drop, List.length_take]; rfl)) ?_; (with_reducible refine (alu_Eval.calls 8 a0 a1 0 t155 false _ A5.out).mono ?_); rintro e w21 ⟨rfl, hb⟩; refine ⟨_, rfl, ?_⟩; have n0_ := As0 (below_step (by repeat (first | (with_reducible first | exact HB.out | apply below_alloc | apply bdN | apply bd1) | exact HB.out)) hb); clear HB; have HB := n0_; clear n0_; (try clear hb); (try clear hb2); (try clear hk); (try clear hi)) | ((with_reducible refine gate_callee (f := 20) rfl ?_); refine goesL_ (some 21) rfl rfl Try.func20 (by kernel_rfl) rfl #[.int .i64 9, .int .i64 a0, .int .i64 a1, .int .i64 0] rfl (by (try simp only [List.map_toArray, List.map_cons, List.map_nil]); first | done | rfl | (simp only [List.length_drop, List.length_take]; rfl)) ?_; (with_reducible refine (alu_Eval.calls 9 a0 a1 0 t157 false _ A6.out).mono ?_); rintro e w22 ⟨rfl, hb⟩; refine ⟨_, rfl, ?_⟩; have n0_ := As0 (below_step (by repeat (first | (with_reducible first | exact HB.out | apply below_alloc | apply bdN | apply bd1) | exact HB.out)) hb); clear HB; have HB := n0_; clear n0_; (try clear hb); (try clear hb2); (try clear hk); (try clear hi)))
      go_ret
      exact ⟨by first | rfl | (simp [errW_none, errW_some] <;> rfl) | (simp [*, errW_none, errW_some] <;> rfl), by repeat (first | (with_reducible first | exact HB.out | apply below_alloc | apply bdN | apply bd1) | exact HB.out)⟩
  ·rw [if_neg c7] at H
   have c7b0 : (a1 == 0) = false := beq_eq_false_iff_ne.mpr c7
   have c7b1 : (a1 != 0) = true := bne_iff_ne.mpr c7
   have HC23 := As0 H
   clear H
   go_enter Try.func5, Try.ntmps5
   go_upto_region 7 with (first | ((with_reducible refine gate_callee (f := 19) rfl ?_); refine goesL_ (some 10) rfl rfl Try.func19 (by kernel_rfl) rfl #[] rfl (by (try simp only [List.map_toArray, List.map_cons, List.map_nil]); first | done | rfl | (simp only [List.length_drop, List.length_take]; rfl)) ?_; (with_reducible refine (regcertlaw06_awake.calls  true _ A3.out).mono ?_); rintro e w24 ⟨rfl, hb⟩; refine ⟨_, rfl, ?_⟩; have n0_ := As0 (below_step (by repeat (first | (with_reducible first | exact HB.out | apply below_alloc | apply bdN | apply bd1) | exact HB.out)) hb); clear HB; have HB := n0_; clear n0_; (try clear hb); (try clear hb2); (try clear hk); (try clear hi)) | ((with_reducible refine gate_callee (f := 20) rfl ?_); refine goesL_ (some 15) rfl rfl Try.func20 (by kernel_rfl) rfl #[.int .i64 8, .int .i64 a0, .int .i64 a1, .int .i64 0] rfl (by (try simp only [List.map_toArray, List.map_cons, List.map_nil]); first | done | rfl | (simp only [List.length_drop, List.length_take]; rfl)) ?_; (with_reducible refine (alu_Eval.calls 8 a0 a1 0 t155 t156 _ A5.out).mono ?_); rintro e w25 ⟨rfl, hb⟩; refine ⟨_, rfl, ?_⟩; have n0_ := As0 (below_step (by repeat (first | (with_reducible first | exact HB.out | apply below_alloc | apply bdN | apply bd1) | exact HB.out)) hb); clear HB; have HB := n0_; clear n0_; (try clear hb); (try clear hb2); (try clear hk); (try clear hi)) | ((with_reducible refine gate_callee (f := 20) rfl ?_); refine goesL_ (some 21) rfl rfl Try.func20 (by kernel_rfl) rfl #[.int .i64 9, .int .i64 a0, .int .i64 a1, .int .i64 0] rfl (by (try simp only [List.map_toArray, List.map_cons, List.map_nil]); first | done | rfl | (simp only [List.length_drop, List.length_take]; rfl)) ?_; (with_reducible refine (alu_Eval.calls 9 a0 a1 0 t157 t158 _ A6.out).mono ?_); rintro e w26 ⟨rfl, hb⟩; refine ⟨_, rfl, ?_⟩; have n0_ := As0 (below_step (by repeat (first | (with_reducible first | exact HB.out | apply below_alloc | apply bdN | apply bd1) | exact HB.out)) hb); clear HB; have HB := n0_; clear n0_; (try clear hb); (try clear hb2); (try clear hk); (try clear hi)))
   (try simp only [Act.put, sL1, sL2, sL3])
   go_cut [65] (fun v65 wc => ∃ (kq : Nat) (x65_22 : Bool), v65 = .bool x65_22 ∧ Aside0 (regcertlaw06_AluDivision.j0 kq a0 a1 t155 t157 x65_22 = some r) ∧ Aside0 (kq ≤ k) ∧ Aside0 (Below w.heap.size w wc))
   case first =>
    have H := HC23.out
    clear HC23
    by_cases c27 : t156 = true
    ·subst c27
     have H1 : (if t158 = true then (if a0 = (wrap64 ((wrap64 (a1 * t155)) + t157)) then (if t157 = 0 then (regcertlaw06_AluDivision.j0 k a0 a1 t155 t157 false) else (regcertlaw06_AluDivision.j0 k a0 a1 t155 t157 ((decide (t157 < 0)) != (decide (a0 < 0))))) else (regcertlaw06_AluDivision.j0 k a0 a1 t155 t157 true)) else (regcertlaw06_AluDivision.j0 k a0 a1 t155 t157 true)) = some r := by rw [if_pos rfl] at H; exact H
     clear H
     have H := H1
     clear H1
     by_cases c28 : t158 = true
     ·subst c28
      have H1 : (if a0 = (wrap64 ((wrap64 (a1 * t155)) + t157)) then (if t157 = 0 then (regcertlaw06_AluDivision.j0 k a0 a1 t155 t157 false) else (regcertlaw06_AluDivision.j0 k a0 a1 t155 t157 ((decide (t157 < 0)) != (decide (a0 < 0))))) else (regcertlaw06_AluDivision.j0 k a0 a1 t155 t157 true)) = some r := by rw [if_pos rfl] at H; exact H
      clear H
      have H := H1
      clear H1
      by_cases c29 : a0 = (wrap64 ((wrap64 (a1 * t155)) + t157))
      ·rw [if_pos c29] at H
       have c29b0 : (a0 == (wrap64 ((wrap64 (a1 * t155)) + t157))) = true := beq_iff_eq.mpr c29
       have c29b1 : (a0 != (wrap64 ((wrap64 (a1 * t155)) + t157))) = false := bne_eq_false_iff_eq.mpr c29
       clear c29
       (first | rw [c29b0] | (simp only [i64_w, i32_w]; rw [c29b0]) | skip)
       by_cases c30 : t157 = 0
       ·rw [if_pos c30] at H
        have c30b0 : (t157 == 0) = true := beq_iff_eq.mpr c30
        have c30b1 : (t157 != 0) = false := bne_eq_false_iff_eq.mpr c30
        clear c30
        have H' := As0 H
        clear H
        go_wp2
        go_meet
        case rel => exact ⟨_, (false), (by first | rfl | (simp; done) | (simp [*]; done)), H', ⟨by first | omega | exact Nat.le_refl _⟩, ⟨by repeat (first | (with_reducible first | exact HB.out | apply below_alloc | apply bdN | apply bd1) | exact HB.out)⟩⟩
       ·rw [if_neg c30] at H
        have c30b0 : (t157 == 0) = false := beq_eq_false_iff_ne.mpr c30
        have c30b1 : (t157 != 0) = true := bne_iff_ne.mpr c30
        have H' := As0 H
        clear H
        go_wp2
        go_meet
        case rel => exact ⟨_, (((decide (t157 < 0)) != (decide (a0 < 0)))), (by first | rfl | (simp; done) | (simp [*]; done)), H', ⟨by first | omega | exact Nat.le_refl _⟩, ⟨by repeat (first | (with_reducible first | exact HB.out | apply below_alloc | apply bdN | apply bd1) | exact HB.out)⟩⟩
      ·rw [if_neg c29] at H
       have c29b0 : (a0 == (wrap64 ((wrap64 (a1 * t155)) + t157))) = false := beq_eq_false_iff_ne.mpr c29
       have c29b1 : (a0 != (wrap64 ((wrap64 (a1 * t155)) + t157))) = true := bne_iff_ne.mpr c29
       (first | rw [c29b0] | (simp only [i64_w, i32_w]; rw [c29b0]) | skip)
       have H' := As0 H
       clear H
       go_wp2
       go_meet
       case rel => exact ⟨_, (true), (by first | rfl | (simp; done) | (simp [*]; done)), H', ⟨by first | omega | exact Nat.le_refl _⟩, ⟨by repeat (first | (with_reducible first | exact HB.out | apply below_alloc | apply bdN | apply bd1) | exact HB.out)⟩⟩
     ·replace c28 := Bool.eq_false_iff.mpr c28
      subst c28
      have H1 : (regcertlaw06_AluDivision.j0 k a0 a1 t155 t157 true) = some r := by rw [if_neg (show ¬ (false = true) by decide)] at H; exact H
      clear H
      have H := H1
      clear H1
      have H' := As0 H
      clear H
      go_wp2
      go_meet
      case rel => exact ⟨_, (true), (by first | rfl | (simp; done) | (simp [*]; done)), H', ⟨by first | omega | exact Nat.le_refl _⟩, ⟨by repeat (first | (with_reducible first | exact HB.out | apply below_alloc | apply bdN | apply bd1) | exact HB.out)⟩⟩
    ·replace c27 := Bool.eq_false_iff.mpr c27
     subst c27
     have H1 : (regcertlaw06_AluDivision.j0 k a0 a1 t155 t157 true) = some r := by rw [if_neg (show ¬ (false = true) by decide)] at H; exact H
     clear H
     have H := H1
     clear H1
     have H' := As0 H
     clear H
     go_wp2
     go_meet
     case rel => exact ⟨_, (true), (by first | rfl | (simp; done) | (simp [*]; done)), H', ⟨by first | omega | exact Nat.le_refl _⟩, ⟨by repeat (first | (with_reducible first | exact HB.out | apply below_alloc | apply bdN | apply bd1) | exact HB.out)⟩⟩
   case rest =>
    clear HC23
    try clear c1
    try clear c2
    try clear p2
    try clear c3
    try clear c4
    try clear c5
    try clear p6
    try clear c7
    try clear c7b0
    try clear c7b1
    try clear c8
    try clear c12
    try clear c16
    try clear c16b0
    try clear c16b1
    try clear c19
    try clear c20
    try clear c27
    try clear c28
    try clear c29
    try clear c29b0
    try clear c29b1
    try clear c30
    try clear c30b0
    try clear c30b1
    obtain ⟨kq, x65_22, rfl, HA, HJ22, HB⟩ := hcut
    cases kq with
    | zero => exact absurd HA.out (by simp [regcertlaw06_AluDivision.j0])
    | succ kj22 =>
     have H := HA.out
     clear HA
     simp only [regcertlaw06_AluDivision.j0] at H
     by_cases c31 : x65_22 = true
     ·subst c31
      have H1 : (some false) = some r := by rw [if_pos rfl] at H; exact H
      clear H
      have H := H1
      clear H1
      obtain rfl := Option.some.inj H
      go_wp2
      go_ret
      exact ⟨by first | rfl | (simp [errW_none, errW_some] <;> rfl) | (simp [*, errW_none, errW_some] <;> rfl), by repeat (first | (with_reducible first | exact HB.out | apply below_alloc | apply bdN | apply bd1) | exact HB.out)⟩
     ·replace c31 := Bool.eq_false_iff.mpr c31
      subst c31
      have H1 : (if a1 = (-9223372036854775808) then (if t155 = 0 then (if t157 = a0 then (some true) else (if a0 = a1 then (if t155 = 1 then (some (t157 == 0)) else (some false)) else (some false))) else (if a0 = a1 then (if t155 = 1 then (some (t157 == 0)) else (some false)) else (some false))) else (if a1 < 0 then (if t157 > (wrap64 (-(wrap64 (-a1)))) then (some (decide (t157 < (wrap64 (-a1))))) else (some false)) else (if t157 > (wrap64 (-a1)) then (some (decide (t157 < a1))) else (some false)))) = some r := by rw [if_neg (show ¬ (false = true) by decide)] at H; exact H
      clear H
      have H := H1
      clear H1
      by_cases c32 : a1 = (-9223372036854775808)
      ·rw [if_pos c32] at H
       have c32b0 : (a1 == (-9223372036854775808)) = true := beq_iff_eq.mpr c32
       have c32b1 : (a1 != (-9223372036854775808)) = false := bne_eq_false_iff_eq.mpr c32
       clear c32
       by_cases c33 : t155 = 0
       ·rw [if_pos c33] at H
        have c33b0 : (t155 == 0) = true := beq_iff_eq.mpr c33
        have c33b1 : (t155 != 0) = false := bne_eq_false_iff_eq.mpr c33
        clear c33
        by_cases c34 : t157 = a0
        ·rw [if_pos c34] at H
         have c34b0 : (t157 == a0) = true := beq_iff_eq.mpr c34
         have c34b1 : (t157 != a0) = false := bne_eq_false_iff_eq.mpr c34
         clear c34
         obtain rfl := Option.some.inj H
         go_wp2
         go_ret
         exact ⟨by first | rfl | (simp [errW_none, errW_some] <;> rfl) | (simp [*, errW_none, errW_some] <;> rfl), by repeat (first | (with_reducible first | exact HB.out | apply below_alloc | apply bdN | apply bd1) | exact HB.out)⟩
        ·rw [if_neg c34] at H
         have c34b0 : (t157 == a0) = false := beq_eq_false_iff_ne.mpr c34
         have c34b1 : (t157 != a0) = true := bne_iff_ne.mpr c34
         by_cases c35 : a0 = a1
         ·rw [if_pos c35] at H
          have c35b0 : (a0 == a1) = true := beq_iff_eq.mpr c35
          have c35b1 : (a0 != a1) = false := bne_eq_false_iff_eq.mpr c35
          clear c35
          by_cases c36 : t155 = 1
          ·rw [if_pos c36] at H
           have c36b0 : (t155 == 1) = true := beq_iff_eq.mpr c36
           have c36b1 : (t155 != 1) = false := bne_eq_false_iff_eq.mpr c36
           clear c36
           obtain rfl := Option.some.inj H
           go_wp2
           go_ret
           exact ⟨by first | rfl | (simp [errW_none, errW_some] <;> rfl) | (simp [*, errW_none, errW_some] <;> rfl), by repeat (first | (with_reducible first | exact HB.out | apply below_alloc | apply bdN | apply bd1) | exact HB.out)⟩
          ·rw [if_neg c36] at H
           have c36b0 : (t155 == 1) = false := beq_eq_false_iff_ne.mpr c36
           have c36b1 : (t155 != 1) = true := bne_iff_ne.mpr c36
           obtain rfl := Option.some.inj H
           go_wp2
           go_ret
           exact ⟨by first | rfl | (simp [errW_none, errW_some] <;> rfl) | (simp [*, errW_none, errW_some] <;> rfl), by repeat (first | (with_reducible first | exact HB.out | apply below_alloc | apply bdN | apply bd1) | exact HB.out)⟩
         ·rw [if_neg c35] at H
          have c35b0 : (a0 == a1) = false := beq_eq_false_iff_ne.mpr c35
          have c35b1 : (a0 != a1) = true := bne_iff_ne.mpr c35
          obtain rfl := Option.some.inj H
          go_wp2
          go_ret
          exact ⟨by first | rfl | (simp [errW_none, errW_some] <;> rfl) | (simp [*, errW_none, errW_some] <;> rfl), by repeat (first | (with_reducible first | exact HB.out | apply below_alloc | apply bdN | apply bd1) | exact HB.out)⟩
       ·rw [if_neg c33] at H
        have c33b0 : (t155 == 0) = false := beq_eq_false_iff_ne.mpr c33
        have c33b1 : (t155 != 0) = true := bne_iff_ne.mpr c33
        by_cases c37 : a0 = a1
        ·rw [if_pos c37] at H
         have c37b0 : (a0 == a1) = true := beq_iff_eq.mpr c37
         have c37b1 : (a0 != a1) = false := bne_eq_false_iff_eq.mpr c37
         clear c37
         by_cases c38 : t155 = 1
         ·rw [if_pos c38] at H
          have c38b0 : (t155 == 1) = true := beq_iff_eq.mpr c38
          have c38b1 : (t155 != 1) = false := bne_eq_false_iff_eq.mpr c38
          clear c38
          obtain rfl := Option.some.inj H
          go_wp2
          go_ret
          exact ⟨by first | rfl | (simp [errW_none, errW_some] <;> rfl) | (simp [*, errW_none, errW_some] <;> rfl), by repeat (first | (with_reducible first | exact HB.out | apply below_alloc | apply bdN | apply bd1) | exact HB.out)⟩
         ·rw [if_neg c38] at H
          have c38b0 : (t155 == 1) = false := beq_eq_false_iff_ne.mpr c38
          have c38b1 : (t155 != 1) = true := bne_iff_ne.mpr c38
          obtain rfl := Option.some.inj H
          go_wp2
          go_ret
          exact ⟨by first | rfl | (simp [errW_none, errW_some] <;> rfl) | (simp [*, errW_none, errW_some] <;> rfl), by repeat (first | (with_reducible first | exact HB.out | apply below_alloc | apply bdN | apply bd1) | exact HB.out)⟩
        ·rw [if_neg c37] at H
         have c37b0 : (a0 == a1) = false := beq_eq_false_iff_ne.mpr c37
         have c37b1 : (a0 != a1) = true := bne_iff_ne.mpr c37
         obtain rfl := Option.some.inj H
         go_wp2
         go_ret
         exact ⟨by first | rfl | (simp [errW_none, errW_some] <;> rfl) | (simp [*, errW_none, errW_some] <;> rfl), by repeat (first | (with_reducible first | exact HB.out | apply below_alloc | apply bdN | apply bd1) | exact HB.out)⟩
      ·rw [if_neg c32] at H
       have c32b0 : (a1 == (-9223372036854775808)) = false := beq_eq_false_iff_ne.mpr c32
       have c32b1 : (a1 != (-9223372036854775808)) = true := bne_iff_ne.mpr c32
       by_cases c39 : a1 < 0
       ·rw [if_pos c39] at H
        have c39b0 : decide (a1 < 0) = true := decide_eq_true c39
        clear c39
        by_cases c40 : t157 > (wrap64 (-(wrap64 (-a1))))
        ·rw [if_pos c40] at H
         have c40b0 : decide ((wrap64 (-(wrap64 (-a1)))) < t157) = true := decide_eq_true c40
         clear c40
         obtain rfl := Option.some.inj H
         go_wp2
         go_ret
         exact ⟨by first | rfl | (simp [errW_none, errW_some] <;> rfl) | (simp [*, errW_none, errW_some] <;> rfl), by repeat (first | (with_reducible first | exact HB.out | apply below_alloc | apply bdN | apply bd1) | exact HB.out)⟩
        ·rw [if_neg c40] at H
         have c40b0 : decide ((wrap64 (-(wrap64 (-a1)))) < t157) = false := decide_eq_false c40
         clear c40
         obtain rfl := Option.some.inj H
         go_wp2
         go_ret
         exact ⟨by first | rfl | (simp [errW_none, errW_some] <;> rfl) | (simp [*, errW_none, errW_some] <;> rfl), by repeat (first | (with_reducible first | exact HB.out | apply below_alloc | apply bdN | apply bd1) | exact HB.out)⟩
       ·rw [if_neg c39] at H
        have c39b0 : decide (a1 < 0) = false := decide_eq_false c39
        clear c39
        by_cases c41 : t157 > (wrap64 (-a1))
        ·rw [if_pos c41] at H
         have c41b0 : decide ((wrap64 (-a1)) < t157) = true := decide_eq_true c41
         clear c41
         obtain rfl := Option.some.inj H
         go_wp2
         go_ret
         exact ⟨by first | rfl | (simp [errW_none, errW_some] <;> rfl) | (simp [*, errW_none, errW_some] <;> rfl), by repeat (first | (with_reducible first | exact HB.out | apply below_alloc | apply bdN | apply bd1) | exact HB.out)⟩
        ·rw [if_neg c41] at H
         have c41b0 : decide ((wrap64 (-a1)) < t157) = false := decide_eq_false c41
         clear c41
         obtain rfl := Option.some.inj H
         go_wp2
         go_ret
         exact ⟨by first | rfl | (simp [errW_none, errW_some] <;> rfl) | (simp [*, errW_none, errW_some] <;> rfl), by repeat (first | (with_reducible first | exact HB.out | apply below_alloc | apply bdN | apply bd1) | exact HB.out)⟩
 ·replace c4 := Bool.eq_false_iff.mpr c4
  subst c4
  have H1 : (some false) = some r := by rw [if_neg (show ¬ (false = true) by decide)] at H; exact H
  clear H
  have H := H1
  clear H1
  obtain rfl := Option.some.inj H
  go_enter Try.func5, Try.ntmps5
  go_wp2_with (first | ((with_reducible refine gate_callee (f := 19) rfl ?_); refine goesL_ (some 10) rfl rfl Try.func19 (by kernel_rfl) rfl #[] rfl (by (try simp only [List.map_toArray, List.map_cons, List.map_nil]); first | done | rfl | (simp only [List.length_drop, List.length_take]; rfl)) ?_; (with_reducible refine (regcertlaw06_awake.calls  false _ A3.out).mono ?_); rintro e w42 ⟨rfl, hb⟩; refine ⟨_, rfl, ?_⟩; have n0_ := As0 (below_step (by repeat (first | (with_reducible first | exact HB.out | apply below_alloc | apply bdN | apply bd1) | exact HB.out)) hb); clear HB; have HB := n0_; clear n0_; (try clear hb); (try clear hb2); (try clear hk); (try clear hi)))
  go_ret
  exact ⟨by first | rfl | (simp [errW_none, errW_some] <;> rfl) | (simp [*, errW_none, errW_some] <;> rfl), by repeat (first | (with_reducible first | exact HB.out | apply below_alloc | apply bdN | apply bd1) | exact HB.out)⟩

end Go.Proofs.Ytgkmagfajalnhaa.X
