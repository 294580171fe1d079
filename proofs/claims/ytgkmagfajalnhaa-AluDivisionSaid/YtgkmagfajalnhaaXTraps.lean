/-
  alu.Traps, by hand: it tells division and remainder. No condition.
-/
import Derived.Test.YtgkmagfajalnhaaXAlu
namespace Go.Proofs.Ytgkmagfajalnhaa.X
open Go.RowKit Go.Proofs.YtgkmagfajalnhaaW.PrintWords Go.Proofs.YtgkmagfajalnhaaW.PrintLast Go.Proofs.YtgkmagfajalnhaaW.PrintMore
set_option linter.unusedVariables false
set_option linter.unusedSimpArgs false

set_option maxRecDepth 100000 in
theorem traps5 (w : World) : Calls Try.prog 23 #[.int .i64 5] w fun e w' => e = .returned (.bool false) ∧ Below w.heap.size w w' := by
  have hu := Try.underlying88
  have HB := Aside0.mk (Below.refl w.heap.size w)
  go_enter Try.func23, Try.ntmps23
  go_wp2_with (first | (go_at_call 58; refine (operation5 _).mono ?_; rintro e w1 ⟨rfl, hb⟩; have HB2 := Aside0.mk (below_step HB.out hb); clear hb))
  go_ret
  exact ⟨rfl, by repeat (first | exact HB2.out | apply below_alloc)⟩

set_option maxRecDepth 100000 in
theorem traps6 (w : World) : Calls Try.prog 23 #[.int .i64 6] w fun e w' => e = .returned (.bool false) ∧ Below w.heap.size w w' := by
  have hu := Try.underlying88
  have HB := Aside0.mk (Below.refl w.heap.size w)
  go_enter Try.func23, Try.ntmps23
  go_wp2_with (first | (go_at_call 58; refine (operation6 _).mono ?_; rintro e w1 ⟨rfl, hb⟩; have HB2 := Aside0.mk (below_step HB.out hb); clear hb))
  go_ret
  exact ⟨rfl, by repeat (first | exact HB2.out | apply below_alloc)⟩

set_option maxRecDepth 100000 in
theorem traps7 (w : World) : Calls Try.prog 23 #[.int .i64 7] w fun e w' => e = .returned (.bool false) ∧ Below w.heap.size w w' := by
  have hu := Try.underlying88
  have HB := Aside0.mk (Below.refl w.heap.size w)
  go_enter Try.func23, Try.ntmps23
  go_wp2_with (first | (go_at_call 58; refine (operation7 _).mono ?_; rintro e w1 ⟨rfl, hb⟩; have HB2 := Aside0.mk (below_step HB.out hb); clear hb))
  go_ret
  exact ⟨rfl, by repeat (first | exact HB2.out | apply below_alloc)⟩

set_option maxRecDepth 100000 in
theorem traps8 (w : World) : Calls Try.prog 23 #[.int .i64 8] w fun e w' => e = .returned (.bool true) ∧ Below w.heap.size w w' := by
  have hu := Try.underlying88
  have HB := Aside0.mk (Below.refl w.heap.size w)
  go_enter Try.func23, Try.ntmps23
  go_wp2_with (first | (go_at_call 58; refine (operation8 _).mono ?_; rintro e w1 ⟨rfl, hb⟩; have HB2 := Aside0.mk (below_step HB.out hb); clear hb))
  go_ret
  exact ⟨rfl, by repeat (first | exact HB2.out | apply below_alloc)⟩

set_option maxRecDepth 100000 in
theorem traps9 (w : World) : Calls Try.prog 23 #[.int .i64 9] w fun e w' => e = .returned (.bool true) ∧ Below w.heap.size w w' := by
  have hu := Try.underlying88
  have HB := Aside0.mk (Below.refl w.heap.size w)
  go_enter Try.func23, Try.ntmps23
  go_wp2_with (first | (go_at_call 58; refine (operation9 _).mono ?_; rintro e w1 ⟨rfl, hb⟩; have HB2 := Aside0.mk (below_step HB.out hb); clear hb))
  go_ret
  exact ⟨rfl, by repeat (first | exact HB2.out | apply below_alloc)⟩

set_option maxRecDepth 100000 in
theorem traps10 (w : World) : Calls Try.prog 23 #[.int .i64 10] w fun e w' => e = .returned (.bool false) ∧ Below w.heap.size w w' := by
  have hu := Try.underlying88
  have HB := Aside0.mk (Below.refl w.heap.size w)
  go_enter Try.func23, Try.ntmps23
  go_wp2_with (first | (go_at_call 58; refine (operation10 _).mono ?_; rintro e w1 ⟨rfl, hb⟩; have HB2 := Aside0.mk (below_step HB.out hb); clear hb))
  go_ret
  exact ⟨rfl, by repeat (first | exact HB2.out | apply below_alloc)⟩

set_option maxRecDepth 100000 in
theorem traps11 (w : World) : Calls Try.prog 23 #[.int .i64 11] w fun e w' => e = .returned (.bool false) ∧ Below w.heap.size w w' := by
  have hu := Try.underlying88
  have HB := Aside0.mk (Below.refl w.heap.size w)
  go_enter Try.func23, Try.ntmps23
  go_wp2_with (first | (go_at_call 58; refine (operation11 _).mono ?_; rintro e w1 ⟨rfl, hb⟩; have HB2 := Aside0.mk (below_step HB.out hb); clear hb))
  go_ret
  exact ⟨rfl, by repeat (first | exact HB2.out | apply below_alloc)⟩

set_option maxRecDepth 100000 in
theorem traps12 (w : World) : Calls Try.prog 23 #[.int .i64 12] w fun e w' => e = .returned (.bool false) ∧ Below w.heap.size w w' := by
  have hu := Try.underlying88
  have HB := Aside0.mk (Below.refl w.heap.size w)
  go_enter Try.func23, Try.ntmps23
  go_wp2_with (first | (go_at_call 58; refine (operation12 _).mono ?_; rintro e w1 ⟨rfl, hb⟩; have HB2 := Aside0.mk (below_step HB.out hb); clear hb))
  go_ret
  exact ⟨rfl, by repeat (first | exact HB2.out | apply below_alloc)⟩

set_option maxRecDepth 100000 in
theorem traps13 (w : World) : Calls Try.prog 23 #[.int .i64 13] w fun e w' => e = .returned (.bool false) ∧ Below w.heap.size w w' := by
  have hu := Try.underlying88
  have HB := Aside0.mk (Below.refl w.heap.size w)
  go_enter Try.func23, Try.ntmps23
  go_wp2_with (first | (go_at_call 58; refine (operation13 _).mono ?_; rintro e w1 ⟨rfl, hb⟩; have HB2 := Aside0.mk (below_step HB.out hb); clear hb))
  go_ret
  exact ⟨rfl, by repeat (first | exact HB2.out | apply below_alloc)⟩

set_option maxRecDepth 100000 in
theorem traps14 (w : World) : Calls Try.prog 23 #[.int .i64 14] w fun e w' => e = .returned (.bool false) ∧ Below w.heap.size w w' := by
  have hu := Try.underlying88
  have HB := Aside0.mk (Below.refl w.heap.size w)
  go_enter Try.func23, Try.ntmps23
  go_wp2_with (first | (go_at_call 58; refine (operation14 _).mono ?_; rintro e w1 ⟨rfl, hb⟩; have HB2 := Aside0.mk (below_step HB.out hb); clear hb))
  go_ret
  exact ⟨rfl, by repeat (first | exact HB2.out | apply below_alloc)⟩

set_option maxRecDepth 100000 in
theorem traps15 (w : World) : Calls Try.prog 23 #[.int .i64 15] w fun e w' => e = .returned (.bool false) ∧ Below w.heap.size w w' := by
  have hu := Try.underlying88
  have HB := Aside0.mk (Below.refl w.heap.size w)
  go_enter Try.func23, Try.ntmps23
  go_wp2_with (first | (go_at_call 58; refine (operation15 _).mono ?_; rintro e w1 ⟨rfl, hb⟩; have HB2 := Aside0.mk (below_step HB.out hb); clear hb))
  go_ret
  exact ⟨rfl, by repeat (first | exact HB2.out | apply below_alloc)⟩

set_option maxRecDepth 100000 in
theorem traps16 (w : World) : Calls Try.prog 23 #[.int .i64 16] w fun e w' => e = .returned (.bool false) ∧ Below w.heap.size w w' := by
  have hu := Try.underlying88
  have HB := Aside0.mk (Below.refl w.heap.size w)
  go_enter Try.func23, Try.ntmps23
  go_wp2_with (first | (go_at_call 58; refine (operation16 _).mono ?_; rintro e w1 ⟨rfl, hb⟩; have HB2 := Aside0.mk (below_step HB.out hb); clear hb))
  go_ret
  exact ⟨rfl, by repeat (first | exact HB2.out | apply below_alloc)⟩

set_option maxRecDepth 100000 in
theorem traps_lo (n : Int) (w : World) (h : n < 5) : Calls Try.prog 23 #[.int .i64 n] w fun e w' => e = .returned (.bool false) ∧ Below w.heap.size w w' := by
  have hu := Try.underlying88
  have HB := Aside0.mk (Below.refl w.heap.size w)
  go_enter Try.func23, Try.ntmps23
  go_wp2_with (first | (go_at_call 58; refine (operation_lo _ _ h).mono ?_; rintro e w1 ⟨rfl, hb⟩; have HB2 := Aside0.mk (below_step HB.out hb); clear hb))
  go_ret
  exact ⟨rfl, by repeat (first | exact HB2.out | apply below_alloc)⟩

set_option maxRecDepth 100000 in
theorem traps_hi (n : Int) (w : World) (h0 : ¬ n < 5) (h : n ≥ 17) : Calls Try.prog 23 #[.int .i64 n] w fun e w' => e = .returned (.bool false) ∧ Below w.heap.size w w' := by
  have hu := Try.underlying88
  have HB := Aside0.mk (Below.refl w.heap.size w)
  go_enter Try.func23, Try.ntmps23
  go_wp2_with (first | (go_at_call 58; refine (operation_hi _ _ h0 h).mono ?_; rintro e w1 ⟨rfl, hb⟩; have HB2 := Aside0.mk (below_step HB.out hb); clear hb))
  go_ret
  exact ⟨rfl, by repeat (first | exact HB2.out | apply below_alloc)⟩

def alu_Traps.f (a0 : Int) : Option Bool := some (a0 == 8 || a0 == 9)
theorem alu_Traps.calls (a0 : Int) (r : Bool) (w : World) (h : alu_Traps.f a0 = some r) :
    Calls Try.prog 23 #[.int .i64 a0] w fun e w' => e = .returned (.bool r) ∧ Below w.heap.size w w' := by
  replace h := Option.some.inj h
  by_cases c5 : a0 = 5
  · subst c5
    obtain rfl : r = false := by rw [← h]; rfl
    exact traps5 w
  by_cases c6 : a0 = 6
  · subst c6
    obtain rfl : r = false := by rw [← h]; rfl
    exact traps6 w
  by_cases c7 : a0 = 7
  · subst c7
    obtain rfl : r = false := by rw [← h]; rfl
    exact traps7 w
  by_cases c8 : a0 = 8
  · subst c8
    obtain rfl : r = true := by rw [← h]; rfl
    exact traps8 w
  by_cases c9 : a0 = 9
  · subst c9
    obtain rfl : r = true := by rw [← h]; rfl
    exact traps9 w
  by_cases c10 : a0 = 10
  · subst c10
    obtain rfl : r = false := by rw [← h]; rfl
    exact traps10 w
  by_cases c11 : a0 = 11
  · subst c11
    obtain rfl : r = false := by rw [← h]; rfl
    exact traps11 w
  by_cases c12 : a0 = 12
  · subst c12
    obtain rfl : r = false := by rw [← h]; rfl
    exact traps12 w
  by_cases c13 : a0 = 13
  · subst c13
    obtain rfl : r = false := by rw [← h]; rfl
    exact traps13 w
  by_cases c14 : a0 = 14
  · subst c14
    obtain rfl : r = false := by rw [← h]; rfl
    exact traps14 w
  by_cases c15 : a0 = 15
  · subst c15
    obtain rfl : r = false := by rw [← h]; rfl
    exact traps15 w
  by_cases c16 : a0 = 16
  · subst c16
    obtain rfl : r = false := by rw [← h]; rfl
    exact traps16 w
  obtain rfl : r = false := by rw [← h]; simp [c8, c9]
  by_cases q : a0 < 5
  · exact traps_lo a0 w q
  · exact traps_hi a0 w q (by omega)
end Go.Proofs.Ytgkmagfajalnhaa.X
