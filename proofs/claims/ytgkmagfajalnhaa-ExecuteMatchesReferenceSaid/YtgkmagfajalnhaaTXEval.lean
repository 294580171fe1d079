/-
  The operations of alu's table and alu.Eval, by hand: what they answer, as plain functions. No condition.
-/
import Derived.Test.YtgkmagfajalnhaaTXAlu
namespace Go.Proofs.Ytgkmagfajalnhaa.X
open Go.RowKit Go.Proofs.YtgkmagfajalnhaaW.PrintWords Go.Proofs.YtgkmagfajalnhaaW.PrintLast Go.Proofs.YtgkmagfajalnhaaW.PrintMore
set_option linter.unusedVariables false
set_option linter.unusedSimpArgs false

theorem lam5 (a b : Int) (w : World) : Calls Try.prog 74 #[.int .i64 a, .int .i64 b] w fun e w' => e = .returned (.int .i64 (wrap64 (a + b))) ∧ w = w' := by
  go_enter Try.func74, Try.ntmps74
  go_wp2
  go_ret
  exact ⟨rfl, rfl⟩

theorem lam6 (a b : Int) (w : World) : Calls Try.prog 75 #[.int .i64 a, .int .i64 b] w fun e w' => e = .returned (.int .i64 (wrap64 (a - b))) ∧ w = w' := by
  go_enter Try.func75, Try.ntmps75
  go_wp2
  go_ret
  exact ⟨rfl, rfl⟩

theorem lam7 (a b : Int) (w : World) : Calls Try.prog 76 #[.int .i64 a, .int .i64 b] w fun e w' => e = .returned (.int .i64 (wrap64 (a * b))) ∧ w = w' := by
  go_enter Try.func76, Try.ntmps76
  go_wp2
  go_ret
  exact ⟨rfl, rfl⟩

theorem lam8 (a b : Int) (w : World) (h0 : ¬ b = 0) : Calls Try.prog 77 #[.int .i64 a, .int .i64 b] w fun e w' => e = .returned (.int .i64 (wrap64 (a.tdiv b))) ∧ w = w' := by
  go_enter Try.func77, Try.ntmps77
  go_wp2
  go_ret
  exact ⟨rfl, rfl⟩

theorem lam9 (a b : Int) (w : World) (h0 : ¬ b = 0) : Calls Try.prog 78 #[.int .i64 a, .int .i64 b] w fun e w' => e = .returned (.int .i64 (a.tmod b)) ∧ w = w' := by
  go_enter Try.func78, Try.ntmps78
  go_wp2
  go_ret
  exact ⟨rfl, rfl⟩

theorem lam10 (a b : Int) (w : World) : Calls Try.prog 79 #[.int .i64 a, .int .i64 b] w fun e w' => e = .returned (.int .i64 (Go.bits .and .i64 a b)) ∧ w = w' := by
  go_enter Try.func79, Try.ntmps79
  go_wp2
  go_ret
  exact ⟨rfl, rfl⟩

theorem lam11 (a b : Int) (w : World) : Calls Try.prog 80 #[.int .i64 a, .int .i64 b] w fun e w' => e = .returned (.int .i64 (Go.bits .or .i64 a b)) ∧ w = w' := by
  go_enter Try.func80, Try.ntmps80
  go_wp2
  go_ret
  exact ⟨rfl, rfl⟩

theorem lam12 (a b : Int) (w : World) : Calls Try.prog 81 #[.int .i64 a, .int .i64 b] w fun e w' => e = .returned (.int .i64 (Go.bits .xor .i64 a b)) ∧ w = w' := by
  go_enter Try.func81, Try.ntmps81
  go_wp2
  go_ret
  exact ⟨rfl, rfl⟩

theorem lam13 (a b : Int) (w : World) : Calls Try.prog 82 #[.int .i64 a, .int .i64 b] w fun e w' => e = .returned (.int .i64 (wrap64 (a * 2 ^ min (IntKind.u64.wrap (Go.bits .and .i64 b 63)).toNat 64))) ∧ w = w' := by
  go_enter Try.func82, Try.ntmps82
  go_wp2
  go_ret
  exact ⟨rfl, rfl⟩

theorem lam14 (a b : Int) (w : World) : Calls Try.prog 83 #[.int .i64 a, .int .i64 b] w fun e w' => e = .returned (.int .i64 (a / 2 ^ min (IntKind.u64.wrap (Go.bits .and .i64 b 63)).toNat 64)) ∧ w = w' := by
  go_enter Try.func83, Try.ntmps83
  go_wp2
  go_ret
  exact ⟨rfl, rfl⟩

theorem lam15 (a b : Int) (w : World) : Calls Try.prog 84 #[.int .i64 a, .int .i64 b] w fun e w' => e = .returned (.int .i64 (if a = b then 1 else 0)) ∧ w = w' := by
  by_cases h : a = b
  · rw [if_pos h]
    have hb : (a == b) = true := beq_iff_eq.mpr h
    clear h
    go_enter Try.func84, Try.ntmps84
    go_wp2
    go_ret
    exact ⟨rfl, rfl⟩
  · rw [if_neg h]
    have hb : (a == b) = false := beq_eq_false_iff_ne.mpr h
    clear h
    go_enter Try.func84, Try.ntmps84
    go_wp2
    go_ret
    exact ⟨rfl, rfl⟩

theorem lam16 (a b : Int) (w : World) : Calls Try.prog 86 #[.int .i64 a, .int .i64 b] w fun e w' => e = .returned (.int .i64 (if a < b then 1 else 0)) ∧ w = w' := by
  by_cases h : a < b
  · rw [if_pos h]
    have hb : decide (a < b) = true := decide_eq_true h
    clear h
    go_enter Try.func86, Try.ntmps86
    go_wp2
    go_ret
    exact ⟨rfl, rfl⟩
  · rw [if_neg h]
    have hb : decide (a < b) = false := decide_eq_false h
    clear h
    go_enter Try.func86, Try.ntmps86
    go_wp2
    go_ret
    exact ⟨rfl, rfl⟩

set_option maxRecDepth 100000 in
set_option maxHeartbeats 1000000 in
theorem eval5 (a b imm : Int) (w : World) : Calls Try.prog 20 #[.int .i64 5, .int .i64 a, .int .i64 b, .int .i64 imm] w fun e w' => e = .returned (.tuple #[.int .i64 (wrap64 (a + b)), .bool true]) ∧ Below w.heap.size w w' := by
  have hu := Try.underlying88
  have HB := Aside0.mk (Below.refl w.heap.size w)
  go_enter Try.func20, Try.ntmps20
  go_wp2_with (first | (go_at_call 58; refine (operation5 _).mono ?_; rintro e w1 ⟨rfl, hb⟩; have HB2 := Aside0.mk (below_step HB.out hb); clear hb) | (go_at_call 74; refine (lam5 _ _ _).mono ?_; rintro e w2 ⟨rfl, rfl⟩))
  all_goals go_ret2
  all_goals exact ⟨rfl, by repeat (first | exact HB2.out | apply below_alloc)⟩

set_option maxRecDepth 100000 in
set_option maxHeartbeats 1000000 in
theorem eval6 (a b imm : Int) (w : World) : Calls Try.prog 20 #[.int .i64 6, .int .i64 a, .int .i64 b, .int .i64 imm] w fun e w' => e = .returned (.tuple #[.int .i64 (wrap64 (a - b)), .bool true]) ∧ Below w.heap.size w w' := by
  have hu := Try.underlying88
  have HB := Aside0.mk (Below.refl w.heap.size w)
  go_enter Try.func20, Try.ntmps20
  go_wp2_with (first | (go_at_call 58; refine (operation6 _).mono ?_; rintro e w1 ⟨rfl, hb⟩; have HB2 := Aside0.mk (below_step HB.out hb); clear hb) | (go_at_call 75; refine (lam6 _ _ _).mono ?_; rintro e w2 ⟨rfl, rfl⟩))
  all_goals go_ret2
  all_goals exact ⟨rfl, by repeat (first | exact HB2.out | apply below_alloc)⟩

set_option maxRecDepth 100000 in
set_option maxHeartbeats 1000000 in
theorem eval7 (a b imm : Int) (w : World) : Calls Try.prog 20 #[.int .i64 7, .int .i64 a, .int .i64 b, .int .i64 imm] w fun e w' => e = .returned (.tuple #[.int .i64 (wrap64 (a * b)), .bool true]) ∧ Below w.heap.size w w' := by
  have hu := Try.underlying88
  have HB := Aside0.mk (Below.refl w.heap.size w)
  go_enter Try.func20, Try.ntmps20
  go_wp2_with (first | (go_at_call 58; refine (operation7 _).mono ?_; rintro e w1 ⟨rfl, hb⟩; have HB2 := Aside0.mk (below_step HB.out hb); clear hb) | (go_at_call 76; refine (lam7 _ _ _).mono ?_; rintro e w2 ⟨rfl, rfl⟩))
  all_goals go_ret2
  all_goals exact ⟨rfl, by repeat (first | exact HB2.out | apply below_alloc)⟩

set_option maxRecDepth 100000 in
set_option maxHeartbeats 1000000 in
theorem eval8 (a b imm : Int) (w : World) (h0 : ¬ b = 0) : Calls Try.prog 20 #[.int .i64 8, .int .i64 a, .int .i64 b, .int .i64 imm] w fun e w' => e = .returned (.tuple #[.int .i64 (wrap64 (a.tdiv b)), .bool true]) ∧ Below w.heap.size w w' := by
  have hu := Try.underlying88
  have HB := Aside0.mk (Below.refl w.heap.size w)
  go_enter Try.func20, Try.ntmps20
  go_wp2_with (first | (go_at_call 58; refine (operation8 _).mono ?_; rintro e w1 ⟨rfl, hb⟩; have HB2 := Aside0.mk (below_step HB.out hb); clear hb) | (go_at_call 77; refine (lam8 _ _ _ h0).mono ?_; rintro e w2 ⟨rfl, rfl⟩))
  all_goals go_ret2
  all_goals exact ⟨rfl, by repeat (first | exact HB2.out | apply below_alloc)⟩

set_option maxRecDepth 100000 in
set_option maxHeartbeats 1000000 in
theorem eval9 (a b imm : Int) (w : World) (h0 : ¬ b = 0) : Calls Try.prog 20 #[.int .i64 9, .int .i64 a, .int .i64 b, .int .i64 imm] w fun e w' => e = .returned (.tuple #[.int .i64 (a.tmod b), .bool true]) ∧ Below w.heap.size w w' := by
  have hu := Try.underlying88
  have HB := Aside0.mk (Below.refl w.heap.size w)
  go_enter Try.func20, Try.ntmps20
  go_wp2_with (first | (go_at_call 58; refine (operation9 _).mono ?_; rintro e w1 ⟨rfl, hb⟩; have HB2 := Aside0.mk (below_step HB.out hb); clear hb) | (go_at_call 78; refine (lam9 _ _ _ h0).mono ?_; rintro e w2 ⟨rfl, rfl⟩))
  all_goals go_ret2
  all_goals exact ⟨rfl, by repeat (first | exact HB2.out | apply below_alloc)⟩

set_option maxRecDepth 100000 in
set_option maxHeartbeats 1000000 in
theorem eval10 (a b imm : Int) (w : World) : Calls Try.prog 20 #[.int .i64 10, .int .i64 a, .int .i64 b, .int .i64 imm] w fun e w' => e = .returned (.tuple #[.int .i64 (Go.bits .and .i64 a b), .bool true]) ∧ Below w.heap.size w w' := by
  have hu := Try.underlying88
  have HB := Aside0.mk (Below.refl w.heap.size w)
  go_enter Try.func20, Try.ntmps20
  go_wp2_with (first | (go_at_call 58; refine (operation10 _).mono ?_; rintro e w1 ⟨rfl, hb⟩; have HB2 := Aside0.mk (below_step HB.out hb); clear hb) | (go_at_call 79; refine (lam10 _ _ _).mono ?_; rintro e w2 ⟨rfl, rfl⟩))
  all_goals go_ret2
  all_goals exact ⟨rfl, by repeat (first | exact HB2.out | apply below_alloc)⟩

set_option maxRecDepth 100000 in
set_option maxHeartbeats 1000000 in
theorem eval11 (a b imm : Int) (w : World) : Calls Try.prog 20 #[.int .i64 11, .int .i64 a, .int .i64 b, .int .i64 imm] w fun e w' => e = .returned (.tuple #[.int .i64 (Go.bits .or .i64 a b), .bool true]) ∧ Below w.heap.size w w' := by
  have hu := Try.underlying88
  have HB := Aside0.mk (Below.refl w.heap.size w)
  go_enter Try.func20, Try.ntmps20
  go_wp2_with (first | (go_at_call 58; refine (operation11 _).mono ?_; rintro e w1 ⟨rfl, hb⟩; have HB2 := Aside0.mk (below_step HB.out hb); clear hb) | (go_at_call 80; refine (lam11 _ _ _).mono ?_; rintro e w2 ⟨rfl, rfl⟩))
  all_goals go_ret2
  all_goals exact ⟨rfl, by repeat (first | exact HB2.out | apply below_alloc)⟩

set_option maxRecDepth 100000 in
set_option maxHeartbeats 1000000 in
theorem eval12 (a b imm : Int) (w : World) : Calls Try.prog 20 #[.int .i64 12, .int .i64 a, .int .i64 b, .int .i64 imm] w fun e w' => e = .returned (.tuple #[.int .i64 (Go.bits .xor .i64 a b), .bool true]) ∧ Below w.heap.size w w' := by
  have hu := Try.underlying88
  have HB := Aside0.mk (Below.refl w.heap.size w)
  go_enter Try.func20, Try.ntmps20
  go_wp2_with (first | (go_at_call 58; refine (operation12 _).mono ?_; rintro e w1 ⟨rfl, hb⟩; have HB2 := Aside0.mk (below_step HB.out hb); clear hb) | (go_at_call 81; refine (lam12 _ _ _).mono ?_; rintro e w2 ⟨rfl, rfl⟩))
  all_goals go_ret2
  all_goals exact ⟨rfl, by repeat (first | exact HB2.out | apply below_alloc)⟩

set_option maxRecDepth 100000 in
set_option maxHeartbeats 1000000 in
theorem eval13 (a b imm : Int) (w : World) : Calls Try.prog 20 #[.int .i64 13, .int .i64 a, .int .i64 b, .int .i64 imm] w fun e w' => e = .returned (.tuple #[.int .i64 (wrap64 (a * 2 ^ min (IntKind.u64.wrap (Go.bits .and .i64 b 63)).toNat 64)), .bool true]) ∧ Below w.heap.size w w' := by
  have hu := Try.underlying88
  have HB := Aside0.mk (Below.refl w.heap.size w)
  go_enter Try.func20, Try.ntmps20
  go_wp2_with (first | (go_at_call 58; refine (operation13 _).mono ?_; rintro e w1 ⟨rfl, hb⟩; have HB2 := Aside0.mk (below_step HB.out hb); clear hb) | (go_at_call 82; refine (lam13 _ _ _).mono ?_; rintro e w2 ⟨rfl, rfl⟩))
  all_goals go_ret2
  all_goals exact ⟨rfl, by repeat (first | exact HB2.out | apply below_alloc)⟩

set_option maxRecDepth 100000 in
set_option maxHeartbeats 1000000 in
theorem eval14 (a b imm : Int) (w : World) : Calls Try.prog 20 #[.int .i64 14, .int .i64 a, .int .i64 b, .int .i64 imm] w fun e w' => e = .returned (.tuple #[.int .i64 (a / 2 ^ min (IntKind.u64.wrap (Go.bits .and .i64 b 63)).toNat 64), .bool true]) ∧ Below w.heap.size w w' := by
  have hu := Try.underlying88
  have HB := Aside0.mk (Below.refl w.heap.size w)
  go_enter Try.func20, Try.ntmps20
  go_wp2_with (first | (go_at_call 58; refine (operation14 _).mono ?_; rintro e w1 ⟨rfl, hb⟩; have HB2 := Aside0.mk (below_step HB.out hb); clear hb) | (go_at_call 83; refine (lam14 _ _ _).mono ?_; rintro e w2 ⟨rfl, rfl⟩))
  all_goals go_ret2
  all_goals exact ⟨rfl, by repeat (first | exact HB2.out | apply below_alloc)⟩

set_option maxRecDepth 100000 in
set_option maxHeartbeats 1000000 in
theorem eval15 (a b imm : Int) (w : World) : Calls Try.prog 20 #[.int .i64 15, .int .i64 a, .int .i64 b, .int .i64 imm] w fun e w' => e = .returned (.tuple #[.int .i64 (if a = b then 1 else 0), .bool true]) ∧ Below w.heap.size w w' := by
  have hu := Try.underlying88
  have HB := Aside0.mk (Below.refl w.heap.size w)
  go_enter Try.func20, Try.ntmps20
  go_wp2_with (first | (go_at_call 58; refine (operation15 _).mono ?_; rintro e w1 ⟨rfl, hb⟩; have HB2 := Aside0.mk (below_step HB.out hb); clear hb) | (go_at_call 84; refine (lam15 _ _ _).mono ?_; rintro e w2 ⟨rfl, rfl⟩))
  all_goals go_ret2
  all_goals exact ⟨rfl, by repeat (first | exact HB2.out | apply below_alloc)⟩

set_option maxRecDepth 100000 in
set_option maxHeartbeats 1000000 in
theorem eval16 (a b imm : Int) (w : World) : Calls Try.prog 20 #[.int .i64 16, .int .i64 a, .int .i64 b, .int .i64 imm] w fun e w' => e = .returned (.tuple #[.int .i64 (if a < b then 1 else 0), .bool true]) ∧ Below w.heap.size w w' := by
  have hu := Try.underlying88
  have HB := Aside0.mk (Below.refl w.heap.size w)
  go_enter Try.func20, Try.ntmps20
  go_wp2_with (first | (go_at_call 58; refine (operation16 _).mono ?_; rintro e w1 ⟨rfl, hb⟩; have HB2 := Aside0.mk (below_step HB.out hb); clear hb) | (go_at_call 86; refine (lam16 _ _ _).mono ?_; rintro e w2 ⟨rfl, rfl⟩))
  all_goals go_ret2
  all_goals exact ⟨rfl, by repeat (first | exact HB2.out | apply below_alloc)⟩

set_option maxRecDepth 100000 in
set_option maxHeartbeats 1000000 in
theorem eval8z (a imm : Int) (w : World) : Calls Try.prog 20 #[.int .i64 8, .int .i64 a, .int .i64 0, .int .i64 imm] w fun e w' => e = .returned (.tuple #[.int .i64 0, .bool false]) ∧ Below w.heap.size w w' := by
  have hu := Try.underlying88
  have HB := Aside0.mk (Below.refl w.heap.size w)
  go_enter Try.func20, Try.ntmps20
  go_wp2_with (first | (go_at_call 58; refine (operation8 _).mono ?_; rintro e w1 ⟨rfl, hb⟩; have HB2 := Aside0.mk (below_step HB.out hb); clear hb))
  all_goals go_ret2
  all_goals exact ⟨rfl, by repeat (first | exact HB2.out | apply below_alloc)⟩

set_option maxRecDepth 100000 in
set_option maxHeartbeats 1000000 in
theorem eval9z (a imm : Int) (w : World) : Calls Try.prog 20 #[.int .i64 9, .int .i64 a, .int .i64 0, .int .i64 imm] w fun e w' => e = .returned (.tuple #[.int .i64 0, .bool false]) ∧ Below w.heap.size w w' := by
  have hu := Try.underlying88
  have HB := Aside0.mk (Below.refl w.heap.size w)
  go_enter Try.func20, Try.ntmps20
  go_wp2_with (first | (go_at_call 58; refine (operation9 _).mono ?_; rintro e w1 ⟨rfl, hb⟩; have HB2 := Aside0.mk (below_step HB.out hb); clear hb))
  all_goals go_ret2
  all_goals exact ⟨rfl, by repeat (first | exact HB2.out | apply below_alloc)⟩

set_option maxRecDepth 100000 in
set_option maxHeartbeats 1000000 in
theorem eval1 (a b imm : Int) (w : World) : Calls Try.prog 20 #[.int .i64 1, .int .i64 a, .int .i64 b, .int .i64 imm] w fun e w' => e = .returned (.tuple #[.int .i64 (imm), .bool true]) ∧ Below w.heap.size w w' := by
  go_enter Try.func20, Try.ntmps20
  go_wp2
  all_goals go_ret2
  exact ⟨rfl, Below.refl _ _⟩

set_option maxRecDepth 100000 in
set_option maxHeartbeats 1000000 in
theorem eval2 (a b imm : Int) (w : World) : Calls Try.prog 20 #[.int .i64 2, .int .i64 a, .int .i64 b, .int .i64 imm] w fun e w' => e = .returned (.tuple #[.int .i64 (a), .bool true]) ∧ Below w.heap.size w w' := by
  go_enter Try.func20, Try.ntmps20
  go_wp2
  all_goals go_ret2
  exact ⟨rfl, Below.refl _ _⟩

set_option maxRecDepth 100000 in
set_option maxHeartbeats 1000000 in
theorem eval3 (a b imm : Int) (w : World) : Calls Try.prog 20 #[.int .i64 3, .int .i64 a, .int .i64 b, .int .i64 imm] w fun e w' => e = .returned (.tuple #[.int .i64 (wrap64 (-a)), .bool true]) ∧ Below w.heap.size w w' := by
  go_enter Try.func20, Try.ntmps20
  go_wp2
  all_goals go_ret2
  exact ⟨rfl, Below.refl _ _⟩

set_option maxRecDepth 100000 in
set_option maxHeartbeats 1000000 in
theorem eval4 (a b imm : Int) (w : World) : Calls Try.prog 20 #[.int .i64 4, .int .i64 a, .int .i64 b, .int .i64 imm] w fun e w' => e = .returned (.tuple #[.int .i64 (Go.bits .xor .i64 (-1) a), .bool true]) ∧ Below w.heap.size w w' := by
  go_enter Try.func20, Try.ntmps20
  go_wp2
  all_goals go_ret2
  exact ⟨rfl, Below.refl _ _⟩

set_option maxRecDepth 100000 in
set_option maxHeartbeats 1000000 in
theorem eval_lo (n a b imm : Int) (w : World) (h1 : (n == 1) = false) (h2 : (n == 2) = false) (h3 : (n == 3) = false) (h4 : (n == 4) = false) (h : n < 5) : Calls Try.prog 20 #[.int .i64 n, .int .i64 a, .int .i64 b, .int .i64 imm] w fun e w' => e = .returned (.tuple #[.int .i64 0, .bool false]) ∧ Below w.heap.size w w' := by
  have hu := Try.underlying88
  have HB := Aside0.mk (Below.refl w.heap.size w)
  go_enter Try.func20, Try.ntmps20
  go_wp2_with (first | (go_at_call 58; refine (operation_lo _ _ h).mono ?_; rintro e w1 ⟨rfl, hb⟩; have HB2 := Aside0.mk (below_step HB.out hb); clear hb))
  all_goals go_ret2
  all_goals exact ⟨rfl, by repeat (first | exact HB2.out | apply below_alloc)⟩

set_option maxRecDepth 100000 in
set_option maxHeartbeats 1000000 in
theorem eval_hi (n a b imm : Int) (w : World) (h1 : (n == 1) = false) (h2 : (n == 2) = false) (h3 : (n == 3) = false) (h4 : (n == 4) = false) (h0 : ¬ n < 5) (h : n ≥ 17) : Calls Try.prog 20 #[.int .i64 n, .int .i64 a, .int .i64 b, .int .i64 imm] w fun e w' => e = .returned (.tuple #[.int .i64 0, .bool false]) ∧ Below w.heap.size w w' := by
  have hu := Try.underlying88
  have HB := Aside0.mk (Below.refl w.heap.size w)
  go_enter Try.func20, Try.ntmps20
  go_wp2_with (first | (go_at_call 58; refine (operation_hi _ _ h0 h).mono ?_; rintro e w1 ⟨rfl, hb⟩; have HB2 := Aside0.mk (below_step HB.out hb); clear hb))
  all_goals go_ret2
  all_goals exact ⟨rfl, by repeat (first | exact HB2.out | apply below_alloc)⟩

/-- What alu.Eval answers. -/
def aluEval (n a b imm : Int) : Int × Bool :=
  if n = 1 then (imm, true) else if n = 2 then (a, true) else if n = 3 then (wrap64 (-a), true) else if n = 4 then (Go.bits .xor .i64 (-1) a, true)
  else if n = 5 then (wrap64 (a + b), true)
  else if n = 6 then (wrap64 (a - b), true)
  else if n = 7 then (wrap64 (a * b), true)
  else if n = 8 then if b = 0 then (0, false) else (wrap64 (a.tdiv b), true)
  else if n = 9 then if b = 0 then (0, false) else (a.tmod b, true)
  else if n = 10 then (Go.bits .and .i64 a b, true)
  else if n = 11 then (Go.bits .or .i64 a b, true)
  else if n = 12 then (Go.bits .xor .i64 a b, true)
  else if n = 13 then (wrap64 (a * 2 ^ min (IntKind.u64.wrap (Go.bits .and .i64 b 63)).toNat 64), true)
  else if n = 14 then (a / 2 ^ min (IntKind.u64.wrap (Go.bits .and .i64 b 63)).toNat 64, true)
  else if n = 15 then (if a = b then 1 else 0, true)
  else if n = 16 then (if a < b then 1 else 0, true)
  else (0, false)
def alu_Eval.f (a0 a1 a2 a3 : Int) : Option (Int × Bool) := some (aluEval a0 a1 a2 a3)
theorem alu_Eval.calls (a0 : Int) (a1 : Int) (a2 : Int) (a3 : Int) (r1 : Int) (r2 : Bool) (w : World) (h : alu_Eval.f a0 a1 a2 a3 = some (r1, r2)) :
    Calls Try.prog 20 #[.int .i64 a0, .int .i64 a1, .int .i64 a2, .int .i64 a3] w fun e w' => e = .returned (.tuple #[.int .i64 r1, .bool r2]) ∧ Below w.heap.size w w' := by
  replace h := Option.some.inj h
  unfold aluEval at h
  by_cases c1 : a0 = 1
  · rw [if_pos c1] at h
    subst c1
    obtain ⟨rfl, rfl⟩ := Prod.mk.inj h
    exact eval1 a1 a2 a3 w
  rw [if_neg c1] at h
  by_cases c2 : a0 = 2
  · rw [if_pos c2] at h
    subst c2
    obtain ⟨rfl, rfl⟩ := Prod.mk.inj h
    exact eval2 a1 a2 a3 w
  rw [if_neg c2] at h
  by_cases c3 : a0 = 3
  · rw [if_pos c3] at h
    subst c3
    obtain ⟨rfl, rfl⟩ := Prod.mk.inj h
    exact eval3 a1 a2 a3 w
  rw [if_neg c3] at h
  by_cases c4 : a0 = 4
  · rw [if_pos c4] at h
    subst c4
    obtain ⟨rfl, rfl⟩ := Prod.mk.inj h
    exact eval4 a1 a2 a3 w
  rw [if_neg c4] at h
  by_cases c5 : a0 = 5
  · rw [if_pos c5] at h
    subst c5
    obtain ⟨rfl, rfl⟩ := Prod.mk.inj h
    exact eval5 a1 a2 a3 w
  rw [if_neg c5] at h
  by_cases c6 : a0 = 6
  · rw [if_pos c6] at h
    subst c6
    obtain ⟨rfl, rfl⟩ := Prod.mk.inj h
    exact eval6 a1 a2 a3 w
  rw [if_neg c6] at h
  by_cases c7 : a0 = 7
  · rw [if_pos c7] at h
    subst c7
    obtain ⟨rfl, rfl⟩ := Prod.mk.inj h
    exact eval7 a1 a2 a3 w
  rw [if_neg c7] at h
  by_cases c8 : a0 = 8
  · rw [if_pos c8] at h
    subst c8
    by_cases z : a2 = 0
    · rw [if_pos z] at h
      subst z
      obtain ⟨rfl, rfl⟩ := Prod.mk.inj h
      exact eval8z a1 a3 w
    · rw [if_neg z] at h
      obtain ⟨rfl, rfl⟩ := Prod.mk.inj h
      exact eval8 a1 a2 a3 w z
  rw [if_neg c8] at h
  by_cases c9 : a0 = 9
  · rw [if_pos c9] at h
    subst c9
    by_cases z : a2 = 0
    · rw [if_pos z] at h
      subst z
      obtain ⟨rfl, rfl⟩ := Prod.mk.inj h
      exact eval9z a1 a3 w
    · rw [if_neg z] at h
      obtain ⟨rfl, rfl⟩ := Prod.mk.inj h
      exact eval9 a1 a2 a3 w z
  rw [if_neg c9] at h
  by_cases c10 : a0 = 10
  · rw [if_pos c10] at h
    subst c10
    obtain ⟨rfl, rfl⟩ := Prod.mk.inj h
    exact eval10 a1 a2 a3 w
  rw [if_neg c10] at h
  by_cases c11 : a0 = 11
  · rw [if_pos c11] at h
    subst c11
    obtain ⟨rfl, rfl⟩ := Prod.mk.inj h
    exact eval11 a1 a2 a3 w
  rw [if_neg c11] at h
  by_cases c12 : a0 = 12
  · rw [if_pos c12] at h
    subst c12
    obtain ⟨rfl, rfl⟩ := Prod.mk.inj h
    exact eval12 a1 a2 a3 w
  rw [if_neg c12] at h
  by_cases c13 : a0 = 13
  · rw [if_pos c13] at h
    subst c13
    obtain ⟨rfl, rfl⟩ := Prod.mk.inj h
    exact eval13 a1 a2 a3 w
  rw [if_neg c13] at h
  by_cases c14 : a0 = 14
  · rw [if_pos c14] at h
    subst c14
    obtain ⟨rfl, rfl⟩ := Prod.mk.inj h
    exact eval14 a1 a2 a3 w
  rw [if_neg c14] at h
  by_cases c15 : a0 = 15
  · rw [if_pos c15] at h
    subst c15
    obtain ⟨rfl, rfl⟩ := Prod.mk.inj h
    exact eval15 a1 a2 a3 w
  rw [if_neg c15] at h
  by_cases c16 : a0 = 16
  · rw [if_pos c16] at h
    subst c16
    obtain ⟨rfl, rfl⟩ := Prod.mk.inj h
    exact eval16 a1 a2 a3 w
  rw [if_neg c16] at h
  obtain ⟨rfl, rfl⟩ := Prod.mk.inj h
  by_cases q : a0 < 5
  rotate_left
  ·exact eval_hi a0 a1 a2 a3 w (beq_eq_false_iff_ne.mpr c1) (beq_eq_false_iff_ne.mpr c2) (beq_eq_false_iff_ne.mpr c3) (beq_eq_false_iff_ne.mpr c4) q (by omega)
  exact eval_lo a0 a1 a2 a3 w (beq_eq_false_iff_ne.mpr c1) (beq_eq_false_iff_ne.mpr c2) (beq_eq_false_iff_ne.mpr c3) (beq_eq_false_iff_ne.mpr c4) q

end Go.Proofs.Ytgkmagfajalnhaa.X
