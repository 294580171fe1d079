/-
  The walk of an instruction.
-/
import Derived.Test.YtgkmagfajalnhaaTEMove
import Derived.Test.YtgkmagfajalnhaaTEEmit
import Derived.Test.YtgkmagfajalnhaaTEValue
namespace Go.Proofs.Ytgkmagfajalnhaa.E
open Go.RowKit Go.Proofs.YtgkmagfajalnhaaW.PrintWords Go.Proofs.YtgkmagfajalnhaaW.PrintLast Go.Proofs.YtgkmagfajalnhaaW.PrintMore
set_option linter.unusedVariables false
set_option linter.unusedSimpArgs false

set_option maxRecDepth 100000 in
set_option maxHeartbeats 4000000 in
theorem instr_move (w0 W : World) (g : Nat) (vR vT : Value) (s s1 : PS) (vS : Value) (fa fr fs : Int) (vB : Value) (id ia ib im ld ls : Int) 
    (hcall : ∀ W1, St w0 W1 g vR vT s vS fa fr fs vB → Calls Try.prog 97 #[.pointer (some ⟨g, 0, none⟩), .agg #[.int .i64 18, .int .i64 id, .int .i64 ia, .int .i64 ib, .int .i64 im, .int .i64 ld, .int .i64 ls]] W1 fun e W' => e = .returned (.bool true) ∧ ∃ vT1, St w0 W' g vR vT1 s1 vS fa fr fs vB)
    (HS : St w0 W g vR vT s vS fa fr fs vB) :
    Calls Try.prog 92 #[.pointer (some ⟨g, 0, none⟩), .agg #[.int .i64 18, .int .i64 id, .int .i64 ia, .int .i64 ib, .int .i64 im, .int .i64 ld, .int .i64 ls]] W fun e W' =>
      e = .returned (.tuple #[]) ∧ ∃ vT1, St w0 W' g vR vT1 { s1 with at_ := wrap64 (s1.at_ + 1), steps := wrap64 (s1.steps + 1) } vS fa fr fs vB := by
  have hu108 := Try.underlying108
  have hu39 := Try.underlying39
  have hu63 := Try.underlying63
  have hu61 := Try.underlying61
  have hu69 := Try.underlying69
  have hu67 := Try.underlying67
  have hu84 := Try.underlying84
  have hu48 := Try.underlying48
  have hu35 := Try.underlying35
  have HS0 := Aside0.mk HS
  clear HS
  go_enter Try.func92, Try.ntmps92
  go_wp2_with (first
    | ((with_reducible refine gate_dst (N := 3) rfl ?_); go_loud (refine St.box HS0 (N := 3) #[.int .i64 18, .int .i64 id, .int .i64 ia, .int .i64 ib, .int .i64 im, .int .i64 ld, .int .i64 ls] 84 (by decide) rfl rfl (by first | (go_simp; done) | (go_simp; rfl)) ?_); intro gt w1 HS1 HX HN; (have z0 := (blk_cell (Aside0.out HX) 0); have z1 := (blk_cell (Aside0.out HX) 1); have z2 := (blk_cell (Aside0.out HX) 2); have z3 := (blk_cell (Aside0.out HX) 3); have z4 := (blk_cell (Aside0.out HX) 4); have z5 := (blk_cell (Aside0.out HX) 5); have z6 := (blk_cell (Aside0.out HX) 6); simp only [List.getElem?_toArray, List.getElem?_cons_zero, List.getElem?_cons_succ] at z0 z1 z2 z3 z4 z5 z6); (obtain ⟨q0, q1, q2, q3, q4, q5, q6, q7, q8, q9, q10, q11⟩ := St.cells (Aside0.out HS1); have f0 := St.frozen (Aside0.out HS1) 0; have f1 := St.frozen (Aside0.out HS1) 1; have f2 := St.frozen (Aside0.out HS1) 2; have f3 := St.frozen (Aside0.out HS1) 3; have f4 := St.frozen (Aside0.out HS1) 4; have f5 := St.frozen (Aside0.out HS1) 5; have f6 := St.frozen (Aside0.out HS1) 6; have f7 := St.frozen (Aside0.out HS1) 7; (try dsimp only at q0 q1 q2 q3 q4 q5 q6 q7 q8 q9 q10 q11)))
    | (go_at_call 97; go_loud (refine (hcall _ (by first | exact HS1.out | exact HS1.out.drew)).mono ?_); rintro e w2 ⟨rfl, vT1, HS2'⟩; have HS2 := Aside0.mk HS2'; clear HS2' HS1 HX; (clear z0 z1 z2 z3 z4 z5 z6); (clear q0 q1 q2 q3 q4 q5 q6 q7 q8 q9 q10 q11 f0 f1 f2 f3 f4 f5 f6 f7); (obtain ⟨q0, q1, q2, q3, q4, q5, q6, q7, q8, q9, q10, q11⟩ := St.cells (Aside0.out HS2); have f0 := St.frozen (Aside0.out HS2) 0; have f1 := St.frozen (Aside0.out HS2) 1; have f2 := St.frozen (Aside0.out HS2) 2; have f3 := St.frozen (Aside0.out HS2) 3; have f4 := St.frozen (Aside0.out HS2) 4; have f5 := St.frozen (Aside0.out HS2) 5; have f6 := St.frozen (Aside0.out HS2) 6; have f7 := St.frozen (Aside0.out HS2) 7; (try dsimp only at q0 q1 q2 q3 q4 q5 q6 q7 q8 q9 q10 q11))))
  go_returns
  exact ⟨rfl, _, (HS2.out.put 2 _ { s1 with at_ := wrap64 (s1.at_ + 1) } rfl rfl rfl rfl).put 7 _ { s1 with at_ := wrap64 (s1.at_ + 1), steps := wrap64 (s1.steps + 1) } rfl rfl rfl rfl⟩

set_option maxRecDepth 100000 in
set_option maxHeartbeats 4000000 in
theorem instr_emit (w0 W : World) (g : Nat) (vR vT : Value) (s s1 : PS) (vS : Value) (fa fr fs : Int) (vB : Value) (id ia ib im ld ls : Int) 
    (hcall : ∀ W1, St w0 W1 g vR vT s vS fa fr fs vB → Calls Try.prog 98 #[.pointer (some ⟨g, 0, none⟩), .agg #[.int .i64 17, .int .i64 id, .int .i64 ia, .int .i64 ib, .int .i64 im, .int .i64 ld, .int .i64 ls]] W1 fun e W' => e = .returned (.bool true) ∧ ∃ vT1, St w0 W' g vR vT1 s1 vS fa fr fs vB)
    (HS : St w0 W g vR vT s vS fa fr fs vB) :
    Calls Try.prog 92 #[.pointer (some ⟨g, 0, none⟩), .agg #[.int .i64 17, .int .i64 id, .int .i64 ia, .int .i64 ib, .int .i64 im, .int .i64 ld, .int .i64 ls]] W fun e W' =>
      e = .returned (.tuple #[]) ∧ ∃ vT1, St w0 W' g vR vT1 { s1 with at_ := wrap64 (s1.at_ + 1), steps := wrap64 (s1.steps + 1) } vS fa fr fs vB := by
  have hu108 := Try.underlying108
  have hu39 := Try.underlying39
  have hu63 := Try.underlying63
  have hu61 := Try.underlying61
  have hu69 := Try.underlying69
  have hu67 := Try.underlying67
  have hu84 := Try.underlying84
  have hu48 := Try.underlying48
  have hu35 := Try.underlying35
  have HS0 := Aside0.mk HS
  clear HS
  go_enter Try.func92, Try.ntmps92
  go_wp2_with (first
    | ((with_reducible refine gate_dst (N := 3) rfl ?_); go_loud (refine St.box HS0 (N := 3) #[.int .i64 17, .int .i64 id, .int .i64 ia, .int .i64 ib, .int .i64 im, .int .i64 ld, .int .i64 ls] 84 (by decide) rfl rfl (by first | (go_simp; done) | (go_simp; rfl)) ?_); intro gt w1 HS1 HX HN; (have z0 := (blk_cell (Aside0.out HX) 0); have z1 := (blk_cell (Aside0.out HX) 1); have z2 := (blk_cell (Aside0.out HX) 2); have z3 := (blk_cell (Aside0.out HX) 3); have z4 := (blk_cell (Aside0.out HX) 4); have z5 := (blk_cell (Aside0.out HX) 5); have z6 := (blk_cell (Aside0.out HX) 6); simp only [List.getElem?_toArray, List.getElem?_cons_zero, List.getElem?_cons_succ] at z0 z1 z2 z3 z4 z5 z6); (obtain ⟨q0, q1, q2, q3, q4, q5, q6, q7, q8, q9, q10, q11⟩ := St.cells (Aside0.out HS1); have f0 := St.frozen (Aside0.out HS1) 0; have f1 := St.frozen (Aside0.out HS1) 1; have f2 := St.frozen (Aside0.out HS1) 2; have f3 := St.frozen (Aside0.out HS1) 3; have f4 := St.frozen (Aside0.out HS1) 4; have f5 := St.frozen (Aside0.out HS1) 5; have f6 := St.frozen (Aside0.out HS1) 6; have f7 := St.frozen (Aside0.out HS1) 7; (try dsimp only at q0 q1 q2 q3 q4 q5 q6 q7 q8 q9 q10 q11)))
    | (go_at_call 98; go_loud (refine (hcall _ (by first | exact HS1.out | exact HS1.out.drew)).mono ?_); rintro e w2 ⟨rfl, vT1, HS2'⟩; have HS2 := Aside0.mk HS2'; clear HS2' HS1 HX; (clear z0 z1 z2 z3 z4 z5 z6); (clear q0 q1 q2 q3 q4 q5 q6 q7 q8 q9 q10 q11 f0 f1 f2 f3 f4 f5 f6 f7); (obtain ⟨q0, q1, q2, q3, q4, q5, q6, q7, q8, q9, q10, q11⟩ := St.cells (Aside0.out HS2); have f0 := St.frozen (Aside0.out HS2) 0; have f1 := St.frozen (Aside0.out HS2) 1; have f2 := St.frozen (Aside0.out HS2) 2; have f3 := St.frozen (Aside0.out HS2) 3; have f4 := St.frozen (Aside0.out HS2) 4; have f5 := St.frozen (Aside0.out HS2) 5; have f6 := St.frozen (Aside0.out HS2) 6; have f7 := St.frozen (Aside0.out HS2) 7; (try dsimp only at q0 q1 q2 q3 q4 q5 q6 q7 q8 q9 q10 q11))))
  go_returns
  exact ⟨rfl, _, (HS2.out.put 2 _ { s1 with at_ := wrap64 (s1.at_ + 1) } rfl rfl rfl rfl).put 7 _ { s1 with at_ := wrap64 (s1.at_ + 1), steps := wrap64 (s1.steps + 1) } rfl rfl rfl rfl⟩

set_option maxRecDepth 100000 in
set_option maxHeartbeats 4000000 in
theorem instr_value (w0 W : World) (g : Nat) (vR vT : Value) (s s1 : PS) (vS : Value) (fa fr fs : Int) (vB : Value) (op id ia ib im ld ls : Int) (hm : op ≠ 18) (hne : op ≠ 17)
    (hcall : ∀ W1, St w0 W1 g vR vT s vS fa fr fs vB → Calls Try.prog 96 #[.pointer (some ⟨g, 0, none⟩), .agg #[.int .i64 op, .int .i64 id, .int .i64 ia, .int .i64 ib, .int .i64 im, .int .i64 ld, .int .i64 ls]] W1 fun e W' => e = .returned (.bool true) ∧ ∃ vT1, St w0 W' g vR vT1 s1 vS fa fr fs vB)
    (HS : St w0 W g vR vT s vS fa fr fs vB) :
    Calls Try.prog 92 #[.pointer (some ⟨g, 0, none⟩), .agg #[.int .i64 op, .int .i64 id, .int .i64 ia, .int .i64 ib, .int .i64 im, .int .i64 ld, .int .i64 ls]] W fun e W' =>
      e = .returned (.tuple #[]) ∧ ∃ vT1, St w0 W' g vR vT1 { s1 with at_ := wrap64 (s1.at_ + 1), steps := wrap64 (s1.steps + 1) } vS fa fr fs vB := by
  have hu108 := Try.underlying108
  have hu39 := Try.underlying39
  have hu63 := Try.underlying63
  have hu61 := Try.underlying61
  have hu69 := Try.underlying69
  have hu67 := Try.underlying67
  have hu84 := Try.underlying84
  have hu48 := Try.underlying48
  have hu35 := Try.underlying35
  have HS0 := Aside0.mk HS
  clear HS
  have h18 : (op == 18) = false := beq_eq_false_iff_ne.mpr hm
  have h17 : (op == 17) = false := beq_eq_false_iff_ne.mpr hne
  go_enter Try.func92, Try.ntmps92
  go_wp2_with (first
    | ((with_reducible refine gate_dst (N := 3) rfl ?_); go_loud (refine St.box HS0 (N := 3) #[.int .i64 op, .int .i64 id, .int .i64 ia, .int .i64 ib, .int .i64 im, .int .i64 ld, .int .i64 ls] 84 (by decide) rfl rfl (by first | (go_simp; done) | (go_simp; rfl)) ?_); intro gt w1 HS1 HX HN; (have z0 := (blk_cell (Aside0.out HX) 0); have z1 := (blk_cell (Aside0.out HX) 1); have z2 := (blk_cell (Aside0.out HX) 2); have z3 := (blk_cell (Aside0.out HX) 3); have z4 := (blk_cell (Aside0.out HX) 4); have z5 := (blk_cell (Aside0.out HX) 5); have z6 := (blk_cell (Aside0.out HX) 6); simp only [List.getElem?_toArray, List.getElem?_cons_zero, List.getElem?_cons_succ] at z0 z1 z2 z3 z4 z5 z6); (obtain ⟨q0, q1, q2, q3, q4, q5, q6, q7, q8, q9, q10, q11⟩ := St.cells (Aside0.out HS1); have f0 := St.frozen (Aside0.out HS1) 0; have f1 := St.frozen (Aside0.out HS1) 1; have f2 := St.frozen (Aside0.out HS1) 2; have f3 := St.frozen (Aside0.out HS1) 3; have f4 := St.frozen (Aside0.out HS1) 4; have f5 := St.frozen (Aside0.out HS1) 5; have f6 := St.frozen (Aside0.out HS1) 6; have f7 := St.frozen (Aside0.out HS1) 7; (try dsimp only at q0 q1 q2 q3 q4 q5 q6 q7 q8 q9 q10 q11)))
    | (go_at_call 96; go_loud (refine (hcall _ (by first | exact HS1.out | exact HS1.out.drew)).mono ?_); rintro e w2 ⟨rfl, vT1, HS2'⟩; have HS2 := Aside0.mk HS2'; clear HS2' HS1 HX; (clear z0 z1 z2 z3 z4 z5 z6); (clear q0 q1 q2 q3 q4 q5 q6 q7 q8 q9 q10 q11 f0 f1 f2 f3 f4 f5 f6 f7); (obtain ⟨q0, q1, q2, q3, q4, q5, q6, q7, q8, q9, q10, q11⟩ := St.cells (Aside0.out HS2); have f0 := St.frozen (Aside0.out HS2) 0; have f1 := St.frozen (Aside0.out HS2) 1; have f2 := St.frozen (Aside0.out HS2) 2; have f3 := St.frozen (Aside0.out HS2) 3; have f4 := St.frozen (Aside0.out HS2) 4; have f5 := St.frozen (Aside0.out HS2) 5; have f6 := St.frozen (Aside0.out HS2) 6; have f7 := St.frozen (Aside0.out HS2) 7; (try dsimp only at q0 q1 q2 q3 q4 q5 q6 q7 q8 q9 q10 q11))))
  go_returns
  exact ⟨rfl, _, (HS2.out.put 2 _ { s1 with at_ := wrap64 (s1.at_ + 1) } rfl rfl rfl rfl).put 7 _ { s1 with at_ := wrap64 (s1.at_ + 1), steps := wrap64 (s1.steps + 1) } rfl rfl rfl rfl⟩

set_option maxRecDepth 100000 in
set_option maxHeartbeats 4000000 in
theorem instr_stuck (w0 W : World) (g : Nat) (vR vT : Value) (s s1 : PS) (vS : Value) (fa fr fs : Int) (vB : Value) (op id ia ib im ld ls : Int) (hm : op ≠ 18) (hne : op ≠ 17)
    (hcall : ∀ W1, St w0 W1 g vR vT s vS fa fr fs vB → Calls Try.prog 96 #[.pointer (some ⟨g, 0, none⟩), .agg #[.int .i64 op, .int .i64 id, .int .i64 ia, .int .i64 ib, .int .i64 im, .int .i64 ld, .int .i64 ls]] W1 fun e W' => e = .returned (.bool false) ∧ ∃ vT1, St w0 W' g vR vT1 s1 vS fa fr fs vB)
    (HS : St w0 W g vR vT s vS fa fr fs vB) :
    Calls Try.prog 92 #[.pointer (some ⟨g, 0, none⟩), .agg #[.int .i64 op, .int .i64 id, .int .i64 ia, .int .i64 ib, .int .i64 im, .int .i64 ld, .int .i64 ls]] W fun e W' =>
      e = .returned (.tuple #[]) ∧ ∃ vT1, St w0 W' g vR vT1 { s1 with st := 2 } vS fa fr fs vB := by
  have hu108 := Try.underlying108
  have hu39 := Try.underlying39
  have hu63 := Try.underlying63
  have hu61 := Try.underlying61
  have hu69 := Try.underlying69
  have hu67 := Try.underlying67
  have hu84 := Try.underlying84
  have hu48 := Try.underlying48
  have hu35 := Try.underlying35
  have HS0 := Aside0.mk HS
  clear HS
  have h18 : (op == 18) = false := beq_eq_false_iff_ne.mpr hm
  have h17 : (op == 17) = false := beq_eq_false_iff_ne.mpr hne
  go_enter Try.func92, Try.ntmps92
  go_wp2_with (first
    | ((with_reducible refine gate_dst (N := 3) rfl ?_); go_loud (refine St.box HS0 (N := 3) #[.int .i64 op, .int .i64 id, .int .i64 ia, .int .i64 ib, .int .i64 im, .int .i64 ld, .int .i64 ls] 84 (by decide) rfl rfl (by first | (go_simp; done) | (go_simp; rfl)) ?_); intro gt w1 HS1 HX HN; (have z0 := (blk_cell (Aside0.out HX) 0); have z1 := (blk_cell (Aside0.out HX) 1); have z2 := (blk_cell (Aside0.out HX) 2); have z3 := (blk_cell (Aside0.out HX) 3); have z4 := (blk_cell (Aside0.out HX) 4); have z5 := (blk_cell (Aside0.out HX) 5); have z6 := (blk_cell (Aside0.out HX) 6); simp only [List.getElem?_toArray, List.getElem?_cons_zero, List.getElem?_cons_succ] at z0 z1 z2 z3 z4 z5 z6); (obtain ⟨q0, q1, q2, q3, q4, q5, q6, q7, q8, q9, q10, q11⟩ := St.cells (Aside0.out HS1); have f0 := St.frozen (Aside0.out HS1) 0; have f1 := St.frozen (Aside0.out HS1) 1; have f2 := St.frozen (Aside0.out HS1) 2; have f3 := St.frozen (Aside0.out HS1) 3; have f4 := St.frozen (Aside0.out HS1) 4; have f5 := St.frozen (Aside0.out HS1) 5; have f6 := St.frozen (Aside0.out HS1) 6; have f7 := St.frozen (Aside0.out HS1) 7; (try dsimp only at q0 q1 q2 q3 q4 q5 q6 q7 q8 q9 q10 q11)))
    | (go_at_call 96; go_loud (refine (hcall _ (by first | exact HS1.out | exact HS1.out.drew)).mono ?_); rintro e w2 ⟨rfl, vT1, HS2'⟩; have HS2 := Aside0.mk HS2'; clear HS2' HS1 HX; (clear z0 z1 z2 z3 z4 z5 z6); (clear q0 q1 q2 q3 q4 q5 q6 q7 q8 q9 q10 q11 f0 f1 f2 f3 f4 f5 f6 f7); (obtain ⟨q0, q1, q2, q3, q4, q5, q6, q7, q8, q9, q10, q11⟩ := St.cells (Aside0.out HS2); have f0 := St.frozen (Aside0.out HS2) 0; have f1 := St.frozen (Aside0.out HS2) 1; have f2 := St.frozen (Aside0.out HS2) 2; have f3 := St.frozen (Aside0.out HS2) 3; have f4 := St.frozen (Aside0.out HS2) 4; have f5 := St.frozen (Aside0.out HS2) 5; have f6 := St.frozen (Aside0.out HS2) 6; have f7 := St.frozen (Aside0.out HS2) 7; (try dsimp only at q0 q1 q2 q3 q4 q5 q6 q7 q8 q9 q10 q11))))
  go_returns
  exact ⟨rfl, _, HS2.out.put 0 _ { s1 with st := 2 } rfl rfl rfl rfl⟩

end Go.Proofs.Ytgkmagfajalnhaa.E
