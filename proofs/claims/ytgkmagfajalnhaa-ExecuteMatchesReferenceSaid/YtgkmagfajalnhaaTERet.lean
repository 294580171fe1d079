/-
  The walk of a return.
-/
import Derived.Test.YtgkmagfajalnhaaTEMac
namespace Go.Proofs.Ytgkmagfajalnhaa.E
open Go.RowKit Go.Proofs.YtgkmagfajalnhaaW.PrintWords Go.Proofs.YtgkmagfajalnhaaW.PrintLast Go.Proofs.YtgkmagfajalnhaaW.PrintMore
set_option linter.unusedVariables false
set_option linter.unusedSimpArgs false

set_option maxRecDepth 100000 in
set_option maxHeartbeats 4000000 in
theorem term_ret (w0 W : World) (g : Nat) (b n c : Nat) (vT : Value) (s : PS) (vS : Value) (fa fr fs : Int) (vB : Value) (ta tb el : Int) (h0 : 0 ≤ ta) (h1 : ta < n)
    (HS : St w0 W g (.slice (some ⟨b, 0, none⟩) n c) vT s vS fa fr fs vB) :
    Calls Try.prog 93 #[.pointer (some ⟨g, 0, none⟩), .agg #[.int .i64 3, .int .i64 ta, .int .i64 tb, .int .i64 el]] W fun e W' =>
      e = .returned (.tuple #[]) ∧ St w0 W' g (.slice (some ⟨b, 0, none⟩) n c) vT { s with st := 1, val := rdOf (0 : Int) s.regs ta, steps := wrap64 (s.steps + 1) } vS fa fr fs vB := by
  have hu108 := Try.underlying108
  have hu39 := Try.underlying39
  have hu63 := Try.underlying63
  have hu61 := Try.underlying61
  have hu69 := Try.underlying69
  have hu67 := Try.underlying67
  have hu84 := Try.underlying84
  have hu48 := Try.underlying48
  have hu35 := Try.underlying35
  have HS0 := Aside0.mk HS
  clear HS
  have h0b : decide (ta < 0) = false := decide_eq_false (by omega)
  have h0c : decide (0 ≤ ta) = true := decide_eq_true h0
  have h1b : decide (ta < (n : Int)) = true := decide_eq_true h1
  go_enter Try.func93, Try.ntmps93
  go_wp2_with (first
    | ((with_reducible refine gate_dst (N := 3) rfl ?_); refine St.box HS0 (N := 3) #[.int .i64 3, .int .i64 ta, .int .i64 tb, .int .i64 el] 48 (by decide) rfl rfl (by first | (go_simp; done) | (go_simp; rfl)) ?_; intro gt w1 HS1 HX HN; (have z0 := (blk_cell (Aside0.out HX) 0); have z1 := (blk_cell (Aside0.out HX) 1); have z2 := (blk_cell (Aside0.out HX) 2); have z3 := (blk_cell (Aside0.out HX) 3); simp only [List.getElem?_toArray, List.getElem?_cons_zero, List.getElem?_cons_succ] at z0 z1 z2 z3); (obtain ⟨q0, q1, q2, q3, q4, q5, q6, q7, q8, q9, q10, q11⟩ := St.cells (Aside0.out HS1); have f0 := St.frozen (Aside0.out HS1) 0; have f1 := St.frozen (Aside0.out HS1) 1; have f2 := St.frozen (Aside0.out HS1) 2; have f3 := St.frozen (Aside0.out HS1) 3; have f4 := St.frozen (Aside0.out HS1) 4; have f5 := St.frozen (Aside0.out HS1) 5; have f6 := St.frozen (Aside0.out HS1) 6; have f7 := St.frozen (Aside0.out HS1) 7; (try dsimp only at q0 q1 q2 q3 q4 q5 q6 q7 q8 q9 q10 q11)))
    | ((with_reducible refine gate_store (t := 3) (p := 12) rfl ?_); refine St.store HS1 HX HN 7 (.int .i64 (wrap64 (s.steps + 1))) { s with steps := wrap64 (s.steps + 1) } rfl rfl rfl rfl rfl rfl rfl (by first | (go_simp; done) | (go_simp; rfl)) ?_; (clear z0 z1 z2 z3); (clear q0 q1 q2 q3 q4 q5 q6 q7 q8 q9 q10 q11 f0 f1 f2 f3 f4 f5 f6 f7); intro w2 HS2 HXn; clear HS1 HX; have HX := HXn; clear HXn; (have z0 := (blk_cell (Aside0.out HX) 0); have z1 := (blk_cell (Aside0.out HX) 1); have z2 := (blk_cell (Aside0.out HX) 2); have z3 := (blk_cell (Aside0.out HX) 3); simp only [List.getElem?_toArray, List.getElem?_cons_zero, List.getElem?_cons_succ] at z0 z1 z2 z3); (obtain ⟨q0, q1, q2, q3, q4, q5, q6, q7, q8, q9, q10, q11⟩ := St.cells (Aside0.out HS2); have f0 := St.frozen (Aside0.out HS2) 0; have f1 := St.frozen (Aside0.out HS2) 1; have f2 := St.frozen (Aside0.out HS2) 2; have f3 := St.frozen (Aside0.out HS2) 3; have f4 := St.frozen (Aside0.out HS2) 4; have f5 := St.frozen (Aside0.out HS2) 5; have f6 := St.frozen (Aside0.out HS2) 6; have f7 := St.frozen (Aside0.out HS2) 7; (try dsimp only at q0 q1 q2 q3 q4 q5 q6 q7 q8 q9 q10 q11)); have hr := HS2.out.reg ta h0 h1; have hrc := hr.1; have hrf := hr.2; clear hr; dsimp only at hrc))
  refine start_ (n := 19) (S := fun w' => w'.cell? ⟨g, 4, none⟩ = some (.slice (some ⟨b, 0, none⟩) n c) ∧ w'.cell? ⟨gt, 1, none⟩ = some (.int .i64 ta) ∧ w'.cell? ⟨b, ta.toNat, none⟩ = some (.int .i64 (rdOf (0 : Int) s.regs ta))) (ds := [14, 18]) (bb 19 0) (by kernel_rfl) rfl rfl ⟨q4, z1, hrc⟩ (fun hHeld => ?_)
  refine pu 0 39 (bb 19 1) ?_
  refine pu 1 40 (bb 19 3) ?_
  refine pu 2 41 (bb 19 7) ?_
  refine pu 3 42 (bb 19 15) ?_
  refine pu 4 43 (bb 19 31) ?_
  refine pu 5 44 (bb 19 63) ?_
  refine pu 7 46 (bb 19 191) ?_
  refine tu hHeld 6 45 (bb 19 255) ?_
  refine tu hHeld 8 47 (bb 19 511) ?_
  refine pu 9 48 (bb 19 1023) ?_
  refine tu hHeld 10 49 (bb 19 2047) ?_
  refine pu 11 50 (bb 19 4095) ?_
  refine pu 12 51 (bb 19 8191) ?_
  refine pu 13 52 (bb 19 16383) ?_
  refine last_ (i := 14) (N := none) (bb 19 32767) rfl rfl (by kernel_rfl) (by decide) (fun K hK => ?_)
  refine skip_ (w1 := ?_) (by rfl) rfl ?_ ?_
  rotate_left
  · go_simp
    rfl
  refine hK.out _ _ ?_
  clear hK K
  refine pu 15 53 (bb 19 65535) ?_
  refine pu 16 54 (bb 19 131071) ?_
  refine pu 17 55 (bb 19 262143) ?_
  refine last_ (i := 18) (N := none) (bb 19 524287) rfl rfl (by kernel_rfl) (by decide) (fun K hK => ?_)
  refine skip_ (w1 := ?_) (by rfl) rfl ?_ ?_
  rotate_left
  · go_simp
    rfl
  refine hK.out _ _ ?_
  clear hK K
  refine done_ (by kernel_rfl) ?_
  go_wp2
  go_returns
  exact ⟨rfl, ((HS2.out.drew.put 0 _ { s with st := 1, steps := wrap64 (s.steps + 1) } rfl rfl rfl rfl).put 3 _ { s with st := 1, val := rdOf (0 : Int) s.regs ta, steps := wrap64 (s.steps + 1) } rfl rfl rfl rfl)⟩
end Go.Proofs.Ytgkmagfajalnhaa.E
