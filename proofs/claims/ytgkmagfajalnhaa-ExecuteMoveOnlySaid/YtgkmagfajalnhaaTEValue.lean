/-
  The walk of an operation.
-/
import Derived.Test.YtgkmagfajalnhaaTEStuck
namespace Go.Proofs.Ytgkmagfajalnhaa.E
open Go.RowKit Go.Proofs.YtgkmagfajalnhaaW.PrintWords Go.Proofs.YtgkmagfajalnhaaW.PrintLast Go.Proofs.YtgkmagfajalnhaaW.PrintMore
set_option linter.unusedVariables false
set_option linter.unusedSimpArgs false

set_option maxRecDepth 100000 in
set_option maxHeartbeats 4000000 in
theorem do_value (w0 W : World) (g : Nat) (b n c : Nat) (vT : Value) (s : PS) (vS : Value) (fa fr fs : Int) (vB : Value) (op id ia ib im ld ls : Int) (h0 : 0 ≤ ia) (h1 : ia < n) (h2 : 0 ≤ ib) (h3 : ib < n) (h4 : 0 ≤ id) (h5 : id < n) (rv : Int) (hev : X.alu_Eval.f op (rdOf (0 : Int) s.regs ia) (rdOf (0 : Int) s.regs ib) im = some (rv, true))
    (HS : St w0 W g (.slice (some ⟨b, 0, none⟩) n c) vT s vS fa fr fs vB) :
    Calls Try.prog 96 #[.pointer (some ⟨g, 0, none⟩), .agg #[.int .i64 op, .int .i64 id, .int .i64 ia, .int .i64 ib, .int .i64 im, .int .i64 ld, .int .i64 ls]] W fun e W' =>
      e = .returned (.bool true) ∧ St w0 W' g (.slice (some ⟨b, 0, none⟩) n c) vT { s with regs := s.regs.set id.toNat rv } vS fa fr fs vB := by
  have hu108 := Try.underlying108
  have hu39 := Try.underlying39
  have hu63 := Try.underlying63
  have hu61 := Try.underlying61
  have hu69 := Try.underlying69
  have hu67 := Try.underlying67
  have hu84 := Try.underlying84
  have hu48 := Try.underlying48
  have hu35 := Try.underlying35
  have HS0 := Aside0.mk HS
  clear HS
  have hb1a : decide (ia < 0) = false := decide_eq_false (by omega)
  have hb1b : decide (0 ≤ ia) = true := decide_eq_true h0
  have hb1c : decide (ia < (n : Int)) = true := decide_eq_true h1
  have hb2a : decide (ib < 0) = false := decide_eq_false (by omega)
  have hb2b : decide (0 ≤ ib) = true := decide_eq_true h2
  have hb2c : decide (ib < (n : Int)) = true := decide_eq_true h3
  have hb3a : decide (id < 0) = false := decide_eq_false (by omega)
  have hb3b : decide (0 ≤ id) = true := decide_eq_true h4
  have hb3c : decide (id < (n : Int)) = true := decide_eq_true h5
  go_enter Try.func96, Try.ntmps96
  go_wp2_with ((with_reducible refine gate_dst (N := 3) rfl ?_); go_loud (refine St.box HS0 (N := 3) #[.int .i64 op, .int .i64 id, .int .i64 ia, .int .i64 ib, .int .i64 im, .int .i64 ld, .int .i64 ls] 84 (by decide) rfl rfl (by first | (go_simp; done) | (go_simp; rfl)) ?_); intro gt w1 HS1 HX HN; (have z0 := (blk_cell (Aside0.out HX) 0); have z1 := (blk_cell (Aside0.out HX) 1); have z2 := (blk_cell (Aside0.out HX) 2); have z3 := (blk_cell (Aside0.out HX) 3); have z4 := (blk_cell (Aside0.out HX) 4); have z5 := (blk_cell (Aside0.out HX) 5); have z6 := (blk_cell (Aside0.out HX) 6); simp only [List.getElem?_toArray, List.getElem?_cons_zero, List.getElem?_cons_succ] at z0 z1 z2 z3 z4 z5 z6); (obtain ⟨q0, q1, q2, q3, q4, q5, q6, q7, q8, q9, q10, q11⟩ := St.cells (Aside0.out HS1); have f0 := St.frozen (Aside0.out HS1) 0; have f1 := St.frozen (Aside0.out HS1) 1; have f2 := St.frozen (Aside0.out HS1) 2; have f3 := St.frozen (Aside0.out HS1) 3; have f4 := St.frozen (Aside0.out HS1) 4; have f5 := St.frozen (Aside0.out HS1) 5; have f6 := St.frozen (Aside0.out HS1) 6; have f7 := St.frozen (Aside0.out HS1) 7; (try dsimp only at q0 q1 q2 q3 q4 q5 q6 q7 q8 q9 q10 q11)); have hr := HS1.out.reg ia h0 h1; have hrc := hr.1; clear hr; have hr := HS1.out.reg ib h2 h3; have hrc2 := hr.1; clear hr)
  refine start_ (n := 28) (S := fun w' => w'.cell? ⟨g, 4, none⟩ = some (.slice (some ⟨b, 0, none⟩) n c) ∧ w'.cell? ⟨gt, 0, none⟩ = some (.int .i64 op) ∧ w'.cell? ⟨gt, 2, none⟩ = some (.int .i64 ia) ∧ w'.cell? ⟨gt, 3, none⟩ = some (.int .i64 ib) ∧ w'.cell? ⟨gt, 4, none⟩ = some (.int .i64 im) ∧ w'.cell? ⟨b, ia.toNat, none⟩ = some (.int .i64 (rdOf (0 : Int) s.regs ia)) ∧ w'.cell? ⟨b, ib.toNat, none⟩ = some (.int .i64 (rdOf (0 : Int) s.regs ib))) (ds := []) (bb 28 0) (by kernel_rfl) rfl rfl ⟨q4, z0, z2, z3, z4, hrc, hrc2⟩ (fun hHeld => ?_)
  refine pu 0 8 (bb 28 1) ?_
  refine pu 2 10 (bb 28 5) ?_
  refine pu 3 11 (bb 28 13) ?_
  refine pu 4 12 (bb 28 29) ?_
  refine pu 5 13 (bb 28 61) ?_
  refine pu 7 15 (bb 28 189) ?_
  refine pu 11 19 (bb 28 2237) ?_
  refine pu 12 20 (bb 28 6333) ?_
  refine pu 13 21 (bb 28 14525) ?_
  refine pu 14 22 (bb 28 30909) ?_
  refine pu 16 24 (bb 28 96445) ?_
  refine pu 20 28 (bb 28 1145021) ?_
  refine tu hHeld 1 9 (bb 28 1145023) ?_
  refine tu hHeld 6 14 (bb 28 1145087) ?_
  refine tu hHeld 8 16 (bb 28 1145343) ?_
  refine pu 9 17 (bb 28 1145855) ?_
  refine tu hHeld 10 18 (bb 28 1146879) ?_
  refine tu hHeld 15 23 (bb 28 1179647) ?_
  refine tu hHeld 17 25 (bb 28 1310719) ?_
  refine pu 18 26 (bb 28 1572863) ?_
  refine tu hHeld 19 27 (bb 28 2097151) ?_
  refine tu hHeld 21 29 (bb 28 4194303) ?_
  refine one_ (i := 22) (N := some 30) (bb 28 8388607) rfl rfl (by kernel_rfl) (by decide) (fun K hK => ?_)
  refine goes_ Try.func20 (by kernel_rfl) rfl #[.int .i64 op, .int .i64 (rdOf (0 : Int) s.regs ia), .int .i64 (rdOf (0 : Int) s.regs ib), .int .i64 im] (by rfl) rfl rfl (by simp only [List.map_toArray, List.map_cons, List.map_nil]; rfl) ?_
  with_reducible refine (X.alu_Eval.calls op (rdOf (0 : Int) s.regs ia) (rdOf (0 : Int) s.regs ib) im rv true _ hev).mono ?_
  rintro e w3 ⟨rfl, hb⟩
  refine ⟨_, rfl, ?_⟩
  refine hK.out _ _ ⟨(cell_belowE hb q4), (cell_belowE hb z0), (cell_belowE hb z2), (cell_belowE hb z3), (cell_belowE hb z4), (cell_belowE hb hrc), (cell_belowE hb hrc2)⟩ (fun hHeld => ?_)
  clear hK K
  refine norm_ (a' := ?_) ?_ ?_
  rotate_left
  · show Act.put _ (some 30) _ = _
    simp only [Act.put, List.setIfInBounds_toArray, List.set_cons_zero, List.set_cons_succ, i64_w, i32_w]
    rfl
  refine pu 23 7 (bb 28 16777215) ?_
  refine pu 24 31 (bb 28 33554431) ?_
  refine pu 25 32 (bb 28 67108863) ?_
  refine pu 26 5 (bb 28 134217727) ?_
  refine pu 27 6 (bb 28 268435455) ?_
  refine done_ (by kernel_rfl) ?_
  have HS3 := Aside0.mk (HS1.out.drew.step hb)
  have HX3 := Aside0.mk (blk_below (blk_drew HX.out) hb)
  clear HS1 HX hrc hrc2
  (clear z0 z1 z2 z3 z4 z5 z6)
  (clear q0 q1 q2 q3 q4 q5 q6 q7 q8 q9 q10 q11 f0 f1 f2 f3 f4 f5 f6 f7)
  (have z0 := (blk_cell (Aside0.out HX3) 0); have z1 := (blk_cell (Aside0.out HX3) 1); have z2 := (blk_cell (Aside0.out HX3) 2); have z3 := (blk_cell (Aside0.out HX3) 3); have z4 := (blk_cell (Aside0.out HX3) 4); have z5 := (blk_cell (Aside0.out HX3) 5); have z6 := (blk_cell (Aside0.out HX3) 6); simp only [List.getElem?_toArray, List.getElem?_cons_zero, List.getElem?_cons_succ] at z0 z1 z2 z3 z4 z5 z6)
  (obtain ⟨q0, q1, q2, q3, q4, q5, q6, q7, q8, q9, q10, q11⟩ := St.cells (Aside0.out HS3); have f0 := St.frozen (Aside0.out HS3) 0; have f1 := St.frozen (Aside0.out HS3) 1; have f2 := St.frozen (Aside0.out HS3) 2; have f3 := St.frozen (Aside0.out HS3) 3; have f4 := St.frozen (Aside0.out HS3) 4; have f5 := St.frozen (Aside0.out HS3) 5; have f6 := St.frozen (Aside0.out HS3) 6; have f7 := St.frozen (Aside0.out HS3) 7; (try dsimp only at q0 q1 q2 q3 q4 q5 q6 q7 q8 q9 q10 q11))
  have hr := HS3.out.reg id h4 h5
  have hd1 := hr.1
  have hd2 := hr.2
  clear hr
  go_wp2
  refine start_ (n := 10) (S := fun w' => w'.cell? ⟨g, 4, none⟩ = some (.slice (some ⟨b, 0, none⟩) n c) ∧ w'.cell? ⟨gt, 1, none⟩ = some (.int .i64 id)) (ds := [9]) (bb 10 0) (by kernel_rfl) rfl rfl ⟨q4, z1⟩ (fun hHeld => ?_)
  refine pu 0 34 (bb 10 1) ?_
  refine pu 1 35 (bb 10 3) ?_
  refine pu 2 36 (bb 10 7) ?_
  refine pu 3 37 (bb 10 15) ?_
  refine pu 5 39 (bb 10 47) ?_
  refine pu 7 41 (bb 10 175) ?_
  refine tu hHeld 4 38 (bb 10 191) ?_
  refine tu hHeld 6 40 (bb 10 255) ?_
  refine pu 8 42 (bb 10 511) ?_
  refine last_ (i := 9) (N := none) (bb 10 1023) rfl rfl (by kernel_rfl) (by decide) (fun K hK => ?_)
  refine skip_ (w1 := ?_) (by rfl) rfl ?_ ?_
  rotate_left
  · go_simp
    rfl
  refine hK.out _ _ ?_
  clear hK K
  refine done_ (by kernel_rfl) ?_
  go_wp2
  go_ret
  exact ⟨rfl, (HS3.out.putReg id rv).drew⟩
end Go.Proofs.Ytgkmagfajalnhaa.E
