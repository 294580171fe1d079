/-
  The walk of an emission.
-/
import Derived.Test.YtgkmagfajalnhaaTEMac
import Derived.Test.YtgkmagfajalnhaaTXEval
namespace Go.Proofs.Ytgkmagfajalnhaa.E
open Go.RowKit Go.Proofs.YtgkmagfajalnhaaW.PrintWords Go.Proofs.YtgkmagfajalnhaaW.PrintLast Go.Proofs.YtgkmagfajalnhaaW.PrintMore
set_option linter.unusedVariables false
set_option linter.unusedSimpArgs false

set_option maxRecDepth 100000 in
set_option maxHeartbeats 4000000 in
theorem do_emit (w0 W : World) (g : Nat) (b n c : Nat) (vT : Value) (s : PS) (vS : Value) (fa fr fs : Int) (vB : Value) (id ia ib im ld ls : Int) (h0 : 0 ≤ ia) (h1 : ia < n) (hl : (s.trace.length + 1) * 8 ≤ 140737488355328)
    (HS : St w0 W g (.slice (some ⟨b, 0, none⟩) n c) vT s vS fa fr fs vB) :
    Calls Try.prog 98 #[.pointer (some ⟨g, 0, none⟩), .agg #[.int .i64 17, .int .i64 id, .int .i64 ia, .int .i64 ib, .int .i64 im, .int .i64 ld, .int .i64 ls]] W fun e W' =>
      e = .returned (.bool true) ∧ ∃ vT1, St w0 W' g (.slice (some ⟨b, 0, none⟩) n c) vT1 { s with trace := s.trace ++ [(rdOf (0 : Int) s.regs ia)] } vS fa fr fs vB := by
  have hu108 := Try.underlying108
  have hu39 := Try.underlying39
  have hu63 := Try.underlying63
  have hu61 := Try.underlying61
  have hu69 := Try.underlying69
  have hu67 := Try.underlying67
  have hu84 := Try.underlying84
  have hu48 := Try.underlying48
  have hu35 := Try.underlying35
  have HS0 := Aside0.mk HS
  clear HS
  have hb1a : decide (ia < 0) = false := decide_eq_false (by omega)
  have hb1b : decide (0 ≤ ia) = true := decide_eq_true h0
  have hb1c : decide (ia < (n : Int)) = true := decide_eq_true h1
  go_enter Try.func98, Try.ntmps98
  go_wp2_with ((with_reducible refine gate_dst (N := 3) rfl ?_); go_loud (refine St.box HS0 (N := 3) #[.int .i64 17, .int .i64 id, .int .i64 ia, .int .i64 ib, .int .i64 im, .int .i64 ld, .int .i64 ls] 84 (by decide) rfl rfl (by first | (go_simp; done) | (go_simp; rfl)) ?_); intro gt w1 HS1 HX HN; (have z0 := (blk_cell (Aside0.out HX) 0); have z1 := (blk_cell (Aside0.out HX) 1); have z2 := (blk_cell (Aside0.out HX) 2); have z3 := (blk_cell (Aside0.out HX) 3); have z4 := (blk_cell (Aside0.out HX) 4); have z5 := (blk_cell (Aside0.out HX) 5); have z6 := (blk_cell (Aside0.out HX) 6); simp only [List.getElem?_toArray, List.getElem?_cons_zero, List.getElem?_cons_succ] at z0 z1 z2 z3 z4 z5 z6); (obtain ⟨q0, q1, q2, q3, q4, q5, q6, q7, q8, q9, q10, q11⟩ := St.cells (Aside0.out HS1); have f0 := St.frozen (Aside0.out HS1) 0; have f1 := St.frozen (Aside0.out HS1) 1; have f2 := St.frozen (Aside0.out HS1) 2; have f3 := St.frozen (Aside0.out HS1) 3; have f4 := St.frozen (Aside0.out HS1) 4; have f5 := St.frozen (Aside0.out HS1) 5; have f6 := St.frozen (Aside0.out HS1) 6; have f7 := St.frozen (Aside0.out HS1) 7; (try dsimp only at q0 q1 q2 q3 q4 q5 q6 q7 q8 q9 q10 q11)); have hr := HS1.out.reg ia h0 h1; have hrc := hr.1; clear hr)
  refine start_ (n := 21) (S := fun w' => w'.cell? ⟨g, 4, none⟩ = some (.slice (some ⟨b, 0, none⟩) n c) ∧ w'.cell? ⟨g, 6, none⟩ = some vT ∧ w'.cell? ⟨gt, 2, none⟩ = some (.int .i64 ia) ∧ w'.cell? ⟨b, ia.toNat, none⟩ = some (.int .i64 (rdOf (0 : Int) s.regs ia))) (ds := [16, 20]) (bb 21 0) (by kernel_rfl) rfl rfl ⟨q4, q6, z2, hrc⟩ (fun hHeld => ?_)
  refine pu 0 5 (bb 21 1) ?_
  refine pu 1 6 (bb 21 3) ?_
  refine pu 2 7 (bb 21 7) ?_
  refine pu 3 8 (bb 21 15) ?_
  refine pu 4 9 (bb 21 31) ?_
  refine pu 6 11 (bb 21 95) ?_
  refine pu 7 12 (bb 21 223) ?_
  refine pu 8 13 (bb 21 479) ?_
  refine pu 9 14 (bb 21 991) ?_
  refine pu 11 16 (bb 21 3039) ?_
  refine tu hHeld 5 10 (bb 21 3071) ?_
  refine tu hHeld 10 15 (bb 21 4095) ?_
  refine tu hHeld 12 17 (bb 21 8191) ?_
  refine pu 13 18 (bb 21 16383) ?_
  refine tu hHeld 14 19 (bb 21 32767) ?_
  refine one_ (i := 15) (N := some 20) (bb 21 65535) rfl rfl (by kernel_rfl) (by decide) (fun K hK => ?_)
  refine value_ (w1 := ?_) (v := ?_) (by rfl) rfl ?_ ?_
  rotate_left 2
  · go_simp
    constructor
    · rfl
    · rfl
  refine hK.out _ _ ⟨(cell_alloc q4 _), (cell_alloc q6 _), (cell_alloc z2 _), (cell_alloc hrc _)⟩ (fun hHeld => ?_)
  clear hK K
  refine norm_ (a' := ?_) ?_ ?_
  rotate_left
  · show Act.put _ (some 20) _ = _
    simp only [Act.put, List.setIfInBounds_toArray, List.set_cons_zero, List.set_cons_succ, i64_w, i32_w]
    rfl
  refine last_ (i := 16) (N := some 21) (bb 21 131071) rfl rfl (by kernel_rfl) (by decide) (fun K hK => ?_)
  refine Kd.R_append_step (Kd.int .i64) (w0 := w0) w0.heap.size (by rfl) (.tmp 10) (.tmp 20) 35 2 (.int .i64 0) 8 rfl Try.underlying35 info2 rfl (by decide) (by omega) vT s.trace (rdOf (0 : Int) s.regs ia) [.int .i64 (rdOf (0 : Int) s.regs ia)] (fun _ => True) (fun _ => False) rfl rfl rfl (fun _ hk => hk.elim) (fun _ _ => trivial) HS1.out.drew.trace HS1.out.drew.below HS1.out.below.size hl ?_
  intro v1 w3 HR3 HB3 HG3 HA3
  obtain ⟨A1, c1, e1⟩ := Kd.R_slice HR3
  generalize (s.trace ++ [(rdOf (0 : Int) s.regs ia)]).length = m1 at e1
  subst e1
  have hm6 := (HS1.out.drew.mid HG3).1
  have hm7 := (HS1.out.drew.mid HG3).2
  refine hK.out _ _ ?_
  clear hK K
  refine norm_ (a' := ?_) ?_ ?_
  rotate_left
  · show Act.put _ (some 21) _ = _
    simp only [Act.put, List.setIfInBounds_toArray, List.set_cons_zero, List.set_cons_succ, i64_w, i32_w]
    rfl
  refine pu 17 22 (bb 21 262143) ?_
  refine pu 18 23 (bb 21 524287) ?_
  refine pu 19 24 (bb 21 1048575) ?_
  refine last_ (i := 20) (N := none) (bb 21 2097151) rfl rfl (by kernel_rfl) (by decide) (fun K hK => ?_)
  refine skip_ (w1 := ?_) (by rfl) rfl ?_ ?_
  rotate_left
  · go_simp
    rfl
  refine hK.out _ _ ?_
  clear hK K
  refine done_ (by kernel_rfl) ?_
  have HS5 := HS1.out.drew.appended _ _ HR3 HB3 HG3 HA3
  go_wp2
  go_ret
  exact ⟨rfl, _, HS5⟩
end Go.Proofs.Ytgkmagfajalnhaa.E
