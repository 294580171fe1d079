/-
  Start: the plain function and its contract.
-/
import Derived.Test.YtgkmagfajalnhaaTEExec
namespace Go.Proofs.Ytgkmagfajalnhaa.E
open Go.RowKit Go.Proofs.YtgkmagfajalnhaaW.PrintWords Go.Proofs.YtgkmagfajalnhaaW.PrintLast Go.Proofs.YtgkmagfajalnhaaW.PrintMore
set_option linter.unusedVariables false
set_option linter.unusedSimpArgs false

def execute_Start.f (a0_0 a0_1 a0_2 : Int) (l0_3 : List S69) (l1 : List Int) : Option (Int × Int × Int × Int × List Int × List Int × List Int × Int × Int) :=
  if (l1.length : Int) = a0_0 then
    (if 0 ≤ a0_1 ∧ a0_1.toNat * 8 ≤ 281474976710656 ∧ 0 ≤ a0_2 ∧ a0_2.toNat * 8 ≤ 281474976710656 then some (0, 0, 0, 0, (beginP a0_1 a0_2 l1).regs, (beginP a0_1 a0_2 l1).slots, [], 0, 0) else none)
  else some (0, 0, 0, 0, [], [], [], 0, 32)

set_option maxRecDepth 100000 in
set_option maxHeartbeats 4000000 in
theorem start_err (w : World) (fa fr fs : Int) (A A1 : Option Addr) (n cB c1 : Nat) (l1 : List Int) (hne : (l1.length : Int) ≠ fa) :
    Calls Try.prog 50 #[.agg #[.int .i64 fa, .int .i64 fr, .int .i64 fs, .slice A n cB], .slice A1 l1.length c1] w fun e W' =>
      e = .returned (.tuple #[.agg #[.int .i64 0, .int .i64 0, .int .i64 0, .int .i64 0, .slice none 0 0, .slice none 0 0, .slice none 0 0, .int .i64 0], .int .i64 32]) ∧ Below w.heap.size w W' := by
  have hu := Try.underlying63
  have hu1 := Try.underlying108
  have hu2 := Try.underlying39
  have hu35 := Try.underlying35
  have hb : ((l1.length : Int) != fa) = true := bne_iff_ne.mpr hne
  have HW1 := Aside0.mk (below_alloc (below_alloc (Below.refl w.heap.size w) (.cells #[.int .i64 fa, .int .i64 fr, .int .i64 fs, .slice A n cB] 63 (0, 0))) (.cells #[.int .i64 0, .int .i64 0, .int .i64 0, .int .i64 0, .slice none 0 0, .slice none 0 0, .slice none 0 0, .int .i64 0] 39 (0, 0)))
  have HX1 := blk_new (w.alloc (.cells #[.int .i64 fa, .int .i64 fr, .int .i64 fs, .slice A n cB] 63 (0, 0))) (.cells #[.int .i64 0, .int .i64 0, .int .i64 0, .int .i64 0, .slice none 0 0, .slice none 0 0, .slice none 0 0, .int .i64 0] 39 (0, 0))
  have hsz : (w.alloc (.cells #[.int .i64 fa, .int .i64 fr, .int .i64 fs, .slice A n cB] 63 (0, 0))).heap.size = w.heap.size + 1 := by simp
  rw [hsz] at HX1
  have HX2 := Aside0.mk HX1
  clear HX1 hsz
  go_enter Try.func50, Try.ntmps50
  go_wp2
  generalize hw1 : (w.alloc (Obj.cells #[.int .i64 fa, .int .i64 fr, .int .i64 fs, .slice A n cB] 63)).alloc (Obj.cells #[.int .i64 0, .int .i64 0, .int .i64 0, .int .i64 0, .slice none 0 0, .slice none 0 0, .slice none 0 0, .int .i64 0] 39) = w1 at *
  clear hw1
  have e0 := (blk_cell HX2.out 0)
  have e1 := (blk_cell HX2.out 1)
  have e2 := (blk_cell HX2.out 2)
  have e3 := (blk_cell HX2.out 3)
  have e4 := (blk_cell HX2.out 4)
  have e5 := (blk_cell HX2.out 5)
  have e6 := (blk_cell HX2.out 6)
  have e7 := (blk_cell HX2.out 7)
  simp only [List.getElem?_toArray, List.getElem?_cons_zero, List.getElem?_cons_succ] at e0 e1 e2 e3 e4 e5 e6 e7
  exact bodyPost_ret (v := .tuple #[.agg #[.int .i64 0, .int .i64 0, .int .i64 0, .int .i64 0, .slice none 0 0, .slice none 0 0, .slice none 0 0, .int .i64 0], .int .i64 32]) (by simp [results, Try.results50, go_sem, e0, e1, e2, e3, e4, e5, e6, e7]) rfl ⟨rfl, HW1.out⟩

set_option maxRecDepth 100000 in
set_option maxHeartbeats 4000000 in
theorem start_ok (w : World) (fa fr fs : Int) (A A1 : Option Addr) (n cB c1 : Nat) (l1 : List Int) (hR : (Kd.int .i64).C w A1 l1.length l1) (hc1 : l1.length ≤ c1)
    (hne : (l1.length : Int) = fa) (h0 : 0 ≤ fr) (hl : fr.toNat * 8 ≤ 281474976710656) (h2 : 0 ≤ fs) (hl2 : fs.toNat * 8 ≤ 281474976710656) :
    Calls Try.prog 50 #[.agg #[.int .i64 fa, .int .i64 fr, .int .i64 fs, .slice A n cB], .slice A1 l1.length c1] w fun e W' =>
      ∃ vR vS, e = .returned (.tuple #[.agg #[.int .i64 0, .int .i64 0, .int .i64 0, .int .i64 0, vR, vS, .slice none 0 0, .int .i64 0], .int .i64 0]) ∧
        (Kd.int .i64).R 2 W' w.heap.size (fun _ => True) vR (beginP fr fs l1).regs ∧ (Kd.int .i64).R 2 W' w.heap.size (fun _ => True) vS (beginP fr fs l1).slots ∧ (∀ k, vR.ownBlock = some k → some k ≠ vS.ownBlock) ∧ Below w.heap.size w W' := by
  have hu := Try.underlying63
  have hu1 := Try.underlying108
  have hu2 := Try.underlying39
  have hu35 := Try.underlying35
  have hb : ((l1.length : Int) != fa) = false := by simp [hne]
  have HR1 := Aside0.mk hR
  have HW1 := Aside0.mk (below_alloc (below_alloc (Below.refl w.heap.size w) (.cells #[.int .i64 fa, .int .i64 fr, .int .i64 fs, .slice A n cB] 63 (0, 0))) (.cells #[.int .i64 0, .int .i64 0, .int .i64 0, .int .i64 0, .slice none 0 0, .slice none 0 0, .slice none 0 0, .int .i64 0] 39 (0, 0)))
  have HX1 := blk_new (w.alloc (.cells #[.int .i64 fa, .int .i64 fr, .int .i64 fs, .slice A n cB] 63 (0, 0))) (.cells #[.int .i64 0, .int .i64 0, .int .i64 0, .int .i64 0, .slice none 0 0, .slice none 0 0, .slice none 0 0, .int .i64 0] 39 (0, 0))
  have hsz : (w.alloc (.cells #[.int .i64 fa, .int .i64 fr, .int .i64 fs, .slice A n cB] 63 (0, 0))).heap.size = w.heap.size + 1 := by simp
  rw [hsz] at HX1
  have HX2 := Aside0.mk HX1
  clear hR HX1 hsz
  go_enter Try.func50, Try.ntmps50
  go_wp2_with (first
    | ((with_reducible refine gate_callee (f := 68) rfl ?_); generalize hw1 : (w.alloc (Obj.cells #[.int .i64 fa, .int .i64 fr, .int .i64 fs, .slice A n cB] 63)).alloc (Obj.cells #[.int .i64 0, .int .i64 0, .int .i64 0, .int .i64 0, .slice none 0 0, .slice none 0 0, .slice none 0 0, .int .i64 0] 39) = w1 at *; clear hw1; go_loud (refine goesL_ (some 14) rfl rfl Try.func68 (by kernel_rfl) rfl #[.agg #[.int .i64 fa, .int .i64 fr, .int .i64 fs, .slice A n cB], .slice A1 l1.length c1] rfl (by (try simp only [List.map_toArray, List.map_cons, List.map_nil]); rfl) ?_); go_loud (with_reducible refine (begin_calls w1 fa fr fs A A1 n cB c1 l1 h0 hl h2 hl2 (Kd.C_below HR1.out HW1.out) hc1).mono ?_); rintro e w3 ⟨g, vR, vS, rfl, HS3⟩; refine ⟨_, rfl, ?_⟩; obtain ⟨AR, cR, eR⟩ := Kd.R_slice HS3.regs; generalize (beginP fr fs l1).regs.length = nR at eR; subst eR; obtain ⟨AS, cS, eS⟩ := Kd.R_slice HS3.slots; generalize (beginP fr fs l1).slots.length = nS at eS; subst eS; have HS := Aside0.mk HS3; clear HS3; (obtain ⟨q0, q1, q2, q3, q4, q5, q6, q7, q8, q9, q10, q11⟩ := St.cells (Aside0.out HS); have f0 := St.frozen (Aside0.out HS) 0; have f1 := St.frozen (Aside0.out HS) 1; have f2 := St.frozen (Aside0.out HS) 2; have f3 := St.frozen (Aside0.out HS) 3; have f4 := St.frozen (Aside0.out HS) 4; have f5 := St.frozen (Aside0.out HS) 5; have f6 := St.frozen (Aside0.out HS) 6; have f7 := St.frozen (Aside0.out HS) 7; (try dsimp only at q0 q1 q2 q3 q4 q5 q6 q7 q8 q9 q10 q11)); have z0 := (blk_cell HS.out.blk 0))
    | ((with_reducible refine gate_ (.store 39 (.tmp 4) (.tmp 17)) rfl ?_); go_loud (refine X.store_row_event rfl rfl 39 _ _ rfl (w.heap.size + 1) #[.int .i64 0, .int .i64 0, .int .i64 0, .int .i64 0, .slice AR nR cR, .slice AS nS cS, .slice none 0 0, .int .i64 0] rfl rfl 39 #[.int .i64 0, .int .i64 0, .int .i64 0, .int .i64 0, .slice none 0 0, .slice none 0 0, .slice none 0 0, .int .i64 0] (blk_below HX2.out HS.out.below) (by kernel_rfl) rfl (by simp [Value.oneCell']) ?_); (clear q0 q1 q2 q3 q4 q5 q6 q7 q8 q9 q10 q11 f0 f1 f2 f3 f4 f5 f6 f7); intro w5 hg5 ho5 hB5; have e0 := (blk_cell hg5 0); have e1 := (blk_cell hg5 1); have e2 := (blk_cell hg5 2); have e3 := (blk_cell hg5 3); have e4 := (blk_cell hg5 4); have e5 := (blk_cell hg5 5); have e6 := (blk_cell hg5 6); have e7 := (blk_cell hg5 7); simp only [List.getElem?_toArray, List.getElem?_cons_zero, List.getElem?_cons_succ] at e0 e1 e2 e3 e4 e5 e6 e7))
  have hlt := blk_lt HX2.out
  exact bodyPost_ret (v := .tuple #[.agg #[.int .i64 0, .int .i64 0, .int .i64 0, .int .i64 0, .slice AR nR cR, .slice AS nS cS, .slice none 0 0, .int .i64 0], .int .i64 0]) (by simp [results, Try.results50, go_sem, e0, e1, e2, e3, e4, e5, e6, e7]) rfl ⟨_, _, rfl, exec_row HS.out.regs HW1.out.size hlt ho5, exec_row HS.out.slots HW1.out.size hlt ho5, HS.out.apRS, hB5 _ _ (by omega) (below_step HW1.out HS.out.below)⟩

theorem execute_Start.calls (a0_0 : Int) (a0_1 : Int) (a0_2 : Int) (A0_3 : Option Addr) (c0_3 : Nat) (l0_3 : List (S69)) (A1 : Option Addr) (c1 : Nat) (l1 : List Int) (r1 : Int) (r2 : Int) (r3 : Int) (r4 : Int) (r5 : List Int) (r6 : List Int) (r7 : List Int) (r8 : Int) (r9 : Int) (w : World)
    (hr0_3 : Kd.C k69 w A0_3 l0_3.length l0_3) (hc0_3 : l0_3.length ≤ c0_3) (hr1 : Kd.C (Kd.int .i64) w A1 l1.length l1) (hc1 : l1.length ≤ c1) (h : execute_Start.f a0_0 a0_1 a0_2 l0_3 l1 = some (r1, r2, r3, r4, r5, r6, r7, r8, r9)) :
    Calls Try.prog 50 #[.agg #[.int .i64 a0_0, .int .i64 a0_1, .int .i64 a0_2, .slice A0_3 l0_3.length c0_3], .slice A1 l1.length c1] w fun e w' => ∃ v4_ v5_ v6_ : Value, e = .returned (.tuple #[.agg #[.int .i64 r1, .int .i64 r2, .int .i64 r3, .int .i64 r4, v4_, v5_, v6_, .int .i64 r8], .int .i64 r9]) ∧ Kd.R (Kd.int .i64) 2 w' w.heap.size (fun k_ => some k_ ≠ (v5_ : Value).ownBlock ∧ some k_ ≠ (v6_ : Value).ownBlock) v4_ r5 ∧ Kd.R (Kd.int .i64) 2 w' w.heap.size (fun k_ => some k_ ≠ (v4_ : Value).ownBlock ∧ some k_ ≠ (v6_ : Value).ownBlock) v5_ r6 ∧ Kd.R (Kd.int .i64) 2 w' w.heap.size (fun k_ => some k_ ≠ (v4_ : Value).ownBlock ∧ some k_ ≠ (v5_ : Value).ownBlock) v6_ r7 ∧ Below w.heap.size w w' := by
  unfold execute_Start.f at h
  by_cases ha : (l1.length : Int) = a0_0
  rotate_left
  ·rw [if_neg ha] at h
   injection h with hq
   injection hq with q1 hq
   injection hq with q2 hq
   injection hq with q3 hq
   injection hq with q4 hq
   injection hq with q5 hq
   injection hq with q6 hq
   injection hq with q7 hq
   injection hq with q8 q9
   subst q1 q2 q3 q4 q5 q6 q7 q8 q9
   refine (start_err w a0_0 a0_1 a0_2 A0_3 A1 l0_3.length c0_3 c1 l1 ha).mono ?_
   rintro e w1 ⟨rfl, hB⟩
   exact ⟨_, _, _, rfl, Kd.R_nil _ _ _ _ _, Kd.R_nil _ _ _ _ _, Kd.R_nil _ _ _ _ _, hB⟩
  rw [if_pos ha] at h
  by_cases hb : 0 ≤ a0_1 ∧ a0_1.toNat * 8 ≤ 281474976710656 ∧ 0 ≤ a0_2 ∧ a0_2.toNat * 8 ≤ 281474976710656
  rotate_left
  ·rw [if_neg hb] at h
   cases h
  rw [if_pos hb] at h
  injection h with hq
  injection hq with q1 hq
  injection hq with q2 hq
  injection hq with q3 hq
  injection hq with q4 hq
  injection hq with q5 hq
  injection hq with q6 hq
  injection hq with q7 hq
  injection hq with q8 q9
  subst q1 q2 q3 q4 q5 q6 q7 q8 q9
  refine (start_ok w a0_0 a0_1 a0_2 A0_3 A1 l0_3.length c0_3 c1 l1 hr1 hc1 ha hb.1 hb.2.1 hb.2.2.1 hb.2.2.2).mono ?_
  rintro e w1 ⟨vR, vS, rfl, hR, hS, hRS, hB⟩
  have hn : (Value.slice none 0 0).ownBlock = none := by simp [Value.ownBlock]
  refine ⟨vR, vS, .slice none 0 0, rfl, ⟨fun k hk => ?_, hR.2⟩, ⟨fun k hk => ?_, hS.2⟩, Kd.R_nil _ _ _ _ _, hB⟩
  · exact ⟨hRS k hk, by rw [hn]; simp⟩
  · exact ⟨fun e => hRS k e.symm hk.symm, by rw [hn]; simp⟩

end Go.Proofs.Ytgkmagfajalnhaa.E
