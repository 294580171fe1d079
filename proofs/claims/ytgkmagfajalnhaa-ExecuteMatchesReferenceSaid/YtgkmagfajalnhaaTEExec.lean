/-
  Exec: the plain function and its contract.
-/
import Derived.Test.YtgkmagfajalnhaaTEStep
import Derived.Test.YtgkmagfajalnhaaTEBegin
import Derived.Test.YtgkmagfajalnhaaTXAlu
namespace Go.Proofs.Ytgkmagfajalnhaa.E
open Go.RowKit Go.Proofs.YtgkmagfajalnhaaW.PrintWords Go.Proofs.YtgkmagfajalnhaaW.PrintLast Go.Proofs.YtgkmagfajalnhaaW.PrintMore
set_option linter.unusedVariables false
set_option linter.unusedSimpArgs false
attribute [local go_sem] max2_int min2_int max_two min_two max_three min_three max_four min_four

def execLoop : Nat → List S69 → Int → PS → Option PS
  | 0, _, _, _ => none
  | k + 1, l, m, s => if s.st = 0 then (if s.steps < m then (stepP l s).bind (execLoop k l m) else some s) else some s
def fuelOf (a : Int) : Int := if (1073741824 : Int) < a then 1073741824 else a
def execute_Exec.f (k : Nat) (a0_0 a0_1 a0_2 : Int) (l0_3 : List S69) (l1 : List Int) (a2 : Int) : Option (Int × Int × Int × Int × List Int × List Int × List Int × Int × Int) :=
  if (l1.length : Int) = a0_0 then
    (if 0 ≤ a0_1 ∧ a0_1.toNat * 8 ≤ 281474976710656 ∧ 0 ≤ a0_2 ∧ a0_2.toNat * 8 ≤ 281474976710656 then (execLoop k l0_3 (fuelOf a2) (beginP a0_1 a0_2 l1)).bind fun s => some (s.st, s.blk, s.at_, s.val, s.regs, s.slots, s.trace, s.steps, 0) else none)
  else some (0, 0, 0, 0, [], [], [], 0, 32)

set_option maxRecDepth 100000 in
set_option maxHeartbeats 4000000 in
theorem exec_err (w : World) (fa fr fs : Int) (A A1 : Option Addr) (n cB c1 : Nat) (l1 : List Int) (fuel : Int) (hne : (l1.length : Int) ≠ fa) :
    Calls Try.prog 46 #[.agg #[.int .i64 fa, .int .i64 fr, .int .i64 fs, .slice A n cB], .slice A1 l1.length c1, .int .i64 fuel] w fun e W' =>
      e = .returned (.tuple #[.agg #[.int .i64 0, .int .i64 0, .int .i64 0, .int .i64 0, .slice none 0 0, .slice none 0 0, .slice none 0 0, .int .i64 0], .int .i64 32]) ∧ Below w.heap.size w W' := by
  have hu := Try.underlying63
  have hu1 := Try.underlying108
  have hu2 := Try.underlying39
  have hu35 := Try.underlying35
  have hb : ((l1.length : Int) != fa) = true := bne_iff_ne.mpr hne
  go_enter Try.func46, Try.ntmps46
  have HW1 := Aside0.mk (below_alloc (below_alloc (Below.refl w.heap.size w) (.cells #[.int .i64 fa, .int .i64 fr, .int .i64 fs, .slice A n cB] 63 (0, 0))) (.cells #[.int .i64 0, .int .i64 0, .int .i64 0, .int .i64 0, .slice none 0 0, .slice none 0 0, .slice none 0 0, .int .i64 0] 39 (0, 0)))
  have HX1 := blk_new (w.alloc (.cells #[.int .i64 fa, .int .i64 fr, .int .i64 fs, .slice A n cB] 63 (0, 0))) (.cells #[.int .i64 0, .int .i64 0, .int .i64 0, .int .i64 0, .slice none 0 0, .slice none 0 0, .slice none 0 0, .int .i64 0] 39 (0, 0))
  have hsz : (w.alloc (.cells #[.int .i64 fa, .int .i64 fr, .int .i64 fs, .slice A n cB] 63 (0, 0))).heap.size = w.heap.size + 1 := by simp
  rw [hsz] at HX1
  have HX2 := Aside0.mk HX1
  clear HX1 hsz
  go_wp2
  generalize hw1 : (w.alloc (Obj.cells #[.int .i64 fa, .int .i64 fr, .int .i64 fs, .slice A n cB] 63)).alloc (Obj.cells #[.int .i64 0, .int .i64 0, .int .i64 0, .int .i64 0, .slice none 0 0, .slice none 0 0, .slice none 0 0, .int .i64 0] 39) = w1 at *
  clear hw1
  have e0 := (blk_cell HX2.out 0)
  have e1 := (blk_cell HX2.out 1)
  have e2 := (blk_cell HX2.out 2)
  have e3 := (blk_cell HX2.out 3)
  have e4 := (blk_cell HX2.out 4)
  have e5 := (blk_cell HX2.out 5)
  have e6 := (blk_cell HX2.out 6)
  have e7 := (blk_cell HX2.out 7)
  simp only [List.getElem?_toArray, List.getElem?_cons_zero, List.getElem?_cons_succ] at e0 e1 e2 e3 e4 e5 e6 e7
  exact bodyPost_ret (v := .tuple #[.agg #[.int .i64 0, .int .i64 0, .int .i64 0, .int .i64 0, .slice none 0 0, .slice none 0 0, .slice none 0 0, .int .i64 0], .int .i64 32]) (by simp [results, Try.results46, go_sem, e0, e1, e2, e3, e4, e5, e6, e7]) rfl ⟨rfl, HW1.out⟩

theorem exec_row {w w1 wr w5 : World} {v : Value} {xs : List Int} {g : Nat} (h : (Kd.int .i64).R 2 wr w1.heap.size (fun _ => True) v xs) (hb : w.heap.size ≤ w1.heap.size) (hg : g < w1.heap.size) (ho : ∀ i, i ≠ g → w5.heap[i]? = wr.heap[i]?) :
    (Kd.int .i64).R 2 w5 w.heap.size (fun _ => True) v xs :=
  Kd.R_lower (Kd.R_mono (Kd.R_step (Kd.R_bound h) (fun k hk _ => ho k (by have := hk.2.1; omega))) (fun _ _ => trivial)) hb

set_option maxRecDepth 100000 in
set_option maxHeartbeats 4000000 in
theorem exec_ok (k : Nat) (w : World) (fa fr fs : Int) (A A1 : Option Addr) (cB c1 : Nat) (l : List S69) (l1 : List Int) (fuel m : Int) (sr : PS) (hC : Kd.C k69 w A l.length l) (hR : (Kd.int .i64).C w A1 l1.length l1) (hc1 : l1.length ≤ c1)
    (hne : (l1.length : Int) = fa) (h0 : 0 ≤ fr) (hl : fr.toNat * 8 ≤ 281474976710656) (h2 : 0 ≤ fs) (hl2 : fs.toNat * 8 ≤ 281474976710656) (hm : (if (1073741824 : Int) < fuel then 1073741824 else fuel) = m) (h : execLoop k l m (beginP fr fs l1) = some sr) :
    Calls Try.prog 46 #[.agg #[.int .i64 fa, .int .i64 fr, .int .i64 fs, .slice A l.length cB], .slice A1 l1.length c1, .int .i64 fuel] w fun e W' =>
      ∃ vR vS vT, e = .returned (.tuple #[.agg #[.int .i64 sr.st, .int .i64 sr.blk, .int .i64 sr.at_, .int .i64 sr.val, vR, vS, vT, .int .i64 sr.steps], .int .i64 0]) ∧
        (Kd.int .i64).R 2 W' w.heap.size (fun _ => True) vR sr.regs ∧ (Kd.int .i64).R 2 W' w.heap.size (fun _ => True) vS sr.slots ∧ (Kd.int .i64).R 2 W' w.heap.size (fun _ => True) vT sr.trace ∧ (∀ k, vR.ownBlock = some k → some k ≠ vT.ownBlock) ∧ (∀ k, vR.ownBlock = some k → some k ≠ vS.ownBlock) ∧ (∀ k, vS.ownBlock = some k → some k ≠ vT.ownBlock) ∧ Below w.heap.size w W' := by
  have hu := Try.underlying63
  have hu1 := Try.underlying108
  have hu2 := Try.underlying39
  have hu35 := Try.underlying35
  have hb : ((l1.length : Int) != fa) = false := by simp [hne]
  have HC := Aside0.mk hC
  have HR1 := Aside0.mk hR
  have H' := Aside0.mk h
  have HW1 := Aside0.mk (below_alloc (below_alloc (Below.refl w.heap.size w) (.cells #[.int .i64 fa, .int .i64 fr, .int .i64 fs, .slice A l.length cB] 63 (0, 0))) (.cells #[.int .i64 0, .int .i64 0, .int .i64 0, .int .i64 0, .slice none 0 0, .slice none 0 0, .slice none 0 0, .int .i64 0] 39 (0, 0)))
  have HX1 := blk_new (w.alloc (.cells #[.int .i64 fa, .int .i64 fr, .int .i64 fs, .slice A l.length cB] 63 (0, 0))) (.cells #[.int .i64 0, .int .i64 0, .int .i64 0, .int .i64 0, .slice none 0 0, .slice none 0 0, .slice none 0 0, .int .i64 0] 39 (0, 0))
  have hsz : (w.alloc (.cells #[.int .i64 fa, .int .i64 fr, .int .i64 fs, .slice A l.length cB] 63 (0, 0))).heap.size = w.heap.size + 1 := by simp
  rw [hsz] at HX1
  have HX2 := Aside0.mk HX1
  clear hC hR h HX1 hsz
  go_enter Try.func46, Try.ntmps46
  go_wp2_with ((with_reducible refine gate_callee (f := 68) rfl ?_); generalize hw1 : (w.alloc (Obj.cells #[.int .i64 fa, .int .i64 fr, .int .i64 fs, .slice A l.length cB] 63)).alloc (Obj.cells #[.int .i64 0, .int .i64 0, .int .i64 0, .int .i64 0, .slice none 0 0, .slice none 0 0, .slice none 0 0, .int .i64 0] 39) = w1 at *; clear hw1; go_loud (refine goesL_ (some 17) rfl rfl Try.func68 (by kernel_rfl) rfl #[.agg #[.int .i64 fa, .int .i64 fr, .int .i64 fs, .slice A l.length cB], .slice A1 l1.length c1] rfl (by (try simp only [List.map_toArray, List.map_cons, List.map_nil]); rfl) ?_); go_loud (with_reducible refine (begin_calls w1 fa fr fs A A1 l.length cB c1 l1 h0 hl h2 hl2 (Kd.C_below HR1.out HW1.out) hc1).mono ?_); rintro e w3 ⟨g, vR, vS, rfl, HS⟩; refine ⟨_, rfl, ?_⟩; have HS3 := Aside0.mk HS; have HC1 := Aside0.mk (Kd.C_below HC.out HW1.out); clear HS HC)
  go_loopg [] k (fun kq w' => ∃ (s : PS) (vT1 : Value), Aside0 (St w1 w' g vR vT1 s vS fa fr fs (.slice A l.length cB)) ∧ Aside0 (execLoop kq l m s = some sr) ∧ Aside0 (kq ≤ k))
  case atStart => exact ⟨beginP fr fs l1, _, HS3, H', ⟨Nat.le_refl _⟩⟩
  case round =>
    clear H' HS3
    obtain ⟨s, vT1, HS, HA, HK1⟩ := hrel
    cases gk with
    | zero => exact absurd HA.out (by simp [execLoop])
    | succ k1 =>
      have H := HA.out
      clear HA
      simp only [execLoop] at H
      by_cases c1 : s.st = 0
      · rw [if_pos c1] at H
        by_cases c2 : s.steps < m
        · rw [if_pos c2] at H
          have c2b : decide (s.steps < m) = true := decide_eq_true c2
          have c1b : (s.st == 0) = true := beq_iff_eq.mpr c1
          obtain ⟨s2, hs2, H2⟩ := Option.bind_eq_some_iff.mp H
          clear H c1 c2
          (obtain ⟨q0, q1, q2, q3, q4, q5, q6, q7, q8, q9, q10, q11⟩ := St.cells (Aside0.out HS); have f0 := St.frozen (Aside0.out HS) 0; have f1 := St.frozen (Aside0.out HS) 1; have f2 := St.frozen (Aside0.out HS) 2; have f3 := St.frozen (Aside0.out HS) 3; have f4 := St.frozen (Aside0.out HS) 4; have f5 := St.frozen (Aside0.out HS) 5; have f6 := St.frozen (Aside0.out HS) 6; have f7 := St.frozen (Aside0.out HS) 7; (try dsimp only at q0 q1 q2 q3 q4 q5 q6 q7 q8 q9 q10 q11))
          go_wp2_with ((with_reducible refine gate_callee (f := 69) rfl ?_); (clear q0 q1 q2 q3 q4 q5 q6 q7 q8 q9 q10 q11 f0 f1 f2 f3 f4 f5 f6 f7); go_loud (refine goesL_ (some 35) rfl rfl Try.func69 (by kernel_rfl) rfl #[.pointer (some ⟨g, 0, none⟩)] rfl (by (try simp only [List.map_toArray, List.map_cons, List.map_nil]); rfl) ?_); go_loud (with_reducible refine (step_calls l HC1.out HS.out hs2).mono ?_); rintro e w4 ⟨rfl, vT2, HS4⟩; refine ⟨_, rfl, ?_⟩)
          go_roundg k1
          case measure => have := HK1.out; omega
          case rel => exact ⟨s2, vT2, ⟨HS4⟩, ⟨H2⟩, ⟨by have := HK1.out; omega⟩⟩
        · rw [if_neg c2] at H
          obtain rfl := Option.some.inj H
          have c2b : decide (s.steps < m) = false := decide_eq_false c2
          have c1b : (s.st == 0) = true := beq_iff_eq.mpr c1
          obtain ⟨AR, cR, eR⟩ := Kd.R_slice HS.out.regs
          obtain ⟨AT, cT, eT⟩ := Kd.R_slice HS.out.trace
          obtain ⟨AS, cS, eS⟩ := Kd.R_slice HS.out.slots
          generalize s.regs.length = nR at eR
          generalize s.trace.length = nT at eT
          generalize s.slots.length = nS at eS
          subst eR
          subst eT
          subst eS
          (obtain ⟨q0, q1, q2, q3, q4, q5, q6, q7, q8, q9, q10, q11⟩ := St.cells (Aside0.out HS); have f0 := St.frozen (Aside0.out HS) 0; have f1 := St.frozen (Aside0.out HS) 1; have f2 := St.frozen (Aside0.out HS) 2; have f3 := St.frozen (Aside0.out HS) 3; have f4 := St.frozen (Aside0.out HS) 4; have f5 := St.frozen (Aside0.out HS) 5; have f6 := St.frozen (Aside0.out HS) 6; have f7 := St.frozen (Aside0.out HS) 7; (try dsimp only at q0 q1 q2 q3 q4 q5 q6 q7 q8 q9 q10 q11))
          go_wp2_with ((with_reducible refine gate_ (.store 39 (.tmp 6) (.tmp 39)) rfl ?_); go_loud (refine X.store_row_event rfl rfl 39 _ _ rfl (w.heap.size + 1) _ rfl rfl 39 #[.int .i64 0, .int .i64 0, .int .i64 0, .int .i64 0, .slice none 0 0, .slice none 0 0, .slice none 0 0, .int .i64 0] (blk_below HX2.out HS.out.below) (by kernel_rfl) rfl (by simp [Value.oneCell']) ?_); (clear q0 q1 q2 q3 q4 q5 q6 q7 q8 q9 q10 q11 f0 f1 f2 f3 f4 f5 f6 f7); intro w5 hg5 ho5 hB5; have e0 := (blk_cell hg5 0); have e1 := (blk_cell hg5 1); have e2 := (blk_cell hg5 2); have e3 := (blk_cell hg5 3); have e4 := (blk_cell hg5 4); have e5 := (blk_cell hg5 5); have e6 := (blk_cell hg5 6); have e7 := (blk_cell hg5 7); simp only [List.getElem?_toArray, List.getElem?_cons_zero, List.getElem?_cons_succ] at e0 e1 e2 e3 e4 e5 e6 e7)
          have hlt := blk_lt HX2.out
          exact bodyPost_ret (v := .tuple #[.agg #[.int .i64 0, .int .i64 s.blk, .int .i64 s.at_, .int .i64 s.val, .slice AR nR cR, .slice AS nS cS, .slice AT nT cT, .int .i64 s.steps], .int .i64 0]) (by simp [results, Try.results46, go_sem, e0, e1, e2, e3, e4, e5, e6, e7]) rfl ⟨_, _, _, rfl, exec_row HS.out.regs HW1.out.size hlt ho5, exec_row HS.out.slots HW1.out.size hlt ho5, exec_row HS.out.trace HW1.out.size hlt ho5, HS.out.apart, HS.out.apRS, HS.out.apST, hB5 _ _ (by omega) (below_step HW1.out HS.out.below)⟩
      · rw [if_neg c1] at H
        obtain rfl := Option.some.inj H
        have c1b : (s.st == 0) = false := beq_eq_false_iff_ne.mpr c1
        obtain ⟨AR, cR, eR⟩ := Kd.R_slice HS.out.regs
        obtain ⟨AT, cT, eT⟩ := Kd.R_slice HS.out.trace
        obtain ⟨AS, cS, eS⟩ := Kd.R_slice HS.out.slots
        generalize s.regs.length = nR at eR
        generalize s.trace.length = nT at eT
        generalize s.slots.length = nS at eS
        subst eR
        subst eT
        subst eS
        (obtain ⟨q0, q1, q2, q3, q4, q5, q6, q7, q8, q9, q10, q11⟩ := St.cells (Aside0.out HS); have f0 := St.frozen (Aside0.out HS) 0; have f1 := St.frozen (Aside0.out HS) 1; have f2 := St.frozen (Aside0.out HS) 2; have f3 := St.frozen (Aside0.out HS) 3; have f4 := St.frozen (Aside0.out HS) 4; have f5 := St.frozen (Aside0.out HS) 5; have f6 := St.frozen (Aside0.out HS) 6; have f7 := St.frozen (Aside0.out HS) 7; (try dsimp only at q0 q1 q2 q3 q4 q5 q6 q7 q8 q9 q10 q11))
        go_wp2_with ((with_reducible refine gate_ (.store 39 (.tmp 6) (.tmp 39)) rfl ?_); go_loud (refine X.store_row_event rfl rfl 39 _ _ rfl (w.heap.size + 1) _ rfl rfl 39 #[.int .i64 0, .int .i64 0, .int .i64 0, .int .i64 0, .slice none 0 0, .slice none 0 0, .slice none 0 0, .int .i64 0] (blk_below HX2.out HS.out.below) (by kernel_rfl) rfl (by simp [Value.oneCell']) ?_); (clear q0 q1 q2 q3 q4 q5 q6 q7 q8 q9 q10 q11 f0 f1 f2 f3 f4 f5 f6 f7); intro w5 hg5 ho5 hB5; have e0 := (blk_cell hg5 0); have e1 := (blk_cell hg5 1); have e2 := (blk_cell hg5 2); have e3 := (blk_cell hg5 3); have e4 := (blk_cell hg5 4); have e5 := (blk_cell hg5 5); have e6 := (blk_cell hg5 6); have e7 := (blk_cell hg5 7); simp only [List.getElem?_toArray, List.getElem?_cons_zero, List.getElem?_cons_succ] at e0 e1 e2 e3 e4 e5 e6 e7)
        have hlt := blk_lt HX2.out
        exact bodyPost_ret (v := .tuple #[.agg #[.int .i64 s.st, .int .i64 s.blk, .int .i64 s.at_, .int .i64 s.val, .slice AR nR cR, .slice AS nS cS, .slice AT nT cT, .int .i64 s.steps], .int .i64 0]) (by simp [results, Try.results46, go_sem, e0, e1, e2, e3, e4, e5, e6, e7]) rfl ⟨_, _, _, rfl, exec_row HS.out.regs HW1.out.size hlt ho5, exec_row HS.out.slots HW1.out.size hlt ho5, exec_row HS.out.trace HW1.out.size hlt ho5, HS.out.apart, HS.out.apRS, HS.out.apST, hB5 _ _ (by omega) (below_step HW1.out HS.out.below)⟩

theorem execute_Exec.calls (k : Nat) (a0_0 : Int) (a0_1 : Int) (a0_2 : Int) (A0_3 : Option Addr) (c0_3 : Nat) (l0_3 : List (S69)) (A1 : Option Addr) (c1 : Nat) (l1 : List Int) (a2 : Int) (r1 : Int) (r2 : Int) (r3 : Int) (r4 : Int) (r5 : List Int) (r6 : List Int) (r7 : List Int) (r8 : Int) (r9 : Int) (w : World)
    (hr0_3 : Kd.C k69 w A0_3 l0_3.length l0_3) (hc0_3 : l0_3.length ≤ c0_3) (hr1 : Kd.C (Kd.int .i64) w A1 l1.length l1) (hc1 : l1.length ≤ c1) (h : execute_Exec.f k a0_0 a0_1 a0_2 l0_3 l1 a2 = some (r1, r2, r3, r4, r5, r6, r7, r8, r9)) :
    Calls Try.prog 46 #[.agg #[.int .i64 a0_0, .int .i64 a0_1, .int .i64 a0_2, .slice A0_3 l0_3.length c0_3], .slice A1 l1.length c1, .int .i64 a2] w fun e w' => ∃ v4_ v5_ v6_ : Value, e = .returned (.tuple #[.agg #[.int .i64 r1, .int .i64 r2, .int .i64 r3, .int .i64 r4, v4_, v5_, v6_, .int .i64 r8], .int .i64 r9]) ∧ Kd.R (Kd.int .i64) 2 w' w.heap.size (fun k_ => some k_ ≠ (v5_ : Value).ownBlock ∧ some k_ ≠ (v6_ : Value).ownBlock) v4_ r5 ∧ Kd.R (Kd.int .i64) 2 w' w.heap.size (fun k_ => some k_ ≠ (v4_ : Value).ownBlock ∧ some k_ ≠ (v6_ : Value).ownBlock) v5_ r6 ∧ Kd.R (Kd.int .i64) 2 w' w.heap.size (fun k_ => some k_ ≠ (v4_ : Value).ownBlock ∧ some k_ ≠ (v5_ : Value).ownBlock) v6_ r7 ∧ Below w.heap.size w w' := by
  unfold execute_Exec.f at h
  by_cases ha : (l1.length : Int) = a0_0
  rotate_left
  ·rw [if_neg ha] at h
   injection h with hq
   injection hq with q1 hq
   injection hq with q2 hq
   injection hq with q3 hq
   injection hq with q4 hq
   injection hq with q5 hq
   injection hq with q6 hq
   injection hq with q7 hq
   injection hq with q8 q9
   subst q1 q2 q3 q4 q5 q6 q7 q8 q9
   refine (exec_err w a0_0 a0_1 a0_2 A0_3 A1 l0_3.length c0_3 c1 l1 a2 ha).mono ?_
   rintro e w1 ⟨rfl, hB⟩
   exact ⟨_, _, _, rfl, Kd.R_nil _ _ _ _ _, Kd.R_nil _ _ _ _ _, Kd.R_nil _ _ _ _ _, hB⟩
  rw [if_pos ha] at h
  by_cases hb : 0 ≤ a0_1 ∧ a0_1.toNat * 8 ≤ 281474976710656 ∧ 0 ≤ a0_2 ∧ a0_2.toNat * 8 ≤ 281474976710656
  rotate_left
  ·rw [if_neg hb] at h
   cases h
  rw [if_pos hb] at h
  obtain ⟨s, hs, hq⟩ := Option.bind_eq_some_iff.mp h
  injection hq with hq
  injection hq with q1 hq
  injection hq with q2 hq
  injection hq with q3 hq
  injection hq with q4 hq
  injection hq with q5 hq
  injection hq with q6 hq
  injection hq with q7 hq
  injection hq with q8 q9
  subst q1 q2 q3 q4 q5 q6 q7 q8 q9
  refine (exec_ok k w a0_0 a0_1 a0_2 A0_3 A1 c0_3 c1 l0_3 l1 a2 (fuelOf a2) s hr0_3 hr1 hc1 ha hb.1 hb.2.1 hb.2.2.1 hb.2.2.2 rfl hs).mono ?_
  rintro e w1 ⟨vR, vS, vT, rfl, hR, hS, hT, hap, hRS, hST, hB⟩
  exact ⟨vR, vS, vT, rfl, ⟨fun k hk => ⟨hRS k hk, hap k hk⟩, hR.2⟩, ⟨fun k hk => ⟨fun e => hRS k e.symm hk.symm, hST k hk⟩, hS.2⟩, ⟨fun k hk => ⟨fun e => hap k e.symm hk.symm, fun e => hST k e.symm hk.symm⟩, hT.2⟩, hB⟩

theorem execLoop_mono (l : List S69) (m : Int) : ∀ k s, LeO (execLoop k l m s) (execLoop (k + 1) l m s) := by
  intro k
  induction k with
  | zero => exact fun s => LeO.none _
  | succ k ih =>
    intro s
    simp only [execLoop]
    refine LeO.ite (LeO.ite (LeO.bind (LeO.refl _) (fun s2 => ?_)) (LeO.refl _)) (LeO.refl _)
    exact ih s2
theorem execute_Exec.mono : ∀ a0 a1 a2 a3 a4 a5 k, LeO (execute_Exec.f k a0 a1 a2 a3 a4 a5) (execute_Exec.f (k + 1) a0 a1 a2 a3 a4 a5) := by
  intro a0 a1 a2 a3 a4 a5 k
  unfold execute_Exec.f
  exact LeO.ite (LeO.ite (LeO.bind (execLoop_mono _ _ k _) (fun _ => LeO.refl _)) (LeO.refl _)) (LeO.refl _)
end Go.Proofs.Ytgkmagfajalnhaa.E
