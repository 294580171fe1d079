/-
  The reference's Step: the walk of its beginning.
-/
import Derived.Test.YtgkmagfajalnhaaTERefState
import Derived.Test.YtgkmagfajalnhaaTERCopy
import Derived.Test.YtgkmagfajalnhaaTXAlu
import Derived.Outline
namespace Go.Proofs.Ytgkmagfajalnhaa.E
open Go.RowKit Go.Proofs.YtgkmagfajalnhaaW.PrintWords Go.Proofs.YtgkmagfajalnhaaW.PrintLast Go.Proofs.YtgkmagfajalnhaaW.PrintMore
set_option linter.unusedVariables false
set_option linter.unusedSimpArgs false

theorem ref_row {w w1 wr w5 : World} {v : Value} {xs : List Int} {g : Nat} {ok : Nat → Prop} (h : (Kd.int .i64).R 2 wr w1.heap.size ok v xs) (hb : w.heap.size ≤ w1.heap.size) (hg : g < w1.heap.size) (ho : ∀ i, i ≠ g → w5.heap[i]? = wr.heap[i]?) :
    (Kd.int .i64).R 2 w5 w.heap.size ok v xs :=
  Kd.R_lower (Kd.R_mono (Kd.R_step (Kd.R_bound h) (fun k hk _ => ho k (by have := hk.2.1; omega))) (fun _ hk => hk.1)) hb

set_option maxRecDepth 100000 in
set_option maxHeartbeats 4000000 in
theorem ref_stay (w : World) (fa fr fs : Int) (A A4 A5 A6 : Option Addr) (cB c4 c5 c6 : Nat) (l : List S69) (st blk at_ val : Int) (l4 l5 l6 : List Int) (steps : Int)
    (hC4 : (Kd.int .i64).C w A4 l4.length l4) (h4 : l4.length ≤ c4) (hC5 : (Kd.int .i64).C w A5 l5.length l5) (h5 : l5.length ≤ c5) (hC6 : (Kd.int .i64).C w A6 l6.length l6) (h6 : l6.length ≤ c6) (hl4 : l4.length < 17592186044416) (hl5 : l5.length < 17592186044416) (hl6 : l6.length < 17592186044416) (hst : (st != 0) = true) :
    Calls Try.prog 57 #[.agg #[.int .i64 fa, .int .i64 fr, .int .i64 fs, .slice A l.length cB], .agg #[.int .i64 st, .int .i64 blk, .int .i64 at_, .int .i64 val, .slice A4 l4.length c4, .slice A5 l5.length c5, .slice A6 l6.length c6, .int .i64 steps]] w fun e W' => ∃ vR vS vT, e = .returned (.agg #[.int .i64 st, .int .i64 blk, .int .i64 at_, .int .i64 val, vR, vS, vT, .int .i64 steps]) ∧
      (Kd.int .i64).R 2 W' w.heap.size (fun k_ => some k_ ≠ vS.ownBlock ∧ some k_ ≠ vT.ownBlock) vR l4 ∧ (Kd.int .i64).R 2 W' w.heap.size (fun k_ => some k_ ≠ vR.ownBlock ∧ some k_ ≠ vT.ownBlock) vS l5 ∧ (Kd.int .i64).R 2 W' w.heap.size (fun k_ => some k_ ≠ vR.ownBlock ∧ some k_ ≠ vS.ownBlock) vT l6 ∧ Below w.heap.size w W' := by
  have hu := Try.underlying63
  have hu2 := Try.underlying39
  have hu35 := Try.underlying35
  have HC4 := Aside0.mk hC4
  have HC5 := Aside0.mk hC5
  have HC6 := Aside0.mk hC6
  have hcp : regcertref09_Copy.f st blk at_ val l4 l5 l6 steps = some (st, blk, at_, val, l4, l5, l6, steps) := by
    unfold regcertref09_Copy.f
    simp only [Option.bind_some, List.nil_append, List.length_nil]
    rw [if_pos (by omega), if_pos (by omega), if_pos (by omega)]
  have HW3 := Aside0.mk (below_alloc (below_alloc (below_alloc (Below.refl w.heap.size w) (.cells #[.int .i64 fa, .int .i64 fr, .int .i64 fs, .slice A l.length cB] 63 (0, 0))) (.cells #[.int .i64 st, .int .i64 blk, .int .i64 at_, .int .i64 val, .slice A4 l4.length c4, .slice A5 l5.length c5, .slice A6 l6.length c6, .int .i64 steps] 39 (0, 0))) (.cells #[.int .i64 0, .int .i64 0, .int .i64 0, .int .i64 0, .slice none 0 0, .slice none 0 0, .slice none 0 0, .int .i64 0] 39 (0, 0)))
  have s1 : (w.alloc (.cells #[.int .i64 fa, .int .i64 fr, .int .i64 fs, .slice A l.length cB] 63 (0, 0))).heap.size = w.heap.size + 1 := by simp
  have s2 : ((w.alloc (.cells #[.int .i64 fa, .int .i64 fr, .int .i64 fs, .slice A l.length cB] 63 (0, 0))).alloc (.cells #[.int .i64 st, .int .i64 blk, .int .i64 at_, .int .i64 val, .slice A4 l4.length c4, .slice A5 l5.length c5, .slice A6 l6.length c6, .int .i64 steps] 39 (0, 0))).heap.size = w.heap.size + 1 + 1 := by simp
  have hxr := blk_new (w.alloc (.cells #[.int .i64 fa, .int .i64 fr, .int .i64 fs, .slice A l.length cB] 63 (0, 0))) (.cells #[.int .i64 st, .int .i64 blk, .int .i64 at_, .int .i64 val, .slice A4 l4.length c4, .slice A5 l5.length c5, .slice A6 l6.length c6, .int .i64 steps] 39 (0, 0))
  rw [s1] at hxr
  have hxr2 := Aside0.mk (blk_alloc hxr (.cells #[.int .i64 0, .int .i64 0, .int .i64 0, .int .i64 0, .slice none 0 0, .slice none 0 0, .slice none 0 0, .int .i64 0] 39 (0, 0)))
  have hx2 := blk_new ((w.alloc (.cells #[.int .i64 fa, .int .i64 fr, .int .i64 fs, .slice A l.length cB] 63 (0, 0))).alloc (.cells #[.int .i64 st, .int .i64 blk, .int .i64 at_, .int .i64 val, .slice A4 l4.length c4, .slice A5 l5.length c5, .slice A6 l6.length c6, .int .i64 steps] 39 (0, 0))) (.cells #[.int .i64 0, .int .i64 0, .int .i64 0, .int .i64 0, .slice none 0 0, .slice none 0 0, .slice none 0 0, .int .i64 0] 39 (0, 0))
  rw [s2] at hx2
  have HX2 := Aside0.mk hx2
  clear hC4 hC5 hC6 s1 s2 hxr hx2
  go_enter Try.func57, Try.ntmps57
  go_wp2_with (first
    | ((with_reducible refine gate_callee (f := 38) rfl ?_); generalize hw3 : ((w.alloc (Obj.cells #[.int .i64 fa, .int .i64 fr, .int .i64 fs, .slice A l.length cB] 63)).alloc (Obj.cells #[.int .i64 st, .int .i64 blk, .int .i64 at_, .int .i64 val, .slice A4 l4.length c4, .slice A5 l5.length c5, .slice A6 l6.length c6, .int .i64 steps] 39)).alloc (Obj.cells #[.int .i64 0, .int .i64 0, .int .i64 0, .int .i64 0, .slice none 0 0, .slice none 0 0, .slice none 0 0, .int .i64 0] 39) = w3 at *; clear hw3; go_loud (refine goesL_ (some 12) rfl rfl Try.func38 (by kernel_rfl) rfl #[.agg #[.int .i64 st, .int .i64 blk, .int .i64 at_, .int .i64 val, .slice A4 l4.length c4, .slice A5 l5.length c5, .slice A6 l6.length c6, .int .i64 steps]] rfl (by (try simp only [List.map_toArray, List.map_cons, List.map_nil]); rfl) ?_); go_loud (with_reducible refine (regcertref09_Copy.calls st blk at_ val A4 c4 l4 A5 c5 l5 A6 c6 l6 steps _ _ _ _ _ _ _ _ w3 (Kd.C_below HC4.out HW3.out) h4 (Kd.C_below HC5.out HW3.out) h5 (Kd.C_below HC6.out HW3.out) h6 hcp).mono ?_); rintro e w4 ⟨v4, v5, v6, rfl, hR, hS, hT, hB⟩; refine ⟨_, rfl, ?_⟩; obtain ⟨AR, cR, eR⟩ := Kd.R_slice hR; obtain ⟨AS, cS, eS⟩ := Kd.R_slice hS; obtain ⟨AT, cT, eT⟩ := Kd.R_slice hT; generalize l4.length = nR at eR; generalize l5.length = nS at eS; generalize l6.length = nT at eT; subst eR eS eT; have XR := blk_cell (blk_below hxr2.out hB) 0; simp only [List.getElem?_toArray, List.getElem?_cons_zero, List.getElem?_cons_succ] at XR; have XA : ∀ o, (w4.alloc o).cell? ⟨w.heap.size + 1, 0, none⟩ = some (.int .i64 st) := fun o => cell_alloc XR o; have YR := Aside0.mk hR; have YS := Aside0.mk hS; have YT := Aside0.mk hT; have YB := Aside0.mk hB; clear hR hS hT hB)
    | ((with_reducible refine gate_ (.store 39 (.tmp 4) (.tmp 16)) rfl ?_); go_loud (refine X.store_row_event rfl rfl 39 _ _ rfl (w.heap.size + 1 + 1) _ rfl rfl 39 #[.int .i64 0, .int .i64 0, .int .i64 0, .int .i64 0, .slice none 0 0, .slice none 0 0, .slice none 0 0, .int .i64 0] (blk_alloc (blk_below HX2.out YB.out) _) (by kernel_rfl) rfl (by simp [Value.oneCell']) ?_); intro w7 hg5 ho5 hB5; have e0 := (blk_cell hg5 0); have e1 := (blk_cell hg5 1); have e2 := (blk_cell hg5 2); have e3 := (blk_cell hg5 3); have e4 := (blk_cell hg5 4); have e5 := (blk_cell hg5 5); have e6 := (blk_cell hg5 6); have e7 := (blk_cell hg5 7); simp only [List.getElem?_toArray, List.getElem?_cons_zero, List.getElem?_cons_succ] at e0 e1 e2 e3 e4 e5 e6 e7))
  have hlt := blk_lt HX2.out
  have hle : w.heap.size ≤ w.heap.size + 1 + 1 := by omega
  exact bodyPost_ret (v := .agg #[.int .i64 st, .int .i64 blk, .int .i64 at_, .int .i64 val, .slice AR nR cR, .slice AS nS cS, .slice AT nT cT, .int .i64 steps]) (by simp [results, Try.results57, go_sem, e0, e1, e2, e3, e4, e5, e6, e7]) rfl ⟨_, _, _, rfl, ref_row (Kd.R_alloc YR.out _) HW3.out.size hlt ho5, ref_row (Kd.R_alloc YS.out _) HW3.out.size hlt ho5, ref_row (Kd.R_alloc YT.out _) HW3.out.size hlt ho5, hB5 _ _ hle (below_alloc (below_step HW3.out YB.out) _)⟩
end Go.Proofs.Ytgkmagfajalnhaa.E
