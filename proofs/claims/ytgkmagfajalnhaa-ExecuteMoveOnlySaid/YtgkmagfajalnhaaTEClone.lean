/-
  slices.Clone at []int64: its contract.
-/
import Derived.Test.YtgkmagfajalnhaaTEMac
import Derived.Lib.SliceRun
namespace Go.Proofs.Ytgkmagfajalnhaa.E
open Go.RowKit Go.Proofs.YtgkmagfajalnhaaW.PrintWords Go.Proofs.YtgkmagfajalnhaaW.PrintLast Go.Proofs.YtgkmagfajalnhaaW.PrintMore
set_option linter.unusedVariables false
set_option linter.unusedSimpArgs false

set_option maxRecDepth 100000 in
set_option maxHeartbeats 4000000 in
theorem clone_calls (w : World) (A : Option Addr) (c : Nat) (l : List Int) (hC : (Kd.int .i64).C w A l.length l) (hl : l.length * 8 ≤ 140737488355328) :
    Calls Try.prog 67 #[.slice A l.length c] w fun e w' => ∃ v, e = .returned v ∧ (Kd.int .i64).R 2 w' w.heap.size (fun _ => True) v l ∧ Below w.heap.size w w' := by
  have hu35 := Try.underlying35
  have HC := Aside0.mk hC
  have hq : ∀ (w : World) (a : Option Addr) (n c : Nat), (binOp .eql 35 (.slice a n c) (.slice none 0 0)).run Try.prog w = .ok (.bool a.isNone) w := fun w a n c => Lib.run_eql_slice_nil w 35 2 a n c 0 0 Try.underlying35
  cases A with
  | none =>
    have h0 : l = [] := by
      rcases l with _ | ⟨x, xs⟩
      · rfl
      · obtain ⟨ad, h, _⟩ := hC.2.2 (by simp)
        cases h
    subst h0
    clear hC
    go_enter Try.func67, Try.ntmps67
    go_wp2
    go_ret
    exact ⟨_, rfl, Kd.R_nil _ _ _ _ _, Below.refl _ _⟩
  | some ad =>
    clear hC
    go_enter Try.func67, Try.ntmps67
    go_wp2_with (first
      | ((with_reducible refine gate_dst (N := 5) rfl ?_); go_loud (refine Kd.R_lit (Kd.int .i64) w.heap.size 2 rfl (N := 5) rfl (xs := ([] : List Int)) (inner := []) (ok := fun _ => True) (okp := fun _ => True) (by first | (go_simp; done) | (go_simp; rfl)) (Reps.none _ _) (fun _ hk => hk) trivial (Below.refl _ _) (Nat.le_refl _) (by simp) ?_); intro v1 w1 HR1 HB1 HG1 HA1)
      | ((with_reducible refine gate_builtin (b := .append) rfl ?_); go_loud (refine Kd.R_append_rows (Kd.int .i64) (w0 := w) w.heap.size rfl (.tmp 5) (.tmp 6) 35 2 (.int .i64 0) 8 rfl Try.underlying35 info2 rfl (by decide) (by decide) v1 [] l _ _ _ (fun _ => True) (fun _ => False) rfl rfl HR1 (Kd.C_below HC.out HB1) (fun _ _ h => h) (fun _ h => h.elim) (fun _ _ => trivial) HB1 HB1.size (by simpa using hl) ?_); intro v2 w2 HR2 HB2 HG2 HA2))
    all_goals go_ret
    all_goals exact ⟨_, rfl, HR2, HB2⟩
end Go.Proofs.Ytgkmagfajalnhaa.E
