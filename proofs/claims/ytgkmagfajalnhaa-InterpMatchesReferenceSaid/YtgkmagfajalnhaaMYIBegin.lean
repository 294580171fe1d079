/-
  The beginning of a run: the walk.
-/
import Derived.Test.YtgkmagfajalnhaaMYIMac
namespace Go.Proofs.Ytgkmagfajalnhaa.Y
open Go.RowKit Go.Proofs.YtgkmagfajalnhaaW.PrintWords Go.Proofs.YtgkmagfajalnhaaW.PrintLast Go.Proofs.YtgkmagfajalnhaaW.PrintMore
set_option linter.unusedVariables false
set_option linter.unusedSimpArgs false

def beginP (fr : Int) (l : List Int) : PS := { st := 0, blk := 0, at_ := 0, val := 0, regs := l.take (min l.length fr.toNat) ++ (List.replicate fr.toNat 0).drop (min l.length fr.toNat), trace := [], steps := 0 }
def zeroP : PS := { st := 0, blk := 0, at_ := 0, val := 0, regs := [], trace := [], steps := 0 }

theorem St.new (w0 : World) (o1 : Obj) (fa fr : Int) (vB : Value) :
    St w0 ((w0.alloc o1).alloc (.cells (stc 0 0 0 0 (.slice none 0 0) (.slice none 0 0) (.slice none 0 0) 0 fa fr vB) 101 (0, 0))) (w0.heap.size + 1) (.slice none 0 0) (.slice none 0 0) zeroP (.slice none 0 0) fa fr vB := by
  have hs : (w0.alloc o1).heap.size = w0.heap.size + 1 := by simp
  refine ⟨?_, Kd.R_nil _ _ _ _ _, Kd.R_nil _ _ _ _ _, fun k hk => by simp [Value.ownBlock] at hk, by omega, below_alloc (below_alloc (Below.refl _ _) _) _⟩
  have := blk_new (w0.alloc o1) (.cells (stc 0 0 0 0 (.slice none 0 0) (.slice none 0 0) (.slice none 0 0) 0 fa fr vB) 101 (0, 0))
  rw [hs] at this
  exact this
theorem St.putRow {w0 w : World} {g : Nat} {vR vT : Value} {s : PS} {vS : Value} {fa fr : Int} {vB : Value} (h : St w0 w g vR vT s vS fa fr vB) (v1 : Value) (ys : List Int)
    (HR : (Kd.int .i64).R 2 w w0.heap.size (fun _ => True) v1 ys) (hap : ∀ k, v1.ownBlock = some k → some k ≠ vT.ownBlock) : St w0 (w.setCell ⟨g, 4, none⟩ v1) g v1 vT { s with regs := ys } vS fa fr vB :=
  ⟨blk_set h.blk 4 v1, Kd.R_set HR h.blk (by simp [Kd.int, Kd.scalar]) 4 v1, Kd.R_set h.trace h.blk (by simp [Kd.int, Kd.scalar]) 4 v1, hap, h.above, below_set h.below h.above⟩
theorem St.copied {w0 w w1 : World} {g : Nat} {vR vT : Value} {s : PS} {vS : Value} {fa fr : Int} {vB : Value} (h : St w0 w g vR vT s vS fa fr vB) (ys : List Int)
    (HR : (Kd.int .i64).R 2 w1 w0.heap.size (fun _ => True) vR ys) (HB : Below w0.heap.size w0 w1) (HG : w.grownBy w1 vR.ownBlock) : St w0 w1 g vR vT { s with regs := ys } vS fa fr vB := by
  have hE : (Kd.int .i64).E = [] := by simp [Kd.int, Kd.scalar]
  have hne : some g ≠ vR.ownBlock := fun e => by
    obtain ⟨inner, ho⟩ := Kd.R_own h.regs
    obtain ⟨cells, hc⟩ := own_typed ho g e.symm
    rw [h.blk] at hc
    injection hc with h1
    injection h1 with _ h2
    exact absurd h2 (by decide)
  exact ⟨blk_grown h.blk HG hne, HR, Kd.R_grown2 h.trace hE HG (fun k hk e => h.apart k hk e), h.apart, h.above, HB⟩
theorem St.grown {w0 w w1 : World} {g : Nat} {vR vT : Value} {s : PS} {vS : Value} {fa fr : Int} {vB : Value} (h : St w0 w g vR vT s vS fa fr vB) (HG : w.grownBy w1 none) (HB : Below w0.heap.size w0 w1) : St w0 w1 g vR vT s vS fa fr vB := by
  have hE : (Kd.int .i64).E = [] := by simp [Kd.int, Kd.scalar]
  exact ⟨blk_grown h.blk HG (by simp), Kd.R_grown2 h.regs hE HG (fun k hk => by cases hk), Kd.R_grown2 h.trace hE HG (fun k hk => by cases hk), h.apart, h.above, HB⟩

set_option maxRecDepth 100000 in
set_option maxHeartbeats 4000000 in
theorem begin_calls (w0 : World) (fa fr : Int) (A A1 : Option Addr) (n cB c1 : Nat) (l1 : List Int) (h0 : 0 ≤ fr) (hl : fr.toNat * 8 ≤ 281474976710656) (hR : (Kd.int .i64).C w0 A1 l1.length l1) (hc1 : l1.length ≤ c1) :
    Calls Try.prog 62 #[.agg #[.int .i64 fa, .int .i64 fr, .slice A n cB], .slice A1 l1.length c1] w0 fun e W' =>
      ∃ g vR, e = .returned (.pointer (some ⟨g, 0, none⟩)) ∧ St w0 W' g vR (.slice none 0 0) (beginP fr l1) (.slice none 0 0) fa fr (.slice A n cB) := by
  have hu := Try.underlying34
  have hu1 := Try.underlying101
  have hu2 := Try.underlying39
  have hu35 := Try.underlying35
  have HR1 := Aside0.mk hR
  clear hR
  have HS0 := Aside0.mk (St.new w0 (.cells #[.int .i64 fa, .int .i64 fr, .slice A n cB] 34 (0, 0)) fa fr (.slice A n cB))
  go_enter Try.func62, Try.ntmps62
  go_wp2_with (first
    | ((with_reducible refine gate_dst (N := 12) rfl ?_); refine Kd.R_make (Kd.int .i64) (w0 := w0) w0.heap.size 2 rfl (N := 12) rfl 35 (.tmp 11) (.tmp 11) rfl fr rfl rfl Try.underlying35 (.int .i64 0) 8 info2 rfl (by decide) (by decide) (0 : Int) (okp := fun _ => True) (ok := fun _ => True) rfl (fun _ h => h) trivial h0 hl HS0.out.below HS0.out.below.size ?_;
       intro v1 w1 HR HB HG HA; have HM := Aside0.mk HR; have HS1 := Aside0.mk (HS0.out.grown HG HB); clear HR HB HG HA HS0; obtain ⟨A2, c2, e2⟩ := Kd.R_slice HM.out; generalize hm2 : (List.replicate fr.toNat (0 : Int)).length = m2 at e2; clear hm2; subst e2; (obtain ⟨q0, q1, q2, q3, q4, q5, q6, q7, q8, q9, q10⟩ := St.cells (Aside0.out HS1); have f0 := St.frozen (Aside0.out HS1) 0; have f1 := St.frozen (Aside0.out HS1) 1; have f2 := St.frozen (Aside0.out HS1) 2; have f3 := St.frozen (Aside0.out HS1) 3; have f4 := St.frozen (Aside0.out HS1) 4; have f6 := St.frozen (Aside0.out HS1) 6; have f7 := St.frozen (Aside0.out HS1) 7; (try dsimp only at q0 q1 q2 q3 q4 q5 q6 q7 q8 q9 q10)))
    | ((with_reducible refine gate_store (t := 35) (p := 15) rfl ?_); refine store_event (w1 := w1.setCell ⟨w0.heap.size + 1, 4, none⟩ (.slice A2 m2 c2)) rfl rfl rfl (by first | (go_simp; done) | (go_simp; rfl)) ?_;
       (clear q0 q1 q2 q3 q4 q5 q6 q7 q8 q9 q10 f0 f1 f2 f3 f4 f6 f7); intro w2 hw2; have HS2 := Aside0.mk (hw2.symm ▸ HS1.out.putRow _ _ HM.out (fun k _ => by simp [Value.ownBlock])); clear hw2 HS1 HM; (obtain ⟨q0, q1, q2, q3, q4, q5, q6, q7, q8, q9, q10⟩ := St.cells (Aside0.out HS2); have f0 := St.frozen (Aside0.out HS2) 0; have f1 := St.frozen (Aside0.out HS2) 1; have f2 := St.frozen (Aside0.out HS2) 2; have f3 := St.frozen (Aside0.out HS2) 3; have f4 := St.frozen (Aside0.out HS2) 4; have f6 := St.frozen (Aside0.out HS2) 6; have f7 := St.frozen (Aside0.out HS2) 7; (try dsimp only at q0 q1 q2 q3 q4 q5 q6 q7 q8 q9 q10)))
    | ((with_reducible refine gate_builtin (b := .copy) rfl ?_); refine Kd.R_copy (d := (0 : Int)) (w0 := w0) w0.heap.size rfl (.tmp 20) (.tmp 21) 35 35 2 rfl Try.underlying35 (by kernel_rfl) _ _ l1 A1 l1.length c1 (fun _ => True) rfl rfl HS2.out.regs (Kd.C_below HR1.out HS2.out.below) HS2.out.below HS2.out.below.size ?_;
       (clear q0 q1 q2 q3 q4 q5 q6 q7 q8 q9 q10 f0 f1 f2 f3 f4 f6 f7); intro w3 HR3 HB3 HG3; have HS3 := Aside0.mk (HS2.out.copied _ HR3 HB3 HG3); clear HR3 HB3 HG3 HS2 ))
  go_ret
  have hb : ({ zeroP with regs := l1.take (min l1.length (List.replicate fr.toNat (0 : Int)).length) ++ (List.replicate fr.toNat (0 : Int)).drop (min l1.length (List.replicate fr.toNat (0 : Int)).length) } : PS) = beginP fr l1 := by
    rw [List.length_replicate]
    rfl
  have HS4 := HS3.out
  exact ⟨_, rfl, _, hb ▸ HS4⟩
end Go.Proofs.Ytgkmagfajalnhaa.Y
