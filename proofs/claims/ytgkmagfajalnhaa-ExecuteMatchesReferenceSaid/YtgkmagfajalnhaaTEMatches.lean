/-
  ExecuteMatchesReference.
-/
import Derived.Test.YtgkmagfajalnhaaRows
import Derived.Test.YtgkmagfajalnhaaTELMatches
import Derived.Test.YtgkmagfajalnhaaTEGood
import Derived.WalkKit
import Derived.ProofKit
import Derived.OpenShut
import Derived.ShutString
import Derived.ChangeOld
import Derived.Below
import Derived.SizedLaws
import Derived.Carry
import Derived.Test.YtgkmagfajalnhaaTERefPlain
namespace Go.Proofs.Ytgkmagfajalnhaa.executeMatchesReference
open Go.ChangeShapes Go.WideShapes Go.ChangeAt Go.RowKit Go.Proofs.Ytgkmagfajalnhaa.Open Go.Proofs.Ytgkmagfajalnhaa.E Go.Proofs.YtgkmagfajalnhaaW.PrintWords
set_option linter.unusedVariables false
theorem own : ownKnob Try.prog.godebug = none := by kernel_rfl
theorem laidOut : laidOutB Try.prog = true := by kernel_rfl
set_option maxRecDepth 100000 in
theorem lifted (PURE : ∀ (x0 : S63) (l1 : List Int) (a2 : Int) (a3 : Int), good63 x0 → (fun xs_ : List Int => xs_.length ≤ maxLen ∧ ∀ x_ ∈ xs_, (fun n_ : Int => (Lit.int .i64 n_).wf = true) x_) l1 → (fun n_ : Int => (Lit.int .i64 n_).wf = true) a2 → (fun n_ : Int => (Lit.int .i64 n_).wf = true) a3 → ∃ k, regcertlaw10_ExecuteMatchesReference.f k x0.f0 x0.f1 x0.f2 x0.f3 l1 a2 a3 = some true) (os : Os) (started : os.Started) (H : Type) (enc : TypeId × Value → H) :
    ReturnsInHanded {} Try.checked os 15 .any (Rows.executeMatchesReferenceSpec.pre6 enc Try.prog Try.f15 Rows.executeMatchesReferenceRow.domain false) (Rows.executeMatchesReferenceSpec.post enc Try.prog Try.f15 false true false false) := by
  refine returnsInHanded_of_change_sized (C := Try.checked) own started (by kernel_rfl) Try.func15
    (ChangeSpec.witness6 (enc := enc) (C := Try.checked) false ⟨#[], #[(.agg #[(.int .i64 0), (.int .i64 0), (.int .i64 0), (.slice none 0 0)]), (.slice none 0 0), (.int .i64 0), (.int .i64 0)], []⟩ 8 (by kernel_rfl) (by kernel_rfl) (by kernel_rfl) (by kernel_rfl)) ?_
  intro W base args ds gs before hval0 hW hcnd hsz0 _
  have hval : ∀ (j : Nat) t v, Try.f15.params[j]? = some t → args[j]? = some v → Value.okWide Try.prog W .any base t v := hval0
  have hW' := hW
  obtain ⟨p, q, hA0, hV, rfl, hfz, hnd⟩ := hW
  have hA : DataW.TrodAll enc Try.prog W 0 (fun _ => true) true Try.f15.params.toList args.toList ds p := hA0
  rw [Try.params15] at hA hval
  obtain ⟨v0, vs0, d0, ds0, p0, q0, hargs, rfl, rfl, h0, r0⟩ := trodAll_cons hA
  obtain ⟨v1, vs1, d1, ds1, p1, q1, rfl, rfl, rfl, h1, r1⟩ := trodAll_cons r0
  obtain ⟨v2, vs2, d2, ds2, p2, q2, rfl, rfl, rfl, h2, r2⟩ := trodAll_cons r1
  obtain ⟨v3, vs3, d3, ds3, p3, q3, rfl, rfl, rfl, h3, r3⟩ := trodAll_cons r2
  obtain ⟨rfl, rfl, rfl⟩ := trodAll_nil r3
  obtain rfl : args = #[v0, v1, v2, v3] := by cases args; simp_all
  obtain ⟨rfl, rfl⟩ := trodVars_none hV
  have k0 := h0
  have lt0 : ∀ x ∈ p0, x.block < W.heap.size := by obtain ⟨m, hm⟩ := k0; exact DataW.trod_lt m _ _ _ hm
  obtain ⟨cs0, x0, rfl, hk0, g0⟩ := arg_struct Try.underlying63 opens63 (hval 0 63 v0 rfl rfl) h0
  obtain ⟨A0_3, c0_3, rfl, hl0_3, hC0_3⟩ := k63_open hk0
  have k1 := h1
  have lt1 : ∀ x ∈ p1, x.block < W.heap.size := by obtain ⟨m, hm⟩ := k1; exact DataW.trod_lt m _ _ _ hm
  obtain ⟨A1, c1, l1, rfl, hC1, hl1, g1⟩ := arg_slice Try.underlying35 (opens_slice Try.underlying35 (by kernel_rfl) (opens_int Try.underlying2)) (hval 1 35 v1 rfl rfl) h1
  have k2 := h2
  have lt2 : ∀ x ∈ p2, x.block < W.heap.size := by obtain ⟨m, hm⟩ := k2; exact DataW.trod_lt m _ _ _ hm
  obtain ⟨a2, rfl, rfl, rfl, g2⟩ := open_int Try.underlying3 (hval 2 3 v2 rfl rfl) h2
  have k3 := h3
  have lt3 : ∀ x ∈ p3, x.block < W.heap.size := by obtain ⟨m, hm⟩ := k3; exact DataW.trod_lt m _ _ _ hm
  obtain ⟨a3, rfl, rfl, rfl, g3⟩ := open_int Try.underlying3 (hval 3 3 v3 rfl rfl) h3
  clear hA0 hval0 hsz0
  obtain ⟨k, hf⟩ := PURE x0 l1 a2 a3 g0 g1 g2 g3
  refine (regcertlaw10_ExecuteMatchesReference.calls k (x0.f0) (x0.f1) (x0.f2) A0_3 c0_3 (x0.f3) A1 c1 l1 a2 a3 true W hC0_3 hl0_3 hC1 hl1 hf).mono fun e W' ⟨he, bel0⟩ => ?_
  have bel := bel0
  subst he
  exact ⟨_, rfl, _, _, _, [], _, [], hW', trodAll_mk1 (shut_bool Try.underlying4 _), (trodAll_cons_mk (Below.trod laidOut (by kernel_rfl) (of_decide_eq_true (by kernel_rfl)) k0 bel lt0) (trodAll_cons_mk (Below.trod laidOut (by kernel_rfl) (of_decide_eq_true (by kernel_rfl)) k1 bel lt1) (trodAll_cons_mk (Below.trod laidOut (by kernel_rfl) (of_decide_eq_true (by kernel_rfl)) k2 bel lt2) (trodAll_cons_mk (Below.trod laidOut (by kernel_rfl) (of_decide_eq_true (by kernel_rfl)) k3 bel lt3) trodAll_mk0)))), rfl, bel.frame _, fun h => by cases h⟩
theorem over (PURE : ∀ (x0 : S63) (l1 : List Int) (a2 : Int) (a3 : Int), good63 x0 → (fun xs_ : List Int => xs_.length ≤ maxLen ∧ ∀ x_ ∈ xs_, (fun n_ : Int => (Lit.int .i64 n_).wf = true) x_) l1 → (fun n_ : Int => (Lit.int .i64 n_).wf = true) a2 → (fun n_ : Int => (Lit.int .i64 n_).wf = true) a3 → ∃ k, regcertlaw10_ExecuteMatchesReference.f k x0.f0 x0.f1 x0.f2 x0.f3 l1 a2 a3 = some true) : Rows.executeMatchesReferenceRow.holds Try.pinned (OpenSpec.ofChange Rows.executeMatchesReferenceSpec) :=
  OpenClaim.holds_of_wide 15 Try.f15 rfl rfl rfl rfl rfl rfl rfl ⟨rfl, rfl, rfl, rfl, rfl⟩ rfl rfl rfl rfl rfl (by kernel_rfl) Try.func15 (by kernel_rfl)
    (of_decide_eq_true (by kernel_rfl)) (by unfold Func.isWrapper; first | (rw [if_pos (by decide +kernel)]; kernel_rfl) | (rw [if_neg (by decide +kernel)]; exact ⟨rfl, rfl⟩))
    (fun os started H enc _ => lifted PURE os started H enc)
end Go.Proofs.Ytgkmagfajalnhaa.executeMatchesReference
namespace Go.Proofs.Ytgkmagfajalnhaa.E
open Go.RowKit Go.Proofs.YtgkmagfajalnhaaW.PrintWords Go.Proofs.YtgkmagfajalnhaaW.PrintLast Go.Proofs.YtgkmagfajalnhaaW.PrintMore Num
set_option linter.unusedVariables false
set_option linter.unusedSimpArgs false

theorem match_pure (x0 : S63) (l1 : List Int) (a2 a3 : Int) (h64 : I64L x0.f3) (hM : Imm64 x0.f3) (hl64 : ∀ x ∈ l1, I64 x) (h3 : I64 a3) : Ev (fun k => regcertlaw10_ExecuteMatchesReference.f k x0.f0 x0.f1 x0.f2 x0.f3 l1 a2 a3) true := by
  obtain ⟨a0, fr, fs, l⟩ := x0
  dsimp only at h64 hM ⊢
  refine Ev.congr (fun k => by rw [regcertlaw10_ExecuteMatchesReference.f]) ?_
  refine Ev.bind awake10 (Ev.pos rfl ?_)
  obtain ⟨b, hb, hv⟩ := right_evs a0 fr fs l h64 l1 a2
  refine Ev.bind hb ?_
  refine Ev.step (fun k => by rw [regcertlaw10_ExecuteMatchesReference.j0]) ?_
  by_cases hbt : b = true
  · obtain ⟨V, v0, v1, v2, v3⟩ := hv hbt
    have h0 := V.regs0
    have h60 := V.regs1
    have h20 := V.slots0
    have h62 := V.slots1
    refine Ev.neg (by simp [hbt]) ?_
    by_cases hl : (l1.length : Int) = a0
    · have h1 : (l1.length : Int) ≤ fs := by omega
      obtain ⟨k0, r, hk, eR, hI, h6, h5⟩ := refexec_ev (a0 := a0) V hM hl64 h1 v2
      have hrl := hI.regs
      have hsl := hI.slots
      have htl := hI.trace
      have hbr := (begin_inv V h1).regs
      have hbs := (begin_inv V h1).slots
      have eE : Ev (fun k => execute_Exec.f k a0 fr fs l l1 a2) (r.st, r.blk, r.at_, r.val, r.regs, r.slots, r.trace, r.steps, 0) := by
        refine ⟨k0, fun k hkk => ?_⟩
        unfold execute_Exec.f
        dsimp only
        rw [if_pos hl, if_pos ⟨h0, by omega, h20, by omega⟩, show fuelOf a2 = a2 from if_neg (by omega), execLoop_le l a2 hkk hk]
        rfl
      refine Ev.bind eE ?_
      refine Ev.bindc (a := ((0 : Int), (0 : Int), (0 : Int), (0 : Int), (beginP fr fs l1).regs, (beginP fr fs l1).slots, ([] : List Int), (0 : Int), (0 : Int))) ?_ ?_
      · unfold execute_Start.f
        rw [if_pos hl, if_pos ⟨h0, by omega, h20, by omega⟩]
      refine Ev.pos hl (Ev.bind eR ?_)
      have rest : Ev (fun k => regcertlaw10_ExecuteMatchesReference.j1 k l1 0 0 false a0 fr fs l r.st r.blk r.at_ r.val r.regs r.slots r.trace r.steps 0 0 0 0 (beginP fr fs l1).regs (beginP fr fs l1).slots [] 0 r.st r.blk r.at_ r.val r.regs r.slots r.trace r.steps) true := by
        refine Ev.step (fun k => by rw [regcertlaw10_ExecuteMatchesReference.j1]) ?_
        refine Ev.neg (by simp) (Ev.pos rfl (Ev.pos rfl ?_))
        refine Ev.bind (same_refl _ _ _ _ _ _ _ _ (by omega) (by omega) (by omega)) (Ev.pos rfl ?_)
        refine Ev.bind (refstart_ev h1 h0 h60 h62) ?_
        refine Ev.bind (same_refl _ _ _ _ _ _ _ _ (by omega) (by omega) (by simp)) (Ev.pos rfl ?_)
        obtain ⟨s1, e1, I1, hg, hst⟩ := step_one (a0 := a0) V hI (by omega)
        have hrl1 := I1.regs
        have hsl1 := I1.slots
        have htl1 := I1.trace
        have hs1 : s1.steps ≤ 1000 := by
          by_cases hz : r.st = 0
          · rcases (hg hz).2 with q | ⟨_, q⟩ <;> omega
          · rw [hst hz]
            omega
        refine Ev.bindc e1 (Ev.bindc (a := (s1.st, s1.blk, s1.at_, s1.val, s1.regs, s1.slots, s1.trace, s1.steps)) ?_ ?_)
        · by_cases hz : r.st = 0
          · rw [refstep_run V hI h6 (by omega) hz, (hg hz).1]
            rfl
          · rw [hst hz]
            exact refstep_end V hI h6 (by omega) hz
        exact Ev.bind (same_refl _ _ _ _ _ _ _ _ (by dsimp only; omega) (by dsimp only; omega) (by dsimp only; omega)) (Ev.now _)
      refine Ev.bindc (a := inRB a3 fr fs) rfl ?_
      by_cases hin : inRB a3 fr fs = true
      · have ho := inR_loc hrl hsl h3 hin
        refine Ev.pos hin (Ev.bindc (read_ev ho) (Ev.bindc (refread_ev ho) ?_))
        dsimp only
        rw [show (locP r a3 != locP r a3) = false by simp]
        exact rest
      · exact Ev.neg hin rest
    · have eE : Ev (fun k => execute_Exec.f k a0 fr fs l l1 a2) (0, 0, 0, 0, [], [], [], 0, 32) := by
        refine ⟨0, fun k _ => ?_⟩
        unfold execute_Exec.f
        dsimp only
        rw [if_neg hl]
      refine Ev.bind eE ?_
      refine Ev.bindc (a := ((0 : Int), (0 : Int), (0 : Int), (0 : Int), ([] : List Int), ([] : List Int), ([] : List Int), (0 : Int), (32 : Int))) ?_ ?_
      · unfold execute_Start.f
        rw [if_neg hl]
      refine Ev.neg hl (Ev.pos rfl (Ev.pos rfl ?_))
      refine Ev.bind (same_refl _ _ _ _ _ _ _ _ (by simp) (by simp) (by simp)) (Ev.pos rfl ?_)
      exact Ev.bind (same_refl _ _ _ _ _ _ _ _ (by simp) (by simp) (by simp)) (Ev.now _)
  · exact Ev.pos (by simpa using hbt) (Ev.bind awake10 (Ev.now _))
theorem wf64 {n : Int} (h : (Lit.int .i64 n).wf = true) : I64 n := by
  have := bounds_i64 h
  unfold I64
  omega
end Go.Proofs.Ytgkmagfajalnhaa.E
namespace Go.Proofs.Ytgkmagfajalnhaa
theorem executeMatchesReference_holds : Rows.ExecuteMatchesReferenceSaid := executeMatchesReference.over fun x0 l1 a2 a3 h0 h1 _ h3 => (E.match_pure x0 l1 a2 a3 (E.good_loc h0.2.2.2.2) (E.good_imm h0.2.2.2.2) (fun x hx => E.wf64 (h1.2 x hx)) (E.wf64 h3)).rounds
end Go.Proofs.Ytgkmagfajalnhaa
