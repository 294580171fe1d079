-- Written by a program of this session (xprint), out of the translation. Not trusted: Lean checks it.
import Derived.Test.YtchlilkhgagdeaaRows
import Derived.Test.YtchlilkhgagdeaaX8
import Derived.Test.YtchlilkhgagdeaaXGood
import Derived.WalkKit
import Derived.ProofKit
import Derived.OpenShut
import Derived.ShutString
import Derived.ChangeOld
import Derived.Below
import Derived.SizedLaws
import Derived.Carry
namespace Go.Proofs.Ytchlilkhgagdeaa.alignMatchesReference
open Go.ChangeShapes Go.WideShapes Go.ChangeAt Go.RowKit Go.Proofs.Ytchlilkhgagdeaa.Open Go.Proofs.Ytchlilkhgagdeaa.X Go.Proofs.YtchlilkhgagdeaaW.PrintWords
set_option linter.unusedVariables false
theorem own : ownKnob Try.prog.godebug = none := by kernel_rfl
theorem laidOut : laidOutB Try.prog = true := by kernel_rfl
set_option maxRecDepth 100000 in
theorem lifted (PURE : ∀ (l0 : List (S25)) (l1 : List (S28)) (x2 : S25) (x3 : S28) (x4 : S30) (x5 : S30), (fun xs_ : List S25 => xs_.length ≤ maxLen ∧ ∀ x_ ∈ xs_, good25 x_) l0 → (fun xs_ : List S28 => xs_.length ≤ maxLen ∧ ∀ x_ ∈ xs_, good28 x_) l1 → good25 x2 → good28 x3 → good30 x4 → good30 x5 → ∃ k, regcertlaw13_AlignMatchesReference.f k l0 l1 x2.f0 x2.f1 x2.f2 x2.f3 x2.f4 x3.f0 x3.f1 x3.f2 x3.f3 x3.f4 x3.f5 x3.f6 x4.f0 x4.f1 x4.f2 x4.f3 x5.f0 x5.f1 x5.f2 x5.f3 = some true) (os : Os) (started : os.Started) (H : Type) (enc : TypeId × Value → H) :
    ReturnsInHanded {} Try.checked os 3 .any (Rows.alignMatchesReferenceSpec.pre6 enc Try.prog Try.f3 Rows.alignMatchesReferenceRow.domain false) (Rows.alignMatchesReferenceSpec.post enc Try.prog Try.f3 false true false false) := by
  refine returnsInHanded_of_change_sized (C := Try.checked) own started (by kernel_rfl) Try.func3
    (ChangeSpec.witness6 (enc := enc) (C := Try.checked) false ⟨#[], #[(.slice none 0 0), (.slice none 0 0), (.agg #[(.int .i64 0), (.int .i64 0), (.int .i64 0), (.int .i64 0), (.int .i64 0)]), (.agg #[(.int .i64 0), (.int .i64 0), (.int .i64 0), (.int .i64 0), (.int .i64 0), (.int .i64 0), (.int .i64 0)]), (.agg #[(.int .i64 0), (.int .i64 0), (.int .i64 0), (.int .i64 0)]), (.agg #[(.int .i64 0), (.int .i64 0), (.int .i64 0), (.int .i64 0)])], []⟩ 8 (by kernel_rfl) (by kernel_rfl) (by kernel_rfl) (by kernel_rfl)) ?_
  intro W base args ds gs before hval0 hW hcnd hsz0 _
  have hval : ∀ (j : Nat) t v, Try.f3.params[j]? = some t → args[j]? = some v → Value.okWide Try.prog W .any base t v := hval0
  have hW' := hW
  obtain ⟨p, q, hA0, hV, rfl, hfz, hnd⟩ := hW
  have hA : DataW.TrodAll enc Try.prog W 0 (fun _ => true) true Try.f3.params.toList args.toList ds p := hA0
  rw [Try.params3] at hA hval
  obtain ⟨v0, vs0, d0, ds0, p0, q0, hargs, rfl, rfl, h0, r0⟩ := trodAll_cons hA
  obtain ⟨v1, vs1, d1, ds1, p1, q1, rfl, rfl, rfl, h1, r1⟩ := trodAll_cons r0
  obtain ⟨v2, vs2, d2, ds2, p2, q2, rfl, rfl, rfl, h2, r2⟩ := trodAll_cons r1
  obtain ⟨v3, vs3, d3, ds3, p3, q3, rfl, rfl, rfl, h3, r3⟩ := trodAll_cons r2
  obtain ⟨v4, vs4, d4, ds4, p4, q4, rfl, rfl, rfl, h4, r4⟩ := trodAll_cons r3
  obtain ⟨v5, vs5, d5, ds5, p5, q5, rfl, rfl, rfl, h5, r5⟩ := trodAll_cons r4
  obtain ⟨rfl, rfl, rfl⟩ := trodAll_nil r5
  obtain rfl : args = #[v0, v1, v2, v3, v4, v5] := by cases args; simp_all
  obtain ⟨rfl, rfl⟩ := trodVars_none hV
  have k0 := h0
  have lt0 : ∀ x ∈ p0, x.block < W.heap.size := by obtain ⟨m, hm⟩ := k0; exact DataW.trod_lt m _ _ _ hm
  obtain ⟨A0, c0, l0, rfl, hC0, hl0, g0⟩ := arg_slice Try.underlying22 (opens_slice Try.underlying22 (by kernel_rfl) opens25) (hval 0 22 v0 rfl rfl) h0
  have k1 := h1
  have lt1 : ∀ x ∈ p1, x.block < W.heap.size := by obtain ⟨m, hm⟩ := k1; exact DataW.trod_lt m _ _ _ hm
  obtain ⟨A1, c1, l1, rfl, hC1, hl1, g1⟩ := arg_slice Try.underlying23 (opens_slice Try.underlying23 (by kernel_rfl) opens28) (hval 1 23 v1 rfl rfl) h1
  have k2 := h2
  have lt2 : ∀ x ∈ p2, x.block < W.heap.size := by obtain ⟨m, hm⟩ := k2; exact DataW.trod_lt m _ _ _ hm
  obtain ⟨cs2, x2, rfl, hk2, g2⟩ := arg_struct Try.underlying25 opens25 (hval 2 25 v2 rfl rfl) h2
  obtain rfl := k25_open hk2
  have k3 := h3
  have lt3 : ∀ x ∈ p3, x.block < W.heap.size := by obtain ⟨m, hm⟩ := k3; exact DataW.trod_lt m _ _ _ hm
  obtain ⟨cs3, x3, rfl, hk3, g3⟩ := arg_struct Try.underlying28 opens28 (hval 3 28 v3 rfl rfl) h3
  obtain rfl := k28_open hk3
  have k4 := h4
  have lt4 : ∀ x ∈ p4, x.block < W.heap.size := by obtain ⟨m, hm⟩ := k4; exact DataW.trod_lt m _ _ _ hm
  obtain ⟨cs4, x4, rfl, hk4, g4⟩ := arg_struct Try.underlying30 opens30 (hval 4 30 v4 rfl rfl) h4
  obtain rfl := k30_open hk4
  have k5 := h5
  have lt5 : ∀ x ∈ p5, x.block < W.heap.size := by obtain ⟨m, hm⟩ := k5; exact DataW.trod_lt m _ _ _ hm
  obtain ⟨cs5, x5, rfl, hk5, g5⟩ := arg_struct Try.underlying30 opens30 (hval 5 30 v5 rfl rfl) h5
  obtain rfl := k30_open hk5
  clear hA0 hval0 hsz0
  obtain ⟨k, hf⟩ := PURE l0 l1 x2 x3 x4 x5 g0 g1 g2 g3 g4 g5
  refine (regcertlaw13_AlignMatchesReference.calls k A0 c0 l0 A1 c1 l1 (x2.f0) (x2.f1) (x2.f2) (x2.f3) (x2.f4) (x3.f0) (x3.f1) (x3.f2) (x3.f3) (x3.f4) (x3.f5) (x3.f6) (x4.f0) (x4.f1) (x4.f2) (x4.f3) (x5.f0) (x5.f1) (x5.f2) (x5.f3) true W hC0 hl0 hC1 hl1 hf).mono fun e W' ⟨he, bel0⟩ => ?_
  have bel := bel0
  subst he
  exact ⟨_, rfl, _, _, _, [], _, [], hW', trodAll_mk1 (shut_bool Try.underlying4 _), (trodAll_cons_mk (Below.trod laidOut (by kernel_rfl) (of_decide_eq_true (by kernel_rfl)) k0 bel lt0) (trodAll_cons_mk (Below.trod laidOut (by kernel_rfl) (of_decide_eq_true (by kernel_rfl)) k1 bel lt1) (trodAll_cons_mk (Below.trod laidOut (by kernel_rfl) (of_decide_eq_true (by kernel_rfl)) k2 bel lt2) (trodAll_cons_mk (Below.trod laidOut (by kernel_rfl) (of_decide_eq_true (by kernel_rfl)) k3 bel lt3) (trodAll_cons_mk (Below.trod laidOut (by kernel_rfl) (of_decide_eq_true (by kernel_rfl)) k4 bel lt4) (trodAll_cons_mk (Below.trod laidOut (by kernel_rfl) (of_decide_eq_true (by kernel_rfl)) k5 bel lt5) trodAll_mk0)))))), rfl, bel.frame _, fun h => by cases h⟩
theorem over (PURE : ∀ (l0 : List (S25)) (l1 : List (S28)) (x2 : S25) (x3 : S28) (x4 : S30) (x5 : S30), (fun xs_ : List S25 => xs_.length ≤ maxLen ∧ ∀ x_ ∈ xs_, good25 x_) l0 → (fun xs_ : List S28 => xs_.length ≤ maxLen ∧ ∀ x_ ∈ xs_, good28 x_) l1 → good25 x2 → good28 x3 → good30 x4 → good30 x5 → ∃ k, regcertlaw13_AlignMatchesReference.f k l0 l1 x2.f0 x2.f1 x2.f2 x2.f3 x2.f4 x3.f0 x3.f1 x3.f2 x3.f3 x3.f4 x3.f5 x3.f6 x4.f0 x4.f1 x4.f2 x4.f3 x5.f0 x5.f1 x5.f2 x5.f3 = some true) : Rows.alignMatchesReferenceRow.holds Try.pinned (OpenSpec.ofChange Rows.alignMatchesReferenceSpec) :=
  OpenClaim.holds_of_wide 3 Try.f3 rfl rfl rfl rfl rfl rfl rfl ⟨rfl, rfl, rfl, rfl, rfl⟩ rfl rfl rfl rfl rfl (by kernel_rfl) Try.func3 (by kernel_rfl)
    (of_decide_eq_true (by kernel_rfl)) (by unfold Func.isWrapper; first | (rw [if_pos (by decide +kernel)]; kernel_rfl) | (rw [if_neg (by decide +kernel)]; exact ⟨rfl, rfl⟩))
    (fun os started H enc _ => lifted PURE os started H enc)
end Go.Proofs.Ytchlilkhgagdeaa.alignMatchesReference
