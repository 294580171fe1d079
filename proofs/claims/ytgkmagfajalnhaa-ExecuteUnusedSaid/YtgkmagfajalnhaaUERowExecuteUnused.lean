-- Written by a program of this session (xprint), out of the translation. Not trusted: Lean checks it.
import Derived.Test.YtgkmagfajalnhaaRows
import Derived.Test.YtgkmagfajalnhaaUELUnused
import Derived.Test.YtgkmagfajalnhaaUEGood
import Derived.WalkKit
import Derived.ProofKit
import Derived.OpenShut
import Derived.ShutString
import Derived.ChangeOld
import Derived.Below
import Derived.SizedLaws
import Derived.Carry
namespace Go.Proofs.Ytgkmagfajalnhaa.E
open Go.RowKit Go.Proofs.YtgkmagfajalnhaaW.PrintWords Go.Proofs.YtgkmagfajalnhaaW.PrintLast Go.Proofs.YtgkmagfajalnhaaW.PrintMore
theorem V_all {w : World} {A : Option Addr} {c : Nat} {xs : List S84} (h : Kd.C k84 w A xs.length xs) (hl : xs.length ≤ c) : Kd.V k84 84 w w.heap.size (fun k_ => (fun _ : Nat => True) k_) (.slice A xs.length c) xs := by
  refine ⟨A, c, rfl, hl, fun W' hW => ?_⟩
  obtain ⟨e1, e2, e3⟩ := h
  refine ⟨e1, e2, fun h0 => ?_⟩
  obtain ⟨ad, ha, hc⟩ := e3 h0
  refine ⟨ad, ha, fun j p hp => ?_⟩
  obtain ⟨cs, hs, hK, hcell⟩ := hc j p hp
  refine ⟨cs, hs, ?_, fun i u hu => ?_⟩
  · obtain rfl := k84_open hK
    exact k84_mk W' p
  · have hx := hcell i u hu
    have hlt := World.block_lt_of_cell? w _ hx
    have he := hW _ trivial hlt
    simpa [World.cell?, he] using hx
end Go.Proofs.Ytgkmagfajalnhaa.E
namespace Go.Proofs.Ytgkmagfajalnhaa.executeUnused
open Go.ChangeShapes Go.WideShapes Go.ChangeAt Go.RowKit Go.Proofs.Ytgkmagfajalnhaa.Open Go.Proofs.Ytgkmagfajalnhaa.E Go.Proofs.YtgkmagfajalnhaaW.PrintWords
set_option linter.unusedVariables false
theorem own : ownKnob Try.prog.godebug = none := by kernel_rfl
theorem laidOut : laidOutB Try.prog = true := by kernel_rfl
set_option maxRecDepth 100000 in
theorem lifted (PURE : ∀ (x0 : S63) (l1 : List Int) (a2 : Int) (x3 : S69) (a4 : Int), good63 x0 → (fun xs_ : List Int => xs_.length ≤ maxLen ∧ ∀ x_ ∈ xs_, (fun n_ : Int => (Lit.int .i64 n_).wf = true) x_) l1 → (fun n_ : Int => (Lit.int .u8 n_).wf = true) a2 → good69 x3 → (fun n_ : Int => (Lit.int .u8 n_).wf = true) a4 → ∃ k, regcertlaw10_ExecuteUnused.f k x0.f0 x0.f1 x0.f2 x0.f3 l1 a2 x3.f0 x3.f1.f0 x3.f1.f1 x3.f1.f2 x3.f1.f3 a4 = some true) (os : Os) (started : os.Started) (H : Type) (enc : TypeId × Value → H) :
    ReturnsInHanded {} Try.checked os 14 .any (Rows.executeUnusedSpec.pre6 enc Try.prog Try.f14 Rows.executeUnusedRow.domain false) (Rows.executeUnusedSpec.post enc Try.prog Try.f14 false true false false) := by
  refine returnsInHanded_of_change_sized (C := Try.checked) own started (by kernel_rfl) Try.func14
    (ChangeSpec.witness6 (enc := enc) (C := Try.checked) false ⟨#[], #[(.agg #[(.int .i64 0), (.int .i64 0), (.int .i64 0), (.slice none 0 0)]), (.slice none 0 0), (.int .u8 0), (.agg #[(.slice none 0 0), (.int .i64 0), (.int .i64 0), (.int .i64 0), (.int .i64 0)]), (.int .u8 0)], []⟩ 8 (by kernel_rfl) (by kernel_rfl) (by kernel_rfl) (by kernel_rfl)) ?_
  intro W base args ds gs before hval0 hW hcnd hsz0 _
  have hval : ∀ (j : Nat) t v, Try.f14.params[j]? = some t → args[j]? = some v → Value.okWide Try.prog W .any base t v := hval0
  have hW' := hW
  obtain ⟨p, q, hA0, hV, rfl, hfz, hnd⟩ := hW
  have hA : DataW.TrodAll enc Try.prog W 0 (fun _ => true) true Try.f14.params.toList args.toList ds p := hA0
  rw [Try.params14] at hA hval
  obtain ⟨v0, vs0, d0, ds0, p0, q0, hargs, rfl, rfl, h0, r0⟩ := trodAll_cons hA
  obtain ⟨v1, vs1, d1, ds1, p1, q1, rfl, rfl, rfl, h1, r1⟩ := trodAll_cons r0
  obtain ⟨v2, vs2, d2, ds2, p2, q2, rfl, rfl, rfl, h2, r2⟩ := trodAll_cons r1
  obtain ⟨v3, vs3, d3, ds3, p3, q3, rfl, rfl, rfl, h3, r3⟩ := trodAll_cons r2
  obtain ⟨v4, vs4, d4, ds4, p4, q4, rfl, rfl, rfl, h4, r4⟩ := trodAll_cons r3
  obtain ⟨rfl, rfl, rfl⟩ := trodAll_nil r4
  obtain rfl : args = #[v0, v1, v2, v3, v4] := by cases args; simp_all
  obtain ⟨rfl, rfl⟩ := trodVars_none hV
  have k0 := h0
  have lt0 : ∀ x ∈ p0, x.block < W.heap.size := by obtain ⟨m, hm⟩ := k0; exact DataW.trod_lt m _ _ _ hm
  obtain ⟨cs0, x0, rfl, hk0, g0⟩ := arg_struct Try.underlying63 opens63 (hval 0 63 v0 rfl rfl) h0
  obtain ⟨A0_3, c0_3, rfl, hl0_3, hC0_3⟩ := k63_open hk0
  have k1 := h1
  have lt1 : ∀ x ∈ p1, x.block < W.heap.size := by obtain ⟨m, hm⟩ := k1; exact DataW.trod_lt m _ _ _ hm
  obtain ⟨A1, c1, l1, rfl, hC1, hl1, g1⟩ := arg_slice Try.underlying35 (opens_slice Try.underlying35 (by kernel_rfl) (opens_int Try.underlying2)) (hval 1 35 v1 rfl rfl) h1
  have k2 := h2
  have lt2 : ∀ x ∈ p2, x.block < W.heap.size := by obtain ⟨m, hm⟩ := k2; exact DataW.trod_lt m _ _ _ hm
  obtain ⟨a2, rfl, rfl, rfl, g2⟩ := open_int Try.underlying5 (hval 2 5 v2 rfl rfl) h2
  have k3 := h3
  have lt3 : ∀ x ∈ p3, x.block < W.heap.size := by obtain ⟨m, hm⟩ := k3; exact DataW.trod_lt m _ _ _ hm
  obtain ⟨cs3, x3, rfl, hk3, g3⟩ := arg_struct Try.underlying69 opens69 (hval 3 69 v3 rfl rfl) h3
  obtain ⟨A3_0, c3_0, rfl, hl3_0, hC3_0⟩ := k69_open hk3
  have k4 := h4
  have lt4 : ∀ x ∈ p4, x.block < W.heap.size := by obtain ⟨m, hm⟩ := k4; exact DataW.trod_lt m _ _ _ hm
  obtain ⟨a4, rfl, rfl, rfl, g4⟩ := open_int Try.underlying5 (hval 4 5 v4 rfl rfl) h4
  clear hA0 hval0 hsz0
  obtain ⟨k, hf⟩ := PURE x0 l1 a2 x3 a4 g0 g1 g2 g3 g4
  refine (regcertlaw10_ExecuteUnused.calls k (x0.f0) (x0.f1) (x0.f2) A0_3 c0_3 (x0.f3) A1 c1 l1 a2 (fun _ => True) A3_0 c3_0 (x3.f0) (x3.f1.f0) (x3.f1.f1) (x3.f1.f2) (x3.f1.f3) a4 true W hC0_3 hl0_3 hC1 hl1 (E.V_all hC3_0 hl3_0) hf).mono fun e W' ⟨he, bel0⟩ => ?_
  have bel := bel0
  subst he
  exact ⟨_, rfl, _, _, _, [], _, [], hW', trodAll_mk1 (shut_bool Try.underlying4 _), (trodAll_cons_mk (Below.trod laidOut (by kernel_rfl) (of_decide_eq_true (by kernel_rfl)) k0 bel lt0) (trodAll_cons_mk (Below.trod laidOut (by kernel_rfl) (of_decide_eq_true (by kernel_rfl)) k1 bel lt1) (trodAll_cons_mk (Below.trod laidOut (by kernel_rfl) (of_decide_eq_true (by kernel_rfl)) k2 bel lt2) (trodAll_cons_mk (Below.trod laidOut (by kernel_rfl) (of_decide_eq_true (by kernel_rfl)) k3 bel lt3) (trodAll_cons_mk (Below.trod laidOut (by kernel_rfl) (of_decide_eq_true (by kernel_rfl)) k4 bel lt4) trodAll_mk0))))), rfl, bel.frame _, fun h => by cases h⟩
theorem over (PURE : ∀ (x0 : S63) (l1 : List Int) (a2 : Int) (x3 : S69) (a4 : Int), good63 x0 → (fun xs_ : List Int => xs_.length ≤ maxLen ∧ ∀ x_ ∈ xs_, (fun n_ : Int => (Lit.int .i64 n_).wf = true) x_) l1 → (fun n_ : Int => (Lit.int .u8 n_).wf = true) a2 → good69 x3 → (fun n_ : Int => (Lit.int .u8 n_).wf = true) a4 → ∃ k, regcertlaw10_ExecuteUnused.f k x0.f0 x0.f1 x0.f2 x0.f3 l1 a2 x3.f0 x3.f1.f0 x3.f1.f1 x3.f1.f2 x3.f1.f3 a4 = some true) : Rows.executeUnusedRow.holds Try.pinned (OpenSpec.ofChange Rows.executeUnusedSpec) :=
  OpenClaim.holds_of_wide 14 Try.f14 rfl rfl rfl rfl rfl rfl rfl ⟨rfl, rfl, rfl, rfl, rfl⟩ rfl rfl rfl rfl rfl (by kernel_rfl) Try.func14 (by kernel_rfl)
    (of_decide_eq_true (by kernel_rfl)) (by unfold Func.isWrapper; first | (rw [if_pos (by decide +kernel)]; kernel_rfl) | (rw [if_neg (by decide +kernel)]; exact ⟨rfl, rfl⟩))
    (fun os started H enc _ => lifted PURE os started H enc)
end Go.Proofs.Ytgkmagfajalnhaa.executeUnused
