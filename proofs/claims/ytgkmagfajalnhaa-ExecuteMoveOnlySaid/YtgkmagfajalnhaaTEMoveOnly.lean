/-
  ExecuteMoveOnly.
-/
import Derived.Test.YtgkmagfajalnhaaRows
import Derived.Test.YtgkmagfajalnhaaTELMoveOnly
import Derived.Test.YtgkmagfajalnhaaTEGood
import Derived.WalkKit
import Derived.ProofKit
import Derived.OpenShut
import Derived.ShutString
import Derived.ChangeOld
import Derived.Below
import Derived.SizedLaws
import Derived.Carry
import Derived.Test.YtgkmagfajalnhaaTERefPlain
namespace Go.Proofs.Ytgkmagfajalnhaa.executeMoveOnly
open Go.ChangeShapes Go.WideShapes Go.ChangeAt Go.RowKit Go.Proofs.Ytgkmagfajalnhaa.Open Go.Proofs.Ytgkmagfajalnhaa.E Go.Proofs.YtgkmagfajalnhaaW.PrintWords
set_option linter.unusedVariables false
theorem own : ownKnob Try.prog.godebug = none := by kernel_rfl
theorem laidOut : laidOutB Try.prog = true := by kernel_rfl
set_option maxRecDepth 100000 in
theorem lifted (PURE : ∀ (x0 : S63) (l1 : List Int) (a2 : Int) (a3 : Int), good63 x0 → (fun xs_ : List Int => xs_.length ≤ maxLen ∧ ∀ x_ ∈ xs_, (fun n_ : Int => (Lit.int .i64 n_).wf = true) x_) l1 → (fun n_ : Int => (Lit.int .u8 n_).wf = true) a2 → (fun n_ : Int => (Lit.int .i64 n_).wf = true) a3 → ∃ k, regcertlaw10_ExecuteMoveOnly.f k x0.f0 x0.f1 x0.f2 x0.f3 l1 a2 a3 = some true) (os : Os) (started : os.Started) (H : Type) (enc : TypeId × Value → H) :
    ReturnsInHanded {} Try.checked os 17 .any (Rows.executeMoveOnlySpec.pre6 enc Try.prog Try.f17 Rows.executeMoveOnlyRow.domain false) (Rows.executeMoveOnlySpec.post enc Try.prog Try.f17 false true false false) := by
  refine returnsInHanded_of_change_sized (C := Try.checked) own started (by kernel_rfl) Try.func17
    (ChangeSpec.witness6 (enc := enc) (C := Try.checked) false ⟨#[], #[(.agg #[(.int .i64 0), (.int .i64 0), (.int .i64 0), (.slice none 0 0)]), (.slice none 0 0), (.int .u8 0), (.int .i64 0)], []⟩ 8 (by kernel_rfl) (by kernel_rfl) (by kernel_rfl) (by kernel_rfl)) ?_
  intro W base args ds gs before hval0 hW hcnd hsz0 _
  have hval : ∀ (j : Nat) t v, Try.f17.params[j]? = some t → args[j]? = some v → Value.okWide Try.prog W .any base t v := hval0
  have hW' := hW
  obtain ⟨p, q, hA0, hV, rfl, hfz, hnd⟩ := hW
  have hA : DataW.TrodAll enc Try.prog W 0 (fun _ => true) true Try.f17.params.toList args.toList ds p := hA0
  rw [Try.params17] at hA hval
  obtain ⟨v0, vs0, d0, ds0, p0, q0, hargs, rfl, rfl, h0, r0⟩ := trodAll_cons hA
  obtain ⟨v1, vs1, d1, ds1, p1, q1, rfl, rfl, rfl, h1, r1⟩ := trodAll_cons r0
  obtain ⟨v2, vs2, d2, ds2, p2, q2, rfl, rfl, rfl, h2, r2⟩ := trodAll_cons r1
  obtain ⟨v3, vs3, d3, ds3, p3, q3, rfl, rfl, rfl, h3, r3⟩ := trodAll_cons r2
  obtain ⟨rfl, rfl, rfl⟩ := trodAll_nil r3
  obtain rfl : args = #[v0, v1, v2, v3] := by cases args; simp_all
  obtain ⟨rfl, rfl⟩ := trodVars_none hV
  have k0 := h0
  have lt0 : ∀ x ∈ p0, x.block < W.heap.size := by obtain ⟨m, hm⟩ := k0; exact DataW.trod_lt m _ _ _ hm
  obtain ⟨cs0, x0, rfl, hk0, g0⟩ := arg_struct Try.underlying63 opens63 (hval 0 63 v0 rfl rfl) h0
  obtain ⟨A0_3, c0_3, rfl, hl0_3, hC0_3⟩ := k63_open hk0
  have k1 := h1
  have lt1 : ∀ x ∈ p1, x.block < W.heap.size := by obtain ⟨m, hm⟩ := k1; exact DataW.trod_lt m _ _ _ hm
  obtain ⟨A1, c1, l1, rfl, hC1, hl1, g1⟩ := arg_slice Try.underlying35 (opens_slice Try.underlying35 (by kernel_rfl) (opens_int Try.underlying2)) (hval 1 35 v1 rfl rfl) h1
  have k2 := h2
  have lt2 : ∀ x ∈ p2, x.block < W.heap.size := by obtain ⟨m, hm⟩ := k2; exact DataW.trod_lt m _ _ _ hm
  obtain ⟨a2, rfl, rfl, rfl, g2⟩ := open_int Try.underlying5 (hval 2 5 v2 rfl rfl) h2
  have k3 := h3
  have lt3 : ∀ x ∈ p3, x.block < W.heap.size := by obtain ⟨m, hm⟩ := k3; exact DataW.trod_lt m _ _ _ hm
  obtain ⟨a3, rfl, rfl, rfl, g3⟩ := open_int Try.underlying3 (hval 3 3 v3 rfl rfl) h3
  clear hA0 hval0 hsz0
  obtain ⟨k, hf⟩ := PURE x0 l1 a2 a3 g0 g1 g2 g3
  refine (regcertlaw10_ExecuteMoveOnly.calls k (x0.f0) (x0.f1) (x0.f2) A0_3 c0_3 (x0.f3) A1 c1 l1 a2 a3 true W hC0_3 hl0_3 hC1 hl1 hf).mono fun e W' ⟨he, bel0⟩ => ?_
  have bel := bel0
  subst he
  exact ⟨_, rfl, _, _, _, [], _, [], hW', trodAll_mk1 (shut_bool Try.underlying4 _), (trodAll_cons_mk (Below.trod laidOut (by kernel_rfl) (of_decide_eq_true (by kernel_rfl)) k0 bel lt0) (trodAll_cons_mk (Below.trod laidOut (by kernel_rfl) (of_decide_eq_true (by kernel_rfl)) k1 bel lt1) (trodAll_cons_mk (Below.trod laidOut (by kernel_rfl) (of_decide_eq_true (by kernel_rfl)) k2 bel lt2) (trodAll_cons_mk (Below.trod laidOut (by kernel_rfl) (of_decide_eq_true (by kernel_rfl)) k3 bel lt3) trodAll_mk0)))), rfl, bel.frame _, fun h => by cases h⟩
theorem over (PURE : ∀ (x0 : S63) (l1 : List Int) (a2 : Int) (a3 : Int), good63 x0 → (fun xs_ : List Int => xs_.length ≤ maxLen ∧ ∀ x_ ∈ xs_, (fun n_ : Int => (Lit.int .i64 n_).wf = true) x_) l1 → (fun n_ : Int => (Lit.int .u8 n_).wf = true) a2 → (fun n_ : Int => (Lit.int .i64 n_).wf = true) a3 → ∃ k, regcertlaw10_ExecuteMoveOnly.f k x0.f0 x0.f1 x0.f2 x0.f3 l1 a2 a3 = some true) : Rows.executeMoveOnlyRow.holds Try.pinned (OpenSpec.ofChange Rows.executeMoveOnlySpec) :=
  OpenClaim.holds_of_wide 17 Try.f17 rfl rfl rfl rfl rfl rfl rfl ⟨rfl, rfl, rfl, rfl, rfl⟩ rfl rfl rfl rfl rfl (by kernel_rfl) Try.func17 (by kernel_rfl)
    (of_decide_eq_true (by kernel_rfl)) (by unfold Func.isWrapper; first | (rw [if_pos (by decide +kernel)]; kernel_rfl) | (rw [if_neg (by decide +kernel)]; exact ⟨rfl, rfl⟩))
    (fun os started H enc _ => lifted PURE os started H enc)
end Go.Proofs.Ytgkmagfajalnhaa.executeMoveOnly
namespace Go.Proofs.Ytgkmagfajalnhaa.E
open Go.RowKit Go.Proofs.YtgkmagfajalnhaaW.PrintWords Go.Proofs.YtgkmagfajalnhaaW.PrintLast Go.Proofs.YtgkmagfajalnhaaW.PrintMore Num
set_option linter.unusedVariables false
set_option linter.unusedSimpArgs false

theorem getD_set_same (l : List Int) (i : Nat) (x : Int) (h : i < l.length) : (l.set i x).getD i 0 = x := by
  rw [List.getD_eq_getElem?_getD, List.getElem?_set_self h]
  rfl
theorem getD_set_other (l : List Int) (i j : Nat) (x : Int) (h : i ≠ j) : (l.set i x).getD j 0 = l.getD j 0 := by
  rw [List.getD_eq_getElem?_getD, List.getD_eq_getElem?_getD, List.getElem?_set_ne h]
theorem loc_same {s : PS} {d v : Int} (h : LocOK s d) : locP (setLoc s d v) d = v := by
  unfold LocOK at h
  unfold locP setLoc
  by_cases hk : (Int.tmod d 2 == 1) = true
  · rw [if_pos hk] at h
    rw [if_pos hk, if_pos hk]
    exact getD_set_same _ _ _ (by omega)
  · rw [if_neg hk] at h
    rw [if_neg hk, if_neg hk]
    exact getD_set_same _ _ _ (by omega)
theorem loc_other {s : PS} {d l v : Int} (d64 : I64 d) (l64 : I64 l) (d0 : 0 ≤ d) (l0 : 0 ≤ l) (hne : l ≠ d) : locP (setLoc s d v) l = locP s l := by
  unfold I64 at d64 l64
  have ed : Int.tdiv d 2 = d / 2 := Int.tdiv_eq_ediv_of_nonneg d0
  have el : Int.tdiv l 2 = l / 2 := Int.tdiv_eq_ediv_of_nonneg l0
  have wd : wrap64 (Int.tdiv d 2) = d / 2 := by rw [ed]; exact w64s (by omega) (by omega)
  have wl : wrap64 (Int.tdiv l 2) = l / 2 := by rw [el]; exact w64s (by omega) (by omega)
  have md : Int.tmod d 2 = d % 2 := Int.tmod_eq_emod_of_nonneg d0
  have ml : Int.tmod l 2 = l % 2 := Int.tmod_eq_emod_of_nonneg l0
  unfold locP setLoc
  rw [wd, wl, md, ml]
  by_cases hd : (d % 2 == 1) = true
  · rw [if_pos hd]
    by_cases hl : (l % 2 == 1) = true
    · rw [if_pos hl, if_pos hl]
      have q1 := beq_iff_eq.mp hd
      have q2 := beq_iff_eq.mp hl
      exact getD_set_other _ _ _ _ (by omega)
    · rw [if_neg hl, if_neg hl]
  · rw [if_neg hd]
    by_cases hl : (l % 2 == 1) = true
    · rw [if_pos hl, if_pos hl]
    · rw [if_neg hl, if_neg hl]
      have q1 : ¬ d % 2 = 1 := fun e => hd (beq_iff_eq.mpr e)
      have q2 : ¬ l % 2 = 1 := fun e => hl (beq_iff_eq.mpr e)
      exact getD_set_other _ _ _ _ (by omega)

theorem move_pure (x0 : S63) (l1 : List Int) (a2 a3 : Int) (h64 : I64L x0.f3) (hM : Imm64 x0.f3) (hl64 : ∀ x ∈ l1, I64 x) (h2 : 0 ≤ a2 ∧ a2 ≤ 255) (h3 : I64 a3) : Ev (fun k => regcertlaw10_ExecuteMoveOnly.f k x0.f0 x0.f1 x0.f2 x0.f3 l1 a2 a3) true := by
  obtain ⟨a0, fr, fs, l⟩ := x0
  dsimp only at h64 hM ⊢
  refine Ev.congr (fun k => by rw [regcertlaw10_ExecuteMoveOnly.f]) ?_
  refine Ev.bind awake10 (Ev.pos rfl ?_)
  obtain ⟨b, hb, hv⟩ := right_evs a0 fr fs l h64 l1 0
  have out : Ev (fun k => regcertlaw10_ExecuteMoveOnly.j0 k l1 a2 a3 true a0 fr fs l) true := by
    refine Ev.step (fun k => by rw [regcertlaw10_ExecuteMoveOnly.j0]) ?_
    exact Ev.pos rfl (Ev.bind awake10 (Ev.now _))
  refine Ev.bind hb ?_
  by_cases hbt : b = true
  · refine Ev.pos hbt ?_
    obtain ⟨V, v0, v1, v2, v3⟩ := hv hbt
    by_cases hl : (l1.length : Int) = a0
    · rw [show ((l1.length : Int) != a0) = false by simp [hl]]
      refine Ev.step (fun k => by rw [regcertlaw10_ExecuteMoveOnly.j0]) ?_
      refine Ev.neg (by simp) ?_
      have h0 := V.regs0
      have h60 := V.regs1
      have h20 := V.slots0
      have h62 := V.slots1
      have h1 : (l1.length : Int) ≤ fs := by omega
      rw [w64s (n := a2) (by omega) (by omega), Int.tmod_eq_emod_of_nonneg h2.1]
      have n0 : 0 ≤ a2 % 60 ∧ a2 % 60 < 60 := by omega
      generalize a2 % 60 = n at n0
      obtain ⟨k0, r, hk, eR, hI, h6, h5⟩ := refexec_ev (a0 := a0) V hM hl64 h1 (show n ≤ 400 by omega)
      have hrl := hI.regs
      have hsl := hI.slots
      have htl := hI.trace
      have hst := hI.steps
      refine Ev.bind eR (Ev.pos hI.blk0 (Ev.pos hI.blk1 ?_))
      dsimp only
      have fin : ∀ (x y : List S84) (z : S48), Ev (fun k => regcertlaw10_ExecuteMoveOnly.j1 k a3 true a0 fr fs l r.st r.blk r.at_ r.val r.regs r.slots r.trace r.steps x z.f0 z.f1 z.f2 z.f3) true := by
        intro x y z
        refine Ev.step (fun k => by rw [regcertlaw10_ExecuteMoveOnly.j1]) ?_
        exact Ev.pos rfl (Ev.now _)
      by_cases hz : r.st = 0
      · refine Ev.pos hz ?_
        by_cases ha : r.at_ ≥ (((rd_T69 l r.blk).f0).length : Int)
        · exact Ev.pos ha (fin _ [] _)
        · refine Ev.neg ha (Ev.pos hI.at0 (Ev.pos (by omega) ?_))
          by_cases hop : (rd_T84 (rd_T69 l r.blk).f0 r.at_).f0 = 18
          · rw [show ((rd_T84 (rd_T69 l r.blk).f0 r.at_).f0 != 18) = false by simp [hop]]
            refine Ev.step (fun k => by rw [regcertlaw10_ExecuteMoveOnly.j1]) ?_
            refine Ev.neg (by simp) (Ev.pos hI.at0 (Ev.pos (by omega) ?_))
            obtain ⟨_, hi, _⟩ := V.blocks r.blk hI.blk0 hI.blk1
            obtain ⟨h18, _⟩ := hi r.at_ hI.at0 (by omega)
            obtain ⟨hdr, hsr⟩ := h18 hop
            have hd := locR_ok hrl hsl hdr
            have hs := locR_ok hrl hsl hsr
            obtain ⟨d64, s64⟩ := h64 r.blk r.at_ hI.blk0 hI.blk1 hI.at0 (by omega)
            have hd0 := hdr.1
            obtain ⟨s1, e1, I1, hg, _⟩ := step_one (a0 := a0) V hI (by omega)
            have hsp := (hg hz).1
            unfold stepP at hsp
            rw [if_pos ⟨hI.blk0, hI.blk1⟩, if_pos (by omega), if_pos hI.at0] at hsp
            unfold instrP at hsp
            rw [if_pos hop, if_pos ⟨hd, hs⟩] at hsp
            generalize rd_T84 (rd_T69 l r.blk).f0 r.at_ = i at *
            have q := setLoc_rest r i.f5 (locP r i.f6)
            obtain rfl := Option.some.inj hsp
            have hrl1 := I1.regs
            have hsl1 := I1.slots
            have hd1 : LocOK (setLoc r i.f5 (locP r i.f6)).next i.f5 := locR_ok hrl1 hsl1 hdr
            have ws : wrap64 (r.steps + 1) = r.steps + 1 := w64s (by omega) (by omega)
            refine Ev.bindc e1 (Ev.pos hrl1 (Ev.pos hsl1 ?_))
            refine Ev.bindc (read_ev hd1) (Ev.bindc (read_ev hs) ?_)
            refine Ev.pos (loc_same hd) ?_
            have etr : (setLoc r i.f5 (locP r i.f6)).next.trace = r.trace := q.2.2.2.2.1
            have est : (setLoc r i.f5 (locP r i.f6)).next.steps = wrap64 (r.steps + 1) := by
              show wrap64 ((setLoc r i.f5 (locP r i.f6)).steps + 1) = _
              rw [q.2.2.2.2.2]
            have hvals := values_refl r.trace (by omega)
            rw [← etr] at hvals
            refine Ev.bind (r := true) (a := true) (by rw [etr] at hvals; dsimp only; rw [etr]; exact hvals) (Ev.pos rfl ?_)
            dsimp only
            rw [show ((setLoc r i.f5 (locP r i.f6)).next.steps != wrap64 (r.steps + 1)) = false by simp [est]]
            refine Ev.step (fun k => by rw [regcertlaw10_ExecuteMoveOnly.j2]) ?_
            refine Ev.neg (by simp) ?_
            refine Ev.bindc (a := inRB a3 fr fs) rfl ?_
            by_cases hin : inRB a3 fr fs = true
            · have hlr := inR_ok h3 hin
              refine Ev.pos hin ?_
              by_cases he : a3 = i.f5
              · exact Ev.pos he (Ev.now _)
              · refine Ev.neg he (Ev.bindc (read_ev (locR_ok hrl1 hsl1 hlr)) (Ev.bindc (read_ev (locR_ok hrl hsl hlr)) (Ev.val ?_)))
                rw [beq_iff_eq]
                exact loc_other d64 h3 hd0 hlr.1 he
            · exact Ev.neg hin (Ev.now _)
          · rw [show ((rd_T84 (rd_T69 l r.blk).f0 r.at_).f0 != 18) = true by simp [hop]]
            exact fin _ [] _
      · exact Ev.neg hz (fin _ [] _)
    · rw [show ((l1.length : Int) != a0) = true by simp [hl]]
      exact out
  · exact Ev.neg hbt out
theorem wf64 {n : Int} (h : (Lit.int .i64 n).wf = true) : I64 n := by
  have := bounds_i64 h
  unfold I64
  omega
end Go.Proofs.Ytgkmagfajalnhaa.E
namespace Go.Proofs.Ytgkmagfajalnhaa
theorem executeMoveOnly_holds : Rows.ExecuteMoveOnlySaid := executeMoveOnly.over fun x0 l1 a2 a3 h0 h1 h2 h3 => (E.move_pure x0 l1 a2 a3 (E.good_loc h0.2.2.2.2) (E.good_imm h0.2.2.2.2) (fun x hx => E.wf64 (h1.2 x hx)) (bounds_u8 h2) (E.wf64 h3)).rounds
end Go.Proofs.Ytgkmagfajalnhaa
