/-
  InterpMatchesReference.
-/
import Derived.Test.YtgkmagfajalnhaaMYIValidB
import Derived.Test.YtgkmagfajalnhaaMYRowInterpMatchesReference
namespace Go.Proofs.Ytgkmagfajalnhaa.Y
open Go.RowKit Go.Proofs.YtgkmagfajalnhaaW.PrintWords Go.Proofs.YtgkmagfajalnhaaW.PrintLast Go.Proofs.YtgkmagfajalnhaaW.PrintMore Num
set_option linter.unusedVariables false
set_option linter.unusedSimpArgs false

theorem awake09 : Ev (fun k => regcertlaw09_awake.f k) true := Ev.of (fun k => regcertlaw09_awake.mono k) (k := 40) (by kernel_rfl)

theorem same_refl (a b c d e : Int) (x y z : List Int) (hx : x.length ≤ 1000000) (hy : y.length ≤ 1000000) (hz : z.length ≤ 1000000) : Ev (fun k => regcertref09_Same.f k a b c d x y z e a b c d x y z e) true := by
  refine Ev.congr (fun k => by rw [regcertref09_Same.f]) ?_
  refine Ev.pos rfl (Ev.pos rfl (Ev.pos rfl (Ev.pos rfl (Ev.pos rfl ?_))))
  refine Ev.bind (values_refl x hx) (Ev.pos rfl ?_)
  refine Ev.bind (values_refl y hy) (Ev.pos rfl ?_)
  exact Ev.bind (values_refl z hz) (Ev.now _)

theorem tmod64 {a b : Int} (h : I64 a) : I64 (a.tmod b) := by
  have e := Int.natAbs_tmod a b
  have l := Nat.mod_le a.natAbs b.natAbs
  unfold I64 at h ⊢
  by_cases ha : 0 ≤ a
  · have := Int.tmod_nonneg b ha
    omega
  · have h2 : 0 ≤ (-a).tmod b := Int.tmod_nonneg b (by omega)
    rw [Int.neg_tmod] at h2
    omega

theorem ite64 {c : Prop} [Decidable c] {p q : Int × Bool} (hp : I64 p.1) (hq : I64 q.1) : I64 (if c then p else q).1 := by split <;> assumption
theorem bit64 {c : Prop} [Decidable c] : I64 (if c then 1 else 0) := by
  unfold I64
  split <;> omega
/-- A result of the arithmetic is a 64-bit integer. -/
theorem eval64 {n a b imm : Int} (ha : I64 a) (hb : I64 b) (hi : I64 imm) : I64 (X.aluEval n a b imm).1 := by
  have z : I64 0 := by unfold I64; omega
  unfold X.aluEval
  rw [bits_and, bits_or, bits_xor, bits_xor]
  repeat' apply ite64
  all_goals dsimp only
  all_goals first
    | exact hi
    | exact ha
    | exact z
    | exact w64_in _
    | exact tmod64 ha
    | exact shr_in ha _
    | exact bit64

def Imm64 (l : List S50) : Prop := ∀ i j : Int, 0 ≤ i → i < l.length → 0 ≤ j → j < ((rd_T50 l i).f0).length → I64 (rd_T97 (rd_T50 l i).f0 j).f4

theorem step64 {l : List S50} (M : Imm64 l) {s s1 : PS} (h64 : all64 s.regs = true) (h : stepP l s = some s1) : all64 s1.regs = true := by
  unfold stepP at h
  by_cases hb : 0 ≤ s.blk ∧ s.blk < l.length
  · rw [if_pos hb] at h
    by_cases ha : s.at_ < (rd_T50 l s.blk).f0.length
    · rw [if_pos ha] at h
      by_cases h0 : 0 ≤ s.at_
      · rw [if_pos h0] at h
        have hm := M s.blk s.at_ hb.1 hb.2 h0 ha
        generalize rd_T97 (rd_T50 l s.blk).f0 s.at_ = i at h hm
        unfold instrP at h
        by_cases h17 : i.f0 = 17
        · rw [if_pos h17] at h
          by_cases hr : 0 ≤ i.f2 ∧ i.f2 < s.regs.length ∧ (s.trace.length + 1) * 8 ≤ 140737488355328
          · rw [if_pos hr] at h
            obtain rfl := Option.some.inj h
            exact h64
          · rw [if_neg hr] at h
            cases h
        · rw [if_neg h17] at h
          by_cases hr : 0 ≤ i.f2 ∧ i.f2 < s.regs.length ∧ 0 ≤ i.f3 ∧ i.f3 < s.regs.length
          · rw [if_pos hr] at h
            unfold X.alu_Eval.f at h
            rw [Option.bind_some] at h
            have he := eval64 (n := i.f0) (rd64 h64 _ hr.1 hr.2.1) (rd64 h64 _ hr.2.2.1 hr.2.2.2) hm
            by_cases hk : (X.aluEval i.f0 (rdOf 0 s.regs i.f2) (rdOf 0 s.regs i.f3) i.f4).2 = true
            · rw [if_pos hk] at h
              by_cases hd : 0 ≤ i.f1 ∧ i.f1 < s.regs.length
              · rw [if_pos hd] at h
                obtain rfl := Option.some.inj h
                refine (all64_iff _).mpr (fun x hx => ?_)
                rcases List.mem_or_eq_of_mem_set hx with q | q
                · exact (all64_iff _).mp h64 x q
                · rw [q]
                  exact he
              · rw [if_neg hd] at h
                cases h
            · rw [if_neg hk] at h
              obtain rfl := Option.some.inj h
              exact h64
          · rw [if_neg hr] at h
            cases h
      · rw [if_neg h0] at h
        cases h
    · rw [if_neg ha] at h
      generalize (rd_T50 l s.blk).f1 = t at h
      unfold termP at h
      by_cases h3 : t.f0 = 3
      · rw [if_pos h3] at h
        by_cases hr : 0 ≤ t.f1 ∧ t.f1 < s.regs.length
        · rw [if_pos hr] at h
          obtain rfl := Option.some.inj h
          exact h64
        · rw [if_neg hr] at h
          cases h
      · rw [if_neg h3] at h
        by_cases h2 : t.f0 = 2
        · rw [if_pos h2] at h
          by_cases hr : 0 ≤ t.f1 ∧ t.f1 < s.regs.length
          · rw [if_pos hr] at h
            by_cases hz : rdOf (0 : Int) s.regs t.f1 = 0
            · rw [if_pos hz] at h
              obtain rfl := Option.some.inj h
              exact h64
            · rw [if_neg hz] at h
              obtain rfl := Option.some.inj h
              exact h64
          · rw [if_neg hr] at h
            cases h
        · rw [if_neg h2] at h
          obtain rfl := Option.some.inj h
          exact h64
  · rw [if_neg hb] at h
    cases h

theorem refstart_loop (a0 fr : Int) (l : List S50) (h60 : fr ≤ 60) : ∀ (d : Nat) (x : List Int), (x.length : Int) ≤ fr → (fr - x.length).toNat = d →
    Ev (fun k => regcertref09_Start.l0 k a0 fr l 0 0 0 0 x 0) (0, 0, 0, 0, x ++ List.replicate d 0, [], [], 0) := by
  intro d
  induction d with
  | zero =>
    intro x hx hd
    refine Ev.step (fun k => by rw [regcertref09_Start.l0]) (Ev.neg (by omega) (Ev.val ?_))
    simp
  | succ d ih =>
    intro x hx hd
    refine Ev.step (fun k => by rw [regcertref09_Start.l0]) (Ev.pos (by omega) (Ev.pos (by omega) ?_))
    have := ih (x ++ [0]) (by rw [List.length_append]; simp; omega) (by rw [List.length_append]; simp; omega)
    rw [List.append_assoc] at this
    exact this

theorem begin_regs {fr : Int} {l1 : List Int} (h : (l1.length : Int) ≤ fr) : (beginP fr l1).regs = l1 ++ List.replicate (fr - l1.length).toNat 0 := by
  show l1.take (min l1.length fr.toNat) ++ (List.replicate fr.toNat (0 : Int)).drop (min l1.length fr.toNat) = _
  rw [Nat.min_eq_left (by omega), List.take_length, List.drop_replicate]
  congr 2
  omega

theorem refstart_ev {a0 fr : Int} {l : List S50} {l1 : List Int} (h : (l1.length : Int) ≤ fr) (h60 : fr ≤ 60) : Ev (fun k => regcertref09_Start.f k a0 fr l l1) (0, 0, 0, 0, (beginP fr l1).regs, [], [], 0) := by
  refine Ev.congr (fun k => by rw [regcertref09_Start.f]) ?_
  refine Ev.bindv (Ev.pos (by simp; omega) ?_)
  rw [begin_regs h, List.nil_append]
  exact refstart_loop a0 fr l h60 _ l1 h rfl

theorem refstep_run {fr a0 : Int} {l : List S50} (V : ValidP fr l) {s : PS} (I : Inv fr l s) (h64 : all64 s.regs = true) (hs : s.steps ≤ 1000) (h0 : s.st = 0) :
    regcertref09_Step.f a0 fr l s.st s.blk s.at_ s.val s.regs [] s.trace s.steps = (stepP l s).bind fun s => some (s.st, s.blk, s.at_, s.val, s.regs, [], s.trace, s.steps) := by
  have hr := I.regs
  have hr1 := V.regs1
  have ht := I.trace
  have ha := I.at1
  unfold regcertref09_Step.f
  rw [if_pos ⟨rfl, by omega, by omega, h64⟩, if_pos h0, if_pos ha]
theorem refstep_end {fr a0 : Int} {l : List S50} (V : ValidP fr l) {s : PS} (I : Inv fr l s) (h64 : all64 s.regs = true) (hs : s.steps ≤ 1000) (h0 : s.st ≠ 0) :
    regcertref09_Step.f a0 fr l s.st s.blk s.at_ s.val s.regs [] s.trace s.steps = some (s.st, s.blk, s.at_, s.val, s.regs, [], s.trace, s.steps) := by
  have hr := I.regs
  have hr1 := V.regs1
  have ht := I.trace
  unfold regcertref09_Step.f
  rw [if_pos ⟨rfl, by omega, by omega, h64⟩, if_neg h0]

theorem refexec_loop {fr a0 : Int} {l : List S50} (V : ValidP fr l) (M : Imm64 l) {m : Int} (hm : m ≤ 400) : ∀ (k : Nat) (s r : PS), Inv fr l s → all64 s.regs = true → s.steps ≤ 500 → execLoop k l m s = some r →
    Ev (fun k => regcertref09_Exec.l0 k m a0 fr l s.st s.blk s.at_ s.val s.regs [] s.trace s.steps) (r.st, r.blk, r.at_, r.val, r.regs, [], r.trace, r.steps) ∧ Inv fr l r ∧ all64 r.regs = true ∧ r.steps ≤ 500 := by
  intro k
  induction k with
  | zero => intro s r _ _ _ h; cases h
  | succ k ih =>
    intro s r I h64 hs h
    unfold execLoop at h
    by_cases h0 : s.st = 0
    · rw [if_pos h0] at h
      by_cases hl : s.steps < m
      · rw [if_pos hl] at h
        obtain ⟨s1, e1, I1, p1, hc⟩ := step_ok V I (by omega)
        rw [e1, Option.bind_some] at h
        have h641 := step64 M h64 e1
        obtain ⟨he, hI, h6, h5⟩ := ih s1 r I1 h641 (by rcases hc with hc | ⟨_, hc⟩ <;> omega) h
        refine ⟨?_, hI, h6, h5⟩
        refine Ev.step (fun k => by rw [regcertref09_Exec.l0]) (Ev.pos h0 ?_)
        rw [show decide (s.steps < m) = true from decide_eq_true hl]
        refine Ev.step (fun k => by rw [regcertref09_Exec.j1]) (Ev.pos rfl ?_)
        refine Ev.bindc (a := (s1.st, s1.blk, s1.at_, s1.val, s1.regs, [], s1.trace, s1.steps)) ?_ he
        rw [refstep_run V I h64 (by omega) h0, e1]
        rfl
      · rw [if_neg hl] at h
        obtain rfl := Option.some.inj h
        refine ⟨?_, I, h64, hs⟩
        refine Ev.step (fun k => by rw [regcertref09_Exec.l0]) (Ev.pos h0 ?_)
        rw [show decide (s.steps < m) = false from decide_eq_false hl]
        exact Ev.step (fun k => by rw [regcertref09_Exec.j1]) (Ev.neg (by simp) (Ev.now _))
    · rw [if_neg h0] at h
      obtain rfl := Option.some.inj h
      refine ⟨?_, I, h64, hs⟩
      refine Ev.step (fun k => by rw [regcertref09_Exec.l0]) (Ev.neg h0 ?_)
      exact Ev.step (fun k => by rw [regcertref09_Exec.j1]) (Ev.neg (by simp) (Ev.now _))

theorem exec_any {fr : Int} {l : List S50} (V : ValidP fr l) {l1 : List Int} {m : Int} (h1 : (l1.length : Int) ≤ fr) (hm : m ≤ 400) : ∃ k r, execLoop k l m (beginP fr l1) = some r := by
  by_cases hm0 : 0 ≤ m
  · obtain ⟨r, er, R⟩ := exec_ran V (by omega) (m.toNat) (beginP fr l1) (begin_inv V h1) hm0 (by show (m - 0).toNat ≤ _; omega)
    exact ⟨_, r, er⟩
  · refine ⟨1, beginP fr l1, ?_⟩
    unfold execLoop
    rw [if_pos (show (beginP fr l1).st = 0 from rfl), if_neg (by show ¬ (0 : Int) < m; omega)]

theorem match_pure (x0 : S34) (l1 : List Int) (a2 : Int) (hM : Imm64 x0.f2) (hl64 : ∀ x ∈ l1, I64 x) : Ev (fun k => regcertlaw09_InterpMatchesReference.f k x0.f0 x0.f1 x0.f2 l1 a2) true := by
  obtain ⟨a0, a1, l⟩ := x0
  dsimp only at hM ⊢
  refine Ev.congr (fun k => by rw [regcertlaw09_InterpMatchesReference.f]) ?_
  refine Ev.bind awake09 (Ev.pos rfl ?_)
  obtain ⟨b, hb, hv⟩ := ev_right (a0 := a0) (a1 := a1) (l := l) (l1 := l1) (a2 := a2)
  refine Ev.bind hb ?_
  refine Ev.step (fun k => by rw [regcertlaw09_InterpMatchesReference.j0]) ?_
  by_cases hbt : b = true
  · obtain ⟨V, v0, v1, v2, v3⟩ := hv hbt
    have h0 := V.regs0
    have h60 := V.regs1
    refine Ev.neg (by simp [hbt]) ?_
    by_cases hl : (l1.length : Int) = a0
    · have h1 : (l1.length : Int) ≤ a1 := by omega
      obtain ⟨k0, r, hk⟩ := exec_any V h1 v2
      have h64b : all64 (beginP a1 l1).regs = true := by
        rw [begin_regs h1]
        refine (all64_iff _).mpr (fun x hx => ?_)
        rcases List.mem_append.mp hx with q | q
        · exact hl64 x q
        · rw [(List.mem_replicate.mp q).2]
          unfold I64
          omega
      obtain ⟨he, hI, h6, h5⟩ := refexec_loop (a0 := a0) V hM v2 k0 _ r (begin_inv V h1) h64b (by show (0 : Int) ≤ 500; omega) hk
      have hrl := hI.regs
      have htl := hI.trace
      have hbl := (begin_inv V h1).regs
      have eE : Ev (fun k => interp_Exec.f k a0 a1 l l1 a2) (r.st, r.blk, r.at_, r.val, r.regs, [], r.trace, r.steps, 0) := by
        refine ⟨k0, fun k hkk => ?_⟩
        unfold interp_Exec.f
        dsimp only
        rw [if_pos hl, if_pos ⟨h0, by omega⟩, show fuelOf a2 = a2 from if_neg (by omega), execLoop_le l a2 hkk hk]
        rfl
      refine Ev.bind eE ?_
      refine Ev.bindc (a := ((0 : Int), (0 : Int), (0 : Int), (0 : Int), (beginP a1 l1).regs, ([] : List Int), ([] : List Int), (0 : Int), (0 : Int))) ?_ ?_
      · unfold interp_Start.f
        rw [if_pos hl, if_pos ⟨h0, by omega⟩]
      refine Ev.pos hl ?_
      have eR : Ev (fun k => regcertref09_Exec.f k a0 a1 l l1 a2) (r.st, r.blk, r.at_, r.val, r.regs, [], r.trace, r.steps) := by
        refine Ev.congr (fun k => by rw [regcertref09_Exec.f]) ?_
        exact Ev.bind (refstart_ev h1 h60) he
      refine Ev.bind eR (Ev.pos rfl (Ev.pos rfl ?_))
      refine Ev.bind (same_refl _ _ _ _ _ _ _ _ (by dsimp only; omega) (by simp) (by dsimp only; omega)) (Ev.pos rfl ?_)
      refine Ev.bind (refstart_ev h1 h60) ?_
      refine Ev.bind (same_refl _ _ _ _ _ _ _ _ (by dsimp only; omega) (by simp) (by simp)) (Ev.pos rfl ?_)
      dsimp only
      by_cases hz : r.st = 0
      · obtain ⟨s1, e1, I1, p1, hc⟩ := step_ok V hI (by omega)
        have hrl1 := I1.regs
        have htl1 := I1.trace
        have hs1 : s1.steps ≤ 501 := by rcases hc with hc | ⟨_, hc⟩ <;> omega
        refine Ev.bindc (a := (s1.st, s1.blk, s1.at_, s1.val, s1.regs, [], s1.trace, s1.steps)) ?_ ?_
        · unfold interp_Step.f
          rw [if_pos ⟨rfl, by omega, by omega⟩, if_pos hz]
          show (stepP l r).bind _ = _
          rw [e1]
          rfl
        refine Ev.bindc (a := (s1.st, s1.blk, s1.at_, s1.val, s1.regs, [], s1.trace, s1.steps)) ?_ ?_
        · rw [refstep_run V hI h6 (by omega) hz, e1]
          rfl
        exact Ev.bind (same_refl _ _ _ _ _ _ _ _ (by dsimp only; omega) (by simp) (by dsimp only; omega)) (Ev.now _)
      · refine Ev.bindc (a := (r.st, r.blk, r.at_, r.val, r.regs, [], r.trace, r.steps)) ?_ ?_
        · unfold interp_Step.f
          rw [if_pos ⟨rfl, by omega, by omega⟩, if_neg hz]
        refine Ev.bindc (a := (r.st, r.blk, r.at_, r.val, r.regs, [], r.trace, r.steps)) ?_ ?_
        · exact refstep_end V hI h6 (by omega) hz
        exact Ev.bind (same_refl _ _ _ _ _ _ _ _ (by dsimp only; omega) (by simp) (by dsimp only; omega)) (Ev.now _)
    · have eE : Ev (fun k => interp_Exec.f k a0 a1 l l1 a2) (0, 0, 0, 0, [], [], [], 0, 32) := by
        refine ⟨0, fun k _ => ?_⟩
        unfold interp_Exec.f
        dsimp only
        rw [if_neg hl]
      refine Ev.bind eE ?_
      refine Ev.bindc (a := ((0 : Int), (0 : Int), (0 : Int), (0 : Int), ([] : List Int), ([] : List Int), ([] : List Int), (0 : Int), (32 : Int))) ?_ ?_
      · unfold interp_Start.f
        rw [if_neg hl]
      refine Ev.neg hl (Ev.pos rfl (Ev.pos rfl ?_))
      refine Ev.bind (same_refl _ _ _ _ _ _ _ _ (by simp) (by simp) (by simp)) (Ev.pos rfl ?_)
      exact Ev.bind (same_refl _ _ _ _ _ _ _ _ (by simp) (by simp) (by simp)) (Ev.now _)
  · exact Ev.pos (by simpa using hbt) (Ev.bind awake09 (Ev.now _))
theorem wf64 {n : Int} (h : (Lit.int .i64 n).wf = true) : I64 n := by
  have := bounds_i64 h
  unfold I64
  omega
theorem imm_good {x0 : S34} (h : good34 x0) : Imm64 x0.f2 := by
  intro i j hi0 hi1 hj0 hj1
  have hb : good50 (rd_T50 x0.f2 i) := by
    apply h.2.2.2
    unfold rd_T50
    rw [List.getD_eq_getElem?_getD, List.getElem?_eq_getElem (by omega)]
    exact List.getElem_mem _
  have hm : good97 (rd_T97 (rd_T50 x0.f2 i).f0 j) := by
    apply hb.1.2
    unfold rd_T97
    rw [List.getD_eq_getElem?_getD, List.getElem?_eq_getElem (by omega)]
    exact List.getElem_mem _
  exact wf64 hm.2.2.2.2
end Go.Proofs.Ytgkmagfajalnhaa.Y
namespace Go.Proofs.Ytgkmagfajalnhaa
theorem interpMatchesReference_holds : Rows.InterpMatchesReferenceSaid := interpMatchesReference.over fun x0 l1 a2 h0 h1 _ => (Y.match_pure x0 l1 a2 (Y.imm_good h0) (fun x hx => Y.wf64 (h1.2 x hx))).rounds
end Go.Proofs.Ytgkmagfajalnhaa
