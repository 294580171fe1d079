/-
  What the reference's Right says: a valid function.
-/
import Derived.Test.YtgkmagfajalnhaaTERight
import Derived.Test.YtgkmagfajalnhaaTEChk
import Derived.Test.YtgkmagfajalnhaaTEVal
import Derived.Test.YtgkmagfajalnhaaTEGood
namespace Go.Proofs.Ytgkmagfajalnhaa.E
open Go.RowKit Go.Proofs.YtgkmagfajalnhaaW.PrintWords Go.Proofs.YtgkmagfajalnhaaW.PrintLast Go.Proofs.YtgkmagfajalnhaaW.PrintMore Num
set_option linter.unusedVariables false
set_option linter.unusedSimpArgs false

theorem code_evs (a0 a1 a2 : Int) (l : List S69) (hl : l.length ≤ 1000000) : ∀ (d : Nat) (i acc : Int), 0 ≤ i → i ≤ l.length → ((l.length : Int) - i).toNat = d → Evs (fun k => regcertref08_Code.l0 k acc i a0 a1 a2 l) (fun _ => True) := by
  intro d
  induction d with
  | zero =>
    intro i acc h0 h1 hd
    refine Evs.step (fun k => by rw [regcertref08_Code.l0]) ?_
    exact Evs.ite (fun h => by omega) (fun _ => Evs.val trivial)
  | succ d ih =>
    intro i acc h0 h1 hd
    refine Evs.step (fun k => by rw [regcertref08_Code.l0]) ?_
    refine Evs.ite (fun h => ?_) (fun _ => Evs.val trivial)
    refine Evs.ite (fun _ => ?_) (fun h => absurd h0 h)
    rw [show wrap64 (i + 1) = i + 1 from w64s (by omega) (by omega)]
    exact ih (i + 1) _ (by omega) (by omega) (by omega)
theorem few_loop (a0 a1 a2 : Int) (l : List S69) (hl : l.length ≤ 40) : ∀ (d : Nat) (i : Int), 0 ≤ i → i ≤ l.length → ((l.length : Int) - i).toNat = d →
    Evs (fun k => regcertref08_Few.l0 k i a0 a1 a2 l) (fun v => v = true → ∀ j : Int, i ≤ j → j < l.length → ((rd_T69 l j).f0).length ≤ 300) := by
  intro d
  induction d with
  | zero =>
    intro i h0 h1 hd
    refine Evs.step (fun k => by rw [regcertref08_Few.l0]) ?_
    refine Evs.ite (fun h => by omega) (fun _ => ?_)
    refine Evs.bind (Q := fun _ => True) (Evs.congr (fun k => by rw [regcertref08_Code.f]) (code_evs a0 a1 a2 l (by omega) _ 0 0 (by omega) (by omega) rfl)) (fun a _ => ?_)
    exact Evs.val (fun _ j hj hj2 => by omega)
  | succ d ih =>
    intro i h0 h1 hd
    refine Evs.step (fun k => by rw [regcertref08_Few.l0]) ?_
    refine Evs.ite (fun h => ?_) (fun h => by omega)
    refine Evs.ite (fun _ => ?_) (fun h => absurd h0 h)
    refine Evs.ite (fun _ => Evs.val (fun h => by simp at h)) (fun hc => ?_)
    rw [show wrap64 (i + 1) = i + 1 from w64s (by omega) (by omega)]
    refine (ih (i + 1) (by omega) (by omega) (by omega)).mono (fun v hv h0 j hj hj2 => ?_)
    by_cases e : j = i
    · subst e
      omega
    · exact hv h0 j (by omega) hj2
theorem few_evs (a0 a1 a2 : Int) (l : List S69) : Evs (fun k => regcertref08_Few.f k a0 a1 a2 l) (fun v => v = true → l.length ≤ 40 ∧ a1 ≤ 60 ∧ a2 ≤ 60 ∧ ∀ j : Int, 0 ≤ j → j < l.length → ((rd_T69 l j).f0).length ≤ 300) := by
  refine Evs.congr (fun k => by rw [regcertref08_Few.f]) ?_
  have no : Evs (fun k => regcertref08_Few.j0 k true a0 a1 a2 l) (fun v => v = true → l.length ≤ 40 ∧ a1 ≤ 60 ∧ a2 ≤ 60 ∧ ∀ j : Int, 0 ≤ j → j < l.length → ((rd_T69 l j).f0).length ≤ 300) := by
    refine Evs.step (fun k => by rw [regcertref08_Few.j0]) ?_
    exact Evs.ite (fun _ => Evs.val (fun h => by simp at h)) (fun h => absurd rfl h)
  refine Evs.ite (fun h => no) (fun h => Evs.ite (fun h1 => no) (fun h1 => ?_))
  refine Evs.step (fun k => by rw [regcertref08_Few.j0]) ?_
  refine Evs.ite (fun _ => Evs.val (fun h => by simp at h)) (fun h6 => ?_)
  have h60 : ¬ (a2 > 60) := fun q => h6 (decide_eq_true q)
  refine (few_loop a0 a1 a2 l (by omega) _ 0 (by omega) (by omega) rfl).mono (fun v hv h0 => ⟨by omega, by omega, by omega, hv h0⟩)

/-! Moves answers -/
theorem moves_in (c : List S84) (hc : c.length ≤ 1000) (best i : Int) (hi : 0 ≤ i) (hb : i ≤ c.length) (hn : ∀ b, Evs (fun k => regcertref08_Moves.l0 k c b (wrap64 (i + 1))) (fun _ => True)) : ∀ (d : Nat) (n : Int), 0 ≤ n → i + n ≤ c.length → ((c.length : Int) - (i + n)).toNat = d → Evs (fun k => regcertref08_Moves.l1 k c best i n) (fun _ => True) := by
  intro d
  have fin : ∀ n, Evs (fun k => regcertref08_Moves.j2 k c best i n false) (fun _ => True) := by
    intro n
    refine Evs.step (fun k => by rw [regcertref08_Moves.j2]) ?_
    refine Evs.ite (fun h => by simp at h) (fun _ => Evs.ite (fun _ => hn _) (fun _ => hn _))
  induction d with
  | zero =>
    intro n h0 h1 hd
    refine Evs.step (fun k => by rw [regcertref08_Moves.l1]) ?_
    rw [show wrap64 (i + n) = i + n from w64s (by omega) (by omega)]
    exact Evs.ite (fun h => by omega) (fun _ => fin n)
  | succ d ih =>
    intro n h0 h1 hd
    refine Evs.step (fun k => by rw [regcertref08_Moves.l1]) ?_
    rw [show wrap64 (i + n) = i + n from w64s (by omega) (by omega)]
    refine Evs.ite (fun h => Evs.ite (fun _ => ?_) (fun h => by omega)) (fun _ => fin n)
    by_cases hk : ((rd_T84 c (i + n)).f0 == 18) = true
    · rw [hk]
      refine Evs.step (fun k => by rw [regcertref08_Moves.j2]) ?_
      refine Evs.ite (fun _ => ?_) (fun h => absurd rfl h)
      rw [show wrap64 (n + 1) = n + 1 from w64s (by omega) (by omega)]
      exact ih (n + 1) (by omega) (by omega) (by omega)
    · rw [show ((rd_T84 c (i + n)).f0 == 18) = false by simpa using hk]
      exact fin n
theorem moves_out (c : List S84) (hc : c.length ≤ 1000) : ∀ (d : Nat) (i best : Int), 0 ≤ i → i ≤ c.length → ((c.length : Int) - i).toNat = d → Evs (fun k => regcertref08_Moves.l0 k c best i) (fun _ => True) := by
  intro d
  induction d with
  | zero =>
    intro i best h0 h1 hd
    refine Evs.step (fun k => by rw [regcertref08_Moves.l0]) ?_
    exact Evs.ite (fun h => by omega) (fun _ => Evs.val trivial)
  | succ d ih =>
    intro i best h0 h1 hd
    refine Evs.step (fun k => by rw [regcertref08_Moves.l0]) ?_
    refine Evs.ite (fun h => ?_) (fun _ => Evs.val trivial)
    refine moves_in c hc best i h0 h1 (fun b => ?_) _ 0 (by omega) (by omega) rfl
    rw [show wrap64 (i + 1) = i + 1 from w64s (by omega) (by omega)]
    exact ih (i + 1) b (by omega) (by omega) (by omega)
theorem moves_evs (c : List S84) (hc : c.length ≤ 1000) : Evs (fun k => regcertref08_Moves.f k c) (fun _ => True) :=
  Evs.congr (fun k => by rw [regcertref08_Moves.f]) (moves_out c hc _ 0 0 (by omega) (by omega) rfl)

theorem check_in (a0 a1 a2 : Int) (l : List S69) (hl : l.length ≤ 40) (i : Int) (c : List S84) (t : S48) (hc : c.length ≤ 300) (h64 : ∀ j : Int, 0 ≤ j → j < c.length → I64 (rd_T84 c j).f5 ∧ I64 (rd_T84 c j).f6) (R : Prop)
    (hn : Evs (fun k => regcertref08_Check.l0 k (wrap64 (i + 1)) a0 a1 a2 l) (fun v => v = 0 → R)) : ∀ (d : Nat) (n : Int), 0 ≤ n → n ≤ c.length → ((c.length : Int) - n).toNat = d →
    Evs (fun k => regcertref08_Check.l1 k i n a0 a1 a2 l c t.f0 t.f1 t.f2 t.f3) (fun v => v = 0 → (∀ j : Int, n ≤ j → j < c.length → InstrOK a1 a2 (rd_T84 c j)) ∧ TermOK a1 l.length t ∧ R) := by
  intro d
  induction d with
  | zero =>
    intro n h0 h1 hd
    refine Evs.step (fun k => by rw [regcertref08_Check.l1]) ?_
    refine Evs.ite (fun h => by omega) (fun _ => ?_)
    refine Evs.bind (term_evs a1 (l.length : Int) t) (fun v hv => ?_)
    refine Evs.ite (fun e => ?_) (fun e => Evs.val (fun h => absurd h e))
    exact hn.mono (fun x hx x0 => ⟨fun j hj hj2 => by omega, hv e, hx x0⟩)
  | succ d ih =>
    intro n h0 h1 hd
    refine Evs.step (fun k => by rw [regcertref08_Check.l1]) ?_
    refine Evs.ite (fun h => ?_) (fun h => by omega)
    refine Evs.ite (fun _ => ?_) (fun h => absurd h0 h)
    obtain ⟨q5, q6⟩ := h64 n h0 h
    refine Evs.bind (instr_evs a1 a2 (rd_T84 c n) q5 q6) (fun v hv => ?_)
    refine Evs.ite (fun e => ?_) (fun e => Evs.val (fun h => absurd h e))
    have rest : Evs (fun k => regcertref08_Check.l1 k i (n + 1) a0 a1 a2 l c t.f0 t.f1 t.f2 t.f3) (fun v => v = 0 → (∀ j : Int, n ≤ j → j < c.length → InstrOK a1 a2 (rd_T84 c j)) ∧ TermOK a1 l.length t ∧ R) := by
      refine (ih (n + 1) (by omega) (by omega) (by omega)).mono (fun x hx x0 => ?_)
      obtain ⟨q1, q2⟩ := hx x0
      refine ⟨fun j hj hj2 => ?_, q2⟩
      by_cases ej : j = n
      · subst ej
        exact hv e
      · exact q1 j (by omega) hj2
    have go : ∀ b, Evs (fun k => regcertref08_Check.j5 k i n b a0 a1 a2 l c t.f0 t.f1 t.f2 t.f3) (fun v => v = 0 → (∀ j : Int, n ≤ j → j < c.length → InstrOK a1 a2 (rd_T84 c j)) ∧ TermOK a1 l.length t ∧ R) := by
      intro b
      refine Evs.step (fun k => by rw [regcertref08_Check.j5]) ?_
      refine Evs.ite (fun _ => Evs.val (fun h => absurd h (by decide))) (fun _ => ?_)
      rw [show wrap64 (n + 1) = n + 1 from w64s (by omega) (by omega)]
      exact rest
    rw [show wrap64 (n + 1) = n + 1 from w64s (by omega) (by omega)]
    refine Evs.ite (fun h64n => ?_) (fun _ => go false)
    rw [show wrap64 (n - 64) = n - 64 from w64s (by omega) (by omega)]
    refine Evs.ite (fun _ => ?_) (fun h => by omega)
    refine Evs.ite (fun _ => ?_) (fun h => by omega)
    refine Evs.ite (fun _ => ?_) (fun h => by omega)
    exact Evs.bind (moves_evs _ (by rw [List.length_drop, List.length_take]; omega)) (fun a _ => go _)
theorem check_out (a0 a1 a2 : Int) (l : List S69) (hl : l.length ≤ 40) (h64 : I64L l) (hs : ∀ j : Int, 0 ≤ j → j < l.length → ((rd_T69 l j).f0).length ≤ 300) : ∀ (d : Nat) (i : Int), 0 ≤ i → i ≤ l.length → ((l.length : Int) - i).toNat = d →
    Evs (fun k => regcertref08_Check.l0 k i a0 a1 a2 l) (fun v => v = 0 → ∀ j : Int, i ≤ j → j < l.length → BlockOK a1 a2 l.length (rd_T69 l j)) := by
  intro d
  induction d with
  | zero =>
    intro i h0 h1 hd
    refine Evs.step (fun k => by rw [regcertref08_Check.l0]) ?_
    exact Evs.ite (fun h => by omega) (fun _ => Evs.val (fun _ j hj hj2 => by omega))
  | succ d ih =>
    intro i h0 h1 hd
    refine Evs.step (fun k => by rw [regcertref08_Check.l0]) ?_
    refine Evs.ite (fun h => ?_) (fun h => by omega)
    refine Evs.ite (fun _ => ?_) (fun h => absurd h0 h)
    have hn := ih (i + 1) (by omega) (by omega) (by omega)
    rw [show i + 1 = wrap64 (i + 1) from (w64s (by omega) (by omega)).symm] at hn
    have hw : wrap64 (i + 1) = i + 1 := w64s (by omega) (by omega)
    refine (check_in a0 a1 a2 l hl i ((rd_T69 l i).f0) ((rd_T69 l i).f1) (hs i h0 h) (fun j q0 q1 => h64 i j h0 h q0 q1) _ hn _ 0 (by omega) (by omega) rfl).mono (fun v hv v0 j hj hj2 => ?_)
    obtain ⟨q1, q2, q3⟩ := hv v0
    by_cases ej : j = i
    · subst ej
      exact ⟨hs j h0 h, fun n hn0 hn1 => q1 n hn0 hn1, q2⟩
    · exact q3 j (by omega) hj2
theorem check_evs (a0 a1 a2 : Int) (l : List S69) (hl : l.length ≤ 40) (h6 : a1 ≤ 60) (h7 : a2 ≤ 60) (h64 : I64L l) (hs : ∀ j : Int, 0 ≤ j → j < l.length → ((rd_T69 l j).f0).length ≤ 300) :
    Evs (fun k => regcertref08_Check.f k a0 a1 a2 l) (fun v => v = 0 → ValidP a1 a2 l ∧ 0 ≤ a0 ∧ a0 ≤ a2) := by
  have key : ∀ b, (b = false → 0 ≤ a0 ∧ a0 ≤ a2) → Evs (fun k => regcertref08_Check.j0 k b a0 a1 a2 l) (fun v => v = 0 → ValidP a1 a2 l ∧ 0 ≤ a0 ∧ a0 ≤ a2) := by
    intro b hb
    refine Evs.step (fun k => by rw [regcertref08_Check.j0]) ?_
    refine Evs.ite (fun _ => Evs.val (fun h => absurd h (by decide))) (fun hbf => ?_)
    have ha := hb (by simpa using hbf)
    refine Evs.ite (fun _ => Evs.val (fun h => absurd h (by decide))) (fun hr0 => ?_)
    refine Evs.ite (fun h => by omega) (fun _ => ?_)
    refine Evs.step (fun k => by rw [regcertref08_Check.j1]) ?_
    refine Evs.ite (fun h => by have := of_decide_eq_true h; omega) (fun _ => ?_)
    refine Evs.ite (fun _ => Evs.val (fun h => absurd h (by decide))) (fun hne => ?_)
    refine Evs.ite (fun h => by omega) (fun _ => ?_)
    refine Evs.bind (Q := fun _ => True) (Evs.congr (fun k => by rw [regcertref08_Code.f]) (code_evs a0 a1 a2 l (by omega) _ 0 0 (by omega) (by omega) rfl)) (fun a _ => ?_)
    refine Evs.step (fun k => by rw [regcertref08_Check.j2]) ?_
    refine Evs.ite (fun _ => Evs.val (fun h => absurd h (by decide))) (fun _ => ?_)
    exact (check_out a0 a1 a2 l hl h64 hs _ 0 (by omega) (by omega) rfl).mono (fun v hv v0 => ⟨⟨by omega, hl, by omega, h6, by omega, h7, fun i i0 i1 => hv v0 i i0 i1⟩, ha⟩)
  refine Evs.congr (fun k => by rw [regcertref08_Check.f]) ?_
  refine Evs.ite (fun h => key true (fun h => by simp at h)) (fun h => key _ (fun hf => ?_))
  have := of_decide_eq_false hf
  omega
theorem right_evs (a0 a1 a2 : Int) (l : List S69) (h64 : I64L l) (l1 : List Int) (m : Int) :
    Evs (fun k => regcertref10_Right.f k a0 a1 a2 l l1 m) (fun v => v = true → ValidP a1 a2 l ∧ 0 ≤ a0 ∧ a0 ≤ a2 ∧ m ≤ 400 ∧ l1.length ≤ 100) := by
  refine Evs.congr (fun k => by rw [regcertref10_Right.f]) ?_
  refine Evs.bind (few_evs a0 a1 a2 l) (fun v hv => ?_)
  refine Evs.ite (fun e => ?_) (fun _ => Evs.val (fun h => by simp at h))
  obtain ⟨f1, f2, f4, f3⟩ := hv e
  refine Evs.bind (check_evs a0 a1 a2 l f1 f2 f4 h64 f3) (fun x hx => ?_)
  refine Evs.ite (fun e => ?_) (fun _ => Evs.val (fun h => by simp at h))
  obtain ⟨c1, c2, c3⟩ := hx e
  refine Evs.ite (fun e2 => ?_) (fun _ => Evs.val (fun h => by simp at h))
  exact Evs.val (fun h => ⟨c1, c2, c3, e2, by have := of_decide_eq_true h; omega⟩)

/-! Lists are compared -/
theorem values_loop (a b : List Int) (hl : a.length ≤ 1000000) (hb : a.length ≤ b.length) (he : ∀ i : Nat, i < a.length → rd a i = rd b i) : ∀ (d : Nat) (i : Int), 0 ≤ i → i ≤ a.length → ((a.length : Int) - i).toNat = d → Ev (fun k => regcertref09_Values.l0 k a b i) true := by
  intro d
  induction d with
  | zero =>
    intro i h0 h1 hd
    refine Ev.step (fun k => by rw [regcertref09_Values.l0]) ?_
    exact Ev.neg (by omega) (Ev.now _)
  | succ d ih =>
    intro i h0 h1 hd
    refine Ev.step (fun k => by rw [regcertref09_Values.l0]) ?_
    refine Ev.pos (by omega) (Ev.pos h0 (Ev.pos (by omega) (Ev.pos ?_ ?_)))
    · have := he i.toNat (by omega)
      rw [show ((i.toNat : Nat) : Int) = i by omega] at this
      exact this
    · rw [show wrap64 (i + 1) = i + 1 from w64s (by omega) (by omega)]
      exact ih (i + 1) (by omega) (by omega) (by omega)
theorem values_refl (a : List Int) (hl : a.length ≤ 1000000) : Ev (fun k => regcertref09_Values.f k a a) true := by
  refine Ev.congr (fun k => by rw [regcertref09_Values.f]) ?_
  exact Ev.pos rfl (values_loop a a hl (Nat.le_refl _) (fun _ _ => rfl) _ 0 (by omega) (by omega) rfl)
theorem good_loc {l : List S69} (h : ∀ x ∈ l, good69 x) : I64L l := by
  intro i j hi0 hi1 hj0 hj1
  have hb : good69 (rd_T69 l i) := by
    apply h
    unfold rd_T69
    rw [List.getD_eq_getElem?_getD, List.getElem?_eq_getElem (by omega)]
    exact List.getElem_mem _
  have hm : good84 (rd_T84 (rd_T69 l i).f0 j) := by
    apply hb.1.2
    unfold rd_T84
    rw [List.getD_eq_getElem?_getD, List.getElem?_eq_getElem (by omega)]
    exact List.getElem_mem _
  have wf : ∀ {n : Int}, (Lit.int .i64 n).wf = true → I64 n := fun h => by
    have := bounds_i64 h
    unfold I64
    omega
  exact ⟨wf hm.2.2.2.2.2.1, wf hm.2.2.2.2.2.2⟩
end Go.Proofs.Ytgkmagfajalnhaa.E
