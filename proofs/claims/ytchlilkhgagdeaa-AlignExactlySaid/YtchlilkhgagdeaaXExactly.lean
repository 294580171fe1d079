/-
  AlignExactly: a block without moves is aligned with its own operations; with one operation or immediate changed it isn't, and the index is the changed one's (or behind it, if the change made it a move). No condition but the law's own guard.
-/
import Derived.Test.YtchlilkhgagdeaaX6
import Derived.Test.YtchlilkhgagdeaaX11
import Derived.Test.YtchlilkhgagdeaaXPa
import Derived.Test.YtchlilkhgagdeaaXRowAlignExactly
namespace Go.Proofs.Ytchlilkhgagdeaa.X
open Go.RowKit Go.Proofs.YtchlilkhgagdeaaW.PrintWords Go.Proofs.Ytchlilkhgagdeaa.Spec
set_option linter.unusedVariables false

theorem awake_exa : Ev (fun k => regcertlaw13_awake.f k) true := Ev.of (fun k => regcertlaw13_awake.mono k) (k := 40) (by kernel_rfl)

def mk (x : S25) : S28 := ⟨x.f0, 0, 0, 0, x.f4, 0, 0⟩
def Plain (x : S25) : Prop := ¬ x.f0 = 2 ∧ ¬ x.f0 = 18

theorem same_mk {x : S25} (h : Plain x) : same x (mk x) = true := by
  obtain ⟨h1, h2⟩ := h
  simp [same, mk, h1, h2]

theorem ok_own (L : List S25) (h : ∀ x ∈ L, Plain x) : ok same L (L.map mk) = true := by
  induction L with
  | nil => rfl
  | cons x L ih =>
    simp only [List.map_cons, ok, same_mk (h x (by simp)), Bool.true_and]
    exact ih (fun y hy => h y (by simp [hy]))

theorem ok_length {α β : Type} (sm : α → β → Bool) (A : List α) : ∀ B : List β, ok sm A B = true → A.length = B.length := by
  induction A with
  | nil =>
    intro B h
    cases B with
    | nil => rfl
    | cons y B => simp [ok] at h
  | cons x A ih =>
    intro B h
    cases B with
    | nil => simp [ok] at h
    | cons y B =>
      simp [ok] at h
      simp [ih B h.2]

theorem spec_ge {α β : Type} (sm : α → β → Bool) (n m q : Nat) (hm : q ≤ m) (A : List (Nat × α)) : ∀ (B : List (Nat × β)) (i k : Nat), (∀ b ∈ B, q ≤ b.1) → (q : Int) ≤ (spec sm n m A B i k).2.1 := by
  induction A with
  | nil =>
    intro B i k h
    cases B with
    | nil => simp [spec]; omega
    | cons y B => have := h y (by simp); simp [spec]; omega
  | cons x A ih =>
    intro B i k h
    cases B with
    | nil => simp [spec]; omega
    | cons y B =>
      have h1 := h y (by simp)
      have h2 := ih B (x.1 + 1) (y.1 + 1) (fun b hb => h b (by simp [hb]))
      obtain ⟨a, x⟩ := x
      obtain ⟨b, y⟩ := y
      simp only [spec]
      split
      · split
        · exact h2
        · exact h2
      · simpa using h1

theorem idx_ge {α : Type} {p : α → Bool} (l : List α) : ∀ (j : Nat) (b : Nat × α), b ∈ idx p l j → j ≤ b.1 := by
  induction l with
  | nil => intro j b h; simp [idx] at h
  | cons y l ih =>
    intro j b h
    simp only [idx] at h
    split at h
    · have := ih (j + 1) b h
      omega
    · rcases List.mem_cons.1 h with rfl | h
      · exact Nat.le_refl _
      · have := ih (j + 1) b h
        omega

theorem idx_plain (L : List S25) (h : ∀ x ∈ L, Plain x) (j : Nat) : (idx pm (L.map mk) j).map (·.2) = L.map mk := by
  rw [idx_snd]
  refine List.filter_eq_self.2 fun y hy => ?_
  obtain ⟨x, hx, rfl⟩ := List.mem_map.1 hy
  simp [pm, mk, (h x hx).2]

/-- One operation changed. -/
theorem changed (n m : Nat) (z : S28) (kk : Nat) : ∀ (L : List S25) (j : Nat) (A : List (Nat × S25)) (i k : Nat), A.map (·.2) = L → (∀ x ∈ L, Plain x) → j + L.length ≤ m →
    (∃ x, L[kk]? = some x ∧ ¬ (z.f0 = x.f0 ∧ z.f4 = x.f4)) →
    let r := spec same n m A (idx pm ((L.map mk).set kk z) j) i k
    r.2.2 = 20 ∧ (r.2.1 = ((j + kk : Nat) : Int) ∨ z.f0 = 18 ∧ ((j + kk : Nat) : Int) ≤ r.2.1) := by
  induction kk with
  | zero =>
    intro L j A i k hA hL hm hx
    obtain ⟨x, hx, hz⟩ := hx
    cases L with
    | nil => simp at hx
    | cons x' L =>
      simp at hx
      subst hx
      cases A with
      | nil => simp at hA
      | cons a A =>
        obtain ⟨a, x''⟩ := a
        simp at hA
        obtain ⟨rfl, hA⟩ := hA
        simp only [List.map_cons, List.set_cons_zero, idx]
        by_cases hm18 : z.f0 = 18
        · have hp : pm z = true := by simp [pm, hm18]
          rw [if_pos hp]
          refine ⟨?_, .inr ⟨hm18, ?_⟩⟩
          · rw [(spec_ok same n m _ _ i k).1]
            rw [if_neg]
            intro h
            have := ok_length same _ _ h
            rw [idx_plain L (fun y hy => hL y (by simp [hy]))] at this
            simp [← hA] at this
          · exact spec_ge same n m _ (by simp at hm; omega) _ _ _ _ (fun b hb => by have := idx_ge _ _ b hb; omega)
        · have hp : ¬ pm z = true := by simp [pm, hm18]
          rw [if_neg hp]
          have hs : same x'' z = false := by
            simp only [same]
            have hn : (x''.f0 == z.f0 && x''.f4 == z.f4) = false := by
              rw [Bool.eq_false_iff]
              intro h
              simp at h
              exact hz ⟨h.1.symm, h.2.symm⟩
            rw [hn]
            rfl
          simp only [spec, hs, Bool.false_eq_true, if_false]
          exact ⟨trivial, .inl (by simp)⟩
  | succ kk ih =>
    intro L j A i k hA hL hm hx
    cases L with
    | nil => obtain ⟨x, hx, _⟩ := hx; simp at hx
    | cons x' L =>
      cases A with
      | nil => simp at hA
      | cons a A =>
        obtain ⟨a, x''⟩ := a
        simp at hA
        obtain ⟨rfl, hA⟩ := hA
        have hP := hL x'' (by simp)
        simp only [List.map_cons, List.set_cons_succ, idx]
        have hp : ¬ pm (mk x'') = true := by simp [pm, mk, hP.2]
        rw [if_neg hp]
        simp only [spec, same_mk hP, if_true]
        have := ih L (j + 1) A (a + 1) (j + 1) hA (fun y hy => hL y (by simp [hy])) (by simp at hm; omega) (by simpa using hx)
        obtain ⟨h1, h2⟩ := this
        have e : j + 1 + kk = j + (kk + 1) := by omega
        rw [e] at h2
        rw [if_neg (by rw [h1]; decide)]
        exact ⟨rfl, h2⟩

def np (x : S25) : Bool := !pc x

theorem own_ok (c : List S25) (hc : ∀ x ∈ c, ¬ x.f0 = 18) (n m : Nat) (i k : Nat) : (spec same n m (idx pc c 0) (idx pm ((c.filter np).map mk) 0) i k).2.2 = 0 := by
  have hP : ∀ x ∈ c.filter np, Plain x := by
    intro x hx
    obtain ⟨h1, h2⟩ := List.mem_filter.1 hx
    exact ⟨by simpa [np, pc] using h2, hc x h1⟩
  rw [(spec_ok same n m _ _ i k).1, idx_plain _ hP, idx_snd]
  rw [if_pos]
  exact ok_own _ hP

theorem fin_parts (r : List RowT × Int × Int) (h : r.2.2 = 0 ∨ r.2.2 = 20) : (fin [] row45 r).2.2 = r.2.2 ∧ (fin [] row45 r).2.1 = r.2.1 := by
  unfold fin
  rcases h with h | h
  · simp [h]
  · simp [h]

theorem exactly_loop (c : List S25) (hl : c.length ≤ 300) (a op imm : Int) (ha0 : 0 ≤ a) (ha1 : a ≤ 65535) (d : Nat) : ∀ i : Nat, i ≤ c.length → c.length - i = d → (∀ x ∈ c.take i, ¬ x.f0 = 18) →
    Ev (fun q => regcertlaw13_AlignExactly.l0 q c a op imm (((c.take i).filter np).map mk) i) true := by
  induction d with
  | zero =>
    intro i h0 h1 hn
    have hi : c.take i = c := List.take_of_length_le (by omega)
    rw [hi] at hn ⊢
    refine Ev.step (fun k => by rw [regcertlaw13_AlignExactly.l0]) (Ev.neg (by omega) ?_)
    have hfl : ((c.filter np).map mk).length ≤ c.length := by rw [List.length_map]; exact List.length_filter_le _ _
    refine Ev.bind (code_is c _ (by omega) (by omega)) ?_
    have hz := own_ok c hn c.length ((c.filter np).map mk).length 0 0
    obtain ⟨f1, f2⟩ := fin_parts _ (.inl hz)
    refine Ev.pos (by rw [f1, hz]) (Ev.step (fun k => by rw [regcertlaw13_AlignExactly.j2]) ?_)
    rw [f1, hz]
    have hP : ∀ x ∈ c.filter np, Plain x := by
      intro x hx
      obtain ⟨h1, h2⟩ := List.mem_filter.1 hx
      exact ⟨by simpa [np, pc] using h2, hn x h1⟩
    have hidx : (idx pc c 0).map (·.2) = c.filter np := idx_snd pc c 0
    generalize hL : c.filter np = L at *
    by_cases hl0 : L.length = 0
    · exact Ev.pos (by simpa using hl0) (Ev.val (by simp))
    · refine Ev.neg (by simpa using hl0) (Ev.neg (by simpa using hl0) ?_)
      have e1 : Int.tmod (wrap64 a) (((L.map mk).length : Nat) : Int) = ((a.toNat % L.length : Nat) : Int) := by
        rw [w64s ha0 (by omega), List.length_map]
        obtain ⟨q, rfl⟩ := Int.eq_ofNat_of_zero_le ha0
        rfl
      rw [e1]
      have hk := Nat.mod_lt a.toNat (show 0 < L.length by omega)
      generalize a.toNat % L.length = kk at hk
      rw [Int.toNat_natCast]
      refine Ev.pos (by omega) (Ev.pos (by rw [List.length_map]; omega) (Ev.bindv (Ev.bindv ?_)))
      have hx : (L.map mk)[kk]? = some (mk L[kk]) := by simp [hk]
      rw [rd28 hx]
      have hx2 : ((L.map mk).set kk (⟨op, (mk L[kk]).f1, (mk L[kk]).f2, (mk L[kk]).f3, (mk L[kk]).f4, (mk L[kk]).f5, (mk L[kk]).f6⟩ : S28))[kk]? = some (⟨op, (mk L[kk]).f1, (mk L[kk]).f2, (mk L[kk]).f3, (mk L[kk]).f4, (mk L[kk]).f5, (mk L[kk]).f6⟩ : S28) := by simp [hk]
      rw [rd28 hx2, List.set_set]
      obtain ⟨z, hz'⟩ : ∃ z : S28, z = ⟨op, 0, 0, 0, imm, 0, 0⟩ := ⟨_, rfl⟩
      have ez : (⟨(⟨op, (mk L[kk]).f1, (mk L[kk]).f2, (mk L[kk]).f3, (mk L[kk]).f4, (mk L[kk]).f5, (mk L[kk]).f6⟩ : S28).f0, (⟨op, (mk L[kk]).f1, (mk L[kk]).f2, (mk L[kk]).f3, (mk L[kk]).f4, (mk L[kk]).f5, (mk L[kk]).f6⟩ : S28).f1, (⟨op, (mk L[kk]).f1, (mk L[kk]).f2, (mk L[kk]).f3, (mk L[kk]).f4, (mk L[kk]).f5, (mk L[kk]).f6⟩ : S28).f2, (⟨op, (mk L[kk]).f1, (mk L[kk]).f2, (mk L[kk]).f3, (mk L[kk]).f4, (mk L[kk]).f5, (mk L[kk]).f6⟩ : S28).f3, imm, (⟨op, (mk L[kk]).f1, (mk L[kk]).f2, (mk L[kk]).f3, (mk L[kk]).f4, (mk L[kk]).f5, (mk L[kk]).f6⟩ : S28).f5, (⟨op, (mk L[kk]).f1, (mk L[kk]).f2, (mk L[kk]).f3, (mk L[kk]).f4, (mk L[kk]).f5, (mk L[kk]).f6⟩ : S28).f6⟩ : S28) = z := by rw [hz']; rfl
      rw [ez]
      have hlen : ((L.map mk).set kk z).length = L.length := by simp
      have hx3 : ((L.map mk).set kk z)[kk]? = some z := by simp [hk]
      refine Ev.bind (code_is c _ (by omega) (by rw [hlen]; rw [List.length_map] at hfl; omega)) ?_
      rw [rd28 hx3]
      by_cases hsame : z.f0 = (L[kk]).f0 ∧ z.f4 = (L[kk]).f4
      · have ezx : z = mk L[kk] := by
          rw [hz'] at hsame ⊢
          simp only at hsame
          simp [mk, hsame]
        have es : (L.map mk).set kk z = L.map mk := by
          rw [ezx]
          apply List.ext_getElem?
          intro q
          rw [List.getElem?_set]
          split
          · rename_i hq
            subst hq
            simp [hk]
          · rfl
        rw [es]
        refine Ev.pos (by rw [ezx]; simp) (Ev.val ?_)
        rw [f1, hz]
        rfl
      · have hch := changed c.length ((L.map mk).set kk z).length z kk L 0 (idx pc c 0) 0 0 hidx hP (by rw [hlen]; omega) ⟨L[kk], by simp [hk], hsame⟩
        obtain ⟨g1, g2⟩ := hch
        rw [Nat.zero_add] at g2
        obtain ⟨f3, f4⟩ := fin_parts _ (.inr g1)
        refine Ev.neg ?_ (Ev.pos (by rw [f3]; exact g1) ?_)
        · intro h
          simp at h
          exact hsame ⟨h.1, h.2.2.2.2.1⟩
        · rw [f4]
          by_cases hq : (spec same c.length ((L.map mk).set kk z).length (idx pc c 0) (idx pm ((L.map mk).set kk z) 0) 0 0).2.1 = (kk : Int)
          · exact Ev.pos hq (Ev.val rfl)
          · rcases g2 with g2 | ⟨g2, g3⟩
            · exact absurd g2 hq
            · refine Ev.neg hq (Ev.pos (by rw [hz'] at g2; exact g2) (Ev.val ?_))
              exact decide_eq_true g3
  | succ d ih =>
    intro i h0 h1 hn
    have hi : i < c.length := by omega
    have hx := List.getElem?_eq_getElem hi
    have ht : c.take (i + 1) = c.take i ++ [c[i]] := List.take_succ_eq_append_getElem hi
    refine Ev.step (fun k => by rw [regcertlaw13_AlignExactly.l0]) (Ev.pos (by omega) (Ev.pos (by omega) ?_))
    rw [rd25 hx]
    by_cases h18 : c[i].f0 = 18
    · exact Ev.pos h18 (Ev.val rfl)
    refine Ev.neg h18 ?_
    have hn' : ∀ x ∈ c.take (i + 1), ¬ x.f0 = 18 := by
      intro x hx
      rw [ht] at hx
      rcases List.mem_append.1 hx with hx | hx
      · exact hn x hx
      · rw [List.mem_singleton.1 hx]
        exact h18
    have := ih (i + 1) (by omega) (by omega) hn'
    rw [w64s (by omega) (by omega)]
    rw [ht, List.filter_append, List.map_append] at this
    by_cases h2 : c[i].f0 = 2
    · have e : List.filter np [c[i]] = [] := by simp [np, pc, h2]
      rw [e, List.map_nil, List.append_nil] at this
      exact Ev.pos h2 this
    · have e : List.filter np [c[i]] = [c[i]] := by simp [np, pc, h2]
      rw [e] at this
      have hfl : (((c.take i).filter np).map mk).length ≤ i := by
        rw [List.length_map]
        exact Nat.le_trans (List.length_filter_le _ _) (List.length_take_le _ _)
      exact Ev.neg h2 (Ev.pos (by omega) this)

theorem exactly_pure (c : List S25) (a op imm : Int) (g : (Lit.int .u16 a).wf = true) : ∃ k, regcertlaw13_AlignExactly.f k c a op imm = some true := by
  have hb := bounds_u16 g
  refine Ev.rounds (g := fun k => regcertlaw13_AlignExactly.f k c a op imm) ?_
  unfold regcertlaw13_AlignExactly.f
  refine Ev.bind awake_exa (Ev.pos rfl (Ev.step (fun k => by rw [regcertlaw13_AlignExactly.j0]) ?_))
  by_cases h1 : (c.length : Int) > 300
  · exact Ev.pos (decide_eq_true h1) (Ev.bind awake_exa (Ev.val rfl))
  · exact Ev.neg (by simpa using h1) (exactly_loop c (by omega) a op imm hb.1 hb.2 _ 0 (Nat.zero_le _) rfl (by simp))
end Go.Proofs.Ytchlilkhgagdeaa.X
namespace Go.Proofs.Ytchlilkhgagdeaa
theorem alignExactly_holds : Rows.AlignExactlySaid := alignExactly.over fun c a op imm _ g _ _ => X.exactly_pure c a op imm g
end Go.Proofs.Ytchlilkhgagdeaa
