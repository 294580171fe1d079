/-
  AlignRows: the rows of an alignment cover both blocks in order, with copies, moves and corresponding instructions; without one the index and the error are as described. No condition but the law's own guard.
-/
import Derived.Test.YtchlilkhgagdeaaX6
import Derived.Test.YtchlilkhgagdeaaX9
import Derived.Test.YtchlilkhgagdeaaXPa
import Derived.Test.YtchlilkhgagdeaaXRowAlignRows
namespace Go.Proofs.Ytchlilkhgagdeaa.X
open Go.RowKit Go.Proofs.YtchlilkhgagdeaaW.PrintWords Go.Proofs.Ytchlilkhgagdeaa.Spec
set_option linter.unusedVariables false

theorem awake_row : Ev (fun k => regcertlaw13_awake.f k) true := Ev.of (fun k => regcertlaw13_awake.mono k) (k := 40) (by kernel_rfl)

theorem rd45r {l : List S45} {i : Nat} {x : S45} (h : l[i]? = some x) : rd_T45 l (i : Int) = x := by
  unfold rd_T45
  rw [List.getD_eq_getElem?_getD, Int.toNat_natCast, h]
  rfl

theorem copies {c : List S25} {i a : Nat} (ha : a ≤ c.length) (h : ∀ y ∈ (c.drop i).take (a - i), pc y = true) (q : Nat) (h1 : i ≤ q) (h2 : q < a) : (rd_T25 c (q : Int)).f0 = 2 := by
  have hq : q < c.length := by omega
  rw [rd25 (List.getElem?_eq_getElem hq)]
  have hm : c[q] ∈ (c.drop i).take (a - i) := by
    rw [List.mem_iff_getElem?]
    refine ⟨q - i, ?_⟩
    rw [List.getElem?_take_of_lt (by omega), List.getElem?_drop, show i + (q - i) = q by omega]
    exact List.getElem?_eq_getElem hq
  simpa [pc] using h _ hm
theorem moves {m : List S28} {i a : Nat} (ha : a ≤ m.length) (h : ∀ y ∈ (m.drop i).take (a - i), pm y = true) (q : Nat) (h1 : i ≤ q) (h2 : q < a) : (rd_T28 m (q : Int)).f0 = 18 := by
  have hq : q < m.length := by omega
  rw [rd28 (List.getElem?_eq_getElem hq)]
  have hm : m[q] ∈ (m.drop i).take (a - i) := by
    rw [List.mem_iff_getElem?]
    refine ⟨q - i, ?_⟩
    rw [List.getElem?_take_of_lt (by omega), List.getElem?_drop, show i + (q - i) = q by omega]
    exact List.getElem?_eq_getElem hq
  simpa [pm] using h _ hm

theorem l1_loop (c : List S25) (m : List S28) (r : List S45) (n6 : Int) (hc : c.length ≤ 100000) (hm : m.length ≤ 100000) (hr : r.length ≤ 200000) (k j a : Nat) (hj : j < r.length) (e1 : (rd_T45 r (j : Int)).f1 = (a : Int)) (ha : a ≤ c.length) (hn : Ev (fun q => regcertlaw13_AlignRows.l2 q c m r n6 j k) true) (d : Nat) :
    ∀ x : Nat, a - x = d → x ≤ a → (∀ q : Nat, x ≤ q → q < a → (rd_T25 c (q : Int)).f0 = 2) → Ev (fun q => regcertlaw13_AlignRows.l1 q c m r n6 k j x) true := by
  induction d with
  | zero =>
    intro x h1 h2 h3
    refine Ev.step (fun k => by rw [regcertlaw13_AlignRows.l1]) (Ev.pos (by omega) (Ev.pos (by omega) (Ev.neg (by rw [e1]; omega) ?_)))
    exact hn
  | succ d ih =>
    intro x h1 h2 h3
    refine Ev.step (fun k => by rw [regcertlaw13_AlignRows.l1]) (Ev.pos (by omega) (Ev.pos (by omega) (Ev.pos (by rw [e1]; omega) (Ev.pos (by omega) (Ev.pos (by omega) (Ev.pos (h3 x (by omega) (by omega)) ?_))))))
    rw [w64s (by omega) (by omega)]
    exact ih (x + 1) (by omega) (by omega) (fun q h4 h5 => h3 q (by omega) h5)

theorem l2_loop (c : List S25) (m : List S28) (r : List S45) (n6 : Int) (hc : c.length ≤ 100000) (hm : m.length ≤ 100000) (hr : r.length ≤ 200000) (j b : Nat) (hj : j < r.length) (e3 : (rd_T45 r (j : Int)).f3 = (b : Int)) (hb : b ≤ m.length) (hn : Ev (fun q => regcertlaw13_AlignRows.l2 q c m r n6 j b) true) (d : Nat) :
    ∀ x : Nat, b - x = d → x ≤ b → (∀ q : Nat, x ≤ q → q < b → (rd_T28 m (q : Int)).f0 = 18) → Ev (fun q => regcertlaw13_AlignRows.l2 q c m r n6 j x) true := by
  induction d with
  | zero =>
    intro x h1 h2 h3
    obtain rfl : x = b := by omega
    exact hn
  | succ d ih =>
    intro x h1 h2 h3
    refine Ev.step (fun k => by rw [regcertlaw13_AlignRows.l2]) (Ev.pos (by omega) (Ev.pos (by omega) (Ev.pos (by rw [e3]; omega) (Ev.pos (by omega) (Ev.pos (by omega) (Ev.pos (h3 x (by omega) (by omega)) ?_))))))
    rw [w64s (by omega) (by omega)]
    exact ih (x + 1) (by omega) (by omega) (fun q h4 h5 => h3 q (by omega) h5)

theorem l0_head (c : List S25) (m : List S28) (r : List S45) (n6 : Int) (hc : c.length ≤ 100000) (hm : m.length ≤ 100000) (hr : r.length ≤ 200000) (i k j a b : Nat) (s t : Int) (e : r[j]? = some (⟨i, a, k, b, s, t⟩ : S45)) (hia : i ≤ a) (hkb : k ≤ b) (ha : a ≤ c.length) (hb : b ≤ m.length) (hA : ∀ y ∈ (c.drop i).take (a - i), pc y = true) (hB : ∀ y ∈ (m.drop k).take (b - k), pm y = true)
    (hn : Ev (fun q => regcertlaw13_AlignRows.l2 q c m r n6 j b) true) : Ev (fun q => regcertlaw13_AlignRows.l0 q c m r n6 i k j) true := by
  have hj := (List.getElem?_eq_some_iff.1 e).1
  have hrow := rd45r e
  refine Ev.step (fun k => by rw [regcertlaw13_AlignRows.l0]) (Ev.pos (by omega) (Ev.pos (by omega) (Ev.pos (by rw [hrow]) (Ev.pos (by rw [hrow]) (Ev.neg (by rw [hrow]; show ¬ (a : Int) < i; omega) (Ev.neg (by rw [hrow]; show ¬ (b : Int) < k; omega) (Ev.neg (by rw [hrow]; show ¬ (a : Int) > c.length; omega) ?_)))))))
  refine Ev.step (fun k => by rw [regcertlaw13_AlignRows.j2]) (Ev.neg (by rw [hrow]; show ¬ decide ((b : Int) > m.length) = true; simp; omega) ?_)
  exact l1_loop c m r n6 hc hm hr k j a hj (by rw [hrow]) ha (l2_loop c m r n6 hc hm hr j b hj (by rw [hrow]) hb hn _ k rfl hkb (moves hb hB)) _ i rfl hia (copies ha hA)

theorem rows_law (c : List S25) (m : List S28) (r : List S45) (n6 : Int) (hc : c.length ≤ 100000) (hm : m.length ≤ 100000) (hr : r.length ≤ 200000) (hn6 : n6 = (m.length : Int)) (A : List (Nat × S25)) : ∀ (B : List (Nat × S28)) (i k j : Nat), i ≤ c.length → k ≤ m.length → idx pc (c.drop i) i = A → idx pm (m.drop k) k = B → j ≤ i → 
    (spec same c.length m.length A B i k).2.2 = 0 → r.drop j = (spec same c.length m.length A B i k).1.map row45 → Ev (fun q => regcertlaw13_AlignRows.l0 q c m r n6 i k j) true := by
  induction A with
  | nil =>
    intro B i k j hi hk hA hB hji hz hd
    cases B with
    | cons y B => simp [spec] at hz
    | nil =>
      simp only [spec, List.map_cons, List.map_nil, row45] at hd
      have hlen : r.length = j + 1 := by
        have := congrArg List.length hd
        rw [List.length_drop] at this
        simp at this
        omega
      have e : r[j]? = some (⟨i, c.length, k, m.length, -1, -1⟩ : S45) := by
        have := congrArg (fun l : List S45 => l[0]?) hd
        simpa [List.getElem?_drop] using this
      have hrow := rd45r e
      refine l0_head c m r n6 hc hm hr i k j c.length m.length _ _ e hi hk (Nat.le_refl _) (Nat.le_refl _) (fun y hy => idx_nil hA y (List.mem_of_mem_take hy)) (fun y hy => idx_nil hB y (List.mem_of_mem_take hy)) ?_
      refine Ev.step (fun k => by rw [regcertlaw13_AlignRows.l2]) (Ev.pos (by omega) (Ev.pos (by omega) (Ev.neg (by rw [hrow]; show ¬ (m.length : Int) < m.length; omega) (Ev.pos ?_ (Ev.pos (by rw [hrow]) (Ev.pos (by rw [hrow]) (Ev.pos (by rw [hrow]; exact hn6) (Ev.pos (by rw [hrow]) (Ev.val (by rw [hrow]; rfl))))))))))
      rw [hlen]
      unfold wrap64
      omega
  | cons x A ih =>
    intro B i k j hi hk hA hB hji hz hd
    cases B with
    | nil => obtain ⟨a, x⟩ := x; simp [spec] at hz
    | cons y B =>
      obtain ⟨a, x⟩ := x
      obtain ⟨b, y⟩ := y
      obtain ⟨_, ha1, ha2, ha3, ha4, ha5⟩ := stop_cons hA
      obtain ⟨_, hb1, hb2, hb3, hb4, hb5⟩ := stop_cons hB
      have hAp := (idx_cons hA).2.2.2.2.1
      have hBp := (idx_cons hB).2.2.2.2.1
      simp only [spec] at hz hd
      cases hs : same x y
      · simp [hs] at hz
      · simp only [hs, if_true] at hz hd
        by_cases hz2 : (spec same c.length m.length A B (a + 1) (b + 1)).2.2 = 0
        · rw [if_pos hz2] at hd
          have hlen2 := (spec_ok same c.length m.length A B (a + 1) (b + 1))
          have hok : ok same (A.map (·.2)) (B.map (·.2)) = true := by
            have := hlen2.1
            rw [hz2] at this
            by_cases h : ok same (A.map (·.2)) (B.map (·.2)) = true
            · exact h
            · rw [if_neg h] at this
              exact absurd this (by decide)
          have hl3 := hlen2.2.1
          rw [if_pos hok] at hl3
          simp only [List.map_cons] at hd
          have hlen : r.length = j + 1 + (B.length + 1) := by
            have := congrArg List.length hd
            rw [List.length_drop] at this
            simp [hl3] at this
            omega
          have e : r[j]? = some (⟨i, a, k, b, a, b⟩ : S45) := by
            have := congrArg (fun l : List S45 => l[0]?) hd
            simpa [List.getElem?_drop, row45] using this
          have hrow := rd45r e
          refine l0_head c m r n6 hc hm hr i k j a b _ _ e ha1 hb1 (by omega) (by omega) hAp hBp ?_
          refine Ev.step (fun k => by rw [regcertlaw13_AlignRows.l2]) (Ev.pos (by omega) (Ev.pos (by omega) (Ev.neg (by rw [hrow]; show ¬ (b : Int) < b; omega) (Ev.neg ?_ (Ev.pos (by rw [hrow]) (Ev.pos (by rw [hrow]) (Ev.neg (by rw [hrow]; show ¬ (a : Int) ≥ c.length; omega) (Ev.neg (by rw [hrow]; show ¬ (b : Int) ≥ m.length; omega) (Ev.pos (by rw [hrow]; show (0 : Int) ≤ a; omega) (Ev.pos (by rw [hrow]; show (a : Int) < c.length; omega) (Ev.pos (by rw [hrow]; show (0 : Int) ≤ b; omega) (Ev.pos (by rw [hrow]; show (b : Int) < m.length; omega) ?_))))))))))))
          · rw [hlen]
            unfold wrap64
            omega
          rw [hrow]
          refine Ev.bindc (a := same x y) (by show align_Same.f (rd_T25 c (a : Int)).f0 _ _ _ _ (rd_T28 m (b : Int)).f0 _ _ _ _ _ _ = _; rw [rd25 ha3, rd28 hb3]; exact align_same x y) (Ev.step (fun k => by rw [regcertlaw13_AlignRows.j5]) (Ev.neg (by simp [hs]) ?_))
          show Ev (fun q => regcertlaw13_AlignRows.l0 q c m r n6 (wrap64 ((a : Int) + 1)) (wrap64 ((b : Int) + 1)) (wrap64 ((j : Int) + 1))) true
          rw [w64s (by omega) (by omega), w64s (by omega) (by omega), w64s (by omega) (by omega)]
          refine ih B (a + 1) (b + 1) (j + 1) (by omega) (by omega) ha5 hb5 (by omega) hz2 ?_
          have := congrArg List.tail hd
          simpa [List.tail_drop] using this
        · rw [if_neg hz2] at hz
          exact absurd hz (by simp)

theorem spec_bad (c : List S25) (m : List S28) (A : List (Nat × S25)) : ∀ (B : List (Nat × S28)) (i k : Nat), k ≤ m.length → idx pm (m.drop k) k = B → ¬ (spec same c.length m.length A B i k).2.2 = 0 →
    ∃ b : Nat, (spec same c.length m.length A B i k).2.1 = (b : Int) ∧ (b = m.length ∨ b < m.length ∧ ¬ (rd_T28 m (b : Int)).f0 = 18) := by
  have one : ∀ {k b : Nat} {y : S28} {B : List (Nat × S28)}, idx pm (m.drop k) k = (b, y) :: B → b < m.length ∧ ¬ (rd_T28 m (b : Int)).f0 = 18 := by
    intro k b y B hB
    obtain ⟨_, _, hb2, hb3, hb4, _⟩ := stop_cons hB
    refine ⟨hb2, ?_⟩
    rw [rd28 hb3]
    simpa [pm] using hb4
  induction A with
  | nil =>
    intro B i k hk hB hz
    cases B with
    | nil => simp [spec] at hz
    | cons y B => exact ⟨y.1, rfl, .inr (one hB)⟩
  | cons x A ih =>
    intro B i k hk hB hz
    cases B with
    | nil => exact ⟨m.length, rfl, .inl rfl⟩
    | cons y B =>
      obtain ⟨a, x⟩ := x
      obtain ⟨b, y⟩ := y
      obtain ⟨_, _, hb2, _, _, hb5⟩ := stop_cons hB
      simp only [spec] at hz ⊢
      cases hs : same x y
      · exact ⟨b, by simp, .inr (one hB)⟩
      · simp only [hs, if_true] at hz ⊢
        by_cases hz2 : (spec same c.length m.length A B (a + 1) (b + 1)).2.2 = 0
        · rw [if_pos hz2] at hz
          exact absurd rfl hz
        · rw [if_neg hz2]
          exact ih B (a + 1) (b + 1) (by omega) hb5 hz2

theorem idx_length' (m : List S28) : (idx pm m 0).length ≤ m.length := by
  have := congrArg List.length (idx_snd pm m 0)
  rw [List.length_map] at this
  rw [this]
  exact List.length_filter_le _ _

theorem spec_count {α β : Type} (sm : α → β → Bool) (n m : Nat) (A : List (Nat × α)) : ∀ (B : List (Nat × β)) (i k : Nat), (spec sm n m A B i k).2.2 = 0 → (spec sm n m A B i k).2.1 = (m : Int) := by
  induction A with
  | nil =>
    intro B i k h
    cases B with
    | nil => rfl
    | cons y B => simp [spec] at h
  | cons x A ih =>
    intro B i k h
    cases B with
    | nil => rfl
    | cons y B =>
      obtain ⟨a, x⟩ := x
      obtain ⟨b, y⟩ := y
      simp only [spec] at h ⊢
      cases hs : sm x y
      · simp [hs] at h
      · simp only [hs, if_true] at h ⊢
        by_cases hz : (spec sm n m A B (a + 1) (b + 1)).2.2 = 0
        · rw [if_pos hz]
          exact ih B _ _ hz
        · rw [if_neg hz] at h
          exact absurd h (by simp)

theorem rowsLaw_pure (c : List S25) (m : List S28) : ∃ k, regcertlaw13_AlignRows.f k c m = some true := by
  refine Ev.rounds (g := fun k => regcertlaw13_AlignRows.f k c m) ?_
  unfold regcertlaw13_AlignRows.f
  refine Ev.bind awake_row (Ev.pos rfl ?_)
  by_cases h1 : (c.length : Int) > 300
  · exact Ev.pos h1 (Ev.step (fun k => by rw [regcertlaw13_AlignRows.j0]) (Ev.pos rfl (Ev.bind awake_row (Ev.val rfl))))
  refine Ev.neg h1 (Ev.step (fun k => by rw [regcertlaw13_AlignRows.j0]) ?_)
  by_cases h2 : (m.length : Int) > 300
  · exact Ev.pos (decide_eq_true h2) (Ev.bind awake_row (Ev.val rfl))
  refine Ev.neg (by simpa using h2) ?_
  refine Ev.bind (code_is c m (by omega) (by omega)) ?_
  obtain ⟨r, hr⟩ : ∃ r, r = spec same c.length m.length (idx pc c 0) (idx pm m 0) 0 0 := ⟨_, rfl⟩
  by_cases hz : r.2.2 = 0
  · have hf : fin [] row45 r = (r.1.map row45, r.2.1, 0) := by simp [fin, hz]
    rw [← hr, hf]
    refine Ev.pos rfl ?_
    have hlB := idx_length' m
    have hl : r.1.length ≤ m.length + 1 := by
      have := (spec_ok same c.length m.length (idx pc c 0) (idx pm m 0) 0 0).2.1
      rw [← hr] at this
      rw [this]
      split <;> omega
    have hn : r.2.1 = (m.length : Int) := by
      rw [hr] at hz ⊢
      exact spec_count _ _ _ _ _ _ _ hz
    exact rows_law c m (r.1.map row45) r.2.1 (by omega) (by omega) (by rw [List.length_map]; omega) hn (idx pc c 0) (idx pm m 0) 0 0 0 (by omega) (by omega) rfl rfl (Nat.le_refl _) (by rw [← hr]; exact hz) (by rw [← hr]; rfl)
  · have hf : fin [] row45 r = ([], r.2.1, 20) := by simp [fin, hz]
    have hb := spec_bad c m (idx pc c 0) (idx pm m 0) 0 0 (by omega) rfl (by rw [← hr]; exact hz)
    rw [← hr] at hb
    rw [← hr, hf]
    obtain ⟨b, e, hb⟩ := hb
    refine Ev.neg (by simp) (Ev.pos rfl (Ev.pos rfl (Ev.pos (by rw [e]; omega) (Ev.pos (by rw [e]; rcases hb with hb | hb <;> omega) ?_))))
    rcases hb with hb | ⟨hb, hb2⟩
    · exact Ev.pos (by rw [e, hb]) (Ev.val rfl)
    · refine Ev.neg (by rw [e]; omega) (Ev.pos (by rw [e]; omega) (Ev.pos (by rw [e]; omega) (Ev.val ?_)))
      rw [e]
      simpa using hb2
end Go.Proofs.Ytchlilkhgagdeaa.X
namespace Go.Proofs.Ytchlilkhgagdeaa
theorem alignRows_holds : Rows.AlignRowsSaid := alignRows.over fun c m _ _ => X.rowsLaw_pure c m
end Go.Proofs.Ytchlilkhgagdeaa
