/- TF -/
import Derived.Test.YtchpkjgibloleaaGreatTE
import Derived.Test.YtchpkjgibloleaaGreatTA
set_option linter.unusedVariables false
set_option linter.unusedSimpArgs false
namespace Go.Proofs.YtchpkjgibloleaaGreat.Z
set_option maxRecDepth 100000
set_option maxHeartbeats 8000000
open Go.RowKit Go.Proofs.YtchpkjgibloleaaGreatW.PrintWords Go.Proofs.YtchpkjgibloleaaGreatW.PrintLast Go.Proofs.YtchpkjgibloleaaGreatW.PrintMore
theorem Ev.bind_inv {α β : Type} {g : Nat → Option α} {f : Nat → α → Option β} {a : α} {r : β} (hg : Ev g a) (h : Ev (fun k => (g k).bind (f k)) r) : Ev (fun k => f k a) r := by
 obtain ⟨K, hg⟩ := hg
 obtain ⟨L, h⟩ := h
 exact ⟨K + L, fun n hn => by have h1 := h n (by omega); simp only [hg n (by omega), Option.bind_some] at h1; exact h1⟩
theorem run_eq (k : Nat) (bc : List S41) (mc : List S59) (bt mt : S37) (rows : List S180) (h : ∀ r ∈ rows, okAr bc.length mc.length r) (s : Bs) : runF k bc mc bt mt rows s = runE k (rows.flatMap (rowE bc mc)) s fun s1 => endF k bt mt (mc.length : Int) s1 := rows_eq k bc mc _ rows h s
theorem end_sim {nl : Int} {s t s2 : Bs} (h : Rr nl s t) (bt mt : S37) (n n' : Int) (e : Ev (fun k => endF k bt mt n s) (s2, none)) : ∃ t2, Ev (fun k => endF k bt mt n' t) (t2, none) ∧ Rr nl s2 t2 := by
 unfold endF at e ⊢
 by_cases h1 : bt.f0 = 1
 ·simp only [if_pos h1] at e ⊢
  have := Ev.det e (Ev.val rfl)
  exact ⟨t, Ev.val rfl, (Prod.mk.inj this).1 ▸ h⟩
 ·simp only [if_neg h1] at e ⊢
  obtain ⟨e3, e4⟩ := use_sim h _ _ _ e
  exact ⟨t.cost, e4 n', e3 ▸ h.cost⟩
theorem block_inv {bc : List S41} {mc : List S59} {bt mt : S37} {inv : List S47} (h1 : bc.length ≤ 100000000) (h2 : mc.length ≤ 100000000) (hi : inv.length ≤ 1000) (hA : Asc inv) {x : S87} (hx : Ev (fun k => Qda k bc mc bt mt inv 1048576) x) (h0 : x.f1 = 0) :
    alOk (bc.length + 1) bc mc = true ∧ align_Terms.f bt.f0 bt.f1 bt.f2 bt.f3 mt.f0 mt.f1 mt.f2 mt.f3 = some true ∧ ∃ E s2, era E = evs (bc.length + 1) bc mc ∧ Ev (fun k => runE k E ⟨inv, 1048576, 0, (inv.length : Int)⟩ fun s1 => endF k bt mt (mc.length : Int) s1) (s2, none) ∧ x.f0 = s2.set ∧ Goo s2 := by
 obtain ⟨p, hp, hq, hz, ha, he⟩ := align_sp bc mc h1 h2 (bc.length + 1) 0 0 [] (by omega) (by omega) (by omega) (by simp) (by simp)
 simp only [List.drop_zero] at ha he
 obtain ⟨t, ht⟩ := terms_some bt.f0 bt.f1 bt.f2 bt.f3 mt.f0 mt.f1 mt.f2 mt.f3
 by_cases hp0 : p.2.2 = 0
 ·cases t with
  | true =>
   have g0 : Goo ⟨inv, 1048576, 0, (inv.length : Int)⟩ := ⟨hA, by show inv.length ≤ _; omega, rfl⟩
   obtain ⟨⟨s, pn⟩, e, hg, hc⟩ := runF_ok bc mc bt mt p.1 hq g0
   have hx2 : Ev (fun k => Qda k bc mc bt mt inv 1048576) (okF (mc.length : Int) (s, pn)) := by
    unfold Qda
    refine Ev.neg (by omega) (Ev.then hp (Ev.pos hp0 (Ev.then (g := fun _ => _) ⟨0, fun _ _ => ht⟩ (Ev.pos rfl ?_))))
    unfold goF
    exact Ev.pos ⟨by omega, hA⟩ (Ev.then e (Ev.val rfl))
   obtain rfl := Ev.det hx hx2
   cases pn with
   | none =>
    simp only [run_eq _ bc mc bt mt p.1 hq] at e
    exact ⟨ha.1 hp0, ht, p.1.flatMap (rowE bc mc), s, by rw [he hp0]; rfl, e, rfl, hg rfl⟩
   | some q => exact absurd h0 (hc q rfl)
  | false =>
   have hx2 : Ev (fun k => Qda k bc mc bt mt inv 1048576) ⟨[], 20, p.2.1, 0, (inv.length : Int)⟩ := by
    unfold Qda
    exact Ev.neg (by omega) (Ev.then hp (Ev.pos hp0 (Ev.then (g := fun _ => _) ⟨0, fun _ _ => ht⟩ (Ev.neg (by simp) (Ev.val rfl)))))
   obtain rfl := Ev.det hx hx2
   simp at h0
 ·have hx2 : Ev (fun k => Qda k bc mc bt mt inv 1048576) ⟨[], p.2.2, p.2.1, 0, (inv.length : Int)⟩ := by
    unfold Qda
    exact Ev.neg (by omega) (Ev.then hp (Ev.neg hp0 (Ev.val rfl)))
  obtain rfl := Ev.det hx hx2
  exact absurd h0 hp0
theorem block_mk {bc : List S41} {mc : List S59} {bt mt : S37} {inv : List S47} (h1 : bc.length ≤ 100000000) (h2 : mc.length ≤ 100000000) (hi : inv.length ≤ 1000) (hA : Asc inv) (ha : alOk (bc.length + 1) bc mc = true) (ht : align_Terms.f bt.f0 bt.f1 bt.f2 bt.f3 mt.f0 mt.f1 mt.f2 mt.f3 = some true) (P : Bs → Prop)
    (hr : ∀ E, era E = evs (bc.length + 1) bc mc → ∃ s2, Ev (fun k => runE k E ⟨inv, 1048576, 0, (inv.length : Int)⟩ fun s1 => endF k bt mt (mc.length : Int) s1) (s2, none) ∧ P s2) :
    ∃ x s2, Ev (fun k => Qda k bc mc bt mt inv 1048576) x ∧ x.f1 = 0 ∧ x.f0 = s2.set ∧ P s2 := by
 obtain ⟨p, hp, hq, hz, ha', he⟩ := align_sp bc mc h1 h2 (bc.length + 1) 0 0 [] (by omega) (by omega) (by omega) (by simp) (by simp)
 simp only [List.drop_zero] at ha' he
 have hp0 := ha'.2 ha
 obtain ⟨s2, e, hP⟩ := hr (p.1.flatMap (rowE bc mc)) (by rw [he hp0]; rfl)
 simp only [← run_eq _ bc mc bt mt p.1 hq] at e
 refine ⟨okF (mc.length : Int) (s2, none), s2, ?_, rfl, rfl, hP⟩
 unfold Qda
 refine Ev.neg (by omega) (Ev.then hp (Ev.pos hp0 (Ev.then (g := fun _ => _) ⟨0, fun _ _ => ht⟩ (Ev.pos rfl ?_))))
 unfold goF
 exact Ev.pos ⟨by omega, hA⟩ (Ev.then e (Ev.val rfl))
theorem block_sim (nl : Int) (bc : List S41) (A B : List S59) (v : S59) (hv : isM v = true) (hv5 : v.f5 = nl) (bt mt : S37) (inv : List S47) (h1 : bc.length ≤ 100000000) (h2 : (A ++ B).length ≤ 10000000) (hi : inv.length ≤ 1000) (hA : Asc inv) (hnl : 0 ≤ nl ∧ nl < 1000) (hin : InR inv) (hold : ∀ y ∈ inv, y.f1 ≠ nl)
    (hE : alOk (bc.length + 1) bc (A ++ B) = true → ∀ e ∈ evs (bc.length + 1) bc (A ++ B), okE nl e) (x : S87) (hx : Ev (fun k => Qda k bc (A ++ B) bt mt inv 1048576) x) (h0 : x.f1 = 0) :
    ∃ x', Ev (fun k => Qda k bc (A ++ v :: B) bt mt inv 1048576) x' ∧ x'.f1 = 0 ∧ Asc x'.f0 ∧ x'.f0.length ≤ 1048576 ∧ ∀ p ∈ x.f0, p ∈ x'.f0 := by
 obtain ⟨ha, ht, E, s2, hE1, hr, hx0, hg⟩ := block_inv h1 (by omega) hi hA hx h0
 obtain ⟨e1, e2⟩ := evs_ins v hv (bc.length + 1) bc A B
 obtain ⟨E1, E2, e3, e4⟩ := e2 ha
 have hlen : (A ++ v :: B).length ≤ 100000000 := by
  rw [List.length_append] at h2 ⊢
  rw [List.length_cons]; omega
 have hok := hE ha
 rw [e3] at hE1 hok
 obtain ⟨Ea, Eb, rfl, hEa, hEb⟩ := List.map_eq_append_iff.1 hE1
 have g0 : Goo ⟨inv, 1048576, 0, (inv.length : Int)⟩ := ⟨hA, by show inv.length ≤ _; omega, rfl⟩
 obtain ⟨x', t2, hx', hx1, hx2, hP⟩ := block_mk (bc := bc) (mc := A ++ v :: B) (bt := bt) (mt := mt) (inv := inv) h1 hlen hi hA (e1.trans ha) ht (fun t2 => Rr nl s2 t2) (fun E' hE' => by
  rw [e4] at hE'
  obtain ⟨Fa, Fb, rfl, hFa, hFb⟩ := List.map_eq_append_iff.1 hE'
  obtain ⟨f, Fc, rfl, hf, hFc⟩ := List.map_eq_cons_iff.1 hFb
  simp only [runE_app] at hr ⊢
  refine run_sim (fun k s1 => runE k Eb s1 fun s1 => endF k bt mt ((A ++ B).length : Int) s1) (fun k t1 => runE k (f :: Fc) t1 fun s1 => endF k bt mt ((A ++ v :: B).length : Int) s1) (fun t2 => Rr nl s2 t2) (fun s1 t1 hR he => ?_) Ea Fa _ _ (hEa.trans hFa.symm) (fun e he => hok e (by rw [← hEa]; exact List.mem_append_left _ he)) (show Rr nl ⟨inv, 1048576, 0, (inv.length : Int)⟩ ⟨inv, 1048576, 0, (inv.length : Int)⟩ from ⟨g0, g0, fun y hy => hy, hold, hin⟩) hr
  obtain ⟨t3, e5, e6⟩ := spare_sim hR v.f6 hnl
  obtain ⟨t4, e7, e8⟩ := run_sim (fun k s1 => endF k bt mt ((A ++ B).length : Int) s1) (fun k t1 => endF k bt mt ((A ++ v :: B).length : Int) t1) (fun t2 => Rr nl s2 t2) (fun s1 t1 hR he => end_sim hR bt mt _ _ he) Eb Fc s1 t3 (hEb.trans hFc.symm) (fun e he => hok e (by rw [← hEb]; exact List.mem_append_right _ he)) e6 he
  refine ⟨t4, then_mk (f := fun k => evF k f.1 f.2 t1) (s1 := t3) ?_ e7, e8⟩
  have e9 := e5 f.2
  rw [← hv5] at e9
  rw [hf]; exact e9)
 refine ⟨x', hx', hx1, by rw [hx2]; exact hP.gt.1, by rw [hx2]; exact hP.gt.2.1, fun p hp => ?_⟩
 rw [hx2]; rw [hx0] at hp
 exact hP.sub p hp
theorem edges_sim (i : Nat) (W : List (List S47)) (out out' : List S47) (hW : ∀ i : Nat, i < W.length → (Qax W (i : Int)).length ≤ 1000 ∧ Asc (Qax W (i : Int))) (ho : out.length ≤ 100000000) (ho' : out'.length ≤ 100000000) (hA : Asc out) (hA' : Asc out') (hs : ∀ p ∈ out, p ∈ out') (K K' : Nat → S51 → Option S51) (r' : S51) (h0 : r'.f0 = 0)
    (hK : ∀ r2 s2, Sm r2 s2 → Ev (fun k => K k r2) r' → ∃ s', Ev (fun k => K' k s2) s' ∧ Sm r' s') : ∀ (l : List Int), (∀ t ∈ l, 0 ≤ t ∧ t < (W.length : Int)) → ∀ (j : Nat) (r s : S51), Sm r s → Ev (fun k => Qd7 k i W out l j r (K k)) r' → ∃ s', Ev (fun k => Qd7 k i W out' l j s (K' k)) s' ∧ Sm r' s' := by
 intro l
 induction l with
 | nil => exact fun _ j r s hsm he => hK r s hsm he
 | cons t l ih =>
  intro hl j r s hsm he
  have ht := hl t (by simp)
  have hb : (Qax W t).length ≤ 1000 ∧ Asc (Qax W t) := by
   have := hW t.toNat (by omega)
   rwa [Int.toNat_of_nonneg ht.1] at this
  obtain ⟨p, hp, hq⟩ := imp_sp out (Qax W t) ho (by omega) hA hb.2
  obtain ⟨p', hp', hq'⟩ := imp_sp out' (Qax W t) ho' (by omega) hA' hb.2
  simp only [Qd7, if_pos ht] at he ⊢
  have he2 := Ev.bind_inv hp he
  by_cases hz : p.2.2 = 0
  ·simp only [if_pos hz] at he2
   obtain ⟨s', e1, e2⟩ := ih (fun u hu => hl u (by simp [hu])) (j + 1) (edgeR r out.length (Qax W t).length) (edgeR s out'.length (Qax W t).length) ⟨hsm.1, hsm.2⟩ he2
   exact ⟨s', Ev.then hp' (Ev.pos (hq'.2 fun y hy => hs y (hq.1 hz y hy)) e1), e2⟩
  ·simp only [if_neg hz] at he2
   have := Ev.det he2 (Ev.val rfl)
   rw [this] at h0
   exact absurd h0 hz
theorem blocks_sim (SB : List S39) (TB TB' : List S57) (W : List (List S47)) (m : Int) (hTT : TB'.length = TB.length) (hW : ∀ i : Nat, i < W.length → (Qax W (i : Int)).length ≤ 1000 ∧ Asc (Qax W (i : Int))) (hS : ∀ i : Nat, i < SB.length → okTerm (Qam SB (i : Int)).f1.f0 (Qam SB (i : Int)).f1.f1 (Qam SB (i : Int)).f1.f2 (Qam SB (i : Int)).f1.f3 m W.length)
    (hB : ∀ i : Nat, i < SB.length → ∀ x, Ev (fun k => Qda k (Qam SB (i : Int)).f0 (Qad TB (i : Int)).f0 (Qam SB (i : Int)).f1 (Qad TB (i : Int)).f1 (Qax W (i : Int)) 1048576) x → x.f1 = 0 →
     (Asc x.f0 ∧ x.f0.length ≤ 1048576) ∧ ∃ x', Ev (fun k => Qda k (Qam SB (i : Int)).f0 (Qad TB' (i : Int)).f0 (Qam SB (i : Int)).f1 (Qad TB' (i : Int)).f1 (Qax W (i : Int)) 1048576) x' ∧ x'.f1 = 0 ∧ Asc x'.f0 ∧ x'.f0.length ≤ 1048576 ∧ ∀ p ∈ x.f0, p ∈ x'.f0)
    (hT : ∀ i : Nat, i < SB.length → ∃ x, Ev (fun k => Qda k (Qam SB (i : Int)).f0 (Qad TB (i : Int)).f0 (Qam SB (i : Int)).f1 (Qad TB (i : Int)).f1 (Qax W (i : Int)) 1048576) x) (hl1 : SB.length ≤ TB.length) (hl2 : SB.length ≤ W.length) (r' : S51) (h0 : r'.f0 = 0) :
    ∀ n (i : Nat) (r s : S51), SB.length - i = n → i ≤ SB.length → Sm r s → Ev (fun k => Qcp k TB W (SB.drop i) i r) r' → ∃ s', Ev (fun k => Qcp k TB' W (SB.drop i) i s) s' ∧ Sm r' s' := by
 intro n
 induction n with
 | zero =>
  intro i r s hn hi hsm he
  rw [List.drop_of_length_le (by omega)] at he ⊢
  have := Ev.det he (Ev.val (show r = r from rfl))
  exact ⟨s, Ev.val rfl, this ▸ hsm⟩
 | succ n ih =>
  intro i r s hn hi hsm he
  have hd : SB.drop i = Qam SB (i : Int) :: SB.drop (i + 1) := Qc1 SB z39 i (by omega)
  rw [hd] at he ⊢
  have c1 : (i : Int) < (TB.length : Int) ∧ (i : Int) < (W.length : Int) := ⟨by omega, by omega⟩
  have c2 : (i : Int) < (TB'.length : Int) ∧ (i : Int) < (W.length : Int) := ⟨by omega, by omega⟩
  simp only [Qcp, if_pos c1] at he
  simp only [Qcp, if_pos c2]
  obtain ⟨x, hx⟩ := hT i (by omega)
  have he2 := Ev.bind_inv hx he
  by_cases hz : x.f1 = 0
  ·simp only [if_pos hz] at he2
   obtain ⟨⟨a1, a2⟩, x', hx', hz', a3, a4, a5⟩ := hB i (by omega) x hx hz
   obtain ⟨tg, ht, htg⟩ := succ_some (hS i (by omega))
   have he3 := Ev.bind_inv (g := fun _ => _) ⟨0, fun _ _ => ht⟩ he2
   obtain ⟨s', e1, e2⟩ := edges_sim i W x.f0 x'.f0 hW (by omega) (by omega) a1 a3 a5 (fun k r2 => Qcp k TB W (SB.drop (i + 1)) (i + 1) r2) (fun k r2 => Qcp k TB' W (SB.drop (i + 1)) (i + 1) r2) r' h0 (fun r2 s2 hs2 e => ih (i + 1) r2 s2 (by omega) (by omega) hs2 e) tg htg 0 (nextR r x) (nextR s x') ⟨hsm.1, by show wrap64 (r.f3 + 1) = wrap64 (s.f3 + 1); rw [hsm.2]⟩ he3
   exact ⟨s', Ev.then hx' (Ev.pos hz' (Ev.then (g := fun _ => _) ⟨0, fun _ _ => ht⟩ e1)), e2⟩
  ·simp only [if_neg hz] at he2
   have := Ev.det he2 (Ev.val rfl)
   rw [this] at h0
   exact absurd h0 hz
theorem loc_num {a m s : Int} (h : Qec a m s) (ha : a ≤ 9223372036854775807) (hm : m ≤ 100) (hs : s ≤ 100) : (0 ≤ a ∧ a < 1000) ∧ a ≠ 2 * s + 1 := by
 unfold Qec Qa9.f Qaq.f Qbb.f at h
 simp only [Option.bind_some] at h
 by_cases h0 : a ≥ 0
 ·have e1 : Int.tdiv a 2 = a / 2 := Int.tdiv_eq_ediv_of_nonneg h0
  have e2 : Int.tmod a 2 = a % 2 := Int.tmod_eq_emod_of_nonneg h0
  have e3 : wrap64 (a / 2) = a / 2 := w64i (by omega) (by omega)
  rw [e1, e2, e3, if_pos h0, if_pos h0] at h
  by_cases h1 : a % 2 = 1
  ·rw [if_pos (by rw [h1]; rfl)] at h
   simp only [Option.some.injEq, decide_eq_true_eq] at h
   omega
  ·rw [if_neg (by simpa using h1)] at h
   simp only [Option.some.injEq, decide_eq_true_eq] at h
   omega
 ·rw [if_neg h0, if_neg h0] at h
  split at h <;> simp at h
theorem loc_mono {a m s s' : Int} (h : Qec a m s) (hs : s ≤ s') : Qec a m s' := by
 unfold Qec Qa9.f Qaq.f Qbb.f at h ⊢
 simp only [Option.bind_some] at h ⊢
 by_cases h1 : (Int.tmod a 2 == 1) = true
 ·rw [if_pos h1] at h ⊢
  by_cases h0 : a ≥ 0
  ·rw [if_pos h0] at h ⊢
   simp only [Option.some.injEq, decide_eq_true_eq] at h ⊢
   omega
  ·rw [if_neg h0] at h; simp at h
 ·rw [if_neg h1] at h ⊢; exact h
theorem loc_slot {s r : Int} (h0 : 0 ≤ s) (hs : s ≤ 100) : Qec (2 * s + 1) r (s + 1) := by
 have e1 : Int.tdiv (2 * s + 1) 2 = s := by rw [Int.tdiv_eq_ediv_of_nonneg (by omega)]; omega
 have e2 : Int.tmod (2 * s + 1) 2 = 1 := by rw [Int.tmod_eq_emod_of_nonneg (by omega)]; omega
 unfold Qec Qa9.f Qaq.f Qbb.f
 simp only [Option.bind_some, e1, e2]
 rw [if_pos (show ((1 : Int) == 1) = true from rfl), if_pos (by omega), w64i (by omega) (by omega)]
 simp; omega
theorem reg_is {q : Int} : isSl (2 * q) = false := by
 unfold isSl
 rw [Int.mul_tmod_right 2 q]; rfl
theorem mi_mono {m : S59} {r s s' : Int} (h : okMI m r s) (hs : s ≤ s') : okMI m r s' := by
 unfold okMI okMIns at h ⊢
 refine ⟨h.1, ?_⟩
 by_cases h18 : m.f0 = 18
 ·rw [if_pos h18] at h ⊢
  exact ⟨⟨h.2.1.1, loc_mono h.2.1.2.1 hs, loc_mono h.2.1.2.2 hs⟩, h.2.2⟩
 ·rw [if_neg h18] at h ⊢; exact h.2
theorem row_mono {l : List S47} {m r s s' : Int} (h : okRow l m r s) (hs : s ≤ s') : okRow l m r s' := fun i hi => ⟨(h i hi).1, loc_mono (h i hi).2.1 hs, (h i hi).2.2⟩
theorem spare_mi {a s r q : Int} (h0 : 0 ≤ s) (hs : s ≤ 100) (hq0 : 0 ≤ q) (hq1 : q < r) (hr : r ≤ 100) : okMI ⟨18, 0, 0, 0, 0, 2 * s + 1, 2 * q⟩ r (s + 1) := by
 refine ⟨rfl, ?_⟩
 rw [if_pos (show (18 : Int) = 18 from rfl)]
 exact ⟨⟨by rw [reg_is, Bool.and_false], loc_slot h0 hs, loc_reg hq0 hq1 (by omega)⟩, rfl, rfl, rfl, rfl⟩
theorem rd59 (l : List S59) (i : Nat) (h : i < l.length) : Qag l (i : Int) = l[i] := by
 show l.getD i z59 = _
 rw [List.getD_eq_getElem?_getD, List.getElem?_eq_getElem h]; rfl
theorem rd41 (l : List S41) (i : Nat) (h : i < l.length) : Qav l (i : Int) = l[i] := by
 show l.getD i z41 = _
 rw [List.getD_eq_getElem?_getD, List.getElem?_eq_getElem h]; rfl
theorem rd57 (l : List S57) (i : Nat) (h : i < l.length) : Qad l (i : Int) = l[i] := by
 show l.getD i z57 = _
 rw [List.getD_eq_getElem?_getD, List.getElem?_eq_getElem h]; rfl
theorem mem59 {l : List S59} {P : S59 → Prop} : (∀ i : Nat, i < l.length → P (Qag l (i : Int))) ↔ ∀ m ∈ l, P m := by
 constructor
 ·intro h m hm
  obtain ⟨i, hi, rfl⟩ := List.mem_iff_getElem.1 hm
  rw [← rd59 l i hi]; exact h i hi
 ·intro h i hi
  rw [rd59 l i hi]; exact h _ (List.getElem_mem hi)
theorem mem41 {l : List S41} {P : S41 → Prop} (h : ∀ i : Nat, i < l.length → P (Qav l (i : Int))) : ∀ m ∈ l, P m := by
 intro m hm
 obtain ⟨i, hi, rfl⟩ := List.mem_iff_getElem.1 hm
 rw [← rd41 l i hi]; exact h i hi
theorem evs_mem : ∀ (n : Nat) (bc : List S41) (mc : List S59) (e : Evt), e ∈ evs n bc mc → (∃ i ∈ bc, isC i = true ∧ e = cpE i) ∨ (∃ m ∈ mc, isM m = true ∧ e = mvE m) ∨ ∃ i ∈ bc, ∃ m ∈ mc, e = .ins i m ∧ (alOk n bc mc = true → sameB i m = true)
 | 0, bc, mc, e, h => by simp [evs] at h
 | n + 1, bc, mc, e, h => by
  have tw : ∀ {α : Type} (f : α → Bool) (l : List α), ∀ x ∈ l.takeWhile f, x ∈ l ∧ f x = true := fun f l x hx => ⟨(List.takeWhile_sublist f).subset hx, by have := List.all_takeWhile (p := f) (l := l); rw [List.all_eq_true] at this; exact this x hx⟩
  simp only [evs, List.mem_append, List.mem_map] at h
  rcases h with ⟨i, hi, rfl⟩ | ⟨m, hm, rfl⟩ | h
  ·exact Or.inl ⟨i, (tw isC bc i hi).1, (tw isC bc i hi).2, rfl⟩
  ·exact Or.inr (Or.inl ⟨m, (tw isM mc m hm).1, (tw isM mc m hm).2, rfl⟩)
  ·have s1 : ∀ x ∈ bc.dropWhile isC, x ∈ bc := fun x hx => (List.dropWhile_sublist isC).subset hx
   have s2 : ∀ x ∈ mc.dropWhile isM, x ∈ mc := fun x hx => (List.dropWhile_sublist isM).subset hx
   cases hb : bc.dropWhile isC with
   | nil => rw [hb] at h; simp at h
   | cons i b =>
    cases hm : mc.dropWhile isM with
    | nil => rw [hb, hm] at h; simp at h
    | cons m c =>
     rw [hb] at s1
     rw [hm] at s2
     rw [hb, hm] at h
     rcases List.mem_cons.1 h with h | h
     ·exact Or.inr (Or.inr ⟨i, s1 i (by simp), m, s2 m (by simp), h, fun ha => by simp only [alOk, hb, hm, Bool.and_eq_true] at ha; exact ha.1⟩)
     ·rcases evs_mem n b c e h with ⟨i', h1, h2⟩ | ⟨m', h1, h2⟩ | ⟨i', h1, m', h2, h3, h4⟩
      ·exact Or.inl ⟨i', s1 i' (by simp [h1]), h2⟩
      ·exact Or.inr (Or.inl ⟨m', s2 m' (by simp [h1]), h2⟩)
      ·exact Or.inr (Or.inr ⟨i', s1 i' (by simp [h1]), m', s2 m' (by simp [h2]), h3, fun ha => h4 (by simp only [alOk, hb, hm, Bool.and_eq_true] at ha; exact ha.2)⟩)
theorem same_inv {i : S41} {m : S59} (h : sameB i m = true) : i.f0 = m.f0 ∧ i.f0 ≠ 18 := by
 unfold sameB align_Same.f at h
 by_cases h1 : i.f0 = m.f0
 ·refine ⟨h1, ?_⟩
  rw [if_pos h1] at h
  split at h
  ·split at h
   ·simp at h
   ·simpa using h
  ·simp at h
 ·rw [if_neg h1] at h; simp at h
theorem evs_ok (bc : List S41) (mc : List S59) (sr tr ts : Int) (hsr : sr ≤ 100) (htr : tr ≤ 100) (hts : ts ≤ 100) (hI : ∀ i ∈ bc, okIns i.f0 i.f1 i.f2 i.f3 i.f4 sr) (hM : ∀ m ∈ mc, okMI m tr ts) (hw : ∀ m ∈ mc, m.f5 ≤ 9223372036854775807) (n : Nat) (ha : alOk n bc mc = true) :
    ∀ e ∈ evs n bc mc, okE (2 * ts + 1) e := by
 intro e he
 rcases evs_mem n bc mc e he with ⟨i, h1, h2, rfl⟩ | ⟨m, h1, h2, rfl⟩ | ⟨i, h1, m, h2, rfl, h4⟩
 ·have := (hI i h1).2.1.1
  have e2 : i.f0 = 2 := by simpa [isC] using h2
  rw [e2] at this
  have h3 := this rfl
  exact ⟨h3.1, by omega⟩
 ·have := (hM m h1).2
  have e2 : m.f0 = 18 := by simpa [isM] using h2
  rw [if_pos e2] at this
  exact loc_num this.1.2.1 (hw m h1) htr hts
 ·intro hd
  obtain ⟨e1, e2⟩ := same_inv (h4 ha)
  have a1 := (hI i h1).2.1.1 hd
  have a2 := (hM m h2).2
  rw [if_neg (by rw [← e1]; exact e2)] at a2
  have a3 := a2.1.2.1.1 (by rw [← e1]; exact hd)
  rw [w64i (by omega) (by omega)]
  exact ⟨⟨a1.1, by omega⟩, ⟨by omega, by omega⟩, by omega⟩
theorem rd57_eq (TB : List S57) (i : Nat) (b : S57) (h : i < TB.length) : Qad (TB.set i b) (i : Int) = b := by
 rw [rd57 _ i (by rw [List.length_set]; exact h), List.getElem_set_self]
theorem rd57_ne (TB : List S57) (i j : Nat) (b : S57) (h : j < TB.length) (hne : i ≠ j) : Qad (TB.set i b) (j : Int) = Qad TB (j : Int) := by
 rw [rd57 _ j (by rw [List.length_set]; exact h), rd57 _ j h, List.getElem_set_ne hne]
theorem spare_ok {sa sr : Int} {SB : List S39} {ta tr ts : Int} {TB : List S57} {W : List (List S47)} (hB : Bnd sr SB tr ts TB W) (b1 : sr ≤ 100) (b2 : tr ≤ 100) (b3 : ts ≤ 99) (hw : ∀ i : Nat, i < TB.length → (Qad TB (i : Int)).f0.length ≤ 900 ∧ ∀ m ∈ (Qad TB (i : Int)).f0, m.f5 ≤ 9223372036854775807) (hwW : ∀ i : Nat, i < W.length → ∀ y ∈ Qax W (i : Int), y.f1 ≤ 9223372036854775807)
    {r : S51} (hr : Ev (fun k => Qdk k sa sr SB ta tr ts TB W) r) (h0 : r.f0 = 0) (i : Nat) (hi : i < TB.length) (n : Nat) {q : Int} (hq0 : 0 ≤ q) (hq1 : q < tr) :
    ∃ r', Ev (fun k => Qdk k sa sr SB ta tr (ts + 1) (TB.set i ⟨(Qad TB (i : Int)).f0.take n ++ ⟨18, 0, 0, 0, 0, 2 * ts + 1, 2 * q⟩ :: (Qad TB (i : Int)).f0.drop n, (Qad TB (i : Int)).f1⟩) W) r' ∧
     (Qc0 ((Qad TB (i : Int)).f0.take n ++ ⟨18, 0, 0, 0, 0, 2 * ts + 1, 2 * q⟩ :: (Qad TB (i : Int)).f0.drop n) 0 → r'.f0 = 0) ∧
     (¬ Qc0 ((Qad TB (i : Int)).f0.take n ++ ⟨18, 0, 0, 0, 0, 2 * ts + 1, 2 * q⟩ :: (Qad TB (i : Int)).f0.drop n) 0 → r'.f0 = 15) := by
 obtain ⟨r1, hr1, hq⟩ := check_ev (sa := sa) (ta := ta) hB
 obtain rfl := Ev.det hr1 hr
 obtain ⟨hO, e, x, he, he0, hbl⟩ := hq h0
 obtain ⟨hO1, hO2, hO3, hO4⟩ := hO
 have hts : 0 ≤ ts := by have := hO2.1.1; omega
 have hSW : W.length = SB.length := by have := hO4.1; omega
 have hST : TB.length = SB.length := by have := hO3.1; omega
 generalize hv : (⟨18, 0, 0, 0, 0, 2 * ts + 1, 2 * q⟩ : S59) = v
 have hvi : okMI v tr (ts + 1) := hv ▸ spare_mi (a := 0) hts (by omega) hq0 hq1 b2
 have hv18 : isM v = true := by rw [← hv]; rfl
 have hv5 : v.f5 = 2 * ts + 1 := by rw [← hv]
 generalize hcode : (Qad TB (i : Int)).f0 = code at *
 have hcl : code.length ≤ 900 := by rw [← hcode]; exact (hw i hi).1
 have hcut : code.take n ++ code.drop n = code := List.take_append_drop n code
 generalize hnew : (⟨code.take n ++ v :: code.drop n, (Qad TB (i : Int)).f1⟩ : S57) = nb
 have hnl : (code.take n ++ v :: code.drop n).length = code.length + 1 := by
  rw [List.length_append, List.length_cons, List.length_take, List.length_drop]; omega
 have hlen : (TB.set i nb).length = TB.length := List.length_set
 have hrd : ∀ j : Nat, j < TB.length → (j = i ∧ Qad (TB.set i nb) (j : Int) = nb) ∨ (j ≠ i ∧ Qad (TB.set i nb) (j : Int) = Qad TB (j : Int)) := fun j hj => by
  by_cases h : j = i
  ·subst h; exact Or.inl ⟨rfl, rd57_eq TB j nb hj⟩
  ·exact Or.inr ⟨h, rd57_ne TB i j nb hj (fun e => h e.symm)⟩
 have hB' : Bnd sr SB tr (ts + 1) (TB.set i nb) W := by
  refine ⟨hB.b1, hB.b2, by omega, hB.l1, by rw [hlen]; exact hB.l2, hB.l3, hB.c1, fun j hj => ?_, hB.c3⟩
  rw [hlen] at hj
  rcases hrd j hj with ⟨_, e⟩ | ⟨_, e⟩
  ·rw [e, ← hnew]; show (code.take n ++ v :: code.drop n).length ≤ _; omega
  ·rw [e]; exact hB.c2 j hj
 have hMo := hO2.2.2
 have hMi : ∀ m ∈ code, okMI m tr ts := by
  have := (hMo i hi).1.1
  rw [hcode] at this
  exact mem59.1 this
 have hMi' : ∀ m ∈ code.take n ++ v :: code.drop n, okMI m tr (ts + 1) := by
  intro m hm
  rcases List.mem_append.1 hm with h | h
  ·exact mi_mono (hMi m (List.mem_of_mem_take h)) (by omega)
  ·rcases List.mem_cons.1 h with h | h
   ·rw [h]; exact hvi
   ·exact mi_mono (hMi m (List.mem_of_mem_drop h)) (by omega)
 have hold : ∀ j : Nat, j < TB.length → j ≠ i → okMB (Qad (TB.set i nb) (j : Int)) tr (ts + 1) (TB.set i nb).length := by
  intro j hj hji
  rcases hrd j hj with ⟨e, _⟩ | ⟨_, e⟩
  ·exact absurd e hji
  ·rw [e, hlen]
   have := hMo j hj
   exact ⟨⟨fun k hk => mi_mono (this.1.1 k hk) (by omega), this.1.2⟩, this.2⟩
 have hWa : ∀ j : Nat, j < W.length → (Qax W (j : Int)).length ≤ 1000 ∧ Asc (Qax W (j : Int)) := fun j hj => ⟨hB.c3 j hj, row_asc (hO4.2 j hj)⟩
 by_cases hruns : Qc0 (code.take n ++ v :: code.drop n) 0
 ·have hO' : okAll sa sr SB ta tr (ts + 1) (TB.set i nb) W := by
    refine ⟨hO1, ⟨⟨⟨hO2.1.1.1, by have := hO2.1.1.2; omega⟩, hO2.1.2⟩, by rw [hlen]; exact hO2.2.1, fun j hj => ?_⟩, ⟨by rw [hlen]; exact hO3.1, hO3.2⟩, hO4.1, fun j hj => row_mono (hO4.2 j hj) (by omega)⟩
    rw [hlen] at hj
    by_cases hji : j = i
    ·subst hji
     rw [rd57_eq TB j nb hj, hlen, ← hnew]
     exact ⟨⟨mem59.2 hMi', hruns⟩, (hMo j hj).2⟩
    ·exact hold j hj hji
  obtain ⟨x', r', h5, h6⟩ := check_ok hB' hO' he he0
  have key := blocks_sim SB TB (TB.set i nb) W sr hlen hWa (fun j hj => by rw [hSW]; exact (hO1.2.2 j hj).2) (fun j hj y hy hy0 => by
      have hjT : j < TB.length := by omega
      have hjW : j < W.length := by omega
      obtain ⟨y2, hy2, hy3⟩ := block_ev (Qam SB (j : Int)).f0 (Qad TB (j : Int)).f0 (Qam SB (j : Int)).f1 (Qad TB (j : Int)).f1 (Qax W (j : Int)) (by have := hB.c1 j hj; omega) (by have := hB.c2 j hjT; omega) (by have := (hWa j hjW).1; omega) (hWa j hjW).2
      obtain rfl := Ev.det hy hy2
      have hyA := hy3 hy0
      refine ⟨⟨hyA.2, hyA.1⟩, ?_⟩
      rcases hrd j hjT with ⟨e1, e⟩ | ⟨_, e⟩
      ·subst e1
       rw [e, ← hnew]
       rw [hcode] at hy
       have hrow := hO4.2 j hjW
       have hnum : ∀ p ∈ Qax W (j : Int), (0 ≤ p.f0 ∧ p.f0 < sr) ∧ (0 ≤ p.f1 ∧ p.f1 < 1000) ∧ p.f1 ≠ 2 * ts + 1 := by
        intro p hp
        obtain ⟨m, hm, rfl⟩ := List.mem_iff_getElem.1 hp
        have h1 := hrow m hm
        have h2 := hwW j hjW _ hp
        unfold okPair at h1
        rw [rd47 _ m hm] at h1
        exact ⟨h1.1, loc_num h1.2.1 h2 b2 (by omega)⟩
       rw [← hcut] at hy
       exact block_sim (2 * ts + 1) (Qam SB (j : Int)).f0 (code.take n) (code.drop n) v hv18 hv5 (Qam SB (j : Int)).f1 (Qad TB (j : Int)).f1 (Qax W (j : Int)) (by have := hB.c1 j hj; omega) (by rw [hcut]; omega) (hWa j hjW).1 (hWa j hjW).2 ⟨by omega, by omega⟩
        (fun p hp => ⟨⟨(hnum p hp).1.1, by have := (hnum p hp).1.2; omega⟩, (hnum p hp).2.1⟩) (fun p hp => (hnum p hp).2.2)
        (fun ha => by
         rw [hcut] at ha ⊢
         exact evs_ok _ code sr tr ts b1 b2 (by omega) (mem41 (P := fun i => okIns i.f0 i.f1 i.f2 i.f3 i.f4 sr) (hO1.2.2 j hj).1) hMi (by have := (hw j hjT).2; rw [hcode] at this; exact this) _ ha) y hy hy0
      ·rw [e]
       exact ⟨y, hy, hy0, hyA.2, hyA.1, fun p hp => hp⟩)
   (fun j hj => by
    have hjT : j < TB.length := by omega
    have hjW : j < W.length := by omega
    obtain ⟨y2, hy2, _⟩ := block_ev (Qam SB (j : Int)).f0 (Qad TB (j : Int)).f0 (Qam SB (j : Int)).f1 (Qad TB (j : Int)).f1 (Qax W (j : Int)) (by have := hB.c1 j hj; omega) (by have := hB.c2 j hjT; omega) (by have := (hWa j hjW).1; omega) (hWa j hjW).2
    exact ⟨y2, hy2⟩) (by omega) (by omega) r1 h0 _ 0 (startR W x) (startR W x') rfl (by omega) ⟨rfl, rfl⟩ (by rw [List.drop_zero]; exact hbl)
  rw [List.drop_zero] at key
  obtain ⟨s', hs', hsm⟩ := key
  obtain rfl := Ev.det h5 hs'
  exact ⟨r', h6, fun _ => hsm.1 ▸ h0, fun h => absurd hruns h⟩
 ·obtain ⟨r', h6, h7⟩ := check15 (sa := sa) (SB := SB) hB' hO1 ⟨⟨hO2.1.1.1, by have := hO2.1.1.2; omega⟩, hO2.1.2⟩ i (by rw [hlen]; exact hi) (fun j hj => hold j (by omega) (by omega)) (by rw [rd57_eq TB i nb hi, ← hnew]; exact mem59.2 hMi') (by rw [rd57_eq TB i nb hi, ← hnew]; exact hruns)
  exact ⟨r', h6, fun h => absurd h hruns, fun _ => h7⟩
theorem take_getD {α : Type} (l : List α) (z : α) (i : Nat) (h : i < l.length) : l.take i ++ [l.getD i z] = l.take (i + 1) := by
 rw [List.take_add_one, List.getD_eq_getElem?_getD, List.getElem?_eq_getElem h]; rfl
theorem copy07_ev (a r : Int) (l : List S39) (hl : l.length ≤ 1000) (hc : ∀ j : Nat, j < l.length → (Qam l (j : Int)).f0.length ≤ 1000) (x0 x1 : Int) : ∀ (n i : Nat), l.length - i = n → i ≤ l.length →
    Ev (fun k => Qap.l0 k (i : Int) a r l x0 x1 (l.take i)) (x0, x1, l) := by
 intro n
 induction n with
 | zero =>
  intro i hn hi
  exact Ev.up (g := fun k => _) (fun k => rfl) (Ev.neg (by omega) (Ev.val (by rw [List.take_of_length_le (by omega)])))
 | succ n ih =>
  intro i hn hi
  have hw : wrap64 ((i : Int) + 1) = ((i + 1 : Nat) : Int) := by rw [w64i (by omega) (by omega)]; omega
  have hci := hc i (by omega)
  have hk : (l.take i).length ≤ 1000 := by rw [List.length_take]; omega
  have := ih (i + 1) (by omega) (by omega)
  rw [← take_getD l z39 i (by omega)] at this
  refine Ev.up (g := fun k => _) (fun k => rfl) (Ev.pos (by omega) (Ev.then (a := ([] : List S41)) (Ev.val rfl) (Ev.pos (by omega) (Ev.pos (by simp only [List.length_nil]; omega) (Ev.pos (by omega) ?_)))))
  rw [hw]; exact this
theorem copy08_ev (a r s : Int) (l : List S57) (hl : l.length ≤ 1000) (hc : ∀ j : Nat, j < l.length → (Qad l (j : Int)).f0.length ≤ 1000) (x0 x1 x2 : Int) : ∀ (n i : Nat), l.length - i = n → i ≤ l.length →
    Ev (fun k => Qan.l0 k (i : Int) a r s l x0 x1 x2 (l.take i)) (x0, x1, x2, l) := by
 intro n
 induction n with
 | zero =>
  intro i hn hi
  exact Ev.up (g := fun k => _) (fun k => rfl) (Ev.neg (by omega) (Ev.val (by rw [List.take_of_length_le (by omega)])))
 | succ n ih =>
  intro i hn hi
  have hw : wrap64 ((i : Int) + 1) = ((i + 1 : Nat) : Int) := by rw [w64i (by omega) (by omega)]; omega
  have hci := hc i (by omega)
  have hk : (l.take i).length ≤ 1000 := by rw [List.length_take]; omega
  have := ih (i + 1) (by omega) (by omega)
  rw [← take_getD l z57 i (by omega)] at this
  refine Ev.up (g := fun k => _) (fun k => rfl) (Ev.pos (by omega) (Ev.then (a := ([] : List S59)) (Ev.val rfl) (Ev.pos (by omega) (Ev.pos (by simp only [List.length_nil]; omega) (Ev.pos (by omega) ?_)))))
  rw [hw]; exact this
theorem copy16_ev (a0 a1 : Int) (l2 : List S39) (a3 a4 a5 : Int) (l6 : List S57) (l : List (List S47)) (hl : l.length ≤ 1000) (hc : ∀ j : Nat, j < l.length → (Qax l (j : Int)).length ≤ 1000) (x0 x1 : Int) (x2 : List S39) (x3 x4 x5 : Int) (x6 : List S57) : ∀ (n i : Nat), l.length - i = n → i ≤ l.length →
    Ev (fun k => Qai.l0 k (i : Int) a0 a1 l2 a3 a4 a5 l6 l x0 x1 x2 x3 x4 x5 x6 (l.take i)) (x0, x1, x2, x3, x4, x5, x6, l) := by
 intro n
 induction n with
 | zero =>
  intro i hn hi
  exact Ev.up (g := fun k => _) (fun k => rfl) (Ev.neg (by omega) (Ev.val (by rw [List.take_of_length_le (by omega)])))
 | succ n ih =>
  intro i hn hi
  have hw : wrap64 ((i : Int) + 1) = ((i + 1 : Nat) : Int) := by rw [w64i (by omega) (by omega)]; omega
  have hci := hc i (by omega)
  have hk : (l.take i).length ≤ 1000 := by rw [List.length_take]; omega
  have := ih (i + 1) (by omega) (by omega)
  rw [← take_getD l [] i (by omega)] at this
  refine Ev.up (g := fun k => _) (fun k => rfl) (Ev.pos (by omega) (Ev.then (a := ([] : List S47)) (Ev.val rfl) (Ev.pos (by omega) (Ev.pos (by simp only [List.length_nil]; omega) (Ev.pos (by omega) ?_)))))
  rw [hw]; exact this
theorem copy16 (a0 a1 : Int) (l2 : List S39) (a3 a4 a5 : Int) (l6 : List S57) (l7 : List (List S47)) (h2 : l2.length ≤ 1000) (h6 : l6.length ≤ 1000) (h7 : l7.length ≤ 1000)
    (c2 : ∀ j : Nat, j < l2.length → (Qam l2 (j : Int)).f0.length ≤ 1000) (c6 : ∀ j : Nat, j < l6.length → (Qad l6 (j : Int)).f0.length ≤ 1000) (c7 : ∀ j : Nat, j < l7.length → (Qax l7 (j : Int)).length ≤ 1000) :
    Ev (fun k => Qai.f k a0 a1 l2 a3 a4 a5 l6 l7) (a0, a1, l2, a3, a4, a5, l6, l7) := by
 unfold Qai.f
 exact Ev.then (copy07_ev a0 a1 l2 h2 c2 a0 a1 _ 0 rfl (by omega)) (Ev.then (copy08_ev a3 a4 a5 l6 h6 c6 a3 a4 a5 _ 0 rfl (by omega)) (copy16_ev a0 a1 l2 a3 a4 a5 l6 l7 h7 c7 _ _ _ _ _ _ _ _ 0 rfl (by omega)))
def tupS (r : S51) : Int × Int × Int × Int × Int × Int × Int := (r.f0, r.f1, r.f2, r.f3, r.f4, r.f5, r.f6)
theorem CheckS_ev {sa sr : Int} {SB : List S39} {ta tr ts : Int} {TB : List S57} {W : List (List S47)} {r : S51} (h : Ev (fun k => Qdk k sa sr SB ta tr ts TB W) r) : Ev (fun k => checker_Check.f k sa sr SB ta tr ts TB W) (tupS r) := by
 obtain ⟨K, h⟩ := h
 refine ⟨K, fun n hn => ?_⟩
 show (Qdk n sa sr SB ta tr ts TB W).map _ = _
 rw [show Qdk n sa sr SB ta tr ts TB W = some r from h n hn]; rfl
theorem j0s_true (a1 a2 a3 b0 b1 : Int) (b2 : List S39) (b3 b4 b5 : Int) (b6 : List S57) (b7 : List (List S47)) : Ev (fun k => Qac.j0 k a1 a2 a3 true b0 b1 b2 b3 b4 b5 b6 b7) true := ⟨1, fun n hn => by obtain ⟨m, rfl⟩ : ∃ m, n = m + 1 := ⟨n - 1, by omega⟩; rfl⟩
theorem j0s_false (a1 a2 a3 b0 b1 : Int) (b2 : List S39) (b3 b4 b5 : Int) (b6 : List S57) (b7 : List (List S47)) (i : Nat) {q nl t1 : Int} (n : Nat) (hlen : b6.length ≠ 0) (hi : Int.tmod (wrap64 a1) (b6.length : Int) = (i : Int)) (hil : i < b6.length) (hq : wrap64 (2 * Int.tmod (wrap64 a3) b4) = q) (hnl : wrap64 (wrap64 (2 * b5) + 1) = nl) (ht1 : wrap64 (b5 + 1) = t1) (h4 : b4 ≠ 0)
    (hc : Ev (fun k => Qai.f k b0 b1 b2 b3 b4 b5 b6 b7) (b0, b1, b2, b3, b4, b5, b6, b7))
    (hins : Qa2.f (Qad b6 (i : Int)).f0 (wrap64 a2) 18 0 0 0 0 nl q = some ((Qad b6 (i : Int)).f0.take n ++ ⟨18, 0, 0, 0, 0, nl, q⟩ :: (Qad b6 (i : Int)).f0.drop n)) {r : S51} {v : Nat}
    (hr : Ev (fun k => Qdk k b0 b1 b2 b3 b4 t1 (b6.set i ⟨(Qad b6 (i : Int)).f0.take n ++ ⟨18, 0, 0, 0, 0, nl, q⟩ :: (Qad b6 (i : Int)).f0.drop n, (Qad b6 (i : Int)).f1⟩) b7) r)
    (hm : Ev (fun k => Qaf.f k ((Qad b6 (i : Int)).f0.take n ++ ⟨18, 0, 0, 0, 0, nl, q⟩ :: (Qad b6 (i : Int)).f0.drop n)) (v : Int))
    (hv : if v ≤ 64 then r.f0 = 0 else r.f0 = 15) : Ev (fun k => Qac.j0 k a1 a2 a3 false b0 b1 b2 b3 b4 b5 b6 b7) true := by
 have e0 : ∀ k, Qac.j0 (k + 1) a1 a2 a3 false b0 b1 b2 b3 b4 b5 b6 b7 = _ := fun k => by rw [Qac.j0]
 refine Ev.up e0 (Ev.neg (by simp) (Ev.then hc ?_))
 refine Ev.neg (show ¬ ((b6.length : Int) = 0) by omega) ?_
 show Ev (fun k => if 0 ≤ Int.tmod (wrap64 a1) (b6.length : Int) then _ else _) true
 simp only [hi, hq, hnl, ht1]
 refine Ev.pos (show 0 ≤ (i : Int) by omega) ?_
 refine Ev.pos (show (i : Int) < (b6.length : Int) by omega) ?_
 refine Ev.neg h4 ?_
 rw [hins]
 refine Ev.then (Ev.val rfl) (Ev.then (Ev.val rfl) (Ev.then (CheckS_ev hr) ?_))
 rw [Int.toNat_natCast, rd57_eq b6 i _ hil]
 refine Ev.then hm ?_
 by_cases h : v ≤ 64
 ·rw [if_pos h] at hv
  exact Ev.neg (by omega) (Ev.val (show (r.f0 == 0) = true by rw [hv]; rfl))
 ·rw [if_neg h] at hv
  exact Ev.pos (by omega) (Ev.val (show (r.f0 == 15) = true by rw [hv]; rfl))
theorem wf64 {n : Int} (h : (Lit.int .i64 n).wf = true) : n ≤ 9223372036854775807 := by
 have h : IntKind.i64.min ≤ n ∧ n ≤ IntKind.i64.max := by simpa [Lit.wf] using h
 have h2 : IntKind.i64.max = 9223372036854775807 := by decide
 omega
theorem wfu8 {n : Int} (h : (Lit.int .u8 n).wf = true) : 0 ≤ n ∧ n < 256 := by
 have h : IntKind.u8.min ≤ n ∧ n ≤ IntKind.u8.max := by simpa [Lit.wf] using h
 have h1 : IntKind.u8.min = 0 := by decide
 have h2 : IntKind.u8.max = 255 := by decide
 omega
theorem rd12 (l : List (List S47)) (i : Nat) (h : i < l.length) : Qax l (i : Int) = l[i] := by
 show l.getD i [] = _
 rw [List.getD_eq_getElem?_getD, List.getElem?_eq_getElem h]; rfl
theorem spare (x0 : S30) (a1 a2 a3 : Int) (g : good30 x0) (g1 : (Lit.int .u8 a1).wf = true) (g2 : (Lit.int .u8 a2).wf = true) (g3 : (Lit.int .u8 a3).wf = true) : ∃ k, Qac.f k x0.f0.f0 x0.f0.f1 x0.f0.f2 x0.f1.f0 x0.f1.f1 x0.f1.f2 x0.f1.f3 x0.f2 a1 a2 a3 = some true := by
 obtain ⟨⟨sa, sr, SB⟩, ⟨ta, tr, ts, TB⟩, W⟩ := x0
 have m1 : maxLen ≤ 9223372036854775807 := by decide
 have g4 : SB.length ≤ maxLen := g.1.2.2.1
 have g5 : TB.length ≤ maxLen := g.2.1.2.2.2.1
 have g6 : W.length ≤ maxLen := g.2.2.1
 have wT : ∀ b ∈ TB, good57 b := g.2.1.2.2.2.2
 have wW := g.2.2.2
 have p1 := wfu8 g1
 have p2 := wfu8 g2
 have p3 := wfu8 g3
 suffices h : Ev (fun k => Qac.f k sa sr SB ta tr ts TB W a1 a2 a3) true from by
  obtain ⟨K, h⟩ := h
  exact ⟨K, h K (Nat.le_refl _)⟩
 unfold Qac.f
 obtain ⟨b, eb, qb⟩ := few16 sa sr SB ta tr ts TB W (by omega) (by omega) (by omega)
 refine Ev.then (Ev.val rfl) (Ev.pos rfl (Ev.then eb ?_))
 cases b with
 | false => exact Ev.neg (by simp) (j0s_true _ _ _ _ _ _ _ _ _ _ _)
 | true =>
  refine Ev.pos rfl ?_
  obtain ⟨⟨n1, n2, n3⟩, ⟨n4, n5, n6, n7⟩, n8, n9⟩ := qb rfl
  by_cases h1 : tr ≤ 0
  ·exact Ev.pos h1 (j0s_true _ _ _ _ _ _ _ _ _ _ _)
  ·by_cases h4 : ts ≥ 50
   ·exact Ev.neg h1 (Ev.pos h4 (j0s_true _ _ _ _ _ _ _ _ _ _ _))
   ·have hB : Bnd sr SB tr ts TB W := ⟨by omega, by omega, by omega, by omega, by omega, by omega, fun i hi => by have := n3 i hi; omega, fun i hi => by have := n7 i hi; omega, fun i hi => by have := n9 i hi; omega⟩
    obtain ⟨r, hr, hq⟩ := check_ev (sa := sa) (ta := ta) hB
    refine Ev.neg h1 (Ev.neg h4 (Ev.then (CheckS_ev hr) ?_))
    show Ev (fun k => Qac.j0 k a1 a2 a3 (r.f0 != 0) sa sr SB ta tr ts TB W) true
    by_cases h0 : r.f0 = 0
    ·rw [show (r.f0 != 0) = false by simp [h0]]
     obtain ⟨hO, _⟩ := hq h0
     have hne := hO.2.1.2.1
     have hts := hO.2.1.1.1
     have e1 : wrap64 a1 = a1 := w64i (by omega) (by omega)
     have e2 : wrap64 a2 = a2 := w64i (by omega) (by omega)
     have e3 : wrap64 a3 = a3 := w64i (by omega) (by omega)
     have q0 : 0 ≤ Int.tmod a3 tr := Int.tmod_nonneg _ p3.1
     have q1 : Int.tmod a3 tr < tr := Int.tmod_lt_of_pos _ (by omega)
     have i0 : 0 ≤ Int.tmod a1 (TB.length : Int) := Int.tmod_nonneg _ p1.1
     have i1 : Int.tmod a1 (TB.length : Int) < (TB.length : Int) := Int.tmod_lt_of_pos _ (by omega)
     obtain ⟨i, hi⟩ : ∃ i : Nat, Int.tmod a1 (TB.length : Int) = (i : Int) := ⟨(Int.tmod a1 (TB.length : Int)).toNat, by omega⟩
     rw [hi] at i0 i1
     generalize hqq : Int.tmod a3 tr = q at q0 q1
     have hcl := n7 i (by omega)
     obtain ⟨n, hn, hins⟩ := inserted_eq (Qad TB (i : Int)).f0 a2 p2.1 (by omega) ⟨18, 0, 0, 0, 0, 2 * ts + 1, 2 * q⟩
     have hl2 : ((Qad TB (i : Int)).f0.take n ++ (⟨18, 0, 0, 0, 0, 2 * ts + 1, 2 * q⟩ : S59) :: (Qad TB (i : Int)).f0.drop n).length ≤ 1000 := by
      rw [List.length_append, List.length_cons, List.length_take, List.length_drop]; omega
     obtain ⟨v, hv, hvq⟩ := moves_spec _ hl2
     obtain ⟨r', hr', hz, hf⟩ := spare_ok (sa := sa) (ta := ta) hB (by omega) (by omega) (by omega) (fun j hj => ⟨by have := n7 j hj; omega, fun m hm => by
      rw [rd57 TB j hj] at hm
      exact wf64 ((wT _ (List.getElem_mem hj)).1.2 m hm).2.2.2.2.2.1⟩) (fun j hj y hy => by
      rw [rd12 W j hj] at hy
      exact wf64 ((wW _ (List.getElem_mem hj)).2 y hy).2) hr h0 i (by omega) n q0 q1
     refine j0s_false a1 a2 a3 sa sr SB ta tr ts TB W i n hne (by rw [e1]; exact hi) (by omega) (by rw [e3, hqq]; exact w64i (by omega) (by omega)) (by rw [w64i (n := 2 * ts) (by omega) (by omega)]; exact w64i (by omega) (by omega)) (w64i (by omega) (by omega)) (by omega)
      (copy16 sa sr SB ta tr ts TB W (by omega) (by omega) (by omega) (fun i hi => by have := n3 i hi; omega) (fun i hi => by have := n7 i hi; omega) (fun i hi => by have := n9 i hi; omega)) (by rw [e2]; exact hins) hr' hv ?_
     by_cases hv64 : v ≤ 64
     ·rw [if_pos hv64]; exact hz (hvq.1 hv64)
     ·rw [if_neg hv64]; exact hf (fun h => hv64 (hvq.2 h))
    ·rw [show (r.f0 != 0) = true by simp [h0]]
     exact j0s_true _ _ _ _ _ _ _ _ _ _ _
end Go.Proofs.YtchpkjgibloleaaGreat.Z
