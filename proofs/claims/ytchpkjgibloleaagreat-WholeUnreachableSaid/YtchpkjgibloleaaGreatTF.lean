/- TF -/
import Derived.Test.YtchpkjgibloleaaGreatTE
import Derived.Test.YtchpkjgibloleaaGreatTB
import Derived.Test.YtchpkjgibloleaaGreatTD
import Derived.Test.YtchpkjgibloleaaGreatTA
namespace Go.Proofs.YtchpkjgibloleaaGreat.Z
set_option maxRecDepth 100000
set_option maxHeartbeats 8000000
open Go.RowKit Go.Proofs.YtchpkjgibloleaaGreatW.PrintWords Go.Proofs.YtchpkjgibloleaaGreatW.PrintLast Go.Proofs.YtchpkjgibloleaaGreatW.PrintMore
set_option linter.unusedVariables false
set_option linter.unusedSimpArgs false
theorem An.loop2 {L : Nat → Int → Option Int} {n : Nat} {P : Nat → Prop} (hp : ∀ i : Nat, i < n → P i → ∀ r, Ev (fun k => L k ((i + 1 : Nat) : Int)) r → Ev (fun k => L k (i : Int)) r)
    (hq : ∀ i : Nat, i < n → ¬ P i → ∃ e, e ≠ 0 ∧ Ev (fun k => L k (i : Int)) e) (he : Ev (fun k => L k (n : Int)) 0) : An (fun k => L k 0) (∀ i, i < n → P i) := by
 have go : ∀ m i, n - i = m → i ≤ n → An (fun k => L k (i : Int)) (∀ j, i ≤ j → j < n → P j) := by
  intro m
  induction m with
  | zero =>
   intro i hm hi
   obtain rfl : i = n := by omega
   exact ⟨0, he, ⟨fun _ j h1 h2 => by omega, fun _ => rfl⟩⟩
  | succ m ih =>
   intro i hm hi
   by_cases h : P i
   ·obtain ⟨r, hr, hx⟩ := ih (i + 1) (by omega) (by omega)
    refine ⟨r, hp i (by omega) h r hr, hx.trans ⟨fun h' j h1 h2 => ?_, fun h' j h1 h2 => h' j (by omega) h2⟩⟩
    rcases Nat.eq_or_lt_of_le h1 with rfl | h3
    ·exact h
    ·exact h' j h3 h2
   ·obtain ⟨e, h0, hr⟩ := hq i (by omega) h
    exact ⟨e, hr, ⟨fun x => absurd x h0, fun x => absurd (x i (by omega) (by omega)) h⟩⟩
 obtain ⟨r, hr, hx⟩ := go n 0 (by omega) (by omega)
 exact ⟨r, hr, hx.trans ⟨fun h j hj => h j (by omega) hj, fun h j _ hj => h j hj⟩⟩
def ltP (p q : S47) : Prop := Qa3.f p.f0 p.f1 q.f0 q.f1 = some true
theorem lt_ab (p q : S47) : Ab (fun _ => Qa3.f p.f0 p.f1 q.f0 q.f1) (ltP p q) := Ab.of (by unfold Qa3.f; split; exact ⟨_, rfl⟩; split <;> exact ⟨_, rfl⟩)
def okPair (l : List S47) (m r s : Int) (i : Nat) : Prop := (0 ≤ (Qaa l (i : Int)).f0 ∧ (Qaa l (i : Int)).f0 < m) ∧ okLoc (Qaa l (i : Int)).f1 r s ∧ (0 < i → ltP (Qaa l ((i - 1 : Nat) : Int)) (Qaa l (i : Int)))
theorem pairs_an (l : List S47) (m r s : Int) (hl : l.length ≤ 1000) : An (fun k => Qaq.f k l m r s) (∀ i, i < l.length → okPair l m r s i) := by
 have j2t : ∀ i : Int, Ev (fun k => Qaq.j2 k l m r s l (l.length : Int) i true) 13 := fun i => ⟨1, fun n hn => by obtain ⟨m, rfl⟩ : ∃ m, n = m + 1 := ⟨n - 1, by omega⟩; rfl⟩
 have j2f : ∀ (i : Nat) (x : Int), i < l.length → Ev (fun k => Qaq.l0 k l m r s l (l.length : Int) ((i + 1 : Nat) : Int)) x → Ev (fun k => Qaq.j2 k l m r s l (l.length : Int) (i : Int) false) x := fun i x hi hx =>
  Ev.up (g := fun k => _) (fun k => by rw [Qaq.j2]) (Ev.neg (c := false = true) (by simp) (by rw [w64s (n := l.length) (by omega) hi]; exact hx))
 have j1t : ∀ (i : Int) (a b : Int), Ev (fun k => Qaq.j1 k l m r s i l (l.length : Int) i true a b) 9 := fun i a b => ⟨1, fun n hn => by obtain ⟨m, rfl⟩ : ∃ m, n = m + 1 := ⟨n - 1, by omega⟩; rfl⟩
 have head : ∀ (i : Nat) (x : Int), i < l.length → Ev (fun k => Qaq.j1 k l m r s (i : Int) l (l.length : Int) (i : Int) (!decide (0 ≤ (Qaa l (i : Int)).f0 ∧ (Qaa l (i : Int)).f0 < m)) ((Qaa l (i : Int)).f0) ((Qaa l (i : Int)).f1)) x → Ev (fun k => Qaq.l0 k l m r s l (l.length : Int) (i : Int)) x := by
  intro i x hi hx
  refine Ev.up (g := fun k => _) (fun k => by rw [Qaq.l0]) (Ev.pos (by omega) (Ev.pos (by omega) (Ev.pos (by omega) ?_)))
  by_cases h0 : (Qaa l (i : Int)).f0 < 0
  ·rw [decide_eq_false (by omega)] at hx
   exact Ev.pos h0 hx
  ·refine Ev.neg h0 ?_
   have : decide ((Qaa l (i : Int)).f0 ≥ m) = !decide (0 ≤ (Qaa l (i : Int)).f0 ∧ (Qaa l (i : Int)).f0 < m) := by rw [← decide_not]; exact decide_eq_decide.2 (by omega)
   rw [this]; exact hx
 refine An.loop2 (L := fun k i => Qaq.l0 k l m r s l (l.length : Int) i) (fun i hi hP x hx => ?_) (fun i hi hP => ?_) ?_
 ·refine head i x hi ?_
  rw [decide_eq_true hP.1]
  obtain ⟨t, ht, hq⟩ := loc_ab (Qaa l (i : Int)).f1 r s
  have htt : t = true := hq.2 hP.2.1
  refine Ev.up (g := fun k => _) (fun k => by rw [Qaq.j1]) (Ev.neg (by simp) (Ev.then ht (Ev.pos htt ?_)))
  by_cases h0 : 0 < i
  ·have hw : wrap64 ((i : Int) - 1) = ((i - 1 : Nat) : Int) := by rw [w64i (by omega) (by omega)]; omega
   obtain ⟨u, hu, hv⟩ := lt_ab (Qaa l ((i - 1 : Nat) : Int)) (Qaa l (i : Int))
   have huu : u = true := hv.2 (hP.2.2 h0)
   rw [hw]
   refine Ev.pos (by omega) (Ev.pos (by omega) (Ev.pos (by omega) (Ev.then hu ?_)))
   rw [huu]; exact j2f i x hi hx
  ·exact Ev.neg (by omega) (j2f i x hi hx)
 ·by_cases h1 : 0 ≤ (Qaa l (i : Int)).f0 ∧ (Qaa l (i : Int)).f0 < m
  ·obtain ⟨t, ht, hq⟩ := loc_ab (Qaa l (i : Int)).f1 r s
   cases t with
   | false =>
    refine ⟨10, by decide, head i 10 hi ?_⟩
    rw [decide_eq_true h1]
    exact Ev.up (g := fun k => _) (fun k => by rw [Qaq.j1]) (Ev.neg (by simp) (Ev.then ht (Ev.neg (c := false = true) (by simp) (Ev.val rfl))))
   | true =>
    have h0 : 0 < i := Nat.pos_of_ne_zero fun h => hP ⟨h1, hq.1 rfl, fun h' => absurd h' (by omega)⟩
    have hw : wrap64 ((i : Int) - 1) = ((i - 1 : Nat) : Int) := by rw [w64i (by omega) (by omega)]; omega
    obtain ⟨u, hu, hv⟩ := lt_ab (Qaa l ((i - 1 : Nat) : Int)) (Qaa l (i : Int))
    have huu : u = false := Bool.eq_false_iff.2 fun h => hP ⟨h1, hq.1 rfl, fun _ => hv.1 h⟩
    refine ⟨13, by decide, head i 13 hi ?_⟩
    rw [decide_eq_true h1]
    refine Ev.up (g := fun k => _) (fun k => by rw [Qaq.j1]) (Ev.neg (by simp) (Ev.then ht (Ev.pos rfl ?_)))
    rw [hw]
    refine Ev.pos (by omega) (Ev.pos (by omega) (Ev.pos (by omega) (Ev.then hu ?_)))
    rw [huu]; exact j2t _
  ·refine ⟨9, by decide, head i 9 hi ?_⟩
   rw [decide_eq_false h1]
   exact j1t _ _ _
 ·exact Ev.up (g := fun k => _) (fun k => by rw [Qaq.l0]) (Ev.neg (by omega) (Ev.val rfl))
theorem tot_ev (l : List (List S47)) (hl : l.length ≤ 1000) (hc : ∀ i : Nat, i < l.length → (Qa4 l (i : Int)).length ≤ 1000) : ∃ v, Ev (fun k => edge_total.f k l) v ∧ 0 ≤ v ∧ v ≤ 1000 * l.length :=
 sum_loop (L := fun k s i => edge_total.l0 k s l (l.length : Int) i) (n := l.length) (x := fun i => (Qa4 l (i : Int)).length) hl hc (fun k i s => rfl)
def okRow (l : List S47) (m r s : Int) : Prop := ∀ i, i < l.length → okPair l m r s i
def okEdges (l : List (List S47)) (n m r s : Int) : Prop := (l.length : Int) = n ∧ ∀ i : Nat, i < l.length → okRow (Qa4 l (i : Int)) m r s
theorem eValid (l : List (List S47)) (n m r s : Int) (hl : l.length ≤ 1000) (hc : ∀ i : Nat, i < l.length → (Qa4 l (i : Int)).length ≤ 1000) : An (fun k => edge_Valid.f k l n m r s) (okEdges l n m r s) := by
 obtain ⟨v, hv, hv0, hv1⟩ := tot_ev l hl hc
 obtain ⟨x, hx, hq⟩ := An.loop (L := fun k i => edge_Valid.l0 k m r s l (l.length : Int) i) (n := l.length) (by omega) (fun k i => rfl) (fun i hi => pairs_an _ m r s (hc i hi)) An.zero
 unfold edge_Valid.f okEdges
 by_cases h : (l.length : Int) = n
 ·exact ⟨x, Ev.pos h (Ev.then hv (Ev.neg (by omega) hx)), hq.trans ⟨fun y => ⟨h, y.1⟩, fun y => ⟨y.2, trivial⟩⟩⟩
 ·exact ⟨14, Ev.neg h (Ev.val rfl), ⟨fun y => by simp at y, fun y => absurd y.1 h⟩⟩
def okAll (sa sr : Int) (SB : List S39) (ta tr ts : Int) (TB : List S57) (W : List (List S47)) : Prop := okSrc sa sr SB ∧ okMach ta tr ts TB ∧ ((SB.length : Int) = (TB.length : Int) ∧ sa = ta) ∧ okEdges W SB.length sr tr ts
theorem cValid (sa sr : Int) (SB : List S39) (ta tr ts : Int) (TB : List S57) (W : List (List S47)) (h1 : sr ≤ 1000) (h2 : tr ≤ 1000) (h3 : ts ≤ 1000) (l1 : SB.length ≤ 1000) (l2 : TB.length ≤ 1000) (l3 : W.length ≤ 1000)
    (c1 : ∀ i : Nat, i < SB.length → (Qap SB (i : Int)).f0.length ≤ 1000) (c2 : ∀ i : Nat, i < TB.length → (Qam TB (i : Int)).f0.length ≤ 1000) (c3 : ∀ i : Nat, i < W.length → (Qa4 W (i : Int)).length ≤ 1000) :
    An (fun k => Qba.f k sa sr SB ta tr ts TB W) (okAll sa sr SB ta tr ts TB W) := by
 unfold Qba.f okAll
 refine An.seq (srcCheck sa sr SB h1 l1 c1) fun _ => An.seq (mCheck ta tr ts TB h2 h3 l2 c2) fun _ => ?_
 have j0t : Ev (fun k => Qba.j0 k true sa sr SB ta tr ts TB W) 14 := ⟨1, fun n hn => by obtain ⟨m, rfl⟩ : ∃ m, n = m + 1 := ⟨n - 1, by omega⟩; rfl⟩
 by_cases h : (SB.length : Int) = (TB.length : Int)
 ·by_cases ha : sa = ta
  ·obtain ⟨x, hx, hq⟩ := eValid W SB.length sr tr ts l3 c3
   refine ⟨x, Ev.pos h (Ev.up (g := fun k => _) (fun k => by rw [Qba.j0]) (Ev.neg (by simp [ha]) (Ev.then hx (Ev.val rfl)))), hq.trans ⟨fun y => ⟨⟨h, ha⟩, y⟩, fun y => y.2⟩⟩
  ·have hb : (sa != ta) = true := by simp [ha]
   exact ⟨14, Ev.pos h (by rw [hb]; exact j0t), ⟨fun y => by simp at y, fun y => absurd y.1.2 ha⟩⟩
 ·exact ⟨14, Ev.neg h j0t, ⟨fun y => by simp at y, fun y => absurd y.1.1 h⟩⟩
theorem miss_ev (l1 l9 : List S47) (h1 : l1.length ≤ 100000000) (h9 : l9.length ≤ 100000000) : ∀ m (j i : Nat), (l9.length - i) + (l1.length - j) = m → j ≤ l1.length → i ≤ l9.length →
    (i < l9.length → ∃ r, Ev (fun k => Qab.l1 k l1 (j : Int) l9 (l9.length : Int) (i : Int) (Qaa l9 (i : Int)).f0 (Qaa l9 (i : Int)).f1) r) ∧ ∃ r, Ev (fun k => Qab.l0 k l1 (j : Int) l9 (l9.length : Int) (i : Int)) r := by
 intro m
 induction m using Nat.strongRecOn with
 | _ m ih =>
  intro j i hm hj hi
  have key : i < l9.length → ∃ r, Ev (fun k => Qab.l1 k l1 (j : Int) l9 (l9.length : Int) (i : Int) (Qaa l9 (i : Int)).f0 (Qaa l9 (i : Int)).f1) r := by
   intro hlt
   have j3 : ∀ b, ∃ r, Ev (fun k => Qab.j3 k l1 (j : Int) l9 (l9.length : Int) (i : Int) b (Qaa l9 (i : Int)).f0 (Qaa l9 (i : Int)).f1) r := by
    intro b
    cases b with
    | true => exact ⟨_, Ev.up (g := fun k => _) (fun k => by rw [Qab.j3]) (Ev.pos (c := true = true) rfl (Ev.val rfl))⟩
    | false =>
     obtain ⟨r, hr⟩ := (ih _ (by omega) j (i + 1) rfl hj (by omega)).2
     exact ⟨r, Ev.up (g := fun k => _) (fun k => by rw [Qab.j3]) (Ev.neg (c := false = true) (by simp) (by rw [w64s (n := l9.length) (by omega) hlt]; exact hr))⟩
   by_cases hjl : j < l1.length
   ·obtain ⟨t, ht, _⟩ := lt_ab (Qaa l1 (j : Int)) (Qaa l9 (i : Int))
    have : ∃ r, Ev (fun k => Qab.j2 k l1 (j : Int) l9 (l9.length : Int) (i : Int) t (Qaa l9 (i : Int)).f0 (Qaa l9 (i : Int)).f1) r := by
     cases t with
     | true =>
      obtain ⟨r, hr⟩ := (ih _ (by omega) (j + 1) i rfl (by omega) hi).1 hlt
      exact ⟨r, Ev.up (g := fun k => _) (fun k => by rw [Qab.j2]) (Ev.pos (c := true = true) rfl (by rw [w64s (n := l1.length) (by omega) hjl]; exact hr))⟩
     | false =>
      obtain ⟨r, hr⟩ := j3 (!(((Qaa l1 (j : Int)).f0) == (Qaa l9 (i : Int)).f0) || (!(((Qaa l1 (j : Int)).f1) == (Qaa l9 (i : Int)).f1)))
      exact ⟨r, Ev.up (g := fun k => _) (fun k => by rw [Qab.j2]) (Ev.neg (c := false = true) (by simp) (Ev.neg (by omega) (Ev.pos (by omega) (Ev.pos (by omega) hr))))⟩
    obtain ⟨r, hr⟩ := this
    exact ⟨r, Ev.up (g := fun k => _) (fun k => by rw [Qab.l1]) (Ev.pos (by omega) (Ev.pos (by omega) (Ev.then ht hr)))⟩
   ·obtain ⟨r, hr⟩ := j3 true
    exact ⟨r, Ev.up (g := fun k => _) (fun k => by rw [Qab.l1]) (Ev.neg (by omega) (Ev.up (g := fun k => _) (fun k => by rw [Qab.j2]) (Ev.neg (c := false = true) (by simp) (Ev.pos (by omega) hr))))⟩
  refine ⟨key, ?_⟩
  by_cases hlt : i < l9.length
  ·obtain ⟨r, hr⟩ := key hlt
   exact ⟨r, Ev.up (g := fun k => _) (fun k => by rw [Qab.l0]) (Ev.pos (by omega) (Ev.pos (by omega) (Ev.pos (by omega) hr)))⟩
  ·exact ⟨_, Ev.up (g := fun k => _) (fun k => by rw [Qab.l0]) (Ev.neg (by omega) (Ev.val rfl))⟩
theorem implies_ev (a b : List S47) (ha : a.length ≤ 100000000) (hb : b.length ≤ 100000000) : ∃ r, Ev (fun k => edge_Implies.f k a b) r := by
 obtain ⟨r, hr⟩ := (miss_ev a b ha hb _ 0 0 rfl (by omega) (by omega)).2
 unfold edge_Implies.f
 by_cases h : r.2.2 = true
 ·exact ⟨_, Ev.then hr (Ev.pos h (Ev.val rfl))⟩
 ·exact ⟨_, Ev.then hr (Ev.neg h (Ev.val rfl))⟩
theorem initial_some (a b n : Int) : ∃ t, edge_Initial.f a b n = some t := by
 unfold edge_Initial.f location_Slot.f Qav.f Qbc.f
 simp only [Option.bind_some]
 split
 ·exact ⟨_, rfl⟩
 ·split <;> exact ⟨_, rfl⟩
theorem entry_ev (l : List S47) (n : Int) (h : l.length ≤ 100000000) : ∃ r, Ev (fun k => edge_Entry.f k l n) r := by
 have go : ∀ m i : Nat, l.length - i = m → i ≤ l.length → ∃ r, Ev (fun k => edge_Entry.l0 k n l (l.length : Int) (i : Int)) r := by
  intro m
  induction m with
  | zero => exact fun i hm hi => ⟨_, Ev.up (g := fun k => _) (fun k => by rw [edge_Entry.l0]) (Ev.neg (by omega) (Ev.val rfl))⟩
  | succ m ih =>
   intro i hm hi
   obtain ⟨t, ht⟩ := initial_some (Qaa l (i : Int)).f0 (Qaa l (i : Int)).f1 n
   have ht' : Ev (fun _ => edge_Initial.f (Qaa l (i : Int)).f0 (Qaa l (i : Int)).f1 n) t := ⟨0, fun _ _ => ht⟩
   cases t with
   | true =>
    obtain ⟨r, hr⟩ := ih (i + 1) (by omega) (by omega)
    exact ⟨r, Ev.up (g := fun k => _) (fun k => by rw [edge_Entry.l0]) (Ev.pos (by omega) (Ev.pos (by omega) (Ev.pos (by omega) (Ev.then ht' (Ev.pos (c := true = true) (f := fun k => edge_Entry.l0 k n l (l.length : Int) (wrap64 ((i : Int) + 1))) (g := fun _ => some ((Qaa l (i : Int)).f0, (Qaa l (i : Int)).f1, 23)) rfl (by rw [w64s (n := l.length) (by omega) (by omega)]; exact hr))))))⟩
   | false => exact ⟨_, Ev.up (g := fun k => _) (fun k => by rw [edge_Entry.l0]) (Ev.pos (by omega) (Ev.pos (by omega) (Ev.pos (by omega) (Ev.then ht' (Ev.neg (c := false = true) (by simp) (Ev.val rfl))))))⟩
 exact go _ 0 rfl (by omega)
theorem begin_ev (sa sr : Int) (SB : List S39) (ta tr ts : Int) (TB : List S57) (W : List (List S47)) (h : W.length ≤ 1000) (h0 : 0 < W.length) (hc : ∀ i : Nat, i < W.length → (Qa4 W (i : Int)).length ≤ 1000) :
    ∃ e x, Ev (fun k => edge_Entry.f k (Qa4 W 0) sa) e ∧ Ev (fun k => Qa1.f k sa sr SB ta tr ts TB W) (e.2.2, 0, 0, 0, 0, wrap64 (1 + ((Qa4 W 0).length : Int)), x) := by
 obtain ⟨e, he⟩ := entry_ev (Qa4 W 0) sa (by have := hc 0 h0; have e : ((0 : Nat) : Int) = 0 := rfl; rw [e] at this; omega)
 have go : ∀ (b1 b2 b3 b4 b5 b0 : Int) (m i : Nat) (x : Int), W.length - i = m → i ≤ W.length → ∃ y, Ev (fun k => Qa1.l0 k W (W.length : Int) (i : Int) sa sr SB ta tr ts TB W b0 b1 b2 b3 b4 b5 x) (e.2.2, b1, b2, b3, b4, b5, y) := by
  intro b1 b2 b3 b4 b5 b0 m
  induction m with
  | zero => exact fun i x hm hi => ⟨x, Ev.up (g := fun k => _) (fun k => by rw [Qa1.l0]) (Ev.neg (by omega) (Ev.pos (by omega) (Ev.then he (Ev.val rfl))))⟩
  | succ m ih =>
   intro i x hm hi
   obtain ⟨y, hy⟩ := ih (i + 1) (mx x ((Qa4 W (i : Int)).length : Int)) (by omega) (by omega)
   exact ⟨y, Ev.up (g := fun k => _) (fun k => by rw [Qa1.l0]) (Ev.pos (by omega) (Ev.pos (by omega) (Ev.pos (by omega) (by rw [w64s (n := W.length) (by omega) (by omega)]; exact hy))))⟩
 obtain ⟨y, hy⟩ := go 0 0 0 0 (wrap64 (1 + ((Qa4 W 0).length : Int))) 0 _ 0 0 rfl (by omega)
 exact ⟨e, y, he, by unfold Qa1.f; exact Ev.pos (by omega) hy⟩
theorem mid_eq (lo hi : Nat) (h : lo ≤ hi) (hh : hi ≤ 100000000) : wrap64 ((lo : Int) + wrap64 (Int.tdiv (wrap64 ((hi : Int) - (lo : Int))) 2)) = ((lo + (hi - lo) / 2 : Nat) : Int) := by
 rw [w64i (n := (hi : Int) - lo) (by omega) (by omega), Int.tdiv_eq_ediv_of_nonneg (by omega), w64i (n := ((hi : Int) - lo) / 2) (by omega) (by omega), w64i (by omega) (by omega)]; omega
theorem find_ev (l : List S47) (a b : Int) (hl : l.length ≤ 100000000) : ∀ m (lo hi : Nat), hi - lo = m → lo ≤ hi → hi ≤ l.length → ∃ r : Nat, r ≤ l.length ∧ Ev (fun k => Qas.l0 k l (lo : Int) (hi : Int) a b) (r : Int) := by
 intro m
 induction m using Nat.strongRecOn with
 | _ m ih =>
  intro lo hi hm h1 h2
  by_cases h : lo < hi
  ·have hd : lo + (hi - lo) / 2 < hi := by omega
   obtain ⟨t, ht, _⟩ := lt_ab (Qaa l ((lo + (hi - lo) / 2 : Nat) : Int)) ⟨a, b⟩
   cases t with
   | true =>
    obtain ⟨r, hr, hx⟩ := ih _ (by omega) (lo + (hi - lo) / 2 + 1) hi rfl (by omega) h2
    refine ⟨r, hr, Ev.up (g := fun k => _) (fun k => by rw [Qas.l0, mid_eq lo hi h1 (by omega)]) (Ev.pos (by omega) (Ev.pos (by omega) (Ev.pos (by omega) (Ev.then ht (Ev.pos (c := true = true) (g := fun _ => none) rfl ?_)))))⟩
    rw [w64s (n := hi) (by omega) hd]; exact hx
   | false =>
    obtain ⟨r, hr, hx⟩ := ih _ (by omega) lo (lo + (hi - lo) / 2) rfl (by omega) (by omega)
    exact ⟨r, hr, Ev.up (g := fun k => _) (fun k => by rw [Qas.l0, mid_eq lo hi h1 (by omega)]) (Ev.pos (by omega) (Ev.pos (by omega) (Ev.pos (by omega) (Ev.then ht (Ev.neg (c := false = true) (f := fun _ => none) (by simp) hx)))))⟩
  ·exact ⟨lo, by omega, Ev.up (g := fun k => _) (fun k => by rw [Qas.l0]) (Ev.neg (by omega) (Ev.val rfl))⟩
theorem has_ev (l : List S47) (a b : Int) (hl : l.length ≤ 100000000) : ∃ r, Ev (fun k => pairset_Has.f k l a b) r := by
 obtain ⟨r, hr, hx⟩ := find_ev l a b hl _ 0 l.length rfl (by omega) (by omega)
 unfold pairset_Has.f
 by_cases h : (r : Int) < (l.length : Int)
 ·exact ⟨_, Ev.then hx (Ev.pos h (Ev.pos (by omega) (Ev.val rfl)))⟩
 ·exact ⟨_, Ev.then hx (Ev.neg h (Ev.val rfl))⟩
theorem less_eq (p q : S47) : Qa3.f p.f0 p.f1 q.f0 q.f1 = some (Qcj p q) := by
 unfold Qa3.f Qcj lessI
 by_cases h1 : p.f0 < q.f0
 ·rw [if_pos h1]; simp [h1]
 ·rw [if_neg h1]
  by_cases h2 : p.f0 = q.f0
  ·rw [if_pos h2]; simp [h2]
  ·rw [if_neg h2]; simp [h1, h2]
theorem Qc9 {x y z : S47} (h1 : Qcj x y = true) (h2 : Qcj y z = true) : Qcj x z = true := by rw [Qdj] at *; omega
theorem rd47 (l : List S47) (i : Nat) (h : i < l.length) : Qaa l (i : Int) = l[i] := by
 show l.getD i z47 = _
 rw [List.getD_eq_getElem?_getD, List.getElem?_eq_getElem h]; rfl
theorem Asc.lt {l : List S47} (h : Asc l) {i j : Nat} (hij : i < j) (hj : j < l.length) : Qcj (Qaa l (i : Int)) (Qaa l (j : Int)) = true := by
 rw [rd47 l i (by omega), rd47 l j hj]; exact List.pairwise_iff_getElem.1 h i j (by omega) hj hij
theorem find_spec (l : List S47) (x : S47) (hl : l.length ≤ 100000000) (hA : Asc l) : ∀ m (lo hi : Nat), hi - lo = m → lo ≤ hi → hi ≤ l.length → (∀ i : Nat, i < lo → Qcj (Qaa l (i : Int)) x = true) → (∀ i : Nat, hi ≤ i → i < l.length → Qcj (Qaa l (i : Int)) x = false) →
    ∃ r : Nat, r ≤ l.length ∧ Ev (fun k => Qas.l0 k l (lo : Int) (hi : Int) x.f0 x.f1) (r : Int) ∧ (∀ i : Nat, i < r → Qcj (Qaa l (i : Int)) x = true) ∧ (∀ i : Nat, r ≤ i → i < l.length → Qcj (Qaa l (i : Int)) x = false) := by
 intro m
 induction m using Nat.strongRecOn with
 | _ m ih =>
  intro lo hi hm h1 h2 hlo hhi
  by_cases h : lo < hi
  ·have hd : lo + (hi - lo) / 2 < hi := by omega
   have ht : Ev (fun _ : Nat => Qa3.f (Qaa l ((lo + (hi - lo) / 2 : Nat) : Int)).f0 (Qaa l ((lo + (hi - lo) / 2 : Nat) : Int)).f1 x.f0 x.f1) (Qcj (Qaa l ((lo + (hi - lo) / 2 : Nat) : Int)) x) := ⟨0, fun _ _ => less_eq _ _⟩
   cases hb : Qcj (Qaa l ((lo + (hi - lo) / 2 : Nat) : Int)) x with
   | true =>
    rw [hb] at ht
    obtain ⟨r, hr, hx, h3, h4⟩ := ih _ (by omega) (lo + (hi - lo) / 2 + 1) hi rfl (by omega) h2 (fun i hi' => by
     rcases Nat.lt_or_eq_of_le (Nat.le_of_lt_succ hi') with h5 | h5
     ·exact Qc9 (hA.lt h5 (by omega)) hb
     ·rw [h5]; exact hb) hhi
    refine ⟨r, hr, Ev.up (g := fun k => _) (fun k => by rw [Qas.l0, mid_eq lo hi h1 (by omega)]) (Ev.pos (by omega) (Ev.pos (by omega) (Ev.pos (by omega) (Ev.then ht (Ev.pos (c := true = true) (g := fun _ => none) rfl ?_))))), h3, h4⟩
    rw [w64s (n := hi) (by omega) hd]; exact hx
   | false =>
    rw [hb] at ht
    obtain ⟨r, hr, hx, h3, h4⟩ := ih _ (by omega) lo (lo + (hi - lo) / 2) rfl (by omega) (by omega) hlo (fun i hi' hil => by
     rcases Nat.lt_or_eq_of_le hi' with h5 | h5
     ·cases h6 : Qcj (Qaa l (i : Int)) x with
      | false => rfl
      | true => rw [Qc9 (hA.lt h5 hil) h6] at hb; cases hb
     ·rw [← h5]; exact hb)
    exact ⟨r, hr, Ev.up (g := fun k => _) (fun k => by rw [Qas.l0, mid_eq lo hi h1 (by omega)]) (Ev.pos (by omega) (Ev.pos (by omega) (Ev.pos (by omega) (Ev.then ht (Ev.neg (c := false = true) (f := fun _ => none) (by simp) hx))))), h3, h4⟩
  ·obtain rfl : lo = hi := by omega
   exact ⟨lo, by omega, Ev.up (g := fun k => _) (fun k => by rw [Qas.l0]) (Ev.neg (by omega) (Ev.val rfl)), hlo, hhi⟩
def At (l : List S47) (x : S47) (r : Nat) : Prop := r ≤ l.length ∧ (∀ i : Nat, i < r → Qcj (Qaa l (i : Int)) x = true) ∧ (∀ i : Nat, r ≤ i → i < l.length → Qcj (Qaa l (i : Int)) x = false)
theorem find_at (l : List S47) (x : S47) (hl : l.length ≤ 100000000) (hA : Asc l) : ∃ r, At l x r ∧ Ev (fun k => Qas.f k l x.f0 x.f1) (r : Int) := by
 obtain ⟨r, h0, h1, h2, h3⟩ := find_spec l x hl hA _ 0 l.length rfl (by omega) (by omega) (fun i hi => by omega) (fun i hi h => by omega)
 exact ⟨r, ⟨h0, h2, h3⟩, h1⟩
theorem lessB_irrefl (x : S47) : Qcj x x = false := by rw [Qd9]; omega
theorem lessB_tot {x y : S47} (h : Qcj y x = false) (hne : y ≠ x) : Qcj x y = true := by
 cases h2 : Qcj x y with
 | true => rfl
 | false => exact absurd (tot47 y x ((lt47 y x).trans h) ((lt47 x y).trans h2)) hne
theorem At.mem {l : List S47} {x : S47} {r : Nat} (h : At l x r) (hA : Asc l) : x ∈ l ↔ r < l.length ∧ Qaa l (r : Int) = x := by
 constructor
 ·intro hx
  obtain ⟨i, hi, rfl⟩ := List.mem_iff_getElem.1 hx
  have hir : r ≤ i := Nat.le_of_not_lt fun hlt => by
   have := h.2.1 i hlt
   rw [rd47 l i hi, lessB_irrefl] at this; cases this
  rcases Nat.eq_or_lt_of_le hir with rfl | hlt
  ·exact ⟨hi, rd47 l r hi⟩
  ·have h1 := h.2.2 r (Nat.le_refl _) (by omega)
   have h2 := hA.lt hlt hi
   rw [rd47 l i hi] at h2
   rw [h1] at h2; cases h2
 ·rintro ⟨h1, h2⟩
  rw [rd47 l r h1] at h2
  exact h2 ▸ List.getElem_mem h1
end Go.Proofs.YtchpkjgibloleaaGreat.Z
namespace Go.Proofs.YtchpkjgibloleaaGreat.Z
set_option maxRecDepth 100000
set_option maxHeartbeats 8000000
open Go.RowKit Go.Proofs.YtchpkjgibloleaaGreatW.PrintWords Go.Proofs.YtchpkjgibloleaaGreatW.PrintLast Go.Proofs.YtchpkjgibloleaaGreatW.PrintMore
set_option linter.unusedVariables false
set_option linter.unusedSimpArgs false
theorem At.take {l : List S47} {x : S47} {r : Nat} (h : At l x r) {y : S47} (hy : y ∈ l.take r) : Qcj y x = true := by
 obtain ⟨i, hi, rfl⟩ := List.mem_iff_getElem.1 hy
 have h1 := hi
 rw [List.length_take] at h1
 have h2 : i < l.length := by omega
 have := h.2.1 i (by omega)
 rw [rd47 l i h2] at this
 rw [List.getElem_take]; exact this
theorem At.drop {l : List S47} {x : S47} {r : Nat} (h : At l x r) {y : S47} (hy : y ∈ l.drop r) : Qcj y x = false := by
 obtain ⟨i, hi, rfl⟩ := List.mem_iff_getElem.1 hy
 have h1 := hi
 rw [List.length_drop] at h1
 have h2 : r + i < l.length := by omega
 have := h.2.2 (r + i) (by omega) h2
 rw [rd47 l (r + i) h2] at this
 rw [List.getElem_drop]; exact this
theorem asc_join {a b : List S47} (ha : Asc a) (hb : Asc b) (h : ∀ x ∈ a, ∀ y ∈ b, Qcj x y = true) : Asc (a ++ b) := List.pairwise_append.2 ⟨ha, hb, h⟩
theorem asc_one (x : S47) : Asc [x] := List.pairwise_singleton _ _
theorem Asc.sub {a b : List S47} (h : Asc b) (s : List.Sublist a b) : Asc a := List.Pairwise.sublist s h
theorem add_j0t (k : Nat) (l : List S47) (t : Int) (y : List S47) : Qaf.j0 (k + 1) l t y true = (if 0 ≤ wrap64 (t + 1) then (if wrap64 (t + 1) ≤ (l.length : Int) then (if y.length + (l.drop (wrap64 (t + 1)).toNat).length < 8796093022208 then some (y ++ l.drop (wrap64 (t + 1)).toNat) else none) else none) else none) := by
 rw [Qaf.j0]; rfl
theorem add_j0f (k : Nat) (l : List S47) (t : Int) (y : List S47) : Qaf.j0 (k + 1) l t y false = (if 0 ≤ t then (if t ≤ (l.length : Int) then (if y.length + (l.drop t.toNat).length < 8796093022208 then some (y ++ l.drop t.toNat) else none) else none) else none) := by
 rw [Qaf.j0]; rfl
theorem add_j0 (l y : List S47) (t : Nat) (b : Bool) (hl : l.length ≤ 100000000) (hy : y.length ≤ 200000000) (ht : t ≤ l.length) (hb : b = true → t < l.length) : Ev (fun k => Qaf.j0 k l (t : Int) y b) (y ++ l.drop (if b = true then t + 1 else t)) := by
 refine ⟨1, fun n hn => ?_⟩
 obtain ⟨m, rfl⟩ : ∃ m, n = m + 1 := ⟨n - 1, by omega⟩
 cases b with
 | true =>
  have := hb rfl
  show Qaf.j0 (m + 1) l (t : Int) y true = _
  rw [add_j0t, w64s (n := l.length) (by omega) this, if_pos (by omega), if_pos (by omega), if_pos (by rw [List.length_drop]; omega)]; rfl
 | false =>
  show Qaf.j0 (m + 1) l (t : Int) y false = _
  rw [add_j0f, if_pos (by omega), if_pos (by omega), if_pos (by rw [List.length_drop]; omega)]; rfl
theorem add_spec (l : List S47) (x : S47) (hl : l.length ≤ 50000000) (hA : Asc l) : ∃ r, Ev (fun k => Qaf.f k l x.f0 x.f1) r ∧ Asc r ∧ r.length ≤ l.length + 1 ∧ ∀ y, y ∈ r ↔ y = x ∨ y ∈ l := by
 obtain ⟨t, ht, hx⟩ := find_at l x (by omega) hA
 have hb : ∀ b : Bool, (b = true ↔ (t < l.length ∧ Qaa l (t : Int) = x)) → ∃ r, Ev (fun k => Qaf.j0 k l (t : Int) (l.take t ++ [x]) b) r ∧ Asc r ∧ r.length ≤ l.length + 1 ∧ ∀ y, y ∈ r ↔ y = x ∨ y ∈ l := by
  intro b hb
  refine ⟨_, add_j0 l _ t b (by omega) (by rw [List.length_append, List.length_take, List.length_singleton]; omega) ht.1 (fun h => (hb.1 h).1), ?_⟩
  cases b with
  | true =>
   obtain ⟨h1, h2⟩ := hb.1 rfl
   rw [rd47 l t h1] at h2
   have e : l.take t ++ [x] = l.take (t + 1) := by rw [List.take_add_one, List.getElem?_eq_getElem h1, h2]; rfl
   simp only [if_true]
   rw [e, List.take_append_drop]
   exact ⟨hA, by omega, fun y => ⟨fun h => Or.inr h, fun h => h.elim (fun h => by rw [h, ← h2]; exact List.getElem_mem h1) id⟩⟩
  | false =>
   have hn : x ∉ l := fun h => by have := hb.2 ((ht.mem hA).1 h); cases this
   simp only [Bool.false_eq_true, if_false]
   have hd : ∀ y ∈ l.drop t, Qcj x y = true := fun y hy => lessB_tot (ht.drop hy) fun e => hn (e ▸ List.mem_of_mem_drop hy)
   refine ⟨asc_join (asc_join (hA.sub (List.take_sublist _ _)) (asc_one x) fun a ha b hb => ?_) (hA.sub (List.drop_sublist _ _)) fun a ha b hb => ?_, ?_, fun y => ?_⟩
   ·rw [List.mem_singleton] at hb; rw [hb]; exact ht.take ha
   ·rcases List.mem_append.1 ha with h | h
    ·exact Qc9 (ht.take h) (hd b hb)
    ·rw [List.mem_singleton] at h; rw [h]; exact hd b hb
   ·simp only [List.length_append, List.length_take, List.length_drop, List.length_singleton]; have := ht.1; omega
   ·have : y ∈ l ↔ y ∈ l.take t ∨ y ∈ l.drop t := by rw [← List.mem_append, List.take_append_drop]
    rw [this]
    simp only [List.mem_append, List.mem_singleton]
    constructor
    ·rintro ((h | h) | h)
     ·exact Or.inr (Or.inl h)
     ·exact Or.inl h
     ·exact Or.inr (Or.inr h)
    ·rintro (h | h | h)
     ·exact Or.inl (Or.inr h)
     ·exact Or.inl (Or.inl h)
     ·exact Or.inr h
 have htl := ht.1
 unfold Qaf.f
 have hw : wrap64 ((l.length : Int) + 1) = (l.length : Int) + 1 := w64i (by omega) (by omega)
 have main : ∀ r, Ev (fun k => if (t : Int) < (l.length : Int) then Qaf.j0 k l (t : Int) (l.take t ++ [x]) ((Qaa l (t : Int)).f0 == x.f0 && ((Qaa l (t : Int)).f1 == x.f1)) else Qaf.j0 k l (t : Int) (l.take t ++ [x]) false) r → Ev (fun k => (Qas.f k l x.f0 x.f1).bind fun t139 => (if 0 ≤ (wrap64 ((l.length : Int) + 1)) then (if (wrap64 ((l.length : Int) + 1) : Int).toNat ≤ 17592186044416 then ((some ([] : List (S47))).bind fun y143 => (if 0 ≤ t139 then (if t139 ≤ (l.length : Int) then ((some (l.take (t139 : Int).toNat : List (S47))).bind fun y146 => (if y143.length + y146.length < 8796093022208 then ((some (y143 ++ y146 : List (S47))).bind fun y150 => ((some (([(⟨x.f0, x.f1⟩ : S47)] : List (S47)) : List (S47))).bind fun y153 => (if y150.length + y153.length < 8796093022208 then ((some (y150 ++ y153 : List (S47))).bind fun y156 => (if t139 < (l.length : Int) then (Qaf.j0 k l t139 y156 (((Qaa l t139).f0) == x.f0 && (((Qaa l t139).f1) == x.f1))) else (Qaf.j0 k l t139 y156 false))) else (none)))) else (none))) else (none)) else (none))) else (none)) else (none))) r := fun r h =>
  Ev.then hx (Ev.pos (by omega) (Ev.pos (by omega) (Ev.pos (by omega) (Ev.pos (by simp only [List.length_nil, List.length_take]; omega) (Ev.pos (by simp only [List.nil_append, List.length_take, List.length_singleton, Int.toNat_natCast]; omega) h)))))
 by_cases h : (t : Int) < (l.length : Int)
 ·obtain ⟨r, h1, h2⟩ := hb ((Qaa l (t : Int)).f0 == x.f0 && ((Qaa l (t : Int)).f1 == x.f1)) (by
    cases hq : Qaa l (t : Int); cases x
    simp; omega)
  exact ⟨r, main r (Ev.pos h h1), h2⟩
 ·obtain ⟨r, h1, h2⟩ := hb false (by simp; omega)
  exact ⟨r, main r (Ev.neg h h1), h2⟩
theorem Ev.upn {α : Type} {f g : Nat → Option α} {r : α} (m : Nat) (h : ∀ k, f (k + m) = g k) (k : Ev g r) : Ev f r := by
 obtain ⟨K, k⟩ := k
 exact ⟨K + m, fun n hn => by obtain ⟨i, rfl⟩ : ∃ i, n = i + m := ⟨n - m, by omega⟩; rw [h]; exact k i (by omega)⟩
theorem uni_end (k : Nat) (a b o : List S47) (h : a = [] ∨ b = []) (hl : o.length + a.length + b.length ≤ 100000000) : Qad.l0 (k + 2) a b o = some (o ++ a ++ b) := by
 have e : Qad.l0 (k + 2) a b o = Qad.j1 (k + 1) a b o false := by
  rw [Qad.l0]
  rcases h with rfl | rfl
  ·rfl
  ·split <;> rfl
 rw [e, Qad.j1]
 show (if o.length + a.length < 8796093022208 then ((some (o ++ a : List S47)).bind fun y => if y.length + b.length < 8796093022208 then some (y ++ b) else none) else none) = _
 rw [if_pos (by omega)]
 show (if (o ++ a).length + b.length < 8796093022208 then some (o ++ a ++ b) else none) = _
 rw [if_pos (by rw [List.length_append]; omega)]
open Classical in
theorem uni_j3 (k : Nat) (a b o : List S47) (q p : S47) : Qad.j3 (k + 1) a (q :: b) o p.f0 p.f1 = Qad.l0 k a (if q = p then b else q :: b) o := by
 rw [Qad.j3, if_pos (by simp)]
 show (if (q.f0 == p.f0 && (q.f1 == p.f1)) = true then _ else _) = _
 by_cases h : q = p
 ·subst h; simp; omega
 ·rw [if_neg h, if_neg (fun h2 => h (by cases q; cases p; simp at h2 ⊢; omega))]
open Classical in
theorem uni_j2 (k : Nat) (a b o : List S47) (q p : S47) (hl : o.length ≤ 100000000) : Qad.j2 (k + 1) (q :: a) b o p.f0 p.f1 = Qad.j3 k (if q = p then a else q :: a) b (o ++ [p]) p.f0 p.f1 := by
 rw [Qad.j2, if_pos (by omega)]
 show (if 0 < (((q :: a).length : Nat) : Int) then (if (q.f0 == p.f0 && (q.f1 == p.f1)) = true then _ else _) else none) = _
 rw [if_pos (by simp)]
 by_cases h : q = p
 ·subst h; simp; omega
 ·rw [if_neg h, if_neg (fun h2 => h (by cases q; cases p; simp at h2 ⊢; omega))]
open Classical in
theorem uni_j1 (k : Nat) (s t o : List S47) (p q : S47) (hl : o.length ≤ 100000000) : Qad.l0 (k + 4) (p :: s) (q :: t) o = if Qcj q p = true then Qad.l0 k (if p = q then s else p :: s) (if q = q then t else q :: t) (o ++ [q]) else Qad.l0 k (if p = p then s else p :: s) (if q = p then t else q :: t) (o ++ [p]) := by
 rw [Qad.l0, if_pos (by simp), Qad.j1, if_pos (by simp), if_pos (by simp), if_pos (by simp)]
 show (Qa3.f q.f0 q.f1 p.f0 p.f1).bind _ = _
 rw [less_eq]
 show (if Qcj q p = true then Qad.j2 (k + 2) (p :: s) (q :: t) o q.f0 q.f1 else Qad.j2 (k + 2) (p :: s) (q :: t) o p.f0 p.f1) = _
 rw [uni_j2 _ _ _ _ _ _ hl, uni_j2 _ _ _ _ _ _ hl, uni_j3, uni_j3]
theorem asc_cons {x : S47} {l : List S47} (h : Asc (x :: l)) : (∀ y ∈ l, Qcj x y = true) ∧ Asc l := List.pairwise_cons.1 h
theorem uni_spec : ∀ n (a b o : List S47), a.length + b.length = n → o.length + n ≤ 100000000 → Asc a → Asc b → Asc o → (∀ y ∈ o, ∀ z, z ∈ a ∨ z ∈ b → Qcj y z = true) →
    ∃ r, Ev (fun k => Qad.l0 k a b o) r ∧ Asc r ∧ r.length ≤ o.length + n ∧ ∀ y, y ∈ r ↔ y ∈ o ∨ y ∈ a ∨ y ∈ b := by
 intro n
 induction n using Nat.strongRecOn with
 | _ n ih =>
  intro a b o hn hl ha hb ho hlt
  match a, b, hn, ha, hb, hlt with
  | [], b, hn, ha, hb, hlt =>
   refine ⟨o ++ [] ++ b, ⟨2, fun n hn => by obtain ⟨m, rfl⟩ : ∃ m, n = m + 2 := ⟨n - 2, by omega⟩; exact uni_end m [] b o (Or.inl rfl) (by simp at *; omega)⟩, ?_, ?_, fun y => by simp⟩
   ·rw [List.append_nil]; exact asc_join ho hb fun x hx y hy => hlt x hx y (Or.inr hy)
   ·simp at *; omega
  | p :: s, [], hn, ha, hb, hlt =>
   refine ⟨o ++ (p :: s) ++ [], ⟨2, fun n hn => by obtain ⟨m, rfl⟩ : ∃ m, n = m + 2 := ⟨n - 2, by omega⟩; exact uni_end m _ [] o (Or.inr rfl) (by simp at *; omega)⟩, ?_, ?_, fun y => by simp⟩
   ·rw [List.append_nil]; exact asc_join ho ha fun x hx y hy => hlt x hx y (Or.inl hy)
   ·simp at *; omega
  | p :: s, q :: t, hn, ha, hb, hlt =>
   obtain ⟨hp, hs⟩ := asc_cons ha
   obtain ⟨hq, ht⟩ := asc_cons hb
   simp only [List.length_cons] at hn
   have snoc : ∀ z, z ∈ p :: s ∨ z ∈ q :: t → Asc (o ++ [z]) := fun z hz => asc_join ho (asc_one z) fun x hx y hy => by rw [List.mem_singleton] at hy; rw [hy]; exact hlt x hx z hz
   have hup : ∀ k, Qad.l0 (k + 4) (p :: s) (q :: t) o = _ := fun k => uni_j1 k s t o p q (by omega)
   by_cases hqp : Qcj q p = true
   ·have hne : p ≠ q := fun e => by rw [e, lessB_irrefl] at hqp; cases hqp
    simp only [if_pos hqp, if_neg hne, if_true] at hup
    obtain ⟨r, h1, h2, h3, h4⟩ := ih (s.length + 1 + t.length) (by omega) (p :: s) t (o ++ [q]) rfl (by rw [List.length_append, List.length_singleton]; omega) ha ht (snoc q (Or.inr (by simp))) (fun y hy z hz => by
     rcases List.mem_append.1 hy with h | h
     ·exact hlt y h z (hz.imp id fun h => List.mem_cons_of_mem _ h)
     ·rw [List.mem_singleton] at h; rw [h]
      rcases hz with h | h
      ·rcases List.mem_cons.1 h with h | h
       ·rw [h]; exact hqp
       ·exact Qc9 hqp (hp z h)
      ·exact hq z h)
    refine ⟨r, Ev.upn 4 hup h1, h2, by rw [List.length_append, List.length_singleton] at h3; omega, fun y => (h4 y).trans ?_⟩
    simp only [List.mem_append, List.mem_cons, List.not_mem_nil, or_false]
    constructor
    ·rintro ((h | h) | h | h)
     ·exact Or.inl h
     ·exact Or.inr (Or.inr (Or.inl h))
     ·exact Or.inr (Or.inl h)
     ·exact Or.inr (Or.inr (Or.inr h))
    ·rintro (h | h | (h | h))
     ·exact Or.inl (Or.inl h)
     ·exact Or.inr (Or.inl h)
     ·exact Or.inl (Or.inr h)
     ·exact Or.inr (Or.inr h)
   ·have hqp' : Qcj q p = false := by simpa using hqp
    by_cases hne : q = p
    ·simp only [if_neg hqp, if_pos hne, if_true] at hup
     subst hne
     obtain ⟨r, h1, h2, h3, h4⟩ := ih (s.length + t.length) (by omega) s t (o ++ [q]) rfl (by rw [List.length_append, List.length_singleton]; omega) hs ht (snoc q (Or.inl (by simp))) (fun y hy z hz => by
      rcases List.mem_append.1 hy with h | h
      ·exact hlt y h z (hz.imp (fun h => List.mem_cons_of_mem _ h) fun h => List.mem_cons_of_mem _ h)
      ·rw [List.mem_singleton] at h; rw [h]
       rcases hz with h | h
       ·exact hp z h
       ·exact hq z h)
     refine ⟨r, Ev.upn 4 hup h1, h2, by rw [List.length_append, List.length_singleton] at h3; omega, fun y => (h4 y).trans ?_⟩
     simp only [List.mem_append, List.mem_cons, List.not_mem_nil, or_false]
     constructor
     ·rintro ((h | h) | h | h)
      ·exact Or.inl h
      ·exact Or.inr (Or.inl (Or.inl h))
      ·exact Or.inr (Or.inl (Or.inr h))
      ·exact Or.inr (Or.inr (Or.inr h))
     ·rintro (h | (h | h) | h | h)
      ·exact Or.inl (Or.inl h)
      ·exact Or.inl (Or.inr h)
      ·exact Or.inr (Or.inl h)
      ·exact Or.inl (Or.inr h)
      ·exact Or.inr (Or.inr h)
    ·have hpq : Qcj p q = true := lessB_tot hqp' hne
     simp only [if_neg hqp, if_neg hne, if_true] at hup
     obtain ⟨r, h1, h2, h3, h4⟩ := ih (s.length + (t.length + 1)) (by omega) s (q :: t) (o ++ [p]) rfl (by rw [List.length_append, List.length_singleton]; omega) hs hb (snoc p (Or.inl (by simp))) (fun y hy z hz => by
      rcases List.mem_append.1 hy with h | h
      ·exact hlt y h z (hz.imp (fun h => List.mem_cons_of_mem _ h) id)
      ·rw [List.mem_singleton] at h; rw [h]
       rcases hz with h | h
       ·exact hp z h
       ·rcases List.mem_cons.1 h with h | h
        ·rw [h]; exact hpq
        ·exact Qc9 hpq (hq z h))
     refine ⟨r, Ev.upn 4 hup h1, h2, by rw [List.length_append, List.length_singleton] at h3; omega, fun y => (h4 y).trans ?_⟩
     simp only [List.mem_append, List.mem_cons, List.not_mem_nil, or_false]
     constructor
     ·rintro ((h | h) | h | h)
      ·exact Or.inl h
      ·exact Or.inr (Or.inl (Or.inl h))
      ·exact Or.inr (Or.inl (Or.inr h))
      ·exact Or.inr (Or.inr h)
     ·rintro (h | (h | h) | h)
      ·exact Or.inl (Or.inl h)
      ·exact Or.inl (Or.inr h)
      ·exact Or.inr (Or.inl h)
      ·exact Or.inr (Or.inr h)
theorem union_spec (a b : List S47) (ha : Asc a) (hb : Asc b) (hl : a.length + b.length ≤ 50000000) : ∃ r, Ev (fun k => Qad.f k a b) r ∧ Asc r ∧ r.length ≤ a.length + b.length ∧ ∀ y, y ∈ r ↔ y ∈ a ∨ y ∈ b := by
 obtain ⟨r, h1, h2, h3, h4⟩ := uni_spec _ a b [] rfl (by simp; omega) ha hb List.Pairwise.nil (fun y hy => absurd hy (by simp))
 have hw : wrap64 ((a.length : Int) + (b.length : Int)) = (a.length : Int) + (b.length : Int) := w64i (by omega) (by omega)
 refine ⟨r, ?_, h2, by simpa using h3, fun y => (h4 y).trans (by simp)⟩
 unfold Qad.f
 exact Ev.pos (by omega) (Ev.pos (by omega) h1)
end Go.Proofs.YtchpkjgibloleaaGreat.Z
namespace Go.Proofs.YtchpkjgibloleaaGreat.Z
set_option maxRecDepth 100000
set_option maxHeartbeats 8000000
open Go.RowKit Go.Proofs.YtchpkjgibloleaaGreatW.PrintWords Go.Proofs.YtchpkjgibloleaaGreatW.PrintLast Go.Proofs.YtchpkjgibloleaaGreatW.PrintMore
set_option linter.unusedVariables false
set_option linter.unusedSimpArgs false
theorem Qdh {l : List S47} (h : Asc l) (f : S47 → Bool) : Asc (l.filter f) := h.sub List.filter_sublist
theorem flt_len (l : List S47) (f : S47 → Bool) : (l.filter f).length ≤ l.length := List.length_filter_le f l
theorem asc_copies {l : List S47} (h : Asc l) (d a : Int) : Asc ((l.filter fun p => p.f0 == a).map fun p => (⟨d, p.f1⟩ : S47)) := by
 unfold Asc
 rw [List.pairwise_map]
 refine List.Pairwise.imp_of_mem (fun {x y} hx hy hxy => ?_) (Qdh h _)
 have h1 := (List.mem_filter.1 hx).2
 have h2 := (List.mem_filter.1 hy).2
 simp only [beq_iff_eq] at h1 h2
 rw [Qdj] at hxy ⊢
 show d < d ∨ (d = d ∧ x.f1 < y.f1)
 omega
theorem asc_moves {l : List S47} (h : Asc l) (d a : Int) : Asc ((l.filter fun p => p.f1 == a).map fun p => (⟨p.f0, d⟩ : S47)) := by
 unfold Asc
 rw [List.pairwise_map]
 refine List.Pairwise.imp_of_mem (fun {x y} hx hy hxy => ?_) (Qdh h _)
 have h1 := (List.mem_filter.1 hx).2
 have h2 := (List.mem_filter.1 hy).2
 simp only [beq_iff_eq] at h1 h2
 rw [Qdj] at hxy ⊢
 show x.f0 < y.f0 ∨ (x.f0 = y.f0 ∧ d < d)
 omega
theorem define_spec (l : List S47) (d a : Int) (hl : l.length ≤ 10000000) (hA : Asc l) : ∃ r, Ev (fun k => defineF k l d a) r ∧ Asc r ∧ r.length ≤ l.length + 1 ∧ ∀ y, y ∈ r ↔ y = ⟨d, a⟩ ∨ (y ∈ l ∧ y.f0 ≠ d ∧ y.f1 ≠ a) := by
 have h1 := flt_len (l.filter fun p => p.f0 != d) fun p => p.f1 != a
 have h2 := flt_len l fun p => p.f0 != d
 obtain ⟨r, e, hr, hn, hm⟩ := add_spec ((l.filter fun p => p.f0 != d).filter fun p => p.f1 != a) ⟨d, a⟩ (by omega) (Qdh (Qdh hA _) _)
 refine ⟨r, ?_, hr, by omega, fun y => (hm y).trans ?_⟩
 ·unfold defineF; exact Ev.pos (by omega) e
 ·simp only [List.mem_filter, bne_iff_ne, ne_eq, and_assoc]
theorem copyS_spec (l : List S47) (d a : Int) (hl : l.length ≤ 10000000) (hA : Asc l) : ∃ r, Ev (fun k => copyS k l d a) r ∧ Asc r ∧ r.length ≤ l.length + l.length ∧ ∀ y, y ∈ r ↔ (y ∈ l ∧ y.f0 ≠ d) ∨ (y.f0 = d ∧ (⟨a, y.f1⟩ : S47) ∈ l) := by
 unfold copyS
 by_cases h : d = a
 ·subst h
  refine ⟨l, Ev.pos (by omega) (Ev.pos rfl (Ev.pos hA (Ev.val rfl))), hA, by omega, fun y => ?_⟩
  constructor
  ·intro hy
   by_cases hd : y.f0 = d
   ·exact Or.inr ⟨hd, by rw [← hd]; exact hy⟩
   ·exact Or.inl ⟨hy, hd⟩
  ·rintro (h | ⟨h1, h2⟩)
   ·exact h.1
   ·rw [← h1] at h2; exact h2
 ·have h1 := flt_len l fun p => p.f0 != d
  have h2 := flt_len l fun p => p.f0 == a
  obtain ⟨r, e, hr, hn, hm⟩ := union_spec (l.filter fun p => p.f0 != d) ((l.filter fun p => p.f0 == a).map fun p => (⟨d, p.f1⟩ : S47)) (Qdh hA _) (asc_copies hA d a) (by rw [List.length_map]; omega)
  rw [List.length_map] at hn
  refine ⟨r, Ev.pos (by omega) (Ev.neg h (by unfold renS; exact Ev.pos (asc_copies hA d a) e)), hr, by omega, fun y => (hm y).trans ?_⟩
  simp only [List.mem_filter, bne_iff_ne, ne_eq, List.mem_map, beq_iff_eq]
  refine or_congr Iff.rfl ⟨?_, ?_⟩
  ·rintro ⟨p, ⟨h3, h4⟩, rfl⟩
   exact ⟨rfl, by rw [← h4]; exact h3⟩
  ·rintro ⟨h3, h4⟩
   exact ⟨_, ⟨h4, rfl⟩, by rw [← h3]⟩
theorem moveS_spec (l : List S47) (d a : Int) (hl : l.length ≤ 10000000) (hA : Asc l) : ∃ r, Ev (fun k => moveS k l d a) r ∧ Asc r ∧ r.length ≤ l.length + l.length ∧ ∀ y, y ∈ r ↔ (y ∈ l ∧ y.f1 ≠ d) ∨ (y.f1 = d ∧ (⟨y.f0, a⟩ : S47) ∈ l) := by
 unfold moveS
 by_cases h : d = a
 ·subst h
  refine ⟨l, Ev.pos (by omega) (Ev.pos rfl (Ev.pos hA (Ev.val rfl))), hA, by omega, fun y => ?_⟩
  constructor
  ·intro hy
   by_cases hd : y.f1 = d
   ·exact Or.inr ⟨hd, by rw [← hd]; exact hy⟩
   ·exact Or.inl ⟨hy, hd⟩
  ·rintro (h | ⟨h1, h2⟩)
   ·exact h.1
   ·rw [← h1] at h2; exact h2
 ·have h1 := flt_len l fun p => p.f1 != d
  have h2 := flt_len l fun p => p.f1 == a
  obtain ⟨r, e, hr, hn, hm⟩ := union_spec (l.filter fun p => p.f1 != d) ((l.filter fun p => p.f1 == a).map fun p => (⟨p.f0, d⟩ : S47)) (Qdh hA _) (asc_moves hA d a) (by rw [List.length_map]; omega)
  rw [List.length_map] at hn
  refine ⟨r, Ev.pos (by omega) (Ev.neg h (by unfold renS; exact Ev.pos (asc_moves hA d a) e)), hr, by omega, fun y => (hm y).trans ?_⟩
  simp only [List.mem_filter, bne_iff_ne, ne_eq, List.mem_map, beq_iff_eq]
  refine or_congr Iff.rfl ⟨?_, ?_⟩
  ·rintro ⟨p, ⟨h3, h4⟩, rfl⟩
   exact ⟨rfl, by rw [← h4]; exact h3⟩
  ·rintro ⟨h3, h4⟩
   exact ⟨_, ⟨h4, rfl⟩, by rw [← h3]⟩
def Goo (s : Bs) : Prop := Asc s.set ∧ s.set.length ≤ 1048576 ∧ s.most = 1048576
def Okk (f : Nat → OBs) : Prop := ∃ x, Ev f x ∧ (x.2 = none → Goo x.1) ∧ ∀ q, x.2 = some q → q.1 ≠ 0
theorem Okk.then {f : Nat → OBs} {K : Nat → Bs → OBs} (h : Okk f) (hk : ∀ s, Goo s → Okk (fun k => K k s)) : Okk (fun k => (f k).then (K k)) := by
 obtain ⟨⟨s, p⟩, e, hg, hq⟩ := h
 cases p with
 | none =>
  obtain ⟨y, ey, hy⟩ := hk s (hg rfl)
  exact ⟨y, Ev.then e ey, hy⟩
 | some q => exact ⟨(s, some q), Ev.then e (Ev.val rfl), by simp, fun q' h => hq q' h⟩
theorem Okk.of {s : Bs} (h : Goo s) : Okk (fun _ => some (s, none)) := ⟨_, Ev.val rfl, fun _ => h, by simp⟩
theorem useOk {s : Bs} (h : Goo s) (v r i : Int) : Okk (fun k => useF k s v r i) := by
 obtain ⟨b, hb⟩ := has_ev s.set v (Go.RowKit.wrap64 (2 * r)) (by have := h.2.1; omega)
 unfold useF
 refine ⟨_, Ev.then hb (Ev.val rfl), fun _ => h, ?_⟩
 cases b with
 | true => simp
 | false => rintro q h; simp at h; rw [← h]; simp
theorem becOk {s : Bs} (hs : s.most = 1048576) {l : List S47} (hA : Asc l) (i : Int) : ((Qcx s l i).2 = none → Goo (Qcx s l i).1) ∧ ∀ q, (Qcx s l i).2 = some q → q.1 ≠ 0 := by
 unfold Qcx
 by_cases h : (l.length : Int) > s.most
 ·simp only [if_pos h]; exact ⟨by simp, fun q hq => by simp at hq; rw [← hq]; simp⟩
 ·simp only [if_neg h]; exact ⟨fun _ => ⟨hA, by show l.length ≤ _; omega, hs⟩, by simp⟩
theorem copyF_ok {s : Bs} (h : Goo s) (d a i : Int) : Okk (fun k => copyF k s d a i) := by
 obtain ⟨r, e, hA, _⟩ := copyS_spec s.set d a (by have := h.2.1; omega) h.1
 unfold copyF
 exact ⟨_, Ev.then e (Ev.val rfl), becOk (s := s.cost) h.2.2 hA i⟩
theorem moveF_ok {s : Bs} (h : Goo s) (d a i : Int) : Okk (fun k => moveF k s d a i) := by
 obtain ⟨r, e, hA, _⟩ := moveS_spec s.set d a (by have := h.2.1; omega) h.1
 unfold moveF
 exact ⟨_, Ev.then e (Ev.val rfl), becOk (s := s.cost) h.2.2 hA i⟩
theorem instrD_ok {s : Bs} (h : Goo s) (d : Bool) (iD mD i : Int) : Okk (fun k => instrD k s d iD mD i) := by
 unfold instrD
 cases d with
 | false => exact Okk.of h
 | true =>
  obtain ⟨r, e, hA, _⟩ := define_spec s.set iD (Go.RowKit.wrap64 (2 * mD)) (by have := h.2.1; omega) h.1
  exact ⟨_, Ev.then e (Ev.val rfl), becOk (s := s.cost) h.2.2 hA i⟩
theorem instrB_ok {s : Bs} (h : Goo s) (d b : Bool) (iD iB mD mB i : Int) : Okk (fun k => instrB k s d b iD iB mD mB i) := by
 unfold instrB
 cases b with
 | false => exact instrD_ok h d iD mD i
 | true => exact (useOk h iB mB i).then fun s1 h1 => instrD_ok h1 d iD mD i
theorem instrF_ok {s : Bs} (h : Goo s) (i : S41) (m : S59) (ia : Int) : Okk (fun k => instrF k s i m ia) := by
 unfold instrF instrA
 rw [of_some]
 simp only [Option.bind_some]
 cases (OF i.f0).2.1 with
 | false => exact instrB_ok h _ _ _ _ _ _ _
 | true => exact (useOk h _ _ _).then fun s1 h1 => instrB_ok h1 _ _ _ _ _ _ _
theorem copies_ok (m : Int) (K : Nat → Bs → OBs) (hK : ∀ s, Goo s → Okk (fun k => K k s)) : ∀ (l : List S41) (s : Bs), Goo s → Okk (fun k => copiesF k m l s (K k)) := by
 intro l
 induction l with
 | nil => exact fun s h => hK s h
 | cons c l ih => exact fun s h => (copyF_ok h c.f1 c.f2 m).then fun s1 h1 => ih s1 h1
theorem moves_ok (mc : List S59) (K : Nat → Bs → OBs) (hK : ∀ s, Goo s → Okk (fun k => K k s)) : ∀ (n : Nat) (j : Int) (s : Bs), 0 ≤ j → j + n ≤ (mc.length : Int) → Goo s → Okk (fun k => Qdl k mc n j s (K k)) := by
 intro n
 induction n with
 | zero => exact fun j s _ _ h => hK s h
 | succ n ih =>
  intro j s h0 hn h
  have : ∀ k, Qdl k mc (n + 1) j s (K k) = (moveF k s (Qai mc j).f5 (Qai mc j).f6 j).then fun s1 => Qdl k mc n (j + 1) s1 (K k) := fun k => by
   rw [Qdl, if_pos ⟨h0, by omega⟩]
  simp only [this]
  exact (moveF_ok h _ _ _).then fun s1 h1 => ih (j + 1) s1 (by omega) (by omega) h1
def okAr (n m : Nat) (r : S180) : Prop := (0 ≤ r.f0 ∧ r.f0 ≤ r.f1 ∧ r.f1 ≤ (n : Int)) ∧ (0 ≤ r.f2 ∧ r.f2 ≤ r.f3 ∧ r.f3 ≤ (m : Int)) ∧ (r.f4 ≥ 0 → r.f4 < (n : Int) ∧ 0 ≤ r.f5 ∧ r.f5 < (m : Int))
theorem srcF_ok (bc : List S41) (mc : List S59) (r4 r5 : Int) (h : r4 ≥ 0 → r4 < (bc.length : Int) ∧ 0 ≤ r5 ∧ r5 < (mc.length : Int)) {s : Bs} (hs : Goo s) : Okk (fun k => srcF k bc mc r4 r5 s) := by
 unfold srcF
 by_cases h4 : r4 ≥ 0
 ·have := h h4
  simp only [if_pos h4, if_pos this]
  exact instrF_ok hs _ _ _
 ·simp only [if_neg h4]; exact Okk.of hs
theorem rowF_ok (bc : List S41) (mc : List S59) (r : S180) (h : okAr bc.length mc.length r) {s : Bs} (hs : Goo s) : Okk (fun k => rowF k bc mc r s) := by
 unfold rowF
 simp only [if_pos h.1]
 exact copies_ok _ (fun k s1 => Qdl k mc (r.f3 - r.f2).toNat r.f2 s1 fun s2 => srcF k bc mc r.f4 r.f5 s2) (fun s1 h1 => moves_ok mc _ (fun s2 h2 => srcF_ok bc mc _ _ h.2.2 h2) _ _ s1 h.2.1.1 (by have := h.2.1; omega) h1) _ s hs
theorem rows_ok (bc : List S41) (mc : List S59) (K : Nat → Bs → OBs) (hK : ∀ s, Goo s → Okk (fun k => K k s)) : ∀ (l : List S180), (∀ r ∈ l, okAr bc.length mc.length r) → ∀ s, Goo s → Okk (fun k => rowsF k bc mc l s (K k)) := by
 intro l
 induction l with
 | nil => exact fun _ s h => hK s h
 | cons r l ih => exact fun hl s h => (rowF_ok bc mc r (hl r (by simp)) h).then fun s1 h1 => ih (fun q hq => hl q (by simp [hq])) s1 h1
theorem endF_ok (bt mt : S37) (n : Int) {s : Bs} (hs : Goo s) : Okk (fun k => endF k bt mt n s) := by
 unfold endF
 by_cases h : bt.f0 = 1
 ·simp only [if_pos h]; exact Okk.of hs
 ·simp only [if_neg h]; exact useOk hs _ _ _
theorem runF_ok (bc : List S41) (mc : List S59) (bt mt : S37) (rows : List S180) (h : ∀ r ∈ rows, okAr bc.length mc.length r) {s : Bs} (hs : Goo s) : Okk (fun k => runF k bc mc bt mt rows s) := by
 unfold runF
 exact rows_ok bc mc _ (fun s1 h1 => endF_ok bt mt _ h1) rows h s hs
theorem skipc_ev (l : List S41) (hl : l.length ≤ 100000000) : ∀ n (i : Nat), l.length - i = n → i ≤ l.length → ∃ r : Nat, i ≤ r ∧ r ≤ l.length ∧ Ev (fun k => Qak.f k l (i : Int)) (r : Int) := by
 intro n
 unfold Qak.f
 induction n with
 | zero => exact fun i hn hi => ⟨i, by omega, hi, ⟨2, fun n hn => by obtain ⟨m, rfl⟩ : ∃ m, n = m + 2 := ⟨n - 2, by omega⟩; show Qak.l0 (m + 2) l (i : Int) = _; rw [Qak.l0, if_neg (by omega), Qak.j1]; rfl⟩⟩
 | succ n ih =>
  intro i hn hi
  have e : ∀ k, Qak.l0 (k + 2) l (i : Int) = if ((Qaw l (i : Int)).f0 == 2) = true then Qak.l0 k l ((i + 1 : Nat) : Int) else some (i : Int) := fun k => by
   rw [Qak.l0, if_pos (by omega), if_pos (by omega)]
   show Qak.j1 (k + 1) l (i : Int) ((Qaw l (i : Int)).f0 == 2) = _
   rw [Qak.j1, w64s (n := l.length) (by omega) (by omega)]
  by_cases h : ((Qaw l (i : Int)).f0 == 2) = true
  ·obtain ⟨r, h1, h2, h3⟩ := ih (i + 1) (by omega) (by omega)
   exact ⟨r, by omega, h2, Ev.upn 2 e (Ev.pos h h3)⟩
  ·exact ⟨i, by omega, hi, Ev.upn 2 e (Ev.neg h (Ev.val rfl))⟩
theorem skipm_ev (l : List S59) (hl : l.length ≤ 100000000) : ∀ n (i : Nat), l.length - i = n → i ≤ l.length → ∃ r : Nat, i ≤ r ∧ r ≤ l.length ∧ Ev (fun k => Qao.f k l (i : Int)) (r : Int) := by
 intro n
 unfold Qao.f
 induction n with
 | zero => exact fun i hn hi => ⟨i, by omega, hi, ⟨2, fun n hn => by obtain ⟨m, rfl⟩ : ∃ m, n = m + 2 := ⟨n - 2, by omega⟩; show Qao.l0 (m + 2) l (i : Int) = _; rw [Qao.l0, if_neg (by omega), Qao.j1]; rfl⟩⟩
 | succ n ih =>
  intro i hn hi
  have e : ∀ k, Qao.l0 (k + 2) l (i : Int) = if ((Qai l (i : Int)).f0 == 18) = true then Qao.l0 k l ((i + 1 : Nat) : Int) else some (i : Int) := fun k => by
   rw [Qao.l0, if_pos (by omega), if_pos (by omega)]
   show Qao.j1 (k + 1) l (i : Int) ((Qai l (i : Int)).f0 == 18) = _
   rw [Qao.j1, w64s (n := l.length) (by omega) (by omega)]
  by_cases h : ((Qai l (i : Int)).f0 == 18) = true
  ·obtain ⟨r, h1, h2, h3⟩ := ih (i + 1) (by omega) (by omega)
   exact ⟨r, by omega, h2, Ev.upn 2 e (Ev.pos h h3)⟩
  ·exact ⟨i, by omega, hi, Ev.upn 2 e (Ev.neg h (Ev.val rfl))⟩
theorem same_some (a b c d e a' b' c' d' e' f' g' : Int) : ∃ t, align_Same.f a b c d e a' b' c' d' e' f' g' = some t := by
 unfold align_Same.f
 split
 ·split
  ·split <;> exact ⟨_, rfl⟩
  ·exact ⟨_, rfl⟩
 ·exact ⟨_, rfl⟩
theorem terms_some (a b c d a' b' c' d' : Int) : ∃ t, align_Terms.f a b c d a' b' c' d' = some t := by
 unfold align_Terms.f
 split
 ·split <;> exact ⟨_, rfl⟩
 ·exact ⟨_, rfl⟩
theorem align_ev (bc : List S41) (mc : List S59) (h1 : bc.length ≤ 100000000) (h2 : mc.length ≤ 100000000) : ∀ n (i j : Nat) (o : List S180), bc.length - i = n → i ≤ bc.length → j ≤ mc.length → o.length ≤ i → (∀ r ∈ o, okAr bc.length mc.length r) →
    ∃ p, Ev (fun k => Qal.l0 k bc mc o (i : Int) (j : Int)) p ∧ ∀ r ∈ p.1, okAr bc.length mc.length r := by
 intro n
 induction n using Nat.strongRecOn with
 | _ n ih =>
  intro i j o hn hi hj ho hO
  obtain ⟨i', hi1, hi2, ei⟩ := skipc_ev bc h1 _ i rfl hi
  obtain ⟨j', hj1, hj2, ej⟩ := skipm_ev mc h2 _ j rfl hj
  have f1 : ∀ b x : Bool, x = true → b = false → ∃ p, Ev (fun k => Qal.j2 k bc mc o (i' : Int) (j' : Int) x (i : Int) (i' : Int) (j : Int) (j' : Int) 0 0) p ∧ ∀ r ∈ p.1, okAr bc.length mc.length r := by
   rintro b x rfl _
   exact ⟨([], (j' : Int), 20), ⟨1, fun n hn => by obtain ⟨m, rfl⟩ : ∃ m, n = m + 1 := ⟨n - 1, by omega⟩; show Qal.j2 (m + 1) _ _ _ _ _ true _ _ _ _ _ _ = _; rw [Qal.j2]; rfl⟩, by simp⟩
  have key : ∀ b : Bool, (b = true ↔ i' = bc.length ∧ j' = mc.length) → ∃ p, Ev (fun k => Qal.j1 k bc mc o (i' : Int) (j' : Int) b (i : Int) (i' : Int) (j : Int) (j' : Int) 0 0) p ∧ ∀ r ∈ p.1, okAr bc.length mc.length r := by
   intro b hb
   cases b with
   | true =>
    refine ⟨(o ++ [⟨(i : Int), (i' : Int), (j : Int), (j' : Int), -1, -1⟩], (j' : Int), 0), ⟨1, fun n hn => by
     obtain ⟨m, rfl⟩ : ∃ m, n = m + 1 := ⟨n - 1, by omega⟩
     show Qal.j1 (m + 1) _ _ _ _ _ true _ _ _ _ _ _ = _
     rw [Qal.j1]
     show (if o.length < 2932031007402 then _ else none) = _
     rw [if_pos (by omega)]⟩, fun r hr => ?_⟩
    rcases List.mem_append.1 hr with h | h
    ·exact hO r h
    ·rw [List.mem_singleton] at h; rw [h]
     exact ⟨⟨(by first | (simp; done) | (simp; omega) | omega), (by first | (simp; done) | (simp; omega) | omega), (by first | (simp; done) | (simp; omega) | omega)⟩, ⟨(by first | (simp; done) | (simp; omega) | omega), (by first | (simp; done) | (simp; omega) | omega), (by first | (simp; done) | (simp; omega) | omega)⟩, fun h => absurd h (by simp)⟩
   | false =>
    have e : ∀ k, Qal.j1 (k + 1) bc mc o (i' : Int) (j' : Int) false (i : Int) (i' : Int) (j : Int) (j' : Int) 0 0 = _ := fun k => by rw [Qal.j1, if_neg (by simp)]
    by_cases hi3 : (i' : Int) = (bc.length : Int)
    ·obtain ⟨p, hp, hq⟩ := f1 false true rfl rfl
     exact ⟨p, Ev.up e (Ev.pos hi3 hp), hq⟩
    ·by_cases hj3 : (j' : Int) = (mc.length : Int)
     ·obtain ⟨p, hp, hq⟩ := f1 false true rfl rfl
      exact ⟨p, Ev.up e (Ev.neg hi3 (Ev.pos hj3 hp)), hq⟩
     ·have hr : ∀ b : Bool, ∃ p, Ev (fun k => Qal.j2 k bc mc o (i' : Int) (j' : Int) b (i : Int) (i' : Int) (j : Int) (j' : Int) 0 0) p ∧ ∀ r ∈ p.1, okAr bc.length mc.length r := by
        intro b
        cases b with
        | true => exact f1 false true rfl rfl
        | false =>
         obtain ⟨p, hp, hq⟩ := ih _ (by omega) (i' + 1) (j' + 1) (o ++ [⟨(i : Int), (i' : Int), (j : Int), (j' : Int), (i' : Int), (j' : Int)⟩]) rfl (by omega) (by omega) (by rw [List.length_append, List.length_singleton]; omega) (fun r hr => by
          rcases List.mem_append.1 hr with h | h
          ·exact hO r h
          ·rw [List.mem_singleton] at h; rw [h]
           exact ⟨⟨(by first | (simp; done) | (simp; omega) | omega), (by first | (simp; done) | (simp; omega) | omega), (by first | (simp; done) | (simp; omega) | omega)⟩, ⟨(by first | (simp; done) | (simp; omega) | omega), (by first | (simp; done) | (simp; omega) | omega), (by first | (simp; done) | (simp; omega) | omega)⟩, fun _ => ⟨(by first | (simp; done) | (simp; omega) | omega), (by first | (simp; done) | (simp; omega) | omega), (by first | (simp; done) | (simp; omega) | omega)⟩⟩)
         refine ⟨p, Ev.up (g := fun k => Qal.l0 k bc mc (o ++ [⟨(i : Int), (i' : Int), (j : Int), (j' : Int), (i' : Int), (j' : Int)⟩]) ((i' + 1 : Nat) : Int) ((j' + 1 : Nat) : Int)) (fun k => ?_) hp, hq⟩
         rw [Qal.j2, if_neg (by simp), if_pos (by omega), w64s (n := bc.length) (by omega) (by omega), w64s (n := mc.length) (by omega) (by omega)]
      obtain ⟨t, ht⟩ := same_some (Qaw bc (i' : Int)).f0 (Qaw bc (i' : Int)).f1 (Qaw bc (i' : Int)).f2 (Qaw bc (i' : Int)).f3 (Qaw bc (i' : Int)).f4 (Qai mc (j' : Int)).f0 (Qai mc (j' : Int)).f1 (Qai mc (j' : Int)).f2 (Qai mc (j' : Int)).f3 (Qai mc (j' : Int)).f4 (Qai mc (j' : Int)).f5 (Qai mc (j' : Int)).f6
      obtain ⟨p, hp, hq⟩ := hr (!t)
      exact ⟨p, Ev.up e (Ev.neg hi3 (Ev.neg hj3 (Ev.pos (by omega) (Ev.pos (by omega) (Ev.pos (by omega) (Ev.pos (by omega) (Ev.then (g := fun _ => _) ⟨0, fun _ _ => ht⟩ hp))))))), hq⟩
  have hup : ∀ k, Qal.l0 (k + 1) bc mc o (i : Int) (j : Int) = _ := fun k => by rw [Qal.l0]
  by_cases hi3 : (i' : Int) = (bc.length : Int)
  ·obtain ⟨p, hp, hq⟩ := key ((j' : Int) == (mc.length : Int)) ((by first | (simp; done) | (simp; omega) | omega))
   exact ⟨p, Ev.up hup (Ev.then ei (Ev.then ej (Ev.pos hi3 hp))), hq⟩
  ·obtain ⟨p, hp, hq⟩ := key false ((by first | (simp; done) | (simp; omega) | omega))
   exact ⟨p, Ev.up hup (Ev.then ei (Ev.then ej (Ev.neg hi3 hp))), hq⟩
theorem block_ev (bc : List S41) (mc : List S59) (bt mt : S37) (inv : List S47) (h1 : bc.length ≤ 100000000) (h2 : mc.length ≤ 100000000) (hi : inv.length ≤ 1048576) (hA : Asc inv) :
    ∃ x, Ev (fun k => blockF k bc mc bt mt inv 1048576) x ∧ (x.f1 = 0 → x.f0.length ≤ 1048576 ∧ Asc x.f0) := by
 obtain ⟨p, hp, hq⟩ := align_ev bc mc h1 h2 _ 0 0 [] rfl (by omega) (by omega) (by simp) (by simp)
 obtain ⟨t, ht⟩ := terms_some bt.f0 bt.f1 bt.f2 bt.f3 mt.f0 mt.f1 mt.f2 mt.f3
 unfold blockF
 by_cases h0 : p.2.2 = 0
 ·cases t with
  | true =>
   obtain ⟨⟨s, pn⟩, e, hg, hz⟩ := runF_ok bc mc bt mt p.1 hq (s := ⟨inv, 1048576, 0, (inv.length : Int)⟩) ⟨hA, hi, rfl⟩
   refine ⟨okF (mc.length : Int) (s, pn), Ev.neg (by omega) (Ev.then hp (Ev.pos h0 (Ev.then (g := fun _ => _) ⟨0, fun _ _ => ht⟩ (Ev.pos rfl ?_)))), ?_⟩
   ·unfold goF
    exact Ev.pos ⟨by omega, hA⟩ (Ev.then e (Ev.val rfl))
   ·cases pn with
    | none => intro _; have := hg rfl; exact ⟨this.2.1, this.1⟩
    | some q => intro hh; exact absurd hh (hz q rfl)
  | false => exact ⟨⟨[], 20, p.2.1, 0, (inv.length : Int)⟩, Ev.neg (by omega) (Ev.then hp (Ev.pos h0 (Ev.then (g := fun _ => _) ⟨0, fun _ _ => ht⟩ (Ev.neg (by simp) (Ev.val rfl))))), fun h => by simp at h⟩
 ·exact ⟨⟨[], p.2.2, p.2.1, 0, (inv.length : Int)⟩, Ev.neg (by omega) (Ev.then hp (Ev.neg h0 (Ev.val rfl))), fun h => absurd h h0⟩
theorem edges_ev (i : Nat) (W : List (List S47)) (out : List S47) (K : Nat → S51 → Option S51) (hK : ∀ r, ∃ x, Ev (fun k => K k r) x) (ho : out.length ≤ 100000000) (hc : ∀ i : Nat, i < W.length → (Qa4 W (i : Int)).length ≤ 1000) :
    ∀ (l : List Int), (∀ t ∈ l, 0 ≤ t ∧ t < (W.length : Int)) → ∀ (j : Nat) (r : S51), ∃ x, Ev (fun k => Qdk k i W out l j r (K k)) x := by
 intro l
 induction l with
 | nil => exact fun _ j r => hK r
 | cons t l ih =>
  intro hl j r
  have ht := hl t (by simp)
  have hb : (Qa4 W t).length ≤ 1000 := by
   have := hc t.toNat (by omega)
   rwa [Int.toNat_of_nonneg ht.1] at this
  obtain ⟨p, hp⟩ := implies_ev out (Qa4 W t) ho (by omega)
  by_cases h0 : p.2.2 = 0
  ·obtain ⟨x, hx⟩ := ih (fun u hu => hl u (by simp [hu])) (j + 1) (edgeR r out.length (Qa4 W t).length)
   exact ⟨x, by simp only [Qdk]; exact Ev.pos ht (Ev.then hp (Ev.pos h0 hx))⟩
  ·exact ⟨_, by simp only [Qdk]; exact Ev.pos ht (Ev.then hp (Ev.neg h0 (Ev.val rfl)))⟩
theorem has_nil (a b : Int) : Ev (fun k => pairset_Has.f k [] a b) false := ⟨1, fun n hn => by obtain ⟨m, rfl⟩ : ∃ m, n = m + 1 := ⟨n - 1, by omega⟩; rfl⟩
theorem less_self (a b : Int) : Qa3.f a b a b = some false := by unfold Qa3.f; simp
theorem has_one (a b : Int) : Ev (fun k => pairset_Has.f k [⟨a, b⟩] a b) true := by
 have hm : wrap64 ((0 : Int) + wrap64 (Int.tdiv (wrap64 ((1 : Int) - 0)) 2)) = 0 := mid_eq 0 1 (by omega) (by omega)
 have e0 : Ev (fun k => Qas.l0 k [⟨a, b⟩] 0 0 a b) 0 := ⟨1, fun n hn => by obtain ⟨m, rfl⟩ : ∃ m, n = m + 1 := ⟨n - 1, by omega⟩; rfl⟩
 have hl : Ev (fun _ : Nat => Qa3.f (Qaa [⟨a, b⟩] 0).f0 (Qaa [⟨a, b⟩] 0).f1 a b) false := ⟨0, fun _ _ => less_self a b⟩
 have e : Ev (fun k => Qas.l0 k [⟨a, b⟩] 0 1 a b) 0 :=
  Ev.up (g := fun k => (if (0 : Int) < 1 then (if (0 : Int) ≤ 0 then (if (0 : Int) < (([⟨a, b⟩] : List S47).length : Int) then (Qa3.f (Qaa [⟨a, b⟩] 0).f0 (Qaa [⟨a, b⟩] 0).f1 a b).bind fun t => (if t = true then Qas.l0 k [⟨a, b⟩] (wrap64 (0 + 1)) 1 a b else Qas.l0 k [⟨a, b⟩] 0 0 a b) else none) else none) else some 0)) (fun k => by rw [Qas.l0, hm]) (Ev.pos (by omega) (Ev.pos (by omega) (Ev.pos (by simp) (Ev.then hl e0))))
 unfold pairset_Has.f
 exact Ev.then e (Ev.pos (by simp) (Ev.pos (by omega) (Ev.val (by show (a == a && b == b) = true; simp))))
theorem align_nil : Ev (fun k => Qal.f k [] []) ([⟨0, 0, 0, 0, -1, -1⟩], 0, 0) := ⟨4, fun n hn => by obtain ⟨m, rfl⟩ : ∃ m, n = m + 4 := ⟨n - 4, by omega⟩; rfl⟩
theorem run_nil (k : Nat) (bt mt : S37) (s : Bs) : runF k [] [] bt mt [⟨0, 0, 0, 0, -1, -1⟩] s = endF k bt mt 0 s := by simp [runF, rowsF, rowF, copiesF, Qdl, srcF, OBs.then]
theorem blk_one (p q : Int) (inv : List S47) (b : Bool) (hlen : inv.length ≤ 1000) (hA : Asc inv) (h : Ev (fun k => pairset_Has.f k inv p (Go.RowKit.wrap64 (2 * q))) b) :
    ∃ x, Ev (fun k => blockF k [] [] ⟨3, p, 0, 0⟩ ⟨3, q, 0, 0⟩ inv 1048576) x ∧ x.f1 = if b = true then 0 else 21 := by
 refine ⟨okF 0 ((⟨inv, 1048576, 0, (inv.length : Int)⟩ : Bs).cost, if b = true then none else some (21, 0)), ?_, by cases b <;> rfl⟩
 unfold blockF
 refine Ev.neg (by omega) (Ev.then align_nil (Ev.pos rfl (Ev.then (g := fun _ => align_Terms.f 3 p 0 0 3 q 0 0) (a := true) ⟨0, fun _ _ => rfl⟩ (Ev.pos rfl ?_))))
 unfold goF
 refine Ev.pos ⟨by omega, hA⟩ ?_
 simp only [run_nil]
 unfold endF useF
 exact Ev.then (Ev.neg (show ¬ ((3 : Int) = 1) by decide) (Ev.then h (Ev.val rfl))) (Ev.val rfl)
theorem Qcn {α : Type} (l : List α) (x z : α) (i : Nat) (h : i < l.length) : (l ++ [x]).getD i z = l.getD i z := by
 rw [List.getD_eq_getElem?_getD, List.getD_eq_getElem?_getD, List.getElem?_append_left h]
theorem Qco {α : Type} (l : List α) (x z : α) : (l ++ [x]).getD l.length z = x := by
 rw [List.getD_eq_getElem?_getD, List.getElem?_append_right (Nat.le_refl _)]; simp
theorem Qd3.mono {u : Bool} {r m n : Int} (h : Qd3 u r m) (e : m ≤ n) : Qd3 u r n := fun x => ⟨(h x).1, by have := (h x).2; omega⟩
theorem Qd8.mono {a0 a1 a2 a3 m n n' : Int} (h : Qd8 a0 a1 a2 a3 m n) (e : n ≤ n') : Qd8 a0 a1 a2 a3 m n' := ⟨h.1, h.2.1, ⟨h.2.2.1.1.mono e, h.2.2.1.2.mono e⟩, h.2.2.2⟩
theorem ret_ok {p m n : Int} (h0 : 0 ≤ p) (h1 : p < m) : Qd8 3 p 0 0 m n :=
 ⟨⟨by decide, by decide⟩, fun _ => ⟨h0, h1⟩, ⟨fun h => absurd h (by decide), fun h => absurd h (by decide)⟩, Or.inl (by decide), Or.inr rfl, Or.inr rfl⟩
theorem okSrc_app {a r p : Int} {l : List S39} (h : okSrc a r l) (h0 : 0 ≤ p) (h1 : p < r) : okSrc a r (l ++ [⟨[], ⟨3, p, 0, 0⟩⟩]) := by
 refine ⟨h.1, by simp, fun i hi => ?_⟩
 rw [List.length_append, List.length_singleton] at hi
 by_cases hl : i < l.length
 ·have e : Qap (l ++ [⟨[], ⟨3, p, 0, 0⟩⟩]) (i : Int) = Qap l (i : Int) := Qcn l _ z39 i hl
  rw [e]
  exact ⟨(h.2.2 i hl).1, (h.2.2 i hl).2.mono (by rw [List.length_append, List.length_singleton]; omega)⟩
 ·obtain rfl : i = l.length := by omega
  have e : Qap (l ++ [⟨[], ⟨3, p, 0, 0⟩⟩]) (l.length : Int) = ⟨[], ⟨3, p, 0, 0⟩⟩ := Qco l _ z39
  rw [e]
  exact ⟨fun j hj => absurd hj (by simp), ret_ok h0 h1⟩
theorem okMach_app {a r s p : Int} {l : List S57} (h : okMach a r s l) (h0 : 0 ≤ p) (h1 : p < r) : okMach a r s (l ++ [⟨[], ⟨3, p, 0, 0⟩⟩]) := by
 refine ⟨h.1, by simp, fun i hi => ?_⟩
 rw [List.length_append, List.length_singleton] at hi
 by_cases hl : i < l.length
 ·have e : Qam (l ++ [⟨[], ⟨3, p, 0, 0⟩⟩]) (i : Int) = Qam l (i : Int) := Qcn l _ z57 i hl
  rw [e]
  exact ⟨(h.2.2 i hl).1, (h.2.2 i hl).2.mono (by rw [List.length_append, List.length_singleton]; omega)⟩
 ·obtain rfl : i = l.length := by omega
  have e : Qam (l ++ [⟨[], ⟨3, p, 0, 0⟩⟩]) (l.length : Int) = ⟨[], ⟨3, p, 0, 0⟩⟩ := Qco l _ z57
  rw [e]
  exact ⟨⟨fun j hj => absurd hj (by simp), trivial⟩, ret_ok h0 h1⟩
theorem okEdges_app {l : List (List S47)} {x : List S47} {n m r s : Int} (h : okEdges l n m r s) (hx : okRow x m r s) : okEdges (l ++ [x]) (n + 1) m r s := by
 refine ⟨by rw [List.length_append, List.length_singleton]; have := h.1; omega, fun i hi => ?_⟩
 rw [List.length_append, List.length_singleton] at hi
 by_cases hl : i < l.length
 ·have e : Qa4 (l ++ [x]) (i : Int) = Qa4 l (i : Int) := Qcn l _ [] i hl
  rw [e]; exact h.2 i hl
 ·obtain rfl : i = l.length := by omega
  have e : Qa4 (l ++ [x]) (l.length : Int) = x := Qco l _ []
  rw [e]; exact hx
theorem row_nil (m r s : Int) : okRow [] m r s := fun i hi => absurd hi (by simp)
theorem loc_reg {q r s : Int} (h0 : 0 ≤ q) (h1 : q < r) (hr : r ≤ 1000) : okLoc (2 * q) r s := by
 have e1 : Int.tmod (2 * q) 2 = 0 := Int.mul_tmod_right 2 q
 have e2 : Int.tdiv (2 * q) 2 = q := Int.mul_tdiv_cancel_left q (by decide)
 unfold okLoc Qa9.f Qav.f Qbc.f
 simp only [Option.bind_some, e1, e2]
 rw [if_neg (by decide), if_pos (by omega), w64i (by omega) (by omega)]
 simp [h1]
theorem row_one {p q m r s : Int} (h0 : 0 ≤ p) (h1 : p < m) (h2 : okLoc q r s) : okRow [⟨p, q⟩] m r s := fun i hi => by
 obtain rfl : i = 0 := by simp at hi; exact hi
 exact ⟨⟨h0, h1⟩, h2, fun h => absurd h (by omega)⟩
theorem rd12_app (W : List (List S47)) (z : List S47) (t : Int) (h0 : 0 ≤ t) (h : t < (W.length : Int)) : Qa4 (W ++ [z]) t = Qa4 W t := Qcn W z [] t.toNat (by omega)
theorem edges_app (k i : Nat) (W : List (List S47)) (z out : List S47) (K K' : S51 → Option S51) : ∀ (l : List Int) (j : Nat) (r r' : S51), Qdk k i W out l j r K = some r' → r'.f0 = 0 → ∃ r2, K r2 = some r' ∧ Qdk k i (W ++ [z]) out l j r K' = K' r2 ∧ r2.f3 = r.f3 := by
 intro l
 induction l with
 | nil => exact fun j r r' h h0 => ⟨r, h, rfl, rfl⟩
 | cons t l ih =>
  intro j r r' h h0
  simp only [Qdk] at h ⊢
  by_cases ht : 0 ≤ t ∧ t < (W.length : Int)
  ·rw [if_pos ht] at h
   rw [if_pos ⟨ht.1, by rw [List.length_append]; omega⟩, rd12_app W z t ht.1 ht.2]
   obtain ⟨p, hp, h⟩ := Option.bind_eq_some_iff.mp h
   rw [hp]
   by_cases hz : p.2.2 = 0
   ·rw [if_pos hz] at h
    obtain ⟨r2, h1, h2, h3⟩ := ih _ _ _ h h0
    exact ⟨r2, h1, by simp only [Option.bind_some]; rw [if_pos hz]; exact h2, h3⟩
   ·rw [if_neg hz] at h
    obtain rfl := Option.some.inj h
    exact absurd h0 hz
  ·rw [if_neg ht] at h; cases h
theorem blocks_app (k : Nat) (TB : List S57) (y : S57) (W : List (List S47)) (z : List S47) (b : S39) : ∀ (l : List S39) (i : Nat) (r r' : S51), Qcc k TB W l i r = some r' → r'.f0 = 0 → Qcc k (TB ++ [y]) (W ++ [z]) (l ++ [b]) i r = Qcc k (TB ++ [y]) (W ++ [z]) [b] (i + l.length) r' := by
 intro l
 induction l with
 | nil => intro i r r' h h0; simp only [Qcc, Option.some.injEq] at h; subst h; rfl
 | cons c l ih =>
  intro i r r' h h0
  rw [List.cons_append]
  conv => lhs; unfold Qcc
  unfold Qcc at h
  by_cases ht : (i : Int) < (TB.length : Int) ∧ (i : Int) < (W.length : Int)
  ·rw [if_pos ht] at h
   rw [if_pos ⟨by rw [List.length_append]; omega, by rw [List.length_append]; omega⟩, rd12_app W z i (by omega) ht.2]
   have e : Qam (TB ++ [y]) (i : Int) = Qam TB (i : Int) := Qcn TB y z57 i (by omega)
   rw [e]
   obtain ⟨x, hx, h⟩ := Option.bind_eq_some_iff.mp h
   rw [hx]
   by_cases hz : x.f1 = 0
   ·rw [if_pos hz] at h
    obtain ⟨tg, ht, h⟩ := Option.bind_eq_some_iff.mp h
    obtain ⟨r2, h1, h2, h3⟩ := edges_app k i W z x.f0 _ (fun r2 => Qcc k (TB ++ [y]) (W ++ [z]) (l ++ [b]) (i + 1) r2) _ _ _ _ h h0
    simp only [Option.bind_some]
    rw [if_pos hz, ht]
    simp only [Option.bind_some]
    rw [h2, ih _ _ _ h1 h0, List.length_cons, show i + 1 + l.length = i + (l.length + 1) by omega]
   ·rw [if_neg hz] at h
    obtain rfl := Option.some.inj h
    exact absurd h0 hz
  ·rw [if_neg ht] at h; cases h
theorem blocks_cnt (k : Nat) (TB : List S57) (W : List (List S47)) : ∀ (l : List S39) (i : Nat) (r r' : S51), Qcc k TB W l i r = some r' → r'.f0 = 0 → 0 ≤ r.f3 → r.f3 + l.length ≤ 1000 → r'.f3 = r.f3 + l.length := by
 intro l
 induction l with
 | nil => intro i r r' h h0 _ _; simp only [Qcc, Option.some.injEq] at h; subst h; simp
 | cons c l ih =>
  intro i r r' h h0 hr hl
  rw [List.length_cons] at hl ⊢
  unfold Qcc at h
  split at h
  ·obtain ⟨x, hx, h⟩ := Option.bind_eq_some_iff.mp h
   by_cases hz : x.f1 = 0
   ·rw [if_pos hz] at h
    obtain ⟨tg, ht, h⟩ := Option.bind_eq_some_iff.mp h
    obtain ⟨r2, h1, _, h3⟩ := edges_app k i W [] x.f0 _ (fun _ => none) _ _ _ _ h h0
    have e : r2.f3 = r.f3 + 1 := h3.trans ((show (nextR r x).f3 = Go.RowKit.wrap64 (r.f3 + 1) from rfl).trans (w64i (by omega) (by omega)))
    have := ih _ _ _ h1 h0 (by omega) (by omega)
    omega
   ·rw [if_neg hz] at h
    obtain rfl := Option.some.inj h
    exact absurd h0 hz
  ·cases h
theorem Ev.det {α : Type} {f : Nat → Option α} {a b : α} (h1 : Ev f a) (h2 : Ev f b) : a = b := by
 obtain ⟨K, h1⟩ := h1
 obtain ⟨L, h2⟩ := h2
 have e := (h1 (K + L) (by omega)).symm.trans (h2 (K + L) (by omega))
 exact Option.some.inj e
theorem row_asc {l : List S47} {m r s : Int} (h : okRow l m r s) : Asc l := by
 refine List.pairwise_iff_getElem.2 fun i j hi hj hij => ?_
 have go : ∀ d i j (hi : i < l.length) (hj : j < l.length), j = i + 1 + d → Qcj l[i] l[j] = true := by
  intro d
  induction d with
  | zero =>
   intro i j hi hj e
   subst e
   have h2 := (h (i + 1) hj).2.2 (by omega)
   have e1 : Qaa l ((i + 1 - 1 : Nat) : Int) = l[i] := rd47 l i hi
   rw [e1, rd47 l (i + 1) hj] at h2
   have h3 := less_eq l[i] l[i + 1]
   rw [show Qa3.f l[i].f0 l[i].f1 l[i + 1].f0 l[i + 1].f1 = some true from h2] at h3
   exact (Option.some.inj h3).symm
  | succ d ih =>
   intro i j hi hj e
   subst e
   have h1 := ih i (i + 1 + d) hi (by omega) rfl
   have h2 := (h (i + 1 + d + 1) (by omega)).2.2 (by omega)
   have e1 : Qaa l ((i + 1 + d + 1 - 1 : Nat) : Int) = l[i + 1 + d] := rd47 l (i + 1 + d) (by omega)
   rw [e1, rd47 l (i + 1 + d + 1) (by omega)] at h2
   have h3 := less_eq l[i + 1 + d] l[i + 1 + d + 1]
   rw [show Qa3.f l[i + 1 + d].f0 l[i + 1 + d].f1 l[i + 1 + d + 1].f0 l[i + 1 + d + 1].f1 = some true from h2] at h3
   exact Qc9 h1 (Option.some.inj h3).symm
 exact go (j - i - 1) i j hi hj (by omega)
theorem succ_some {a0 a1 a2 a3 m n : Int} (h : Qd8 a0 a1 a2 a3 m n) : ∃ l, source_Successors.f a0 a1 a2 a3 = some l ∧ ∀ t ∈ l, 0 ≤ t ∧ t < n := by
 unfold source_Successors.f
 obtain ⟨_, _, ⟨h2, h3⟩, _⟩ := h
 by_cases h1 : a0 = 1
 ·rw [if_pos h1]
  refine ⟨_, rfl, fun t ht => ?_⟩
  rw [List.mem_singleton] at ht; rw [ht]; exact h2 (by rw [h1]; rfl)
 ·rw [if_neg h1]
  by_cases h4 : a0 = 2
  ·rw [if_pos h4]
   refine ⟨_, rfl, fun t ht => ?_⟩
   rcases List.mem_cons.1 ht with e | e
   ·rw [e]; exact h2 (by rw [h4]; rfl)
   ·rw [List.mem_singleton] at e; rw [e]; exact h3 (by rw [h4]; rfl)
  ·rw [if_neg h4]; exact ⟨_, rfl, by simp⟩
theorem blocks_ev (TB : List S57) (W : List (List S47)) (m : Int) (hT : ∀ i : Nat, i < TB.length → (Qam TB (i : Int)).f0.length ≤ 1000) (hW : ∀ i : Nat, i < W.length → (Qa4 W (i : Int)).length ≤ 1000 ∧ Asc (Qa4 W (i : Int))) :
    ∀ (l : List S39), (∀ b ∈ l, b.f0.length ≤ 1000 ∧ Qd8 b.f1.f0 b.f1.f1 b.f1.f2 b.f1.f3 m W.length) → ∀ (i : Nat) (r : S51), i + l.length ≤ TB.length → i + l.length ≤ W.length → ∃ x, Ev (fun k => Qcc k TB W l i r) x := by
 intro l
 induction l with
 | nil => exact fun _ i r _ _ => ⟨r, ⟨0, fun _ _ => rfl⟩⟩
 | cons b l ih =>
  intro hl i r h1 h2
  rw [List.length_cons] at h1 h2
  obtain ⟨hb1, hb2⟩ := hl b (by simp)
  obtain ⟨x, hx, hx0⟩ := block_ev b.f0 (Qam TB (i : Int)).f0 b.f1 (Qam TB (i : Int)).f1 (Qa4 W (i : Int)) (by omega) (by have := hT i (by omega); omega) (by have := (hW i (by omega)).1; omega) (hW i (by omega)).2
  simp only [Qcc]
  by_cases h0 : x.f1 = 0
  ·obtain ⟨tg, ht, htg⟩ := succ_some hb2
   obtain ⟨y, hy⟩ := edges_ev i W x.f0 (fun k r2 => Qcc k TB W l (i + 1) r2) (fun r2 => ih (fun c hc => hl c (by simp [hc])) (i + 1) r2 (by omega) (by omega)) (by have := (hx0 h0).1; omega) (fun i hi => (hW i hi).1) tg htg 0 (nextR r x)
   exact ⟨y, Ev.pos ⟨by omega, by omega⟩ (Ev.then hx (Ev.pos h0 (Ev.then (g := fun _ => _) ⟨0, fun _ _ => ht⟩ hy)))⟩
  ·exact ⟨_, Ev.pos ⟨by omega, by omega⟩ (Ev.then hx (Ev.neg h0 (Ev.val rfl)))⟩
structure Bnd (sr : Int) (SB : List S39) (tr ts : Int) (TB : List S57) (W : List (List S47)) : Prop where
 b1 : sr ≤ 1000
 b2 : tr ≤ 1000
 b3 : ts ≤ 1000
 l1 : SB.length ≤ 1000
 l2 : TB.length ≤ 1000
 l3 : W.length ≤ 1000
 c1 : ∀ i : Nat, i < SB.length → (Qap SB (i : Int)).f0.length ≤ 1000
 c2 : ∀ i : Nat, i < TB.length → (Qam TB (i : Int)).f0.length ≤ 1000
 c3 : ∀ i : Nat, i < W.length → (Qa4 W (i : Int)).length ≤ 1000
theorem rd39 (l : List S39) (i : Nat) (h : i < l.length) : Qap l (i : Int) = l[i] := by
 show l.getD i z39 = _
 rw [List.getD_eq_getElem?_getD, List.getElem?_eq_getElem h]; rfl
def startR (W : List (List S47)) (x : Int) : S51 := ⟨0, 0, 0, 0, 0, wrap64 (1 + ((Qa4 W 0).length : Int)), x⟩
theorem check_ok {sa sr : Int} {SB : List S39} {ta tr ts : Int} {TB : List S57} {W : List (List S47)} (hB : Bnd sr SB tr ts TB W) (hO : okAll sa sr SB ta tr ts TB W) {e : Int × Int × Int} (he : Ev (fun k => edge_Entry.f k (Qa4 W 0) sa) e) (h0 : e.2.2 = 0) :
    ∃ x r, Ev (fun k => Qcc k TB W SB 0 (startR W x)) r ∧ Ev (fun k => Qdm k sa sr SB ta tr ts TB W) r := by
 obtain ⟨y, hy, hq⟩ := cValid sa sr SB ta tr ts TB W hB.b1 hB.b2 hB.b3 hB.l1 hB.l2 hB.l3 hB.c1 hB.c2 hB.c3
 obtain rfl := hq.2 hO
 obtain ⟨⟨_, hne, hS⟩, _, hlen, hWn, hrows⟩ := hO
 obtain ⟨e', x, he', hb⟩ := begin_ev sa sr SB ta tr ts TB W hB.l3 (by omega) hB.c3
 obtain rfl := Ev.det he he'
 obtain ⟨r, hr⟩ := blocks_ev TB W sr hB.c2 (fun i hi => ⟨hB.c3 i hi, row_asc (hrows i hi)⟩) SB (fun b hb => by
  obtain ⟨i, hi, rfl⟩ := List.mem_iff_getElem.1 hb
  have h1 := hB.c1 i hi
  have h2 := (hS i hi).2
  rw [rd39 SB i hi] at h1 h2
  rw [hWn]
  exact ⟨h1, h2⟩) 0 (startR W x) (by omega) (by omega)
 refine ⟨x, r, hr, ?_⟩
 unfold Qdm
 rw [h0] at hb
 exact Ev.then hy (Ev.pos rfl (Ev.then hb (Ev.pos rfl hr)))
theorem check_ev {sa sr : Int} {SB : List S39} {ta tr ts : Int} {TB : List S57} {W : List (List S47)} (hB : Bnd sr SB tr ts TB W) : ∃ r, Ev (fun k => Qdm k sa sr SB ta tr ts TB W) r ∧ (r.f0 = 0 → okAll sa sr SB ta tr ts TB W ∧ ∃ e x, Ev (fun k => edge_Entry.f k (Qa4 W 0) sa) e ∧ e.2.2 = 0 ∧ Ev (fun k => Qcc k TB W SB 0 (startR W x)) r) := by
 obtain ⟨y, hy, hq⟩ := cValid sa sr SB ta tr ts TB W hB.b1 hB.b2 hB.b3 hB.l1 hB.l2 hB.l3 hB.c1 hB.c2 hB.c3
 by_cases h0 : y = 0
 ·have hO := hq.1 h0
  obtain ⟨⟨_, hne, hS⟩, _, hlen, hWn, hrows⟩ := hO
  obtain ⟨e, x, he, hb⟩ := begin_ev sa sr SB ta tr ts TB W hB.l3 (by omega) hB.c3
  by_cases h1 : e.2.2 = 0
  ·obtain ⟨x', r, h2, h3⟩ := check_ok hB (hq.1 h0) he h1
   exact ⟨r, h3, fun _ => ⟨hq.1 h0, e, x', he, h1, h2⟩⟩
  ·exact ⟨_, by unfold Qdm; exact Ev.then hy (Ev.pos h0 (Ev.then hb (Ev.neg h1 (Ev.val rfl)))), fun h => absurd h h1⟩
 ·exact ⟨_, by unfold Qdm; exact Ev.then hy (Ev.neg h0 (Ev.val rfl)), fun h => absurd h h0⟩
def Sm (r s : S51) : Prop := r.f0 = s.f0 ∧ r.f3 = s.f3
theorem edges_sm (k i : Nat) (W : List (List S47)) (out : List S47) (K : S51 → Option S51) : ∀ (l : List Int) (j : Nat) (r s r' : S51), Sm r s → Qdk k i W out l j r K = some r' → r'.f0 = 0 → ∃ r2 s2, Sm r2 s2 ∧ K r2 = some r' ∧ Qdk k i W out l j s K = K s2 := by
 intro l
 induction l with
 | nil => exact fun j r s r' hs h _ => ⟨r, s, hs, h, rfl⟩
 | cons t l ih =>
  intro j r s r' hs h h0
  simp only [Qdk] at h ⊢
  by_cases ht : 0 ≤ t ∧ t < (W.length : Int)
  ·rw [if_pos ht] at h ⊢
   obtain ⟨p, hp, h⟩ := Option.bind_eq_some_iff.mp h
   rw [hp]
   by_cases hz : p.2.2 = 0
   ·rw [if_pos hz] at h
    obtain ⟨r2, s2, h1, h2, h3⟩ := ih (j + 1) (edgeR r out.length (Qa4 W t).length) (edgeR s out.length (Qa4 W t).length) _ ⟨hs.1, hs.2⟩ h h0
    exact ⟨r2, s2, h1, h2, by simp only [Option.bind_some]; rw [if_pos hz]; exact h3⟩
   ·rw [if_neg hz] at h
    obtain rfl := Option.some.inj h
    exact absurd h0 hz
  ·rw [if_neg ht] at h; cases h
theorem blocks_sm (k : Nat) (TB : List S57) (W : List (List S47)) : ∀ (l : List S39) (i : Nat) (r s r' : S51), Sm r s → Qcc k TB W l i r = some r' → r'.f0 = 0 → ∃ s', Qcc k TB W l i s = some s' ∧ Sm r' s' := by
 intro l
 induction l with
 | nil => intro i r s r' hs h h0; simp only [Qcc, Option.some.injEq] at h; subst h; exact ⟨s, rfl, hs⟩
 | cons c l ih =>
  intro i r s r' hs h h0
  unfold Qcc at h ⊢
  split at h
  ·next ht =>
   rw [if_pos ht]
   obtain ⟨x, hx, h⟩ := Option.bind_eq_some_iff.mp h
   rw [hx]
   by_cases hz : x.f1 = 0
   ·rw [if_pos hz] at h
    obtain ⟨tg, ht, h⟩ := Option.bind_eq_some_iff.mp h
    obtain ⟨r2, s2, h1, h2, h3⟩ := edges_sm k i W x.f0 _ tg 0 (nextR r x) (nextR s x) _ ⟨hs.1, by show wrap64 (r.f3 + 1) = wrap64 (s.f3 + 1); rw [hs.2]⟩ h h0
    obtain ⟨s', h4, h5⟩ := ih _ _ _ _ h1 h2 h0
    refine ⟨s', ?_, h5⟩
    simp only [Option.bind_some]
    rw [if_pos hz, ht]
    simp only [Option.bind_some]
    rw [h3]; exact h4
   ·rw [if_neg hz] at h
    obtain rfl := Option.some.inj h
    exact absurd h0 hz
  ·cases h
theorem Qc1 {sa sr : Int} {SB : List S39} {ta tr ts : Int} {TB : List S57} {W : List (List S47)} (hB : Bnd sr SB tr ts TB W) (h1 : SB.length ≤ 900) (h2 : TB.length ≤ 900) (h3 : W.length ≤ 900) {r : S51} (hr : Ev (fun k => Qdm k sa sr SB ta tr ts TB W) r) (h0 : r.f0 = 0) {p q : Int} (hp0 : 0 ≤ p) (hp1 : p < sr) (hq0 : 0 ≤ q) (hq1 : q < tr)
    (row : List S47) (hrl : row.length ≤ 1000) (hrow : okRow row sr tr ts) (b : Bool) (hb : Ev (fun k => pairset_Has.f k row p (Go.RowKit.wrap64 (2 * q))) b) :
    ∃ r', Ev (fun k => Qdm k sa sr (SB ++ [⟨[], ⟨3, p, 0, 0⟩⟩]) ta tr ts (TB ++ [⟨[], ⟨3, q, 0, 0⟩⟩]) (W ++ [row])) r' ∧
     if b = true then r'.f0 = 0 ∧ r'.f3 = (W.length : Int) + 1 else r'.f0 = 21 ∧ r'.f1 = (W.length : Int) := by
 obtain ⟨r1, hr1, hq⟩ := check_ev (sa := sa) (ta := ta) hB
 obtain rfl := Ev.det hr1 hr
 obtain ⟨hO, e, x, he, he0, hbl⟩ := hq h0
 obtain ⟨hO1, hO2, hO3, hO4⟩ := hO
 have hSW : W.length = SB.length := by have := hO4.1; omega
 have hST : TB.length = SB.length := by have := hO3.1; omega
 have hB' : Bnd sr (SB ++ [⟨[], ⟨3, p, 0, 0⟩⟩]) tr ts (TB ++ [⟨[], ⟨3, q, 0, 0⟩⟩]) (W ++ [row]) := by
  refine ⟨hB.b1, hB.b2, hB.b3, by rw [List.length_append, List.length_singleton]; omega, by rw [List.length_append, List.length_singleton]; omega, by rw [List.length_append, List.length_singleton]; omega, fun i hi => ?_, fun i hi => ?_, fun i hi => ?_⟩
  ·rw [List.length_append, List.length_singleton] at hi
   by_cases hl : i < SB.length
   ·rw [show Qap (SB ++ [⟨[], ⟨3, p, 0, 0⟩⟩]) (i : Int) = Qap SB (i : Int) from Qcn SB _ z39 i hl]; exact hB.c1 i hl
   ·obtain rfl : i = SB.length := by omega
    rw [show Qap (SB ++ [⟨[], ⟨3, p, 0, 0⟩⟩]) (SB.length : Int) = ⟨[], ⟨3, p, 0, 0⟩⟩ from Qco SB _ z39]; simp
  ·rw [List.length_append, List.length_singleton] at hi
   by_cases hl : i < TB.length
   ·rw [show Qam (TB ++ [⟨[], ⟨3, q, 0, 0⟩⟩]) (i : Int) = Qam TB (i : Int) from Qcn TB _ z57 i hl]; exact hB.c2 i hl
   ·obtain rfl : i = TB.length := by omega
    rw [show Qam (TB ++ [⟨[], ⟨3, q, 0, 0⟩⟩]) (TB.length : Int) = ⟨[], ⟨3, q, 0, 0⟩⟩ from Qco TB _ z57]; simp
  ·rw [List.length_append, List.length_singleton] at hi
   by_cases hl : i < W.length
   ·rw [show Qa4 (W ++ [row]) (i : Int) = Qa4 W (i : Int) from Qcn W _ [] i hl]; exact hB.c3 i hl
   ·obtain rfl : i = W.length := by omega
    rw [show Qa4 (W ++ [row]) (W.length : Int) = row from Qco W _ []]; exact hrl
 have hne := hO1.2.1
 have hW0 : Qa4 (W ++ [row]) 0 = Qa4 W 0 := rd12_app W row 0 (by omega) (by omega)
 have hO' : okAll sa sr (SB ++ [⟨[], ⟨3, p, 0, 0⟩⟩]) ta tr ts (TB ++ [⟨[], ⟨3, q, 0, 0⟩⟩]) (W ++ [row]) :=
  ⟨okSrc_app hO1 hp0 hp1, okMach_app hO2 hq0 hq1, ⟨by rw [List.length_append, List.length_append, List.length_singleton, List.length_singleton]; omega, hO3.2⟩, by
   have := okEdges_app hO4 hrow
   rwa [show (((SB ++ [(⟨[], ⟨3, p, 0, 0⟩⟩ : S39)]).length : Nat) : Int) = (SB.length : Int) + 1 by rw [List.length_append, List.length_singleton]; omega]⟩
 obtain ⟨x', r', h5, h6⟩ := check_ok hB' hO' (hW0 ▸ he) he0
 refine ⟨r', h6, ?_⟩
 obtain ⟨y, hy, hy0⟩ := blk_one p q row b hrl (row_asc hrow) hb
 obtain ⟨K1, hbl⟩ := hbl
 obtain ⟨K2, h5⟩ := h5
 obtain ⟨K3, hy⟩ := hy
 have e1 := hbl (K1 + K2 + K3) (by omega)
 have e2 := h5 (K1 + K2 + K3) (by omega)
 have e3 := hy (K1 + K2 + K3) (by omega)
 obtain ⟨s', e4, e5⟩ := blocks_sm _ TB W SB 0 (startR W x) (startR (W ++ [row]) x') r1 ⟨rfl, rfl⟩ e1 h0
 have hs0 : s'.f0 = 0 := e5.1 ▸ h0
 have e6 := blocks_app (K1 + K2 + K3) TB ⟨[], ⟨3, q, 0, 0⟩⟩ W row ⟨[], ⟨3, p, 0, 0⟩⟩ SB 0 _ s' e4 hs0
 have e7 := blocks_cnt _ TB W SB 0 _ s' e4 hs0 (by show (0 : Int) ≤ 0; omega) (by show (0 : Int) + _ ≤ _; omega)
 rw [show (startR (W ++ [row]) x').f3 = 0 from rfl] at e7
 simp only [] at e2
 rw [e6] at e2
 unfold Qcc at e2
 rw [if_pos ⟨by rw [List.length_append, List.length_singleton]; omega, by rw [List.length_append, List.length_singleton]; omega⟩] at e2
 have t1 : Qam (TB ++ [⟨[], ⟨3, q, 0, 0⟩⟩]) ((0 + SB.length : Nat) : Int) = ⟨[], ⟨3, q, 0, 0⟩⟩ := by rw [Nat.zero_add, ← hST]; exact Qco TB _ z57
 have t2 : Qa4 (W ++ [row]) ((0 + SB.length : Nat) : Int) = row := by rw [Nat.zero_add, ← hSW]; exact Qco W _ []
 rw [t1, t2] at e2
 simp only [] at e2 e3
 rw [e3] at e2
 simp only [Option.bind_some] at e2
 cases b with
 | true =>
  rw [if_pos (by rw [hy0]; rfl), show source_Successors.f 3 p 0 0 = some [] from rfl] at e2
  simp only [Option.bind_some, Qdk, Qcc, Option.some.injEq] at e2
  rw [if_pos rfl, ← e2]
  refine ⟨hs0, ?_⟩
  show wrap64 (s'.f3 + 1) = _
  rw [e7, w64i (by omega) (by omega)]; omega
 | false =>
  rw [if_neg (by rw [hy0]; simp)] at e2
  simp only [Option.some.injEq] at e2
  rw [if_neg (by simp), ← e2]
  refine ⟨hy0, ?_⟩
  show ((0 + SB.length : Nat) : Int) = _
  omega
theorem take_getD {α : Type} (l : List α) (z : α) (i : Nat) (h : i < l.length) : l.take i ++ [l.getD i z] = l.take (i + 1) := by
 rw [List.take_add_one, List.getD_eq_getElem?_getD, List.getElem?_eq_getElem h]; rfl
theorem copy07_ev (a r : Int) (l : List S39) (hl : l.length ≤ 1000) (hc : ∀ j : Nat, j < l.length → (Qap l (j : Int)).f0.length ≤ 1000) (x0 x1 : Int) : ∀ (n i : Nat), l.length - i = n → i ≤ l.length →
    Ev (fun k => Qan.l0 k (i : Int) a r l x0 x1 (l.take i)) (x0, x1, l) := by
 intro n
 induction n with
 | zero =>
  intro i hn hi
  exact Ev.up (g := fun k => _) (fun k => rfl) (Ev.neg (by omega) (Ev.val (by rw [List.take_of_length_le (by omega)])))
 | succ n ih =>
  intro i hn hi
  have hw : wrap64 ((i : Int) + 1) = ((i + 1 : Nat) : Int) := by rw [w64i (by omega) (by omega)]; omega
  have hci := hc i (by omega)
  have hk : (l.take i).length ≤ 1000 := by rw [List.length_take]; omega
  have := ih (i + 1) (by omega) (by omega)
  rw [← take_getD l z39 i (by omega)] at this
  refine Ev.up (g := fun k => _) (fun k => rfl) (Ev.pos (by omega) (Ev.then (a := ([] : List S41)) (Ev.val rfl) (Ev.pos (by omega) (Ev.pos (by simp only [List.length_nil]; omega) (Ev.pos (by omega) ?_)))))
  rw [hw]; exact this
theorem copy08_ev (a r s : Int) (l : List S57) (hl : l.length ≤ 1000) (hc : ∀ j : Nat, j < l.length → (Qam l (j : Int)).f0.length ≤ 1000) (x0 x1 x2 : Int) : ∀ (n i : Nat), l.length - i = n → i ≤ l.length →
    Ev (fun k => Qaj.l0 k (i : Int) a r s l x0 x1 x2 (l.take i)) (x0, x1, x2, l) := by
 intro n
 induction n with
 | zero =>
  intro i hn hi
  exact Ev.up (g := fun k => _) (fun k => rfl) (Ev.neg (by omega) (Ev.val (by rw [List.take_of_length_le (by omega)])))
 | succ n ih =>
  intro i hn hi
  have hw : wrap64 ((i : Int) + 1) = ((i + 1 : Nat) : Int) := by rw [w64i (by omega) (by omega)]; omega
  have hci := hc i (by omega)
  have hk : (l.take i).length ≤ 1000 := by rw [List.length_take]; omega
  have := ih (i + 1) (by omega) (by omega)
  rw [← take_getD l z57 i (by omega)] at this
  refine Ev.up (g := fun k => _) (fun k => rfl) (Ev.pos (by omega) (Ev.then (a := ([] : List S59)) (Ev.val rfl) (Ev.pos (by omega) (Ev.pos (by simp only [List.length_nil]; omega) (Ev.pos (by omega) ?_)))))
  rw [hw]; exact this
theorem copy16_ev (a0 a1 : Int) (l2 : List S39) (a3 a4 a5 : Int) (l6 : List S57) (l : List (List S47)) (hl : l.length ≤ 1000) (hc : ∀ j : Nat, j < l.length → (Qa4 l (j : Int)).length ≤ 1000) (x0 x1 : Int) (x2 : List S39) (x3 x4 x5 : Int) (x6 : List S57) : ∀ (n i : Nat), l.length - i = n → i ≤ l.length →
    Ev (fun k => Qae.l0 k (i : Int) a0 a1 l2 a3 a4 a5 l6 l x0 x1 x2 x3 x4 x5 x6 (l.take i)) (x0, x1, x2, x3, x4, x5, x6, l) := by
 intro n
 induction n with
 | zero =>
  intro i hn hi
  exact Ev.up (g := fun k => _) (fun k => rfl) (Ev.neg (by omega) (Ev.val (by rw [List.take_of_length_le (by omega)])))
 | succ n ih =>
  intro i hn hi
  have hw : wrap64 ((i : Int) + 1) = ((i + 1 : Nat) : Int) := by rw [w64i (by omega) (by omega)]; omega
  have hci := hc i (by omega)
  have hk : (l.take i).length ≤ 1000 := by rw [List.length_take]; omega
  have := ih (i + 1) (by omega) (by omega)
  rw [← take_getD l [] i (by omega)] at this
  refine Ev.up (g := fun k => _) (fun k => rfl) (Ev.pos (by omega) (Ev.then (a := ([] : List S47)) (Ev.val rfl) (Ev.pos (by omega) (Ev.pos (by simp only [List.length_nil]; omega) (Ev.pos (by omega) ?_)))))
  rw [hw]; exact this
theorem copy16 (a0 a1 : Int) (l2 : List S39) (a3 a4 a5 : Int) (l6 : List S57) (l7 : List (List S47)) (h2 : l2.length ≤ 1000) (h6 : l6.length ≤ 1000) (h7 : l7.length ≤ 1000)
    (c2 : ∀ j : Nat, j < l2.length → (Qap l2 (j : Int)).f0.length ≤ 1000) (c6 : ∀ j : Nat, j < l6.length → (Qam l6 (j : Int)).f0.length ≤ 1000) (c7 : ∀ j : Nat, j < l7.length → (Qa4 l7 (j : Int)).length ≤ 1000) :
    Ev (fun k => Qae.f k a0 a1 l2 a3 a4 a5 l6 l7) (a0, a1, l2, a3, a4, a5, l6, l7) := by
 unfold Qae.f
 exact Ev.then (copy07_ev a0 a1 l2 h2 c2 a0 a1 _ 0 rfl (by omega)) (Ev.then (copy08_ev a3 a4 a5 l6 h6 c6 a3 a4 a5 _ 0 rfl (by omega)) (copy16_ev a0 a1 l2 a3 a4 a5 l6 l7 h7 c7 _ _ _ _ _ _ _ _ 0 rfl (by omega)))
def tup (r : S51) : Int × Int × Int × Int × Int × Int × Int := (r.f0, r.f1, r.f2, r.f3, r.f4, r.f5, r.f6)
theorem Check_ev {sa sr : Int} {SB : List S39} {ta tr ts : Int} {TB : List S57} {W : List (List S47)} {r : S51} (h : Ev (fun k => Qdm k sa sr SB ta tr ts TB W) r) : Ev (fun k => Qa8.f k sa sr SB ta tr ts TB W) (tup r) := by
 obtain ⟨K, h⟩ := h
 refine ⟨K, fun n hn => ?_⟩
 show (Qdm n sa sr SB ta tr ts TB W).map _ = _
 rw [show Qdm n sa sr SB ta tr ts TB W = some r from h n hn]; rfl
theorem j0u_true (a1 a2 b0 b1 : Int) (b2 : List S39) (b3 b4 b5 : Int) (b6 : List S57) (b7 : List (List S47)) : Ev (fun k => Qac.j0 k a1 a2 true b0 b1 b2 b3 b4 b5 b6 b7) true := ⟨1, fun n hn => by obtain ⟨m, rfl⟩ : ∃ m, n = m + 1 := ⟨n - 1, by omega⟩; rfl⟩
theorem rd12_set (W : List (List S47)) (z : List S47) : (W ++ [z]).set W.length [] = W ++ [[]] := by
 rw [List.set_append_right _ _ (Nat.le_refl _)]; simp
theorem j0u_false (a1 a2 b0 b1 : Int) (b2 : List S39) (b3 b4 b5 : Int) (b6 : List S57) (b7 : List (List S47)) {p q : Int} (hp : Int.tmod (wrap64 a1) b1 = p) (hq : Int.tmod (wrap64 a2) b4 = q) (h1 : b1 ≠ 0) (h4 : b4 ≠ 0) (l2 : b2.length ≤ 900) (l6 : b6.length ≤ 900) (l7 : b7.length ≤ 900)
    (hc : Ev (fun k => Qae.f k b0 b1 b2 b3 b4 b5 b6 b7) (b0, b1, b2, b3, b4, b5, b6, b7)) {r s : S51}
    (hr : Ev (fun k => Qdm k b0 b1 (b2 ++ [⟨[], ⟨3, p, 0, 0⟩⟩]) b3 b4 b5 (b6 ++ [⟨[], ⟨3, q, 0, 0⟩⟩]) (b7 ++ [[⟨p, wrap64 (2 * q)⟩]])) r)
    (hs : Ev (fun k => Qdm k b0 b1 (b2 ++ [⟨[], ⟨3, p, 0, 0⟩⟩]) b3 b4 b5 (b6 ++ [⟨[], ⟨3, q, 0, 0⟩⟩]) (b7 ++ [[]])) s)
    (r0 : r.f0 = 0) (r3 : r.f3 = (b7.length : Int) + 1) (s0 : s.f0 = 21) (s1 : s.f1 = (b7.length : Int)) : Ev (fun k => Qac.j0 k a1 a2 false b0 b1 b2 b3 b4 b5 b6 b7) true := by
 subst hp hq
 refine Ev.up (g := fun k => _) (fun k => by rw [Qac.j0]) ?_
 refine Ev.neg (by simp) ?_
 refine Ev.then hc ?_
 refine Ev.neg h1 ?_
 refine Ev.neg h4 ?_
 refine Ev.pos (show b2.length < 2513169434916 by omega) ?_
 refine Ev.then (Ev.val rfl) ?_
 refine Ev.pos (show b6.length < 2513169434916 by omega) ?_
 refine Ev.then (Ev.val rfl) ?_
 refine Ev.pos (show b7.length < 5864062014805 by omega) ?_
 refine Ev.then (Ev.val rfl) ?_
 refine Ev.then (Check_ev hr) ?_
 have hlen : ((b7 ++ [[(⟨Int.tmod (wrap64 a1) b1, wrap64 (2 * Int.tmod (wrap64 a2) b4)⟩ : S47)]]).length : Int) = (b7.length : Int) + 1 := by rw [List.length_append, List.length_singleton]; omega
 refine Ev.pos (show 0 ≤ (b7.length : Int) by omega) ?_
 refine Ev.pos (show (b7.length : Int) < ((b7 ++ [[(⟨Int.tmod (wrap64 a1) b1, wrap64 (2 * Int.tmod (wrap64 a2) b4)⟩ : S47)]]).length : Int) by omega) ?_
 refine Ev.then (a := tup s) ?_ (Ev.pos r0 (Ev.pos (show r.f3 = wrap64 ((b7.length : Int) + 1) by rw [r3, w64i (by omega) (by omega)]) (Ev.pos s0 (Ev.val (show (s.f1 == (b7.length : Int)) = true by rw [s1]; simp)))))
 have := Check_ev hs
 rw [← rd12_set b7 [⟨Int.tmod (wrap64 a1) b1, wrap64 (2 * Int.tmod (wrap64 a2) b4)⟩]] at this
 exact this
theorem unreach (x0 : S30) (a1 a2 : Int) (g : good30 x0) (g1 : (Lit.int .u8 a1).wf = true) (g2 : (Lit.int .u8 a2).wf = true) : ∃ k, Qac.f k x0.f0.f0 x0.f0.f1 x0.f0.f2 x0.f1.f0 x0.f1.f1 x0.f1.f2 x0.f1.f3 x0.f2 a1 a2 = some true := by
 obtain ⟨⟨sa, sr, SB⟩, ⟨ta, tr, ts, TB⟩, W⟩ := x0
 have m1 : maxLen ≤ 9223372036854775807 := by decide
 have g3 : SB.length ≤ maxLen := g.1.2.2.1
 have g4 : TB.length ≤ maxLen := g.2.1.2.2.2.1
 have g5 : W.length ≤ maxLen := g.2.2.1
 have p1 : 0 ≤ a1 ∧ a1 < 256 := by
  have h : IntKind.u8.min ≤ a1 ∧ a1 ≤ IntKind.u8.max := by simpa [Lit.wf] using g1
  have h1 : IntKind.u8.min = 0 := by decide
  have h2 : IntKind.u8.max = 255 := by decide
  omega
 have p2 : 0 ≤ a2 ∧ a2 < 256 := by
  have h : IntKind.u8.min ≤ a2 ∧ a2 ≤ IntKind.u8.max := by simpa [Lit.wf] using g2
  have h1 : IntKind.u8.min = 0 := by decide
  have h2 : IntKind.u8.max = 255 := by decide
  omega
 suffices h : Ev (fun k => Qac.f k sa sr SB ta tr ts TB W a1 a2) true from by
  obtain ⟨K, h⟩ := h
  exact ⟨K, h K (Nat.le_refl _)⟩
 unfold Qac.f
 obtain ⟨b, eb, qb⟩ := few16 sa sr SB ta tr ts TB W (by omega) (by omega) (by omega)
 refine Ev.then (Ev.val rfl) (Ev.pos rfl (Ev.then eb ?_))
 cases b with
 | false => exact Ev.neg (by simp) (j0u_true _ _ _ _ _ _ _ _ _ _)
 | true =>
  refine Ev.pos rfl ?_
  obtain ⟨⟨n1, n2, n3⟩, ⟨n4, n5, n6, n7⟩, n8, n9⟩ := qb rfl
  by_cases h1 : sr ≤ 0
  ·exact Ev.pos h1 (j0u_true _ _ _ _ _ _ _ _ _ _)
  ·by_cases h4 : tr ≤ 0
   ·exact Ev.neg h1 (Ev.pos h4 (j0u_true _ _ _ _ _ _ _ _ _ _))
   ·have hB : Bnd sr SB tr ts TB W := ⟨by omega, by omega, by omega, by omega, by omega, by omega, fun i hi => by have := n3 i hi; omega, fun i hi => by have := n7 i hi; omega, fun i hi => by have := n9 i hi; omega⟩
    obtain ⟨r, hr, hq⟩ := check_ev (sa := sa) (ta := ta) hB
    refine Ev.neg h1 (Ev.neg h4 (Ev.then (Check_ev hr) ?_))
    show Ev (fun k => Qac.j0 k a1 a2 (r.f0 != 0) sa sr SB ta tr ts TB W) true
    by_cases h0 : r.f0 = 0
    ·rw [show (r.f0 != 0) = false by simp [h0]]
     have e1 : wrap64 a1 = a1 := w64i (by omega) (by omega)
     have e2 : wrap64 a2 = a2 := w64i (by omega) (by omega)
     have p0 : 0 ≤ Int.tmod (wrap64 a1) sr := by rw [e1]; exact Int.tmod_nonneg _ p1.1
     have p3 : Int.tmod (wrap64 a1) sr < sr := Int.tmod_lt_of_pos _ (by omega)
     have q0 : 0 ≤ Int.tmod (wrap64 a2) tr := by rw [e2]; exact Int.tmod_nonneg _ p2.1
     have q3 : Int.tmod (wrap64 a2) tr < tr := Int.tmod_lt_of_pos _ (by omega)
     have e3 : wrap64 (2 * Int.tmod (wrap64 a2) tr) = 2 * Int.tmod (wrap64 a2) tr := w64i (by omega) (by omega)
     obtain ⟨r', hr', hr2⟩ := Qc1 hB (by omega) (by omega) (by omega) hr h0 p0 p3 q0 q3 [⟨Int.tmod (wrap64 a1) sr, wrap64 (2 * Int.tmod (wrap64 a2) tr)⟩] (by simp) (row_one p0 p3 (by rw [e3]; exact loc_reg q0 q3 (by omega))) true (has_one _ _)
     obtain ⟨s', hs', hs2⟩ := Qc1 hB (by omega) (by omega) (by omega) hr h0 p0 p3 q0 q3 [] (by simp) (row_nil _ _ _) false (has_nil _ _)
     rw [if_pos rfl] at hr2
     rw [if_neg (by simp)] at hs2
     exact j0u_false a1 a2 sa sr SB ta tr ts TB W rfl rfl (by omega) (by omega) (by omega) (by omega) (by omega) (copy16 sa sr SB ta tr ts TB W (by omega) (by omega) (by omega) (fun i hi => by have := n3 i hi; omega) (fun i hi => by have := n7 i hi; omega) (fun i hi => by have := n9 i hi; omega)) hr' hs' hr2.1 hr2.2 hs2.1 hs2.2
    ·rw [show (r.f0 != 0) = true by simp [h0]]
     exact j0u_true _ _ _ _ _ _ _ _ _ _
end Go.Proofs.YtchpkjgibloleaaGreat.Z
