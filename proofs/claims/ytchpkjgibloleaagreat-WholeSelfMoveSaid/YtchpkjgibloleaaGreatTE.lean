/- TE -/
import Derived.Test.YtchpkjgibloleaaGreatTD
import Derived.Test.YtchpkjgibloleaaGreatProg
import Derived.Test.YtchpkjgibloleaaGreatTA
import Derived.WalkLawsBesides
import Derived.Test.YtchpkjgibloleaaGreatTW
import Derived.Deep.Slices
import Derived.ProofKit
import Derived.OpenShut
import Derived.Test.YtchpkjgibloleaaGreatRows
import Derived.WalkKit
import Derived.ShutString
import Derived.ChangeOld
import Derived.Below
import Derived.SizedLaws
import Derived.Carry
import Derived.Test.YtchpkjgibloleaaGreatTC
set_option linter.unusedVariables false
set_option linter.unusedSimpArgs false
namespace Go.Proofs.YtchpkjgibloleaaGreat.V
set_option maxRecDepth 100000
set_option maxHeartbeats 8000000
open Go
structure St where
 tm : List AV
 H : Hp
 dead : List Nat
 df : List (FuncId × List C0)
 r : Nat
 deriving DecidableEq
noncomputable def St.put (s : St) (dst : Option Tmp) (v : AV) : St :=
 match dst with
 | some d => { s with tm := setA s.tm d v }
 | none => s
structure Rel (D : Nat → Prop) (w0 : World) (ρ : Ren) (s : St) (a : Act) (w : World) : Prop where
 tm : RT ρ s.tm a
 df : All2 (fun (x : FuncId × List C0) (d : Deferred) => ∃ C, All2 (C0.R ρ) x.2 C ∧ d = { target := .fn (.func x.1) C.toArray, args := #[] }) s.df a.defers
 rh : RH D w0 ρ s.H s.dead w
abbrev Qdl := FuncId → List AV → Nat → Hp → List Nat → Option Mem
def Qed (P : Program) (D : Nat → Prop) (w0 : World) (call : Qdl) : Prop :=
 ∀ k xs nm H dead r H' dead' ρ vs w, call k xs nm H dead = some (r, H', dead') → RH D w0 ρ H dead w → All2 (AV.R ρ) xs vs →
  (∃ fn, P.funcs[k]? = some fn ∧ (fn.name == "runtime.NumGoroutine") = false ∧ fn.body.isNone = false) ∧
  Calls P k vs.toArray w fun e w' => ∃ ρ' V, ρ.le ρ' ∧ e = .returned V ∧ r.R ρ' V ∧ RH D w0 ρ' H' dead' w'
noncomputable def gA (ops : List Oper) (tm : List AV) (o : Oper) : Option Bool :=
 match o.guard with
 | none => some true
 | some (j, want) => match ops[j]? with
  | some oj => match oj.dst with
   | some d => match nthA tm d with
    | .c (.c (.b x)) => some (x == want)
    | .t _ => some false
    | _ => none
   | none => none
  | none => none
def liftC (l : List C0) : List AV := l.map fun x => .c (.c x)
noncomputable def evCallOp (call : Qdl) (tm : List AV) (nm : Nat) (H : Hp) (dead : List Nat) (o : Oper) : Option Mem :=
 match o.op with
 | .call { callee := .value f, args, .. } => match opV tm f, opsV tm args.toList with
  | some (.c (.f k first cap)), some xs => call k (liftC first ++ xs ++ liftC cap) nm H dead
  | _, _ => none
 | _ => none
noncomputable def evDefer (tm : List AV) (o : Oper) : Option (FuncId × List C0) :=
 match o.op with
 | .defer { callee := .value f, args, .. } => match opV tm f, args.toList with
  | some (.c (.f k [] cap)), [] => some (k, cap)
  | _, _ => none
 | _ => none
noncomputable def quietS (P : Program) (ops : List Oper) (o : Oper) (s : St) : Option St :=
 match gA ops s.tm o with
 | none => none
 | some false => some (s.put o.dst Qd0)
 | some true => match evPure P s.tm o with
  | some v => some (s.put o.dst v)
  | none => none
noncomputable def stepS (P : Program) (call : Qdl) (ops : List Oper) (pre i : Nat) (o : Oper) (s : St) : Option St :=
 match quietS P ops o s with
 | some s' => some s'
 | none => match gA ops s.tm o with
  | some true => match evMem P s.tm (pre * 65536 + s.r * 64 + i) s.H s.dead o with
   | some (v, H, dead) => some { s.put o.dst v with H := H, dead := dead }
   | none => match evCallOp call s.tm (pre * 65536 + s.r * 64 + i) s.H s.dead o with
    | some (v, H, dead) => some { s.put o.dst v with H := H, dead := dead }
    | none => match evDefer s.tm o with
     | some d => some { s.put o.dst Qd0 with df := d :: s.df }
     | none => none
  | _ => none
section
variable {P : Program} {D : Nat → Prop} {w0 : World} {ρ : Ren} {s s' : St} {a : Act} {w : World} {call : Qdl} {ops : Array Oper} {Q : Exit → Act → World → Prop}
theorem RT.put {tm : List AV} (h : RT ρ tm a) {v : AV} {V : Value} (hv : v.R ρ V) (dst : Option Tmp) : RT ρ (match dst with | some d => tm.set d v | none => tm) (a.put dst V) := by
 cases dst with
 | none => exact h
 | some d =>
  show All2 _ (tm.set d v) (a.tmps.setIfInBounds d V).toList
  rw [Array.toList_setIfInBounds]
  exact All2.set hv h d
theorem St.put_tm (s : St) (dst : Option Tmp) (v : AV) : (s.put dst v).tm = (match dst with | some d => s.tm.set d v | none => s.tm) := by
 cases dst with
 | none => rfl
 | some d => exact setA_eq _ _ _
theorem St.put_H (s : St) (dst : Option Tmp) (v : AV) : (s.put dst v).H = s.H ∧ (s.put dst v).dead = s.dead ∧ (s.put dst v).df = s.df ∧ (s.put dst v).r = s.r := by cases dst <;> exact ⟨rfl, rfl, rfl, rfl⟩
theorem put_defers (a : Act) (dst : Option Tmp) (V : Value) : (a.put dst V).defers = a.defers := by cases dst <;> rfl
theorem Rel.put (h : Rel D w0 ρ s a w) {v : AV} {V : Value} (hv : v.R ρ V) (dst : Option Tmp) : Rel D w0 ρ (s.put dst v) (a.put dst V) w := by
 obtain ⟨h1, h2, h3, h4⟩ := St.put_H s dst v
 exact ⟨by rw [St.put_tm]; exact h.tm.put hv dst, by rw [h3, put_defers]; exact h.df, by rw [h1, h2]; exact h.rh⟩
theorem gA_sound (h : RT ρ s.tm a) {o : Oper} {b : Bool} (hg : gA ops.toList s.tm o = some b) : Region.wanted o (yielded ops a.tmps) = b := by
 unfold gA at hg
 unfold Region.wanted
 split at hg
 ·rename_i hn; simp at hg; subst hg; rw [hn]
 ·rename_i j want hn
  rw [hn]
  split at hg
  ·rename_i oj hj
   split at hg
   ·rename_i d hd
    split at hg
    ·rename_i x hx
     simp at hg; subst hg
     have hr := Qdn h d
     rw [hx] at hr
     have hr : a.tmps.getD d undef = .bool x := hr
     have hj' : ops[j]? = some oj := by simpa using hj
     have hy' : a.tmps[d]? = some (.bool x) := by
      rw [Array.getD_eq_getD_getElem?] at hr
      cases hh : a.tmps[d]? with
      | none => rw [hh] at hr; simp [undef] at hr
      | some y => rw [hh] at hr; simpa using hr
     simp only [yielded, hj', Option.bind_some, hd, hy']
     cases x <;> cases want <;> rfl
    ·rename_i l hx
     simp at hg; subst hg
     have hr := Qdn h d
     rw [hx] at hr
     obtain ⟨L, _, hr⟩ := hr
     have hj' : ops[j]? = some oj := by simpa using hj
     rw [Array.getD_eq_getD_getElem?] at hr
     simp only [yielded, hj', Option.bind_some, hd]
     cases hh : a.tmps[d]? with
     | none => rfl
     | some y => rw [hh] at hr; simp at hr; subst hr; rfl
    ·cases hg
   ·cases hg
  ·cases hg
theorem quietS_sound (h : Rel D w0 ρ s a w) {o : Oper} (he : quietS P ops.toList o s = some s') : ∃ V, Yields P ops o V a ∧ Rel D w0 ρ s' (a.put o.dst V) w := by
 unfold quietS at he
 split at he
 ·cases he
 ·rename_i hg
  simp at he; subst he
  exact ⟨undef, .inr ⟨gA_sound h.tm hg, rfl⟩, h.put (undef_R ρ) _⟩
 ·rename_i hg
  split at he
  ·rename_i v hv
   simp at he; subst he
   obtain ⟨V, hr, hrun⟩ := evPure_sound h.tm hv
   exact ⟨V, .inl ⟨gA_sound h.tm hg, hrun⟩, h.put hr _⟩
  ·cases he
theorem liftC_R {l : List C0} {L : List Value} (h : All2 (C0.R ρ) l L) : All2 (AV.R ρ) (liftC l) L := by
 refine All2.of (by simp [liftC, h.len]) fun i x hx => ?_
 simp only [liftC, List.getElem?_map] at hx
 obtain ⟨y, hy, rfl⟩ := Option.map_eq_some_iff.1 hx
 exact h.get i hy
theorem df_mono {ρ' : Ren} (hle : ρ.le ρ') {l : List (FuncId × List C0)} {m : List Deferred}
    (h : All2 (fun (x : FuncId × List C0) (d : Deferred) => ∃ C, All2 (C0.R ρ) x.2 C ∧ d = { target := .fn (.func x.1) C.toArray, args := #[] }) l m) :
    All2 (fun (x : FuncId × List C0) (d : Deferred) => ∃ C, All2 (C0.R ρ') x.2 C ∧ d = { target := .fn (.func x.1) C.toArray, args := #[] }) l m :=
 h.imp fun x d ⟨C, h1, h2⟩ => ⟨C, h1.imp (C0.mono hle), h2⟩
theorem Rel.put' {ρ' : Ren} (h : Rel D w0 ρ s a w) (hle : ρ.le ρ') {H : Hp} {dead : List Nat} {w' : World} (hR : RH D w0 ρ' H dead w') {v : AV} {V : Value} (hv : v.R ρ' V) (dst : Option Tmp) :
    Rel D w0 ρ' { s.put dst v with H := H, dead := dead } (a.put dst V) w' := by
 obtain ⟨h1, h2, h3, h4⟩ := St.put_H s dst v
 refine ⟨?_, ?_, hR⟩
 ·show RT ρ' (s.put dst v).tm _
  rw [St.put_tm]; exact RT.put (All2.imp (AV.mono hle) h.tm) hv dst
 ·show All2 _ (s.put dst v).df _
  rw [h3, put_defers]; exact df_mono hle h.df
theorem stepS_sound (hc : Qed P D w0 call) (h : Rel D w0 ρ s a w) {pre i : Nat} {o : Oper} (hi : ops[i]? = some o) (he : stepS P call ops.toList pre i o s = some s') {K : Act → World → Prop}
    (hK : ∀ ρ' a' w', ρ.le ρ' → Rel D w0 ρ' s' a' w' → K a' w') : wpOp P ops Q i K a w := by
 unfold stepS at he
 split at he
 ·rename_i s1 hq
  simp at he; subst he
  obtain ⟨V, hy, hR⟩ := quietS_sound (P := P) h hq
  exact hy.wpOp hi (hK ρ _ _ (Ren.le_refl _) hR)
 ·split at he
  ·rename_i hg
   have hw := gA_sound (ops := ops) h.tm hg
   unfold wpOp
   simp only [hi, hw, if_true]
   left
   split at he
   ·rename_i v H dead hm
    simp at he; subst he
    obtain ⟨ρ', n, V, w', hle, hrun, hn, hv, hR⟩ := evMem_sound (P := P) h.rh h.tm hm
    unfold Oper.wp
    rw [hrun]
    rcases hn with rfl | ⟨rfl, rfl⟩
    ·exact hK ρ' _ _ hle (h.put' hle hR hv _)
    ·exact hK ρ' _ _ hle (h.put' hle hR hv _)
   ·split at he
    ·rename_i v H dead hm
     simp at he; subst he
     unfold evCallOp at hm
     split at hm
     ·rename_i f args _ hop
      split at hm
      ·rename_i k first cap xs hf has
       obtain ⟨F, C, hF, hC, hfe⟩ := Qay h.tm hf
       have hall := ((liftC_R hF).app (Qeh h.tm has)).app (liftC_R hC)
       obtain ⟨⟨fn, hfn, hnm, hbd⟩, hcall⟩ := hc _ _ _ _ _ _ _ _ _ _ _ hm h.rh hall
       have hrun : (execOp a.eval o).run P w = .ok (.enter k (F ++ args.toList.map a.eval ++ C).toArray) w := by
        simp only [execOp, hop, resolve, hfe, Deferred.ofValue, Sem.run_bind, Sem.run_pure, Result.andThen_ok, invoke, callFunc]
        have hp : (program : Sem Program).run P w = .ok P w := rfl
        rw [hp]
        simp only [Result.andThen_ok, hfn, hnm, hbd, if_false, Bool.false_eq_true, Sem.run_pure]
        simp
       unfold Oper.wp
       rw [hrun]
       refine Calls.mono hcall fun e w' hh => ?_
       obtain ⟨ρ', V, hle, rfl, hv, hR⟩ := hh
       exact hK ρ' _ _ hle (h.put' hle hR hv _)
      ·cases hm
     ·cases hm
    ·split at he
     ·rename_i d hd
      simp at he; subst he
      unfold evDefer at hd
      split at hd
      ·rename_i f args _ hop
       split at hd
       ·rename_i k cap hf ha
        simp at hd; subst hd
        obtain ⟨F, C, hF, hC, hfe⟩ := Qay h.tm hf
        have hF0 : F = [] := List.eq_nil_of_length_eq_zero (hF.len ▸ rfl)
        subst hF0
        have ha' : args = #[] := by cases args; simp at ha; subst ha; rfl
        subst ha'
        have hrun : (execOp a.eval o).run P w = .ok (.defer { target := .fn (.func k) C.toArray, args := #[] }) w := by
         simp [execOp, hop, resolve, hfe, Deferred.ofValue]
        unfold Oper.wp
        rw [hrun]
        refine hK ρ _ _ (Ren.le_refl _) ?_
        obtain ⟨h1, h2, h3, h4⟩ := St.put_H s o.dst Qd0
        refine ⟨?_, ?_, ?_⟩
        ·show RT ρ (s.put o.dst Qd0).tm _
         rw [St.put_tm]
         exact RT.put (a := { a with defers := _ :: a.defers }) h.tm (undef_R ρ) _
        ·show All2 _ ((k, cap) :: s.df) _
         rw [put_defers]
         exact ⟨⟨C, hC, rfl⟩, h.df⟩
        ·show RH D w0 ρ (s.put o.dst Qd0).H (s.put o.dst Qd0).dead w
         rw [h1, h2]; exact h.rh
       ·cases hd
      ·cases hd
     ·cases he
  ·cases he
def evSeq (f : Nat → Oper → St → Option St) : Nat → List Oper → St → Option St
 | _, [], s => some s
 | i, o :: rest, s => match f i o s with
  | some s' => evSeq f (i + 1) rest s'
  | none => none
theorem evSeq_sound (hc : Qed P D w0 call) {pre : Nat} {sF : St} (hQ : ∀ ρ' a' w', ρ.le ρ' → Rel D w0 ρ' sF a' w' → Q .normal a' w') :
    ∀ (l : List Oper) (i : Nat) (ρ1 : Ren) (s : St) (a : Act) (w : World), ρ.le ρ1 → Rel D w0 ρ1 s a w → (∀ j, l[j]? = ops[i + j]?) → evSeq (stepS P call ops.toList pre) i l s = some sF →
     wpOps P ops Q (List.range' i l.length) a w
 | [], i, ρ1, s, a, w, hle, h, hl, he => by
  simp [evSeq] at he; subst he
  exact hQ ρ1 a w hle h
 | o :: rest, i, ρ1, s, a, w, hle, h, hl, he => by
  unfold evSeq at he
  split at he
  ·rename_i s' hs
   have hi : ops[i]? = some o := by have := hl 0; simpa using this.symm
   simp only [List.length_cons, List.range'_succ]
   rw [wpOps_cons]
   refine stepS_sound hc h hi hs fun ρ' a' w' hle' h' => ?_
   exact evSeq_sound hc hQ rest (i + 1) ρ' s' a' w' (hle.trans hle') h' (fun j => by have := hl (j + 1); simpa [Nat.add_assoc, Nat.add_comm 1 j] using this) he
  ·cases he
end
end Go.Proofs.YtchpkjgibloleaaGreat.V
namespace Go.Proofs.YtchpkjgibloleaaGreat.V
set_option maxRecDepth 100000
set_option maxHeartbeats 8000000
open Go
def Qds (o : Oper) : List Nat := (o.after.toList.filter fun e => Region.binds .any e).map (·.on)
def rdyL : Nat → List (List Nat) → List Bool → List Bool → List Nat
 | i, d :: ds, b :: bs, l => if !b && d.all (fun j => (l[j]?).getD false) then i :: rdyL (i + 1) ds bs l else rdyL (i + 1) ds bs l
 | _, _, _, _ => []
theorem mem_rdyL {l : List Bool} {i : Nat} : ∀ {k : Nat} {ds : List (List Nat)} {bs : List Bool}, i ∈ rdyL k ds bs l ↔
    ∃ j d, i = k + j ∧ ds[j]? = some d ∧ bs[j]? = some false ∧ d.all (fun j => (l[j]?).getD false) = true
 | k, [], bs => by simp [rdyL]
 | k, d :: ds, [] => by simp [rdyL]
 | k, d :: ds, b :: bs => by
  unfold rdyL
  have ih := mem_rdyL (l := l) (i := i) (k := k + 1) (ds := ds) (bs := bs)
  have shift : (∃ j d', i = k + j ∧ (d :: ds)[j]? = some d' ∧ (b :: bs)[j]? = some false ∧ d'.all (fun j => (l[j]?).getD false) = true) ↔
      (i = k ∧ b = false ∧ d.all (fun j => (l[j]?).getD false) = true) ∨ ∃ j d', i = k + 1 + j ∧ ds[j]? = some d' ∧ bs[j]? = some false ∧ d'.all (fun j => (l[j]?).getD false) = true := by
   constructor
   ·rintro ⟨j, d', h1, h2, h3, h4⟩
    cases j with
    | zero => simp at h2 h3; subst h2; exact .inl ⟨h1, h3, h4⟩
    | succ j => exact .inr ⟨j, d', by omega, by simpa using h2, by simpa using h3, h4⟩
   ·rintro (⟨h1, h2, h3⟩ | ⟨j, d', h1, h2, h3, h4⟩)
    ·exact ⟨0, d, by omega, by simp, by simp [h2], h3⟩
    ·exact ⟨j + 1, d', by omega, by simpa using h2, by simpa using h3, h4⟩
  rw [shift]
  split
  ·rename_i hb
   simp only [Bool.and_eq_true, Bool.not_eq_true'] at hb
   rw [List.mem_cons, ih]
   constructor
   ·rintro (h | h)
    ·exact .inl ⟨h, hb.1, hb.2⟩
    ·exact .inr h
   ·rintro (⟨h, _⟩ | h)
    ·exact .inl h
    ·exact .inr h
  ·rename_i hb
   rw [ih]
   constructor
   ·exact .inr
   ·rintro (⟨h1, h2, h3⟩ | h)
    ·simp [h2, h3] at hb
    ·exact h
theorem mem_rdy {ops : Array Oper} {l : List Bool} (hl : l.length = ops.size) {i : Nat} :
    i ∈ Region.ready .any ops l.toArray ↔ i ∈ rdyL 0 (ops.toList.map Qds) l l := by
 rw [mem_ready, mem_rdyL]
 constructor
 ·rintro ⟨h1, o, h2, h3⟩
  refine ⟨i, Qds o, by omega, by simp [h2], ?_, ?_⟩
  ·have hlt : i < l.length := by rw [hl]; exact (Array.getElem?_eq_some_iff.1 h2).1
   simp [hlt] at h1
   simp [List.getElem?_eq_getElem hlt, h1]
  ·rw [List.all_eq_true]
   intro j hj
   simp only [Qds, List.mem_map, List.mem_filter] at hj
   obtain ⟨e, ⟨he, hb⟩, rfl⟩ := hj
   have := h3 e (by simpa using he) hb
   simpa [Array.getD_eq_getD_getElem?] using this
 ·rintro ⟨j, d, h1, h2, h3, h4⟩
  have hij : i = j := by omega
  subst hij
  simp only [List.getElem?_map, Array.getElem?_toList] at h2
  obtain ⟨o, ho, rfl⟩ := Option.map_eq_some_iff.1 h2
  refine ⟨by simp [Array.getD_eq_getD_getElem?, h3], o, ho, fun e he hb => ?_⟩
  rw [List.all_eq_true] at h4
  have := h4 e.on (List.mem_map.2 ⟨e, List.mem_filter.2 ⟨by simpa using he, hb⟩, rfl⟩)
  simpa [Array.getD_eq_getD_getElem?] using this
def freeL (opsA : Array Oper) (i : Nat) (oi : Oper) : Nat → List Oper → List (List Nat) → List Bool → Bool
 | j, oj :: os, d :: ds, b :: bs => (j == i || b || d.contains i || oi.apart opsA oj) && freeL opsA i oi (j + 1) os ds bs
 | _, _, _, _ => true
theorem freeL_spec {opsA : Array Oper} {i : Nat} {oi : Oper} : ∀ {k : Nat} {os : List Oper} {ds : List (List Nat)} {bs : List Bool}, freeL opsA i oi k os ds bs = true →
    ∀ j oj d, os[j]? = some oj → ds[j]? = some d → bs[j]? = some false → k + j ≠ i → ¬ i ∈ d → oi.apart opsA oj = true
 | k, o :: os, d :: ds, b :: bs, h, j, oj, d', h1, h2, h3, hne, hd => by
  simp only [freeL, Bool.and_eq_true, Bool.or_eq_true] at h
  cases j with
  | zero =>
   simp at h1 h2 h3
   subst h1; subst h2; subst h3
   rcases h.1 with ((hh | hh) | hh) | hh
   ·simp at hh; omega
   ·cases hh
   ·simp at hh; exact absurd hh hd
   ·exact hh
  | succ j =>
   exact freeL_spec h.2 j oj d' (by simpa using h1) (by simpa using h2) (by simpa using h3) (by omega) hd
 | k, [], _, _, _, j, oj, d', h1, _, _, _, _ => by simp at h1
 | k, _ :: _, [], _, _, j, oj, d', _, h2, _, _, _ => by simp at h2
 | k, _ :: _, _ :: _, [], _, j, oj, d', _, _, h3, _, _ => by simp at h3
inductive Nd where
 | tk (i t : Nat)
 | br (l : List (Nat × Nat))
abbrev Lv := List (List Bool × Nd)
def idxOf (m : List Bool) : Nat → List (List Bool) → Nat × List (List Bool)
 | k, [] => (k, [m])
 | k, x :: xs => if x = m then (k, x :: xs) else let r := idxOf m (k + 1) xs; (r.1, x :: r.2)
def quietOp : Op → Bool
 | .move _ | .assign _ | .pick .. | .extract .. | .nilCheck _ | .fieldAddr .. | .field .. | .indexAddr .. | .slice .. | .makeFunc .. | .build .. | .binOp .. | .unOp .. | .convert .. | .index .. => true
 | .call { callee := .builtin .len, .. } | .call { callee := .builtin .max, .. } | .call { callee := .builtin .min, .. } => true
 | _ => false
def firstQ (opsA : Array Oper) (ops : List Oper) (ds : List (List Nat)) (m : List Bool) : List Nat → Option Nat
 | [] => none
 | i :: l => match ops[i]? with
  | some o => if quietOp o.op && freeL opsA i o 0 ops ds m then some i else firstQ opsA ops ds m l
  | none => none
def mkBr (m : List Bool) : List Nat → List (List Bool) → List (Nat × Nat) × List (List Bool)
 | [], acc => ([], acc)
 | i :: l, acc => let r := idxOf (m.set i true) 0 acc; let q := mkBr m l r.2; ((i, r.1) :: q.1, q.2)
def mkLv (opsA : Array Oper) (ops : List Oper) (ds : List (List Nat)) : List (List Bool) → List (List Bool) → Lv × List (List Bool)
 | [], acc => ([], acc)
 | m :: ms, acc => match firstQ opsA ops ds m (rdyL 0 ds m m) with
  | some i => let r := idxOf (m.set i true) 0 acc; let q := mkLv opsA ops ds ms r.2; ((m, .tk i r.1) :: q.1, q.2)
  | none => let r := mkBr m (rdyL 0 ds m m) acc; let q := mkLv opsA ops ds ms r.2; ((m, .br r.1) :: q.1, q.2)
def mkLvs (opsA : Array Oper) (ops : List Oper) (ds : List (List Nat)) : Nat → List (List Bool) → List Lv
 | 0, _ => []
 | n + 1, ms => let r := mkLv opsA ops ds ms []; r.1 :: mkLvs opsA ops ds n r.2
def masksOf (n : Nat) : List Lv → List (List Bool)
 | [] => [List.replicate n true]
 | L :: _ => L.map (·.1)
def chkNd (opsA : Array Oper) (ops : List Oper) (ds : List (List Nat)) (nm : List (List Bool)) (x : List Bool × Nd) : Bool :=
 match x.2 with
 | .tk i t => match ops[i]? with
  | some o => (rdyL 0 ds x.1 x.1).contains i && freeL opsA i o 0 ops ds x.1 && nm[t]? = some (x.1.set i true)
  | none => false
 | .br l => rdyL 0 ds x.1 x.1 = l.map (·.1) && !l.isEmpty && l.all fun p => nm[p.2]? = some (x.1.set p.1 true)
def chkLvs (opsA : Array Oper) (ops : List Oper) (ds : List (List Nat)) (n : Nat) : List Lv → Bool
 | [] => true
 | L :: rest => L.all (chkNd opsA ops ds (masksOf n rest)) && chkLvs opsA ops ds n rest
def Qeq : Nat → St → List (Option St) → Option (List (Option St))
 | 0, s, none :: l => some (some s :: l)
 | 0, s, some t :: l => if t = s then some (some t :: l) else none
 | n + 1, s, x :: l => match Qeq n s l with
  | some l' => some (x :: l')
  | none => none
 | _, _, [] => none
theorem Qef : ∀ {n : Nat} {s : St} {l l' : List (Option St)}, Qeq n s l = some l' → l'[n]? = some (some s) ∧ ∀ (j : Nat) (t : St), l[j]? = some (some t) → l'[j]? = some (some t)
 | 0, s, none :: l, l', h => by
  simp [Qeq] at h; subst h
  refine ⟨by simp, fun j t ht => ?_⟩
  cases j with
  | zero => simp at ht
  | succ j => simpa using ht
 | 0, s, some t :: l, l', h => by
  simp only [Qeq] at h
  split at h
  ·rename_i he
   simp at h; subst h; subst he
   exact ⟨by simp, fun j t ht => ht⟩
  ·cases h
 | n + 1, s, x :: l, l', h => by
  simp only [Qeq] at h
  split at h
  ·rename_i l1 h1
   simp at h; subst h
   obtain ⟨h2, h3⟩ := Qef h1
   refine ⟨by simpa using h2, fun j t ht => ?_⟩
   cases j with
   | zero => simpa using ht
   | succ j => simpa using h3 j t (by simpa using ht)
  ·cases h
 | 0, s, [], l', h => by simp [Qeq] at h
 | n + 1, s, [], l', h => by simp [Qeq] at h
noncomputable def runBr (P : Program) (call : Qdl) (ops : List Oper) (pre : Nat) (s : St) : List (Nat × Nat) → List (Option St) → Option (List (Option St))
 | [], acc => some acc
 | (i, t) :: l, acc => match ops[i]? with
  | some o => match stepS P call ops pre i o s with
   | some s' => match Qeq t s' acc with
    | some acc' => runBr P call ops pre s l acc'
    | none => none
   | none => none
  | none => none
noncomputable def runNd (P : Program) (call : Qdl) (ops : List Oper) (pre : Nat) (s : St) (nd : Nd) (acc : List (Option St)) : Option (List (Option St)) :=
 match nd with
 | .tk i t => match ops[i]? with
  | some o => match quietS P ops o s with
   | some s' => Qeq t s' acc
   | none => none
  | none => none
 | .br l => runBr P call ops pre s l acc
noncomputable def runLv (P : Program) (call : Qdl) (ops : List Oper) (pre : Nat) : Lv → List (Option St) → List (Option St) → Option (List (Option St))
 | [], _, acc => some acc
 | x :: L, some s :: ss, acc => match runNd P call ops pre s x.2 acc with
  | some acc' => runLv P call ops pre L ss acc'
  | none => none
 | _ :: _, _, _ => none
noncomputable def runLvs (P : Program) (call : Qdl) (ops : List Oper) (pre n : Nat) : List Lv → List (Option St) → Option (List (Option St))
 | [], ss => some ss
 | L :: rest, ss => match runLv P call ops pre L ss (List.replicate (masksOf n rest).length none) with
  | some ss' => runLvs P call ops pre n rest ss'
  | none => none
theorem runBr_spec {P : Program} {call : Qdl} {ops : List Oper} {pre : Nat} {s : St} : ∀ {l : List (Nat × Nat)} {acc acc' : List (Option St)}, runBr P call ops pre s l acc = some acc' →
    (∀ p ∈ l, ∃ o s', ops[p.1]? = some o ∧ stepS P call ops pre p.1 o s = some s' ∧ acc'[p.2]? = some (some s')) ∧ ∀ (j : Nat) (t : St), acc[j]? = some (some t) → acc'[j]? = some (some t)
 | [], acc, acc', h => by simp [runBr] at h; subst h; exact ⟨by simp, fun j t h => h⟩
 | (i, t) :: l, acc, acc', h => by
  simp only [runBr] at h
  split at h
  ·rename_i o ho
   split at h
   ·rename_i s' hs
    split at h
    ·rename_i acc1 ha
     obtain ⟨h1, h2⟩ := Qef ha
     obtain ⟨h3, h4⟩ := runBr_spec h
     refine ⟨fun p hp => ?_, fun j t ht => h4 j t (h2 j t ht)⟩
     rcases List.mem_cons.1 hp with rfl | hp
     ·exact ⟨o, s', ho, hs, h4 _ _ h1⟩
     ·exact h3 p hp
    ·cases h
   ·cases h
  ·cases h
theorem runNd_keep {P : Program} {call : Qdl} {ops : List Oper} {pre : Nat} {s : St} {nd : Nd} {acc acc' : List (Option St)} (h : runNd P call ops pre s nd acc = some acc') :
    ∀ (j : Nat) (t : St), acc[j]? = some (some t) → acc'[j]? = some (some t) := by
 unfold runNd at h
 split at h
 ·split at h
  ·split at h
   ·exact (Qef h).2
   ·cases h
  ·cases h
 ·exact (runBr_spec h).2
theorem runLv_spec {P : Program} {call : Qdl} {ops : List Oper} {pre : Nat} : ∀ {L : Lv} {ss acc acc' : List (Option St)}, runLv P call ops pre L ss acc = some acc' →
    (∀ (k : Nat) (x : List Bool × Nd) (s : St), L[k]? = some x → ss[k]? = some (some s) → ∃ a1 a2, runNd P call ops pre s x.2 a1 = some a2 ∧ ∀ (j : Nat) (t : St), a2[j]? = some (some t) → acc'[j]? = some (some t)) ∧
     ∀ (j : Nat) (t : St), acc[j]? = some (some t) → acc'[j]? = some (some t)
 | [], ss, acc, acc', h => by simp [runLv] at h; subst h; exact ⟨fun k x s hk => by simp at hk, fun j t h => h⟩
 | x :: L, some s :: ss, acc, acc', h => by
  simp only [runLv] at h
  split at h
  ·rename_i a1 ha
   obtain ⟨h1, h2⟩ := runLv_spec h
   refine ⟨fun k y s' hk hs => ?_, fun j t ht => h2 j t (runNd_keep ha j t ht)⟩
   cases k with
   | zero => simp at hk hs; subst hk; subst hs; exact ⟨acc, a1, ha, h2⟩
   | succ k => exact h1 k y s' (by simpa using hk) (by simpa using hs)
  ·cases h
 | _ :: _, [], _, _, h => by simp [runLv] at h
 | _ :: _, none :: _, _, _, h => by simp [runLv] at h
section
variable {P : Program} {D : Nat → Prop} {w0 : World} {ρ : Ren} {s s' : St} {a : Act} {w : World} {call : Qdl} {ops : Array Oper} {Q : Exit → Act → World → Prop}
def Good (P : Program) (D : Nat → Prop) (w0 : World) (ops : Array Oper) (ρ : Ren) (Q : Exit → Act → World → Prop) (fuel : Nat) (m : List Bool) (s : St) : Prop :=
 m.length = ops.size → ∀ ρ1 a w, ρ.le ρ1 → Rel D w0 ρ1 s a w → wpAny P .any ops Q fuel m.toArray a w
theorem set_toArray (l : List Bool) (i : Nat) : l.toArray.setIfInBounds i true = (l.set i true).toArray := by simp
theorem tk_good (hsel : Region.noSelect ops = true) {fuel i : Nat} {o : Oper} {m : List Bool} (hQ : ∀ c a w, ¬ Q (.panic c) a w) (hi : i ∈ rdyL 0 (ops.toList.map Qds) m m) (ho : ops[i]? = some o)
    (hq : quietS P ops.toList o s = some s') (hf : freeL ops i o 0 ops.toList (ops.toList.map Qds) m = true) (hg : Good P D w0 ops ρ Q fuel (m.set i true) s') : Good P D w0 ops ρ Q (fuel + 1) m s := by
 intro hl ρ1 a w hle hR
 obtain ⟨V, hyi, hR'⟩ := quietS_sound (P := P) hR hq
 have hmem : i ∈ Region.ready .any ops m.toArray := (mem_rdy hl).2 hi
 refine wpAny_first ho (Region.noSelect_spec hsel) (fun c a w hh => absurd hh (hQ _ _ _)) fuel _ a w ?_ hmem hyi ?_
 ·intro j oj hj hne hun hno
  have hjl : j < m.length := by rw [hl]; exact (Array.getElem?_eq_some_iff.1 hj).1
  refine freeL_spec hf j oj (Qds oj) (by simpa using hj) (by simp [hj]) ?_ (by omega) ?_
  ·simp [hjl] at hun
   simp [List.getElem?_eq_getElem hjl, hun]
  ·intro hh
   simp only [Qds, List.mem_map, List.mem_filter] at hh
   obtain ⟨e, ⟨he, hb⟩, he2⟩ := hh
   exact hno e (by simpa using he) hb he2
 ·rw [set_toArray]
  exact hg (by simpa using hl) ρ1 _ _ hle hR'
theorem br_good (hc : Qed P D w0 call) {pre fuel : Nat} {m : List Bool} (hne : rdyL 0 (ops.toList.map Qds) m m ≠ [])
    (h : ∀ i ∈ rdyL 0 (ops.toList.map Qds) m m, ∃ o s', ops[i]? = some o ∧ stepS P call ops.toList pre i o s = some s' ∧ Good P D w0 ops ρ Q fuel (m.set i true) s') : Good P D w0 ops ρ Q (fuel + 1) m s := by
 intro hl ρ1 a w hle hR
 refine ⟨fun h0 => ?_, fun i hi => ?_⟩
 ·obtain ⟨i0, hi0⟩ := List.exists_mem_of_ne_nil _ hne
  have : i0 ∈ Region.ready .any ops m.toArray := (mem_rdy hl).2 hi0
  rw [h0] at this; cases this
 ·obtain ⟨o, s', ho, hs, hg⟩ := h i ((mem_rdy hl).1 hi)
  refine stepS_sound hc hR ho hs fun ρ' a' w' hle' hR' => ?_
  rw [set_toArray]
  exact hg (by simpa using hl) ρ' _ _ (hle.trans hle') hR'
theorem runLvs_good (hc : Qed P D w0 call) (hsel : Region.noSelect ops = true) {pre : Nat} (hQ : ∀ c a w, ¬ Q (.panic c) a w) {sF : St} (hF : Good P D w0 ops ρ Q 0 (List.replicate ops.toList.length true) sF) : ∀ (Ls : List Lv) {ss : List (Option St)},
    chkLvs ops ops.toList (ops.toList.map Qds) ops.toList.length Ls = true → runLvs P call ops.toList pre ops.toList.length Ls ss = some [some sF] →
    ∀ (k : Nat) (m : List Bool) (s : St), (masksOf ops.toList.length Ls)[k]? = some m → ss[k]? = some (some s) → Good P D w0 ops ρ Q Ls.length m s
 | [], ss, _, h, k, m, s, hm, hs => by
  simp [runLvs] at h; subst h
  cases k with
  | zero => simp [masksOf] at hm hs; subst hm; subst hs; simpa using hF
  | succ k => simp at hs
 | L :: rest, ss, hchk, h, k, m, s, hm, hs => by
  simp only [runLvs] at h
  split at h
  ·rename_i ss' hss
   simp only [chkLvs, Bool.and_eq_true, List.all_eq_true] at hchk
   obtain ⟨hL, hrest⟩ := hchk
   have ih := runLvs_good hc hsel hQ hF rest hrest h
   obtain ⟨h1, _⟩ := runLv_spec hss
   simp only [masksOf, List.getElem?_map] at hm
   obtain ⟨x, hx, rfl⟩ := Option.map_eq_some_iff.1 hm
   obtain ⟨a1, a2, hrun, hkeep⟩ := h1 k x s hx hs
   have hck := hL x (List.mem_of_getElem? hx)
   unfold chkNd at hck
   unfold runNd at hrun
   split at hck
   ·rename_i i t hnd
    rw [hnd] at hrun
    simp only at hrun
    split at hck
    ·rename_i o ho
     rw [ho] at hrun
     simp only at hrun
     simp only [Bool.and_eq_true, decide_eq_true_eq] at hck
     obtain ⟨⟨hr, hf⟩, hnm⟩ := hck
     split at hrun
     ·rename_i s' hq
      have hp := hkeep t s' (Qef hrun).1
      exact tk_good hsel hQ (by simpa using hr) (by simpa using ho) hq hf (ih t _ s' hnm hp)
     ·cases hrun
    ·cases hck
   ·rename_i l hnd
    rw [hnd] at hrun
    simp only [Bool.and_eq_true, decide_eq_true_eq, List.all_eq_true, Bool.not_eq_true'] at hck
    obtain ⟨⟨hr, hne⟩, hall⟩ := hck
    obtain ⟨hb, _⟩ := runBr_spec hrun
    refine br_good (pre := pre) hc ?_ fun i hi => ?_
    ·rw [hr]; intro h0; cases l with
     | nil => simp at hne
     | cons p l => simp at h0
    ·rw [hr] at hi
     obtain ⟨p, hp, rfl⟩ := List.mem_map.1 hi
     obtain ⟨o, s', ho, hs', hacc⟩ := hb p hp
     exact ⟨o, s', by simpa using ho, hs', ih p.2 _ s' (hall p hp) (hkeep _ _ hacc)⟩
  ·cases h
noncomputable def evRegion (P : Program) (call : Qdl) (pre : Nat) (ops : Array Oper) (draw : Bool) (s : St) : Option St :=
 if draw then
  let Ls := mkLvs ops ops.toList (ops.toList.map Qds) ops.toList.length [List.replicate ops.toList.length false]
  if Region.noSelect ops && chkLvs ops ops.toList (ops.toList.map Qds) ops.toList.length Ls && decide (masksOf ops.toList.length Ls = [List.replicate ops.toList.length false]) && decide (Ls.length = ops.toList.length) then
   match runLvs P call ops.toList pre ops.toList.length Ls [some s] with
   | some [some s'] => some { s' with r := s'.r + 1 }
   | _ => none
  else none
 else match evSeq (stepS P call ops.toList pre) 0 ops.toList s with
  | some s' => some { s' with r := s'.r + 1 }
  | none => none
theorem Rel.r (h : Rel D w0 ρ s a w) (n : Nat) : Rel D w0 ρ { s with r := n } a w := ⟨h.tm, h.df, h.rh⟩
theorem evRegion_sound (hm : P.follows .mixedOrders = true) (hc : Qed P D w0 call) {pre id : Nat} {draw : Bool} (h : Rel D w0 ρ s a w) (he : evRegion P call pre ops draw s = some s')
    (hQ : ∀ ρ' a' w', ρ.le ρ' → Rel D w0 ρ' s' a' w' → Q .normal a' w') : (Code.region id ops draw).wp P Q a w := by
 unfold evRegion at he
 dsimp only at he
 split at he
 ·rename_i hd
  subst hd
  generalize mkLvs ops ops.toList (ops.toList.map Qds) ops.toList.length [List.replicate ops.toList.length false] = Ls at he
  split at he
  ·rename_i hsel
   simp only [Bool.and_eq_true, decide_eq_true_eq] at hsel
   obtain ⟨⟨⟨hsel, hchk⟩, hmask⟩, hlen⟩ := hsel
   split at he
   ·rename_i sF hlv
    simp at he; subst he
    let Q1 : Exit → Act → World → Prop := fun e a' w' => e = .normal ∧ ∃ ρ', ρ.le ρ' ∧ Rel D w0 ρ' sF a' w'
    have key : (Code.region id ops true).wp P Q1 a w := by
     refine wp_region_any hm ?_
     have hF : Good P D w0 ops ρ Q1 0 (List.replicate ops.toList.length true) sF := by
      intro hl ρ1 a1 w1 hle hR
      refine ⟨?_, rfl, ρ1, hle, hR⟩
      apply List.eq_nil_iff_forall_not_mem.2
      intro i hi
      obtain ⟨j, d, h1, h2, h3, h4⟩ := mem_rdyL.1 ((mem_rdy hl).1 hi)
      rw [List.getElem?_replicate] at h3
      split at h3 <;> simp at h3
     have h2 := runLvs_good (Q := Q1) (ρ := ρ) hc hsel (fun c a w hh => by cases hh.1) hF Ls hchk hlv 0 (List.replicate ops.toList.length false) s (by rw [hmask]; rfl) (by simp) (by simp) ρ a w.drew (Ren.le_refl _) ⟨h.tm, h.df, h.rh.drew⟩
     have e1 : (List.replicate ops.toList.length false).toArray = Array.replicate ops.size false := by simp
     have e2 : ops.toList.length = ops.size := Array.length_toList
     rw [hlen, e1, e2] at h2
     exact h2
    refine wp_mono key fun e a' w' hh => ?_
    obtain ⟨rfl, ρ', hle, hR⟩ := hh
    exact hQ ρ' a' w' hle (hR.r _)
   ·cases he
  ·cases he
 ·rename_i hd
  simp only [Bool.not_eq_true] at hd
  subst hd
  split at he
  ·rename_i sF hs
   simp at he; subst he
   refine wp_region ?_
   have := evSeq_sound (P := P) (ops := ops) (Q := Q) hc (pre := pre) (sF := sF) (fun ρ' a' w' hle hR => hQ ρ' a' w' hle (hR.r _)) ops.toList 0 ρ s a w (Ren.le_refl _) h (fun j => by simp) hs
   rw [List.range_eq_range']
   simpa using this
  ·cases he
inductive Ex where
 | n
 | x (id : Nat)
 | r
 deriving DecidableEq
def Ex.out : Ex → Exit
 | .n => .normal
 | .x id => .exit id
 | .r => .ret
def loopN (f : St → Option (Ex × St)) : Nat → St → Option (Ex × St)
 | 0, _ => none
 | n + 1, s => match f s with
  | some (.n, s') => loopN f n s'
  | r => r
noncomputable def evCode (P : Program) (call : Qdl) (pre N : Nat) : Code → St → Option (Ex × St)
 | .skip, s => some (.n, s)
 | .label _, s => some (.n, s)
 | .ret, s => some (.r, s)
 | .exit id, s => some (.x id, s)
 | .seq a b, s => match evCode P call pre N a s with
  | some (.n, s') => evCode P call pre N b s'
  | r => r
 | .cond c a b, s => match opV s.tm c with
  | some (.c (.c (.b t))) => if t then evCode P call pre N a s else evCode P call pre N b s
  | _ => none
 | .block id c, s => match evCode P call pre N c s with
  | some (.x j, s') => if j = id then some (.n, s') else some (.x j, s')
  | r => r
 | .loop c, s => loopN (evCode P call pre N c) N s
 | .scope c, s => evCode P call pre N c s
 | .region _ ops draw, s => (evRegion P call pre ops draw s).map fun s' => (.n, s')
 | _, _ => none
theorem evCode_sound (hm : P.follows .mixedOrders = true) (hc : Qed P D w0 call) {pre N : Nat} (c : Code) : ∀ {s s' : St} {e : Ex} {ρ : Ren} {a : Act} {w : World} {Q : Exit → Act → World → Prop},
    evCode P call pre N c s = some (e, s') → Rel D w0 ρ s a w → (∀ ρ' a' w', ρ.le ρ' → Rel D w0 ρ' s' a' w' → Q e.out a' w') → c.wp P Q a w := by
 induction c with
 | skip => intro s s' e ρ a w Q he h hQ; simp [evCode] at he; obtain ⟨rfl, rfl⟩ := he; exact wp_skip (hQ ρ a w (Ren.le_refl _) h)
 | label l => intro s s' e ρ a w Q he h hQ; simp [evCode] at he; obtain ⟨rfl, rfl⟩ := he; exact wp_label (hQ ρ a w (Ren.le_refl _) h)
 | ret => intro s s' e ρ a w Q he h hQ; simp [evCode] at he; obtain ⟨rfl, rfl⟩ := he; exact wp_ret (hQ ρ a w (Ren.le_refl _) h)
 | exit id => intro s s' e ρ a w Q he h hQ; simp [evCode] at he; obtain ⟨rfl, rfl⟩ := he; exact wp_exit (hQ ρ a w (Ren.le_refl _) h)
 | goto l => intro s s' e ρ a w Q he h hQ; simp [evCode] at he
 | refuse l => intro s s' e ρ a w Q he h hQ; simp [evCode] at he
 | rangeFunc f ps x y ih1 ih2 => intro s s' e ρ a w Q he h hQ; simp [evCode] at he
 | region id ops draw =>
  intro s s' e ρ a w Q he h hQ
  simp only [evCode] at he
  obtain ⟨s1, hs1, he⟩ := Option.map_eq_some_iff.1 he
  simp at he; obtain ⟨rfl, rfl⟩ := he
  exact evRegion_sound hm hc h hs1 hQ
 | seq x y ih1 ih2 =>
  intro s s' e ρ a w Q he h hQ
  simp only [evCode] at he
  refine wp_seq ?_
  split at he
  ·rename_i s1 hs1
   exact ih1 hs1 h fun ρ' a' w' hle h' => ih2 he h' fun ρ'' a'' w'' hle' h'' => hQ ρ'' a'' w'' (hle.trans hle') h''
  ·rename_i hn
   refine ih1 he h fun ρ' a' w' hle h' => ?_
   have := hQ ρ' a' w' hle h'
   cases e with
   | n => exact absurd he (hn s')
   | x id => exact this
   | r => exact this
 | cond c x y ih1 ih2 =>
  intro s s' e ρ a w Q he h hQ
  simp only [evCode] at he
  split at he
  ·rename_i t hc'
   have h1 : a.eval c = .bool t := Qay h.tm hc'
   refine wp_cond h1 ?_
   cases t with
   | true => exact ih1 he h hQ
   | false => exact ih2 he h hQ
  ·cases he
 | block id c ih =>
  intro s s' e ρ a w Q he h hQ
  simp only [evCode] at he
  refine wp_block ?_
  split at he
  ·rename_i j s1 hs1
   refine ih hs1 h fun ρ' a' w' hle h' => ?_
   split at he
   ·rename_i hj
    simp at he; obtain ⟨rfl, rfl⟩ := he
    show (if j = id then _ else _)
    rw [if_pos hj]; exact hQ ρ' a' w' hle h'
   ·rename_i hj
    simp at he; obtain ⟨rfl, rfl⟩ := he
    show (if j = id then _ else _)
    rw [if_neg hj]; exact hQ ρ' a' w' hle h'
  ·rename_i hn
   refine ih he h fun ρ' a' w' hle h' => ?_
   have := hQ ρ' a' w' hle h'
   cases e with
   | n => exact this
   | x id => exact absurd he (hn _ _)
   | r => exact this
 | loop c ih =>
  intro s s' e ρ a w Q he h hQ
  simp only [evCode] at he
  refine wp_loop_rounds N ?_
  have key : ∀ (n : Nat) {s : St} {ρ1 : Ren} {a : Act} {w : World}, loopN (evCode P call pre N c) n s = some (e, s') → ρ.le ρ1 → Rel D w0 ρ1 s a w → Code.rounds P c Q n a w := by
   intro n
   induction n with
   | zero => intro s ρ1 a w he _ _; simp [loopN] at he
   | succ n ihn =>
    intro s ρ1 a w he hle h
    unfold loopN at he
    rw [rounds_succ]
    split at he
    ·rename_i s1 hs1
     exact ih hs1 h fun ρ' a' w' hle' h' => ihn he (hle.trans hle') h'
    ·rename_i hn
     refine ih he h fun ρ' a' w' hle' h' => ?_
     have := hQ ρ' a' w' (hle.trans hle') h'
     cases e with
     | n => exact absurd he (hn s')
     | x id => exact this
     | r => exact this
  exact key N he (Ren.le_refl _) h
 | scope c ih =>
  intro s s' e ρ a w Q he h hQ
  simp only [evCode] at he
  refine wp_scope_straight (ih he h fun ρ' a' w' hle h' => ?_)
  have := hQ ρ' a' w' hle h'
  cases e <;> exact this
end
end Go.Proofs.YtchpkjgibloleaaGreat.V
namespace Go.Proofs.YtchpkjgibloleaaGreat.V
set_option maxRecDepth 100000
set_option maxHeartbeats 8000000
open Go
def C0.names : C0 → List Nat
 | .p (some (n, _)) => [n]
 | .s (some (n, _)) _ _ _ _ => [n]
 | _ => []
def C1.names : C1 → List Nat
 | .c x => x.names
 | .f _ a b => a.flatMap C0.names ++ b.flatMap C0.names
def T1.names : T1 → List Nat
 | .c x => x.names
 | .g l => l.flatMap C1.names
def AV.names : AV → List Nat
 | .c x => x.names
 | .g l => l.flatMap C1.names
 | .t l => l.flatMap T1.names
noncomputable def dfs (H : Hp) : Nat → List Nat → List Nat → List Nat
 | 0, _, seen => seen
 | _ + 1, [], seen => seen
 | k + 1, n :: rest, seen => if seen.contains n then dfs H k rest seen else match get H n with
  | some e => dfs H k (e.cs.flatMap C1.names ++ rest) (n :: seen)
  | none => dfs H k rest (n :: seen)
def gcK (keep : Nat → Bool) (H0 : Hp) (r : AV) (H : Hp) (dead : List Nat) : Hp × List Nat :=
 if r.names.all keep && ((H.filter fun e => keep e.1).all fun e => (e.2.cs.flatMap C1.names).all keep) && (H0.map (·.1)).all keep then (H.filter fun e => keep e.1, dead.filter keep) else (H, dead)
noncomputable def gc (H0 : Hp) (dead0 : List Nat) (r : AV) (H : Hp) (dead : List Nat) : Hp × List Nat :=
 gcK (fun n => (dfs H 4000 (r.names ++ H0.map (·.1)) []).contains n || dead0.contains n) H0 r H dead
def Ren.only (ρ : Ren) (keep : Nat → Bool) : Ren := fun n => if keep n then ρ n else none
section
variable {ρ : Ren} {keep : Nat → Bool}
theorem C0.only {x : C0} {v : Value} (h : x.R ρ v) (hk : ∀ n ∈ x.names, keep n = true) : x.R (ρ.only keep) v := by
 cases x with
 | p a =>
  cases a with
  | none => exact h
  | some a => obtain ⟨g, z, h1, h2⟩ := h; exact ⟨g, z, by simp [Ren.only, hk a.1 (by simp [C0.names]), h1], h2⟩
 | s a len cap sz full =>
  cases a with
  | none => exact h
  | some a => obtain ⟨g, z, c, h1, h2⟩ := h; exact ⟨g, z, c, by simp [Ren.only, hk a.1 (by simp [C0.names]), h1], h2⟩
 | _ => exact h
theorem All2.only {α : Type} {R R' : α → Value → Prop} {names : α → List Nat} (hR : ∀ x v, R x v → (∀ n ∈ names x, keep n = true) → R' x v) :
    ∀ {l : List α} {m : List Value}, All2 R l m → (∀ n ∈ l.flatMap names, keep n = true) → All2 R' l m
 | [], [], _, _ => trivial
 | a :: l, b :: m, ⟨h1, h2⟩, h => ⟨hR a b h1 fun n hn => h n (by simp [hn]), All2.only hR h2 fun n hn => h n (by simp only [List.flatMap_cons, List.mem_append]; exact .inr hn)⟩
 | [], _ :: _, hh, _ => hh.elim
 | _ :: _, [], hh, _ => hh.elim
theorem C1.only {x : C1} {v : Value} (h : x.R ρ v) (hk : ∀ n ∈ x.names, keep n = true) : x.R (ρ.only keep) v := by
 cases x with
 | c x => exact C0.only h hk
 | f fn a b =>
  obtain ⟨F, C, h1, h2, h3⟩ := h
  exact ⟨F, C, All2.only (names := C0.names) (fun x v => C0.only) h1 fun n hn => hk n (by simp only [C1.names, List.mem_append]; exact .inl hn),
   All2.only (names := C0.names) (fun x v => C0.only) h2 fun n hn => hk n (by simp only [C1.names, List.mem_append]; exact .inr hn), h3⟩
theorem T1.only {x : T1} {v : Value} (h : x.R ρ v) (hk : ∀ n ∈ x.names, keep n = true) : x.R (ρ.only keep) v := by
 cases x with
 | c x => exact C1.only h hk
 | g l => obtain ⟨L, h1, h2⟩ := h; exact ⟨L, All2.only (names := C1.names) (fun x v => C1.only) h1 hk, h2⟩
theorem AV.only {x : AV} {v : Value} (h : x.R ρ v) (hk : ∀ n ∈ x.names, keep n = true) : x.R (ρ.only keep) v := by
 cases x with
 | c x => exact C1.only h hk
 | g l => obtain ⟨L, h1, h2⟩ := h; exact ⟨L, All2.only (names := C1.names) (fun x v => C1.only) h1 hk, h2⟩
 | t l => obtain ⟨L, h1, h2⟩ := h; exact ⟨L, All2.only (names := T1.names) (fun x v => T1.only) h1 hk, h2⟩
theorem Qdp : ∀ (H : Hp) (n : Nat), get (H.filter fun e => keep e.1) n = if keep n then get H n else none
 | [], n => by simp [Qdy]
 | (m, e) :: H, n => by
  have ih := Qdp H n
  rw [List.filter_cons]
  split
  ·rename_i hm
   rw [Qb2, Qb2]
   by_cases h1 : m = n
   ·subst h1; simp only at hm; simp [hm]
   ·simp only [h1, if_false]; exact ih
  ·rename_i hm
   rw [ih, Qb2]
   by_cases h1 : m = n
   ·subst h1; simp only at hm; simp [hm]
   ·simp only [h1, if_false]
theorem Qet : ∀ {H : Hp} {n : Nat} {e : Ent}, get H n = some e → (n, e) ∈ H
 | (m, e') :: H, n, e, h => by
  rw [Qb2] at h
  split at h
  ·rename_i hm; injection h with h; subst h; subst hm; simp
  ·exact List.mem_cons_of_mem _ (Qet h)
theorem get_key : ∀ {H : Hp} {n : Nat}, (get H n).isSome = true → n ∈ H.map (·.1) := by
 intro H n h
 obtain ⟨e, he⟩ := Option.isSome_iff_exists.1 h
 exact List.mem_map.2 ⟨(n, e), Qet he, rfl⟩
end
section
variable {P : Program} {D : Nat → Prop} {w0 : World}
theorem gcK_sound {ρ0 ρ : Ren} {H0 H : Hp} {dead0 dead : List Nat} {wb w : World} {r : AV} {V : Value} {keep : Nat → Bool} (hd0 : ∀ n ∈ dead0, keep n = true) (h0 : RH D w0 ρ0 H0 dead0 wb) (hle : ρ0.le ρ) (h : RH D w0 ρ H dead w) (hr : r.R ρ V) :
    ∃ ρ', ρ0.le ρ' ∧ RH D w0 ρ' (gcK keep H0 r H dead).1 (gcK keep H0 r H dead).2 w ∧ r.R ρ' V := by
 unfold gcK
 split
 ·rename_i hc
  simp only [Bool.and_eq_true, List.all_eq_true] at hc
  obtain ⟨⟨hc1, hc2⟩, hc3⟩ := hc
  have hdom : ∀ n x, ρ0 n = some x → keep n = true := fun n x hx => by
   rcases h0.fr n x hx with h1 | h1
   ·exact hc3 n (get_key h1)
   ·exact hd0 n h1
  refine ⟨ρ.only keep, fun n x hx => by simp [Ren.only, hdom n x hx, hle n x hx], ⟨?_, ?_, ?_, h.out⟩, AV.only hr hc1⟩
  ·intro n e he
   rw [Qdp] at he
   split at he
   ·rename_i hk
    obtain ⟨g, z, c, h1, h2, h3, h4, h5⟩ := h.hp n e he
    refine ⟨g, z, c, by simp [Ren.only, hk, h1], h2, h3, fun i x hx => ?_, h5⟩
    obtain ⟨y, hy, hR⟩ := h4 i x hx
    refine ⟨y, hy, C1.only hR fun m hm => ?_⟩
    refine hc2 (n, e) (List.mem_filter.2 ⟨Qet he, hk⟩) m ?_
    exact List.mem_flatMap.2 ⟨x, List.mem_of_getElem? hx, hm⟩
   ·cases he
  ·intro n m e e' g z z' he he' hg hg'
   rw [Qdp] at he he'
   split at he
   ·split at he'
    ·rename_i k1 k2
     simp only [Ren.only, k1, k2, if_true] at hg hg'
     exact h.inj n m e e' g z z' he he' hg hg'
    ·cases he'
   ·cases he
  ·intro n x hx
   unfold Ren.only at hx
   split at hx
   ·rename_i hk
    rw [Qdp, if_pos hk]
    rcases h.fr n x hx with h1 | h1
    ·exact .inl h1
    ·exact .inr (List.mem_filter.2 ⟨h1, hk⟩)
   ·cases hx
 ·exact ⟨ρ, hle, h, hr⟩
theorem gc_sound {ρ0 ρ : Ren} {H0 H : Hp} {dead0 dead : List Nat} {wb w : World} {r : AV} {V : Value} (h0 : RH D w0 ρ0 H0 dead0 wb) (hle : ρ0.le ρ) (h : RH D w0 ρ H dead w) (hr : r.R ρ V) :
    ∃ ρ', ρ0.le ρ' ∧ RH D w0 ρ' (gc H0 dead0 r H dead).1 (gc H0 dead0 r H dead).2 w ∧ r.R ρ' V :=
 gcK_sound (fun n hn => by simp [hn]) h0 hle h hr
section force
variable {α β : Type}
noncomputable def forceB (b : Bool) (f : Bool → α) : α := @Bool.rec (fun _ => α) (f false) (f true) b
theorem forceB_eq (b : Bool) (f : Bool → α) : forceB b f = f b := by cases b <;> rfl
noncomputable def forceI (n : Int) (f : Int → α) : α := @Int.rec (fun _ => α) (fun m => forceN m fun m => f (.ofNat m)) (fun m => forceN m fun m => f (.negSucc m)) n
theorem forceI_eq (n : Int) (f : Int → α) : forceI n f = f n := by cases n <;> simp [forceI, Qdb]
noncomputable def forceK (k : IntKind) (f : IntKind → α) : α := @IntKind.rec (fun _ => α) (f .i8) (f .i16) (f .i32) (f .i64) (f .u8) (f .u16) (f .u32) (f .u64) k
theorem forceK_eq (k : IntKind) (f : IntKind → α) : forceK k f = f k := by cases k <;> rfl
noncomputable def forceO (g : β → (β → α) → α) (x : Option β) (f : Option β → α) : α := @Option.rec β (fun _ => α) (f none) (fun y => g y fun y => f (some y)) x
theorem forceO_eq {g : β → (β → α) → α} (hg : ∀ y f, g y f = f y) (x : Option β) (f : Option β → α) : forceO g x f = f x := by cases x <;> simp [forceO, hg]
noncomputable def forceL (g : β → (β → α) → α) (l : List β) : (List β → α) → α := @List.rec β (fun _ => (List β → α) → α) (fun f => f []) (fun x _ ih f => g x fun x => ih fun l => f (x :: l)) l
theorem Qcr {g : β → (β → α) → α} (hg : ∀ y f, g y f = f y) : ∀ (l : List β) (f : List β → α), forceL g l f = f l
 | [], f => rfl
 | x :: l, f => by show g x (fun x => forceL g l fun l => f (x :: l)) = _; rw [hg, Qcr hg l]
noncomputable def forceA (a : Nat × Nat) (f : Nat × Nat → α) : α := forceN a.1 fun n => forceN a.2 fun o => f (n, o)
theorem forceA_eq (a : Nat × Nat) (f : Nat × Nat → α) : forceA a f = f a := by simp [forceA, Qdb]
noncomputable def forceC0 (x : C0) (f : C0 → α) : α :=
 match x with
 | .b b => forceB b fun b => f (.b b)
 | .i k n => forceK k fun k => forceI n fun n => f (.i k n)
 | .p a => forceO forceA a fun a => f (.p a)
 | .s a len cap sz full => forceO forceA a fun a => forceN len fun len => forceO forceN cap fun cap => forceN sz fun sz => forceB full fun full => f (.s a len cap sz full)
 | .nilI => f .nilI
 | .nilF => f .nilF
theorem forceC0_eq (x : C0) (f : C0 → α) : forceC0 x f = f x := by
 cases x <;> simp only [forceC0, forceB_eq, forceK_eq, forceI_eq, Qdb, forceO_eq forceA_eq, forceO_eq Qdb]
noncomputable def forceC1 (x : C1) (f : C1 → α) : α :=
 match x with
 | .c x => forceC0 x fun x => f (.c x)
 | .f fn a b => forceN fn fun fn => forceL forceC0 a fun a => forceL forceC0 b fun b => f (.f fn a b)
theorem Qdr (x : C1) (f : C1 → α) : forceC1 x f = f x := by
 cases x <;> simp only [forceC1, forceC0_eq, Qdb, Qcr forceC0_eq]
noncomputable def forceT1 (x : T1) (f : T1 → α) : α :=
 match x with
 | .c x => forceC1 x fun x => f (.c x)
 | .g l => forceL forceC1 l fun l => f (.g l)
theorem forceT1_eq (x : T1) (f : T1 → α) : forceT1 x f = f x := by
 cases x <;> simp only [forceT1, Qdr, Qcr Qdr]
noncomputable def forceV (x : AV) (f : AV → α) : α :=
 match x with
 | .c x => forceC1 x fun x => f (.c x)
 | .g l => forceL forceC1 l fun l => f (.g l)
 | .t l => forceL forceT1 l fun l => f (.t l)
theorem forceV_eq (x : AV) (f : AV → α) : forceV x f = f x := by
 cases x <;> simp only [forceV, Qdr, Qcr Qdr, Qcr forceT1_eq]
noncomputable def forceE (x : Nat × Ent) (f : Nat × Ent → α) : α := forceN x.1 fun n => forceL forceC1 x.2.cs fun cs => forceN x.2.ty fun ty => forceB x.2.ex fun ex => f (n, ⟨cs, ty, ex⟩)
theorem forceE_eq (x : Nat × Ent) (f : Nat × Ent → α) : forceE x f = f x := by simp only [forceE, Qdb, Qcr Qdr, forceB_eq]
end force
def Qb7 (H : Hp) : List Nat := H.map (·.1)
noncomputable def mergeH : Hp → Hp → Option Hp
 | [], X => some X
 | (n, e) :: l, X => match mergeH l X with
  | some Y => match get Y n with
   | none => some (ins n e Y)
   | some _ => none
  | none => none
theorem mergeH_get : ∀ {H X Y : Hp}, mergeH H X = some Y → ∀ m, get Y m = match get H m with | some e => some e | none => get X m
 | [], X, Y, h, m => by simp [mergeH] at h; subst h; simp [Qdy]
 | (n, e) :: l, X, Y, h, m => by
  unfold mergeH at h
  split at h
  ·rename_i Z hZ
   split at h
   ·rename_i hn
    simp at h; subst h
    rw [Qea n e Z hn, Qb2]
    by_cases h1 : m = n
    ·subst h1; simp
    ·have h2 : ¬ n = m := fun h => h1 h.symm
     simp only [h1, h2, if_false]
     exact mergeH_get hZ m
   ·cases h
  ·cases h
noncomputable def framed (call : Qdl) : Qdl := fun k xs nm H dead =>
 let seen := dfs H 4000 (xs.flatMap AV.names) []
 forceL forceE (H.filter fun e => seen.contains e.1) fun Hr => forceL forceV xs fun xs => forceN nm fun nm =>
  if (xs.flatMap AV.names).all (fun n => (Qb7 Hr).contains n) && Hr.all (fun e => (e.2.cs.flatMap C1.names).all fun n => (Qb7 Hr).contains n) then
   match call k xs nm Hr [] with
   | some (r, H1, d1) => forceV r fun r => forceL forceE H1 fun H1 =>
    if r.names.all (fun n => (Qb7 H1).contains n || (Qb7 Hr).contains n) && H1.all (fun e => (e.2.cs.flatMap C1.names).all fun n => (Qb7 H1).contains n || (Qb7 Hr).contains n) &&
        H1.all (fun e => (Qb7 Hr).contains e.1 || ((get H e.1).isNone && !dead.contains e.1)) then
     match mergeH H1 (H.filter fun e => !(Qb7 Hr).contains e.1) with
     | some Y => some (r, Y, (Qb7 Hr).filter (fun n => !(Qb7 H1).contains n) ++ dead)
     | none => none
    else none
   | none => none
  else none
theorem Qc8 {H : Hp} {n : Nat} (h : n ∈ Qb7 H) : (get H n).isSome = true := by
 induction H with
 | nil => simp [Qb7] at h
 | cons x H ih =>
  obtain ⟨m, e⟩ := x
  rw [Qb2]
  split
  ·rfl
  ·rename_i hm
   simp only [Qb7, List.map_cons, List.mem_cons] at h
   rcases h with h | h
   ·exact absurd h.symm hm
   ·exact ih h
theorem get_of_key' {H : Hp} {n : Nat} : n ∈ Qb7 H ↔ (get H n).isSome = true := ⟨Qc8, get_key⟩
theorem Qeu (p : Nat → Bool) (H : Hp) (n : Nat) : get (H.filter fun e => p e.1) n = if p n then get H n else none := Qdp H n
theorem framed_sound {call : Qdl} (hc : ∀ D w0, Qed P D w0 call) : Qed P D w0 (framed call) := by
 intro k xs nm H dead r H' dead' ρ vs w h hR hA
 unfold framed at h
 dsimp only at h
 rw [Qcr forceE_eq, Qcr forceV_eq, Qdb] at h
 generalize hseen : dfs H 4000 (xs.flatMap AV.names) [] = seen at h
 generalize hHr : (H.filter fun e => seen.contains e.1) = Hr at h
 have hgr : ∀ n e, get Hr n = some e → get H n = some e := by
  intro n e he
  rw [← hHr, Qeu (fun n => seen.contains n)] at he
  split at he
  ·exact he
  ·cases he
 split at h
 ·rename_i hck
  simp only [Bool.and_eq_true, List.all_eq_true, List.contains_iff_mem] at hck
  obtain ⟨hck1, hck2⟩ := hck
  split at h
  ·rename_i r1 H1 d1 hcall
   rw [forceV_eq, Qcr forceE_eq] at h
   split at h
   ·rename_i hck3
    simp only [Bool.and_eq_true, List.all_eq_true, Bool.or_eq_true, List.contains_iff_mem] at hck3
    obtain ⟨⟨hr1, hH1⟩, hnew⟩ := hck3
    split at h
    ·rename_i Y hY
     simp at h; obtain ⟨rfl, rfl, rfl⟩ := h
     let kp : Nat → Bool := fun n => (Qb7 Hr).contains n
     let Dr : Nat → Prop := fun g => ∃ n e z, get Hr n = some e ∧ ρ n = some (g, z)
     have hRr : RH Dr w (ρ.only kp) Hr [] w := by
      refine ⟨fun n e he => ?_, fun n m e e' g z z' he he' hg hg' => ?_, fun n x hx => ?_, ⟨rfl, rfl, rfl, Nat.le_refl _, fun _ _ _ => rfl⟩⟩
      ·obtain ⟨g, z, c, h1, h2, h3, h4, h5, _⟩ := hR.hp n e (hgr n e he)
       have hk : kp n = true := by simp only [kp, List.contains_iff_mem]; exact get_of_key'.2 (by rw [he]; rfl)
       refine ⟨g, z, c, by simp [Ren.only, hk, h1], h2, h3, fun i x hx => ?_, h5, .inl ⟨n, e, z, he, h1⟩⟩
       obtain ⟨y, hy, hr⟩ := h4 i x hx
       refine ⟨y, hy, C1.only hr fun m hm => ?_⟩
       simp only [kp, List.contains_iff_mem]
       exact hck2 (n, e) (Qet he) m (List.mem_flatMap.2 ⟨x, List.mem_of_getElem? hx, hm⟩)
      ·unfold Ren.only at hg hg'
       split at hg
       ·split at hg'
        ·exact hR.inj n m e e' g z z' (hgr _ _ he) (hgr _ _ he') hg hg'
        ·cases hg'
       ·cases hg
      ·unfold Ren.only at hx
       split at hx
       ·rename_i hk
        simp only [kp, List.contains_iff_mem] at hk
        exact .inl (Qc8 hk)
       ·cases hx
     have hAr : All2 (AV.R (ρ.only kp)) xs vs := All2.only (names := AV.names) (fun x v hx hk => AV.only hx hk) hA fun n hn => by
      simp only [kp, List.contains_iff_mem]; exact hck1 n hn
     obtain ⟨hfn, hcl⟩ := hc Dr w k xs nm Hr [] r1 H1 d1 (ρ.only kp) vs w hcall hRr hAr
     refine ⟨hfn, Calls.mono hcl fun e w' hh => ?_⟩
     obtain ⟨ρ1, V, hle, rfl, hV, hR1⟩ := hh
     let ρ' : Ren := fun n => match ρ n with | some x => some x | none => if (Qb7 H1).contains n then ρ1 n else none
     have hρ1 : ρ.le ρ' := fun n x hx => by simp [ρ', hx]
     have hag1 : ∀ n, n ∈ Qb7 Hr → ρ' n = ρ n ∧ ∀ x, ρ n = some x → ρ1 n = some x := by
      intro n hn
      have hs : (ρ n).isSome = true := by
       obtain ⟨e, he⟩ := Option.isSome_iff_exists.1 (Qc8 hn)
       obtain ⟨g, z, c, h1, _⟩ := hR.hp n e (hgr n e he)
       rw [h1]; rfl
      obtain ⟨x, hx⟩ := Option.isSome_iff_exists.1 hs
      refine ⟨by simp [ρ', hx], fun y hy => hle n y (by simp [Ren.only, kp, hn, hy])⟩
     have hag : ∀ n, n ∈ Qb7 H1 → ρ' n = ρ1 n := by
      intro n hn
      obtain ⟨e, he⟩ := Option.isSome_iff_exists.1 (Qc8 hn)
      have hnn := hnew (n, e) (Qet he)
      by_cases hk : n ∈ Qb7 Hr
      ·obtain ⟨h1, h2⟩ := hag1 n hk
       rw [h1]
       cases hh : ρ n with
       | none =>
        obtain ⟨e', he'⟩ := Option.isSome_iff_exists.1 (Qc8 hk)
        obtain ⟨g, z, c, h3, _⟩ := hR.hp n e' (hgr n e' he')
        rw [h3] at hh; cases hh
       | some x => exact (h2 x hh).symm
      ·have h0 : ρ n = none := by
         rcases hnn with hnn | hnn
         ·exact absurd hnn hk
         ·simp only [Bool.and_eq_true, Bool.not_eq_true', Option.isNone_iff_eq_none] at hnn
          exact hR.unused hnn.1 (by simpa using hnn.2)
       simp [ρ', h0, hn]
     have hle' : (ρ1.only fun n => (Qb7 H1).contains n || (Qb7 Hr).contains n).le ρ' := by
      intro n x hx
      unfold Ren.only at hx
      split at hx
      ·rename_i hk
       simp only [Bool.or_eq_true, List.contains_iff_mem] at hk
       rcases hk with hk | hk
       ·rw [hag n hk]; exact hx
       ·obtain ⟨h1, h2⟩ := hag1 n hk
        rw [h1]
        cases hh : ρ n with
        | none =>
         obtain ⟨e', he'⟩ := Option.isSome_iff_exists.1 (Qc8 hk)
         obtain ⟨g, z, c, h3, _⟩ := hR.hp n e' (hgr n e' he')
         rw [h3] at hh; cases hh
        | some y => rw [h2 y hh] at hx; exact hx
      ·cases hx
     have hmem : ∀ n, ((Qb7 H1).contains n || (Qb7 Hr).contains n) = true ↔ n ∈ Qb7 H1 ∨ n ∈ Qb7 Hr := fun n => by
      simp only [Bool.or_eq_true, List.contains_iff_mem]
     have hX : ∀ n e, get (H.filter fun e => !(Qb7 Hr).contains e.1) n = some e → get H n = some e ∧ n ∉ Qb7 Hr := by
      intro n e he
      rw [Qeu (fun n => !(Qb7 Hr).contains n)] at he
      split at he
      ·rename_i hk; exact ⟨he, by simpa using hk⟩
      ·cases he
     have hfar : ∀ n e g z, get (H.filter fun e => !(Qb7 Hr).contains e.1) n = some e → ρ n = some (g, z) → ¬ Dr g ∧ g < w.heap.size := by
      intro n e g z he hg
      obtain ⟨h1, h2⟩ := hX n e he
      refine ⟨?_, (hR.hp n e h1).block_lt g z hg⟩
      rintro ⟨m, e', z', hm, hg'⟩
      have := hR.inj n m e e' g z z' h1 (hgr m e' hm) hg hg'
      subst this
      exact h2 (get_of_key'.2 (by rw [hm]; rfl))
     have hDr : ∀ g, Dr g → D g ∨ w0.heap.size ≤ g := by
      rintro g ⟨n, e, z, he, hg⟩
      obtain ⟨g', z', c, h1, _, _, _, _, h6⟩ := hR.hp n e (hgr n e he)
      rw [hg] at h1; injection h1 with h1; injection h1 with h1 _; subst h1; exact h6
     have hget := mergeH_get hY
     have hcases : ∀ n e, get Y n = some e → get H1 n = some e ∨ get H1 n = none ∧ get (H.filter fun e => !(Qb7 Hr).contains e.1) n = some e := by
      intro n e he
      rw [hget n] at he
      cases hh : get H1 n with
      | some e' => rw [hh] at he; exact .inl he
      | none => rw [hh] at he; exact .inr ⟨rfl, he⟩
     have hkey1 : ∀ n e, get H1 n = some e → n ∈ Qb7 H1 := fun n e he => get_of_key'.2 (by rw [he]; rfl)
     refine ⟨ρ', V, hρ1, rfl, AV.mono hle' _ _ (AV.only hV fun n hn => (hmem n).2 (hr1 n hn)), ?_, ?_, ?_, ?_⟩
     ·intro n e he
      rcases hcases n e he with h1 | ⟨_, h1⟩
      ·obtain ⟨g, z, c, q1, q2, q3, q4, q5, q6⟩ := hR1.hp n e h1
       refine ⟨g, z, c, by rw [hag n (hkey1 n e h1)]; exact q1, q2, q3, fun i x hx => ?_, q5, ?_⟩
       ·obtain ⟨y, hy, hr⟩ := q4 i x hx
        exact ⟨y, hy, C1.mono hle' _ _ (C1.only hr fun m hm => (hmem m).2 (hH1 (n, e) (Qet h1) m (List.mem_flatMap.2 ⟨x, List.mem_of_getElem? hx, hm⟩)))⟩
       ·rcases q6 with q6 | q6
        ·exact hDr g q6
        ·right; have := hR.out.size; omega
      ·refine (hR.hp n e (hX n e h1).1).mono hρ1 fun g z hg => ?_
       obtain ⟨p1, p2⟩ := hfar n e g z h1 hg
       exact hR1.out.block g p2 p1
     ·have side : ∀ n e g z, get Y n = some e → ρ' n = some (g, z) → (get H1 n = some e ∧ ρ1 n = some (g, z) ∧ (Dr g ∨ w.heap.size ≤ g)) ∨ (get (H.filter fun e => !(Qb7 Hr).contains e.1) n = some e ∧ ρ n = some (g, z) ∧ ¬ Dr g ∧ g < w.heap.size) := by
        intro n e g z he hg
        rcases hcases n e he with h1 | ⟨_, h1⟩
        ·left
         rw [hag n (hkey1 n e h1)] at hg
         refine ⟨h1, hg, ?_⟩
         obtain ⟨g', z', c, q1, _, _, _, _, q6⟩ := hR1.hp n e h1
         rw [hg] at q1; injection q1 with q1; injection q1 with q1 _; subst q1; exact q6
        ·right
         obtain ⟨g', z', c, q1, _⟩ := hR.hp n e (hX n e h1).1
         have : ρ n = some (g, z) := by rw [← hg]; simp [ρ', q1]
         exact ⟨h1, this, hfar n e g z h1 this⟩
      intro n m e e' g z z' he he' hg hg'
      rcases side n e g z he hg with ⟨a1, a2, a3⟩ | ⟨a1, a2, a3, a4⟩ <;> rcases side m e' g z' he' hg' with ⟨b1, b2, b3⟩ | ⟨b1, b2, b3, b4⟩
      ·exact hR1.inj n m e e' g z z' a1 b1 a2 b2
      ·rcases a3 with a3 | a3
       ·exact absurd a3 b3
       ·omega
      ·rcases b3 with b3 | b3
       ·exact absurd b3 a3
       ·omega
      ·exact hR.inj n m e e' g z z' (hX _ _ a1).1 (hX _ _ b1).1 a2 b2
     ·intro n x hx
      rw [hget n]
      by_cases h1 : n ∈ Qb7 H1
      ·obtain ⟨e, he⟩ := Option.isSome_iff_exists.1 (Qc8 h1)
       left; rw [he]; rfl
      ·have h0 : get H1 n = none := by
         cases hh : get H1 n with
         | none => rfl
         | some e => exact absurd (hkey1 n e hh) h1
       rw [h0]
       simp only
       have hx' : ρ n = some x := by
        cases hh : ρ n with
        | some y => simp only [ρ', hh] at hx; exact hx
        | none => simp [ρ', hh, h1] at hx
       rcases hR.fr n x hx' with h2 | h2
       ·by_cases h3 : n ∈ Qb7 Hr
        ·right; simp [h3, h1]
        ·left
         rw [Qeu (fun n => !(Qb7 Hr).contains n)]
         simp [h3]; exact h2
       ·right; simp [h2]
     ·refine ⟨hR1.out.os.trans hR.out.os, hR1.out.tape.trans hR.out.tape, hR1.out.output.trans hR.out.output, Nat.le_trans hR.out.size hR1.out.size, fun k hk hd => ?_⟩
      have h2 : ¬ Dr k := fun hh => by rcases hDr k hh with h3 | h3; exact hd h3; omega
      rw [hR1.out.block k (Nat.lt_of_lt_of_le hk hR.out.size) h2]
      exact hR.out.block k hk hd
    ·cases h
   ·cases h
  ·cases h
 ·cases h
def C0.map (f : Nat → Nat) : C0 → C0
 | .p (some (n, o)) => .p (some (f n, o))
 | .s (some (n, o)) len cap sz full => .s (some (f n, o)) len cap sz full
 | x => x
def C1.map (f : Nat → Nat) : C1 → C1
 | .c x => .c (x.map f)
 | .f fn a b => .f fn (a.map (C0.map f)) (b.map (C0.map f))
def T1.map (f : Nat → Nat) : T1 → T1
 | .c x => .c (x.map f)
 | .g l => .g (l.map (C1.map f))
def AV.map (f : Nat → Nat) : AV → AV
 | .c x => .c (x.map f)
 | .g l => .g (l.map (C1.map f))
 | .t l => .t (l.map (T1.map f))
section
variable {ρ ρ' : Ren} {f : Nat → Nat}
theorem C0.map_R {x : C0} {v : Value} (h : x.R ρ v) (hf : ∀ n ∈ x.names, ∀ y, ρ n = some y → ρ' (f n) = some y) : (x.map f).R ρ' v := by
 cases x with
 | p a =>
  cases a with
  | none => exact h
  | some a => obtain ⟨g, z, h1, h2⟩ := h; exact ⟨g, z, hf a.1 (by simp [C0.names]) _ h1, h2⟩
 | s a len cap sz full =>
  cases a with
  | none => exact h
  | some a => obtain ⟨g, z, c, h1, h2⟩ := h; exact ⟨g, z, c, hf a.1 (by simp [C0.names]) _ h1, h2⟩
 | _ => exact h
theorem All2.mapR {α : Type} {R R' : α → Value → Prop} {names : α → List Nat} {m : α → α} (hR : ∀ x v, R x v → (∀ n ∈ names x, ∀ y, ρ n = some y → ρ' (f n) = some y) → R' (m x) v) :
    ∀ {l : List α} {L : List Value}, All2 R l L → (∀ n ∈ l.flatMap names, ∀ y, ρ n = some y → ρ' (f n) = some y) → All2 R' (l.map m) L
 | [], [], _, _ => trivial
 | a :: l, b :: L, ⟨h1, h2⟩, h => ⟨hR a b h1 fun n hn => h n (by simp [hn]), All2.mapR hR h2 fun n hn => h n (by simp only [List.flatMap_cons, List.mem_append]; exact .inr hn)⟩
 | [], _ :: _, hh, _ => hh.elim
 | _ :: _, [], hh, _ => hh.elim
theorem C1.map_R {x : C1} {v : Value} (h : x.R ρ v) (hf : ∀ n ∈ x.names, ∀ y, ρ n = some y → ρ' (f n) = some y) : (x.map f).R ρ' v := by
 cases x with
 | c x => exact C0.map_R h hf
 | f fn a b =>
  obtain ⟨F, C, h1, h2, h3⟩ := h
  exact ⟨F, C, All2.mapR (ρ := ρ) (ρ' := ρ') (names := C0.names) (fun x v => C0.map_R) h1 fun n hn => hf n (by simp only [C1.names, List.mem_append]; exact .inl hn),
   All2.mapR (ρ := ρ) (ρ' := ρ') (names := C0.names) (fun x v => C0.map_R) h2 fun n hn => hf n (by simp only [C1.names, List.mem_append]; exact .inr hn), h3⟩
theorem T1.map_R {x : T1} {v : Value} (h : x.R ρ v) (hf : ∀ n ∈ x.names, ∀ y, ρ n = some y → ρ' (f n) = some y) : (x.map f).R ρ' v := by
 cases x with
 | c x => exact C1.map_R h hf
 | g l => obtain ⟨L, h1, h2⟩ := h; exact ⟨L, All2.mapR (ρ := ρ) (ρ' := ρ') (names := C1.names) (fun x v => C1.map_R) h1 hf, h2⟩
theorem AV.map_R {x : AV} {v : Value} (h : x.R ρ v) (hf : ∀ n ∈ x.names, ∀ y, ρ n = some y → ρ' (f n) = some y) : (x.map f).R ρ' v := by
 cases x with
 | c x => exact C1.map_R h hf
 | g l => obtain ⟨L, h1, h2⟩ := h; exact ⟨L, All2.mapR (ρ := ρ) (ρ' := ρ') (names := C1.names) (fun x v => C1.map_R) h1 hf, h2⟩
 | t l => obtain ⟨L, h1, h2⟩ := h; exact ⟨L, All2.mapR (ρ := ρ) (ρ' := ρ') (names := T1.names) (fun x v => T1.map_R) h1 hf, h2⟩
end
def Ent.map (f : Nat → Nat) (e : Ent) : Ent := ⟨e.cs.map (C1.map f), e.ty, e.ex⟩
noncomputable def posOf (l : List Nat) (n : Nat) : Nat := @List.rec Nat (fun _ => Nat) 0 (fun x l ih => cond (Nat.beq x n) (l.length + 1) ih) l
noncomputable def atPos (l : List Nat) (c : Nat) : Nat := @List.rec Nat (fun _ => Nat) 0 (fun x l ih => cond (Nat.beq c (l.length + 1)) x ih) l
theorem posOf_spec : ∀ {l : List Nat} {n : Nat}, n ∈ l → 0 < posOf l n ∧ posOf l n ≤ l.length ∧ atPos l (posOf l n) = n
 | x :: l, n, h => by
  have e1 : posOf (x :: l) n = if x = n then l.length + 1 else posOf l n := beq_if _ _ _ _
  have e2 : ∀ c, atPos (x :: l) c = if c = l.length + 1 then x else atPos l c := fun c => beq_if _ _ _ _
  rw [e1]
  split
  ·rename_i hx; subst hx; exact ⟨by omega, by simp, by rw [e2]; simp⟩
  ·rename_i hx
   have hn : n ∈ l := by
    rcases List.mem_cons.1 h with h | h
    ·exact absurd h.symm hx
    ·exact h
   obtain ⟨h1, h2, h3⟩ := posOf_spec hn
   refine ⟨h1, by simp; omega, ?_⟩
   rw [e2, if_neg (by omega)]; exact h3
theorem atPos_mem : ∀ {l : List Nat} {c : Nat}, 0 < c → c ≤ l.length → atPos l c ∈ l
 | [], c, h0, h => by simp at h; omega
 | x :: l, c, h0, h => by
  have e2 : atPos (x :: l) c = if c = l.length + 1 then x else atPos l c := beq_if _ _ _ _
  rw [e2]
  split
  ·simp
  ·exact List.mem_cons_of_mem _ (atPos_mem h0 (by simp at h; omega))
noncomputable def canonH (f : Nat → Nat) (H : Hp) : List Nat → Hp
 | [] => []
 | n :: l => match get H n with
  | some e => (f n, e.map f) :: canonH f H l
  | none => canonH f H l
noncomputable def backN (stepN : Nat) (seen : List Nat) (nm c : Nat) : Nat := cond (Nat.ble c seen.length) (atPos seen c) (nm + c * stepN)
def nodupB : List Nat → Bool
 | [] => true
 | x :: l => !l.contains x && nodupB l
theorem pos_at : ∀ {l : List Nat} {c : Nat}, nodupB l = true → 0 < c → c ≤ l.length → posOf l (atPos l c) = c
 | [], c, _, h0, h => by simp at h; omega
 | x :: l, c, hd, h0, h => by
  simp only [nodupB, Bool.and_eq_true, Bool.not_eq_true'] at hd
  have e1 : ∀ n, posOf (x :: l) n = if x = n then l.length + 1 else posOf l n := fun n => beq_if _ _ _ _
  have e2 : atPos (x :: l) c = if c = l.length + 1 then x else atPos l c := beq_if _ _ _ _
  rw [e2]
  split
  ·rename_i hc; rw [e1, if_pos rfl, hc]
  ·rename_i hc
   have hm := atPos_mem (l := l) h0 (by simp at h; omega)
   have hne : ¬ x = atPos l c := by rintro rfl; simp [hm] at hd
   rw [e1, if_neg hne]
   exact pos_at hd.2 h0 (by simp at h; omega)
noncomputable def ren (stepN : Nat) (call : Qdl) : Qdl := fun k xs nm H dead =>
 let seen := dfs H 4000 (xs.flatMap AV.names) []
 if dead.isEmpty && nodupB seen && (Qb7 H).all (fun n => seen.contains n) && seen.all (fun n => (get H n).isSome) && decide (nm < stepN) &&
     (xs.flatMap AV.names).all (fun n => seen.contains n) && H.all (fun e => (e.2.cs.flatMap C1.names).all fun n => seen.contains n) then
  forceL forceE (canonH (posOf seen) H seen) fun H' => forceL forceV (xs.map (AV.map (posOf seen))) fun xs' =>
   match call k xs' 1 H' [] with
   | some (r, H1, d1) =>
    if H1.all (fun e => e.1 != 0 && (Nat.ble e.1 seen.length || !seen.contains (nm + e.1 * stepN))) && d1.all (fun n => n != 0 && (Nat.ble n seen.length || !seen.contains (nm + n * stepN))) then
     some (r.map (backN stepN seen nm), H1.map (fun e => (backN stepN seen nm e.1, e.2.map (backN stepN seen nm))), d1.map (backN stepN seen nm))
    else none
   | none => none
 else none
theorem Qdu {f : Nat → Nat} {H : Hp} : ∀ {l : List Nat} {c : Nat} {e' : Ent}, get (canonH f H l) c = some e' → ∃ n e, n ∈ l ∧ f n = c ∧ get H n = some e ∧ e' = e.map f
 | [], c, e', h => by simp [canonH, Qdy] at h
 | n :: l, c, e', h => by
  unfold canonH at h
  split at h
  ·rename_i e he
   rw [Qb2] at h
   split at h
   ·rename_i hc; injection h with h; exact ⟨n, e, by simp, hc, he, h.symm⟩
   ·obtain ⟨m, e2, h1, h2⟩ := Qdu h; exact ⟨m, e2, List.mem_cons_of_mem _ h1, h2⟩
  ·obtain ⟨m, e2, h1, h2⟩ := Qdu h; exact ⟨m, e2, List.mem_cons_of_mem _ h1, h2⟩
theorem canonH_some {f : Nat → Nat} {H : Hp} : ∀ {l : List Nat} {n : Nat}, n ∈ l → (get H n).isSome = true → (get (canonH f H l) (f n)).isSome = true
 | m :: l, n, h, hs => by
  unfold canonH
  rcases List.mem_cons.1 h with rfl | h
  ·obtain ⟨e, he⟩ := Option.isSome_iff_exists.1 hs
   rw [he]; simp only; rw [Qb2]; simp
  ·have ih := canonH_some (f := f) h hs
   split
   ·rw [Qb2]; split
    ·rfl
    ·exact ih
   ·exact ih
theorem mapH_get {g : Nat → Nat} : ∀ {H : Hp} {n : Nat} {e' : Ent}, get (H.map fun e => (g e.1, e.2.map g)) n = some e' → ∃ c e, get H c = some e ∧ g c = n ∧ e' = e.map g
 | [], n, e', h => by simp [Qdy] at h
 | (m, e) :: H, n, e', h => by
  rw [List.map_cons, Qb2] at h
  split at h
  ·rename_i hm; injection h with h; exact ⟨m, e, by rw [Qb2]; simp, hm, h.symm⟩
  ·rename_i hm
   obtain ⟨c, e2, h1, h2, h3⟩ := mapH_get h
   refine ⟨c, e2, ?_, h2, h3⟩
   rw [Qb2, if_neg]; exact h1
   rintro rfl; exact hm h2
theorem mapH_some {g : Nat → Nat} : ∀ {H : Hp} {c : Nat}, (get H c).isSome = true → (get (H.map fun e => (g e.1, e.2.map g)) (g c)).isSome = true
 | (m, e) :: H, c, h => by
  rw [List.map_cons, Qb2]
  split
  ·rfl
  ·rename_i hm
   rw [Qb2, if_neg (by rintro rfl; exact hm rfl)] at h
   exact mapH_some h
theorem ren_sound {stepN : Nat} (hsp : 0 < stepN) {call : Qdl} (hc : ∀ D w0, Qed P D w0 call) : Qed P D w0 (ren stepN call) := by
 intro k xs nm H dead r H' dead' ρ vs w h hR hA
 unfold ren at h
 dsimp only at h
 generalize hseen : dfs H 4000 (xs.flatMap AV.names) [] = seen at h
 split at h
 ·rename_i hck
  simp only [Bool.and_eq_true, List.all_eq_true, List.contains_iff_mem, decide_eq_true_eq] at hck
  obtain ⟨⟨⟨⟨⟨⟨hde, hnd⟩, hks⟩, hsk⟩, hnm⟩, hxs⟩, hcs⟩ := hck
  have hdead : dead = [] := by simpa using hde
  subst hdead
  rw [Qcr forceE_eq, Qcr forceV_eq] at h
  split at h
  ·rename_i r0 H1 d1 hcall
   split at h
   ·rename_i hck2
    simp only [Bool.and_eq_true, List.all_eq_true, Bool.or_eq_true, bne_iff_ne, Bool.not_eq_true', Nat.ble_eq] at hck2
    obtain ⟨hn1, hn2⟩ := hck2
    simp at h; obtain ⟨rfl, rfl, rfl⟩ := h
    let ρc : Ren := fun c => if 0 < c ∧ c ≤ seen.length then ρ (atPos seen c) else none
    have hρc : ∀ n ∈ seen, ρc (posOf seen n) = ρ n := by
     intro n hn
     obtain ⟨h1, h2, h3⟩ := posOf_spec hn
     simp [ρc, h1, h2, h3]
    have hdom : ∀ n x, ρ n = some x → n ∈ seen := by
     intro n x hx
     rcases hR.fr n x hx with h1 | h1
     ·exact hks n (get_of_key'.2 h1)
     ·cases h1
    have hRc : RH D w0 ρc (canonH (posOf seen) H seen) [] w := by
     refine ⟨?_, ?_, ?_, hR.out⟩
     ·intro c e' he
      obtain ⟨n, e, hn, rfl, hne, rfl⟩ := Qdu he
      obtain ⟨g, z, cc, h1, h2, h3, h4, h5, h6⟩ := hR.hp n e hne
      refine ⟨g, z, cc, by rw [hρc n hn]; exact h1, h2, h3, fun i x hx => ?_, fun hx => by simpa [Ent.map] using h5 hx, h6⟩
      simp only [Ent.map, List.getElem?_map] at hx
      obtain ⟨x0, hx0, rfl⟩ := Option.map_eq_some_iff.1 hx
      obtain ⟨y, hy, hr⟩ := h4 i x0 hx0
      refine ⟨y, hy, C1.map_R hr fun m hm y hmy => ?_⟩
      rw [hρc m (hdom m y hmy)]; exact hmy
     ·intro c c' e1 e2 g z z' he1 he2 hg1 hg2
      obtain ⟨n, e, hn, rfl, hne, rfl⟩ := Qdu he1
      obtain ⟨n', e', hn', rfl, hne', rfl⟩ := Qdu he2
      rw [hρc n hn] at hg1
      rw [hρc n' hn'] at hg2
      rw [hR.inj n n' e e' g z z' hne hne' hg1 hg2]
     ·intro c x hx
      left
      simp only [ρc] at hx
      split at hx
      ·rename_i hc0
       have hm := atPos_mem hc0.1 hc0.2
       have := canonH_some (f := posOf seen) (l := seen) hm (hsk _ hm)
       rw [pos_at hnd hc0.1 hc0.2] at this
       exact this
      ·cases hx
    have hAc : All2 (AV.R ρc) (xs.map (AV.map (posOf seen))) vs := All2.mapR (ρ := ρ) (ρ' := ρc) (f := posOf seen) (names := AV.names) (fun x v => AV.map_R) hA fun n hn y hy => by
     rw [hρc n (hdom n y hy)]; exact hy
    obtain ⟨hfn, hcl⟩ := hc D w0 k _ 1 _ [] r0 H1 d1 ρc vs w hcall hRc hAc
    refine ⟨hfn, Calls.mono hcl fun e w' hh => ?_⟩
    obtain ⟨ρ1, V, hle, rfl, hV, hR1⟩ := hh
    let ρ2 : Ren := fun n => match ρ n with | some x => some x | none => if (n - nm) % stepN = 0 ∧ nm ≤ n ∧ seen.length < (n - nm) / stepN then ρ1 ((n - nm) / stepN) else none
    have hA : ∀ c y, ρ1 c = some y → ρ2 (backN stepN seen nm c) = some y := by
     intro c y hy
     have hk : c ≠ 0 ∧ (c ≤ seen.length ∨ ¬ nm + c * stepN ∈ seen) := by
      rcases hR1.fr c y hy with h1 | h1
      ·obtain ⟨e, he⟩ := Option.isSome_iff_exists.1 h1
       have := hn1 (c, e) (Qet he)
       exact ⟨this.1, this.2.imp id (fun hh => by simpa using hh)⟩
      ·have := hn2 c h1
       exact ⟨this.1, this.2.imp id (fun hh => by simpa using hh)⟩
     have hb : backN stepN seen nm c = if c ≤ seen.length then atPos seen c else nm + c * stepN := by
      unfold backN
      cases hh : Nat.ble c seen.length with
      | true => simp [Nat.le_of_ble_eq_true hh]
      | false =>
       have : ¬ c ≤ seen.length := fun h => by rw [Nat.ble_eq_true_of_le h] at hh; cases hh
       simp [this]
     rw [hb]
     by_cases hcl : c ≤ seen.length
     ·rw [if_pos hcl]
      have hm := atPos_mem (l := seen) (Nat.pos_of_ne_zero hk.1) hcl
      obtain ⟨e, he⟩ := Option.isSome_iff_exists.1 (hsk _ hm)
      obtain ⟨g, z, cc, h1, _⟩ := hR.hp _ e he
      have h2 := hρc _ hm
      rw [pos_at hnd (Nat.pos_of_ne_zero hk.1) hcl, h1] at h2
      have h3 := hle c _ h2
      rw [hy] at h3
      simp [ρ2, h1, h3]
     ·rw [if_neg hcl]
      have hno : ρ (nm + c * stepN) = none := by
       cases hh : ρ (nm + c * stepN) with
       | none => rfl
       | some x => exact absurd (hdom _ x hh) (hk.2.resolve_left hcl)
      have e1 : nm + c * stepN - nm = c * stepN := by omega
      simp only [ρ2, hno, e1, Nat.mul_mod_left, Nat.mul_div_cancel c hsp]
      rw [if_pos ⟨trivial, by omega, by omega⟩]; exact hy
    refine ⟨ρ2, V, fun n x hx => by simp [ρ2, hx], rfl, AV.map_R hV fun n _ y hy => hA n y hy, ?_, ?_, ?_, hR1.out⟩
    ·intro n e' he
     obtain ⟨c, e, h1, rfl, rfl⟩ := mapH_get he
     obtain ⟨g, z, cc, q1, q2, q3, q4, q5, q6⟩ := hR1.hp c e h1
     refine ⟨g, z, cc, hA c _ q1, q2, q3, fun i x hx => ?_, fun hx => by simpa [Ent.map] using q5 hx, q6⟩
     simp only [Ent.map, List.getElem?_map] at hx
     obtain ⟨x0, hx0, rfl⟩ := Option.map_eq_some_iff.1 hx
     obtain ⟨y, hy, hr⟩ := q4 i x0 hx0
     exact ⟨y, hy, C1.map_R hr fun m _ y hmy => hA m y hmy⟩
    ·intro n n' e1 e2 g z z' he1 he2 hg1 hg2
     obtain ⟨c, e, h1, rfl, rfl⟩ := mapH_get he1
     obtain ⟨c', e', h1', rfl, rfl⟩ := mapH_get he2
     obtain ⟨g1, z1, cc, q1, _⟩ := hR1.hp c e h1
     obtain ⟨g2, z2, cc', q1', _⟩ := hR1.hp c' e' h1'
     rw [hA c _ q1] at hg1
     rw [hA c' _ q1'] at hg2
     injection hg1 with hg1; injection hg1 with hg1 hz1; subst hg1
     injection hg2 with hg2; injection hg2 with hg2 hz2; subst hg2
     rw [hR1.inj c c' e e' _ _ _ h1 h1' q1 q1']
    ·intro n x hx
     have put : ∀ c, ρ1 c = some x → backN stepN seen nm c = n → (get (H1.map fun e => (backN stepN seen nm e.1, e.2.map (backN stepN seen nm))) n).isSome = true ∨ n ∈ d1.map (backN stepN seen nm) := by
      intro c hcx hcn
      subst hcn
      rcases hR1.fr c x hcx with h1 | h1
      ·exact .inl (mapH_some h1)
      ·exact .inr (List.mem_map.2 ⟨c, h1, rfl⟩)
     cases hh : ρ n with
     | some y =>
      have hxy : y = x := by simp only [ρ2, hh] at hx; exact Option.some.inj hx
      subst hxy
      have hn := hdom n y hh
      obtain ⟨h1, h2, h3⟩ := posOf_spec hn
      refine put (posOf seen n) (hle _ _ (by rw [hρc n hn]; exact hh)) ?_
      simp only [backN, Nat.ble_eq_true_of_le h2, cond_true, h3]
     | none =>
      simp only [ρ2, hh] at hx
      split at hx
      ·rename_i hq
       obtain ⟨q1, q2, q3⟩ := hq
       refine put _ hx ?_
       have hb : Nat.ble ((n - nm) / stepN) seen.length = false := by
        cases hb : Nat.ble ((n - nm) / stepN) seen.length with
        | false => rfl
        | true => have := Nat.le_of_ble_eq_true hb; omega
       simp only [backN, hb, cond_false]
       have := Nat.div_add_mod (n - nm) stepN
       rw [q1, Nat.mul_comm] at this
       omega
      ·cases hx
   ·cases h
  ·cases h
 ·cases h
noncomputable def resA (P : Program) (s : St) : List ResultVar → Option (List AV)
 | [] => some []
 | .tmp t :: l => match resA P s l with
  | some vs => some (nthA s.tm t :: vs)
  | none => none
 | .cell t ty :: l => match ptrA (nthA s.tm t), resA P s l with
  | some (n, o), some vs => match loadA P s.H ty n o with
   | some v => some (v :: vs)
   | none => none
  | _, _ => none
def toT : AV → Option T1
 | .c x => some (.c x)
 | .g l => some (.g l)
 | .t _ => none
def toTs : List AV → Option (List T1)
 | [] => some []
 | v :: l => match toT v, toTs l with
  | some x, some xs => some (x :: xs)
  | _, _ => none
def finA : List AV → Option AV
 | [v] => some v
 | l => (toTs l).map .t
theorem toTs_R {ρ : Ren} : ∀ {l : List AV} {xs : List T1} {L : List Value}, toTs l = some xs → All2 (AV.R ρ) l L → All2 (T1.R ρ) xs L
 | [], xs, [], h, _ => by simp [toTs] at h; subst h; trivial
 | v :: l, xs, V :: L, h, ⟨h1, h2⟩ => by
  unfold toTs at h
  split at h
  ·rename_i x xs' hx hxs
   simp at h; subst h
   refine ⟨?_, toTs_R hxs h2⟩
   cases v <;> simp [toT] at hx <;> subst hx <;> exact h1
  ·cases h
 | [], _, _ :: _, _, hh => hh.elim
 | _ :: _, _, [], _, hh => hh.elim
theorem resA_sound {ρ : Ren} {s : St} {a : Act} {w : World} (h : Rel D w0 ρ s a w) : ∀ {l : List ResultVar} {vs : List AV}, resA P s l = some vs →
    ∃ VS, All2 (AV.R ρ) vs VS ∧ (l.mapM fun (x : ResultVar) => (match x with | .tmp t => pure (a.tmps.getD t undef) | .cell t ty => do loadVar ty (← asAddr (a.tmps.getD t undef)) : Sem Value)).run P w = .ok VS w
 | [], vs, he => by simp [resA] at he; subst he; exact ⟨[], trivial, by simp⟩
 | .tmp t :: l, vs, he => by
  unfold resA at he
  split at he
  ·rename_i vs' hv
   simp at he; subst he
   obtain ⟨VS, h1, h2⟩ := resA_sound h hv
   exact ⟨a.tmps.getD t undef :: VS, ⟨Qdn h.tm t, h1⟩, by simp only [List.mapM_cons, Sem.run_bind, Sem.run_pure, h2, Result.andThen_ok]⟩
  ·cases he
 | .cell t ty :: l, vs, he => by
  unfold resA at he
  split at he
  ·rename_i n o vs' hp hv
   split at he
   ·rename_i v hl
    simp at he; subst he
    obtain ⟨VS, h1, h2⟩ := resA_sound h hv
    obtain ⟨g, z, hg, hV⟩ := ptrA_R hp (Qdn h.tm t)
    obtain ⟨V, hr, hrun⟩ := loadA_sound (P := P) h.rh hg hl
    simp only [Instr.loadAt, Instr.sureAddr, Sem.run_bind, Sem.run_pure, Result.andThen_ok] at hrun
    exact ⟨V :: VS, ⟨hr, h1⟩, by
     have ha : (asAddr (a.tmps.getD t undef)).run P w = .ok ⟨g, o, none⟩ w := by rw [hV]; rfl
     simp only [List.mapM_cons, Sem.run_bind, Sem.run_pure, h2, ha, hrun, Result.andThen_ok]⟩
   ·cases he
  ·cases he
theorem results_sound {ρ : Ren} {s : St} {a : Act} {w : World} (h : Rel D w0 ρ s a w) {fn : Func} {vs : List AV} {r : AV} (he : resA P s fn.results.toList = some vs) (hf : finA vs = some r) :
    ∃ V, r.R ρ V ∧ (results fn a.tmps).run P w = .ok V w := by
 obtain ⟨VS, h1, h2⟩ := resA_sound h he
 have hrun : ∀ (f : ResultVar → Sem Value), (fn.results.toList.mapM f).run P w = .ok VS w → (do let vs ← fn.results.mapM f; pure (if h : vs.size = 1 then vs[0] else Value.tuple vs) : Sem Value).run P w = .ok (if h : VS.toArray.size = 1 then VS.toArray[0] else .tuple VS.toArray) w := by
  intro f hf
  rw [Array.mapM_eq_mapM_toList]
  simp [hf]
 refine ⟨if h : VS.toArray.size = 1 then VS.toArray[0] else .tuple VS.toArray, ?_, hrun _ h2⟩
 have hl := h1.len
 unfold finA at hf
 split at hf
 ·rename_i v
  simp at hf; subst hf
  cases VS with
  | nil => simp at hl
  | cons V VS =>
   cases VS with
   | nil => exact h1.1
   | cons _ _ => simp at hl
 ·rename_i hn
  obtain ⟨xs, hx, rfl⟩ := Option.map_eq_some_iff.1 hf
  have : ¬ VS.toArray.size = 1 := by
   intro hs
   have hs2 : vs.length = 1 := by simp at hs; omega
   cases vs with
   | nil => simp at hs2
   | cons v vs =>
    cases vs with
    | nil => exact hn v rfl
    | cons _ _ => simp at hs2
  rw [dif_neg this]
  exact ⟨VS, toTs_R hx h1, rfl⟩
noncomputable def evFn (P : Program) (tbl : FuncId → Option Func) (noop : FuncId → Bool) (rk : FuncId → Nat) (N : Nat) : Nat → Qdl
 | 0 => fun _ _ _ _ _ => none
 | d + 1 => fun k xs nm H dead => bif Nat.ble (rk k) d then evFn P tbl noop rk N d k xs nm H dead else match tbl k with
  | none => none
  | some fn => match fn.body with
   | none => none
   | some c => match evCode P (framed (ren 4294967296 (evFn P tbl noop rk N d))) nm N c { tm := xs ++ List.replicate (fn.ntmps - xs.length) Qd0, H := H, dead := dead, df := [], r := 0 } with
    | some (.x _, _) => none
    | none => none
    | some (_, s) => if s.df.all (fun x => noop x.1 && Nat.beq x.2.length 2) then match resA P s fn.results.toList with
        | some vs => match finA vs with
         | some r => if s.H.length ≤ H.length then some (r, s.H, s.dead) else some (r, gc H dead r s.H s.dead)
         | none => none
        | none => none
     else none
def NoopOK (P : Program) (noop : FuncId → Bool) : Prop :=
 ∀ f, noop f = true → (∃ fn, P.funcs[f]? = some fn ∧ (fn.name == "runtime.NumGoroutine") = false ∧ fn.body.isNone = false) ∧
  ∀ p q w, CallsD P f #[p, q] .returning w fun e u w' => (∃ v, e = .returned v) ∧ u = .returning ∧ w' = w
theorem leaves_noop {noop : FuncId → Bool} (hn : NoopOK P noop) {ρ : Ren} {fn : Func} {tmps : Array Value} {R : Ending → World → Prop} {w : World} {V : Value} (hres : (results fn tmps).run P w = .ok V w) (hR : R (.returned V) w) :
    ∀ {l : List (FuncId × List C0)} {m : List Deferred}, All2 (fun (x : FuncId × List C0) (d : Deferred) => ∃ C, All2 (C0.R ρ) x.2 C ∧ d = { target := .fn (.func x.1) C.toArray, args := #[] }) l m →
     l.all (fun x => noop x.1 && Nat.beq x.2.length 2) = true → Leaves P fn tmps R m .returning w
 | [], [], _, _ => ⟨V, hres, hR⟩
 | x :: l, d :: m, ⟨⟨C, h1, h2⟩, h3⟩, h => by
  simp only [List.all_cons, Bool.and_eq_true] at h
  subst h2
  obtain ⟨⟨f, hf1, hf2, hf3⟩, hcall⟩ := hn x.1 h.1.1
  have hl := h1.len
  rw [Nat.eq_of_beq_eq_true h.1.2] at hl
  obtain ⟨p, q, rfl⟩ : ∃ p q, C = [p, q] := by
   cases C with
   | nil => simp at hl
   | cons p C => cases C with
    | nil => simp at hl
    | cons q C => cases C with
     | nil => exact ⟨p, q, rfl⟩
     | cons _ _ => simp at hl
  refine leaves_cons (f := x.1) (args := #[p, q]) (by simp) ?_ ?_
  ·simp only [invoke, callFunc, Sem.run_bind]
   have hp : (program : Sem Program).run P w = .ok P w := rfl
   rw [hp]
   simp only [Result.andThen_ok, hf1, hf2, hf3, if_false, Bool.false_eq_true, Sem.run_pure]
   simp
  ·refine (hcall p q w).mono fun e u w' hh => ?_
   obtain ⟨⟨v, rfl⟩, rfl, rfl⟩ := hh
   exact leaves_noop hn hres hR h3 h.2
 | [], _ :: _, hh, _ => hh.elim
 | _ :: _, [], hh, _ => hh.elim
def TblOK (P : Program) (tbl : FuncId → Option Func) : Prop := ∀ k fn, tbl k = some fn → P.funcs[k]? = some fn ∧ (fn.name == "runtime.NumGoroutine") = false
theorem evFn_sound (hm : P.follows .mixedOrders = true) {tbl : FuncId → Option Func} (ht : TblOK P tbl) {noop : FuncId → Bool} (hn : NoopOK P noop) (rk : FuncId → Nat) (N : Nat) : ∀ d D w0, Qed P D w0 (evFn P tbl noop rk N d) := by
 intro d
 induction d with
 | zero => intro D w0 k xs nm H dead r H' dead' ρ vs w h; simp [evFn] at h
 | succ d ih =>
  intro D w0 k xs nm H dead r H' dead' ρ vs w h hR hA
  simp only [evFn] at h
  cases hrk : Nat.ble (rk k) d with
  | true => rw [hrk] at h; exact ih D w0 k xs nm H dead r H' dead' ρ vs w h hR hA
  | false =>
  rw [hrk] at h
  simp only [cond_false] at h
  split at h
  ·cases h
  ·rename_i fn hfn
   obtain ⟨hP, hnm⟩ := ht k fn hfn
   split at h
   ·cases h
   ·rename_i c hb
    refine ⟨⟨fn, hP, hnm, by simp [hb]⟩, ?_⟩
    have hl := hA.len
    have hrel : Rel D w0 ρ { tm := xs ++ List.replicate (fn.ntmps - xs.length) Qd0, H := H, dead := dead, df := [], r := 0 } { tmps := vs.toArray ++ Array.replicate (fn.ntmps - vs.toArray.size) undef, defers := [] } w := by
     refine ⟨?_, trivial, hR⟩
     show All2 _ _ (vs.toArray ++ Array.replicate (fn.ntmps - vs.toArray.size) undef).toList
     rw [Array.toList_append, Array.toList_replicate]
     have e1 : vs.toArray.size = xs.length := by simp [hl]
     rw [e1]
     exact hA.app (All2.rep (undef_R ρ) _)
    refine calls_of_wp_defers hP hb ?_
    split at h
    ·cases h
    ·cases h
    ·rename_i e s he hne
     split at h
     ·rename_i hdf
      split at h
      ·rename_i vs' hres
       split at h
       ·rename_i r' hfin
        refine evCode_sound (Q := bodyPostD P fn _) hm (framed_sound fun D w0 => ren_sound (by decide) ih) c hne hrel fun ρ' a' w' hle h' => ?_
        have key : Leaves P fn a'.tmps (fun e w' => ∃ ρ' V, ρ.le ρ' ∧ e = .returned V ∧ r.R ρ' V ∧ RH D w0 ρ' H' dead' w') a'.defers .returning w' := by
         obtain ⟨V, hr, hrun⟩ := results_sound (P := P) h' hres hfin
         refine leaves_noop hn hrun ?_ h'.df hdf
         split at h
         ·simp at h; obtain ⟨rfl, rfl, rfl⟩ := h
          exact ⟨ρ', V, hle, rfl, hr, h'.rh⟩
         ·simp at h; obtain ⟨rfl, hgc⟩ := h
          obtain ⟨ρ2, h1, h2, h3⟩ := gc_sound hR hle h'.rh hr
          rw [hgc] at h2
          exact ⟨ρ2, V, h1, rfl, h3, h2⟩
        cases e with
        | n => exact key
        | r => exact key
        | x id => exact (he id rfl).elim
       ·cases h
      ·cases h
     ·cases h
end
end Go.Proofs.YtchpkjgibloleaaGreat.V
namespace Go.Proofs.YtchpkjgibloleaaGreat.V
set_option maxRecDepth 100000
set_option maxHeartbeats 8000000
open Go Go.RowKit
noncomputable def tbl : FuncId → Option Func
 | 7 => some Tryz.f7
 | 14 => some Tryz.f14
 | 17 => some Tryz.f17
 | 18 => some Tryz.f18
 | 19 => some Tryz.f19
 | 20 => some Tryz.f20
 | 21 => some Tryz.f21
 | 31 => some Tryz.f31
 | 32 => some Tryz.f32
 | 33 => some Tryz.f33
 | 34 => some Tryz.f34
 | 35 => some Tryz.f35
 | 36 => some Tryz.f36
 | 37 => some Tryz.f37
 | 38 => some Tryz.f38
 | 39 => some Tryz.f39
 | 40 => some Tryz.f40
 | 41 => some Tryz.f41
 | 42 => some Tryz.f42
 | 43 => some Tryz.f43
 | 44 => some Tryz.f44
 | 45 => some Tryz.f45
 | 46 => some Tryz.f46
 | 47 => some Tryz.f47
 | 48 => some Tryz.f48
 | 49 => some Tryz.f49
 | 50 => some Tryz.f50
 | 51 => some Tryz.f51
 | 59 => some Tryz.f59
 | 60 => some Tryz.f60
 | 61 => some Tryz.f61
 | 62 => some Tryz.f62
 | 63 => some Tryz.f63
 | 64 => some Tryz.f64
 | 65 => some Tryz.f65
 | 66 => some Tryz.f66
 | 67 => some Tryz.f67
 | 68 => some Tryz.f68
 | 69 => some Tryz.f69
 | 70 => some Tryz.f70
 | 71 => some Tryz.f71
 | 72 => some Tryz.f72
 | 73 => some Tryz.f73
 | 74 => some Tryz.f74
 | 75 => some Tryz.f75
 | 76 => some Tryz.f76
 | 77 => some Tryz.f77
 | 79 => some Tryz.f79
 | 80 => some Tryz.f80
 | 81 => some Tryz.f81
 | 83 => some Tryz.f83
 | 84 => some Tryz.f84
 | 85 => some Tryz.f85
 | 86 => some Tryz.f86
 | 87 => some Tryz.f87
 | 88 => some Tryz.f88
 | 89 => some Tryz.f89
 | 90 => some Tryz.f90
 | 91 => some Tryz.f91
 | 92 => some Tryz.f92
 | 93 => some Tryz.f93
 | 94 => some Tryz.f94
 | 95 => some Tryz.f95
 | 96 => some Tryz.f96
 | 97 => some Tryz.f97
 | 98 => some Tryz.f98
 | 103 => some Tryz.f103
 | 104 => some Tryz.f104
 | 105 => some Tryz.f105
 | 106 => some Tryz.f106
 | 107 => some Tryz.f107
 | 108 => some Tryz.f108
 | 109 => some Tryz.f109
 | 110 => some Tryz.f110
 | 111 => some Tryz.f111
 | 112 => some Tryz.f112
 | 113 => some Tryz.f113
 | 114 => some Tryz.f114
 | 115 => some Tryz.f115
 | 116 => some Tryz.f116
 | 117 => some Tryz.f117
 | 118 => some Tryz.f118
 | 119 => some Tryz.f119
 | 120 => some Tryz.f120
 | 121 => some Tryz.f121
 | 122 => some Tryz.f122
 | 123 => some Tryz.f123
 | 124 => some Tryz.f124
 | 125 => some Tryz.f125
 | 126 => some Tryz.f126
 | 127 => some Tryz.f127
 | 130 => some Tryz.f130
 | 131 => some Tryz.f131
 | 132 => some Tryz.f132
 | 135 => some Tryz.f135
 | 136 => some Tryz.f136
 | 137 => some Tryz.f137
 | 138 => some Tryz.f138
 | 139 => some Tryz.f139
 | 141 => some Tryz.f141
 | 143 => some Tryz.f143
 | 145 => some Tryz.f145
 | 147 => some Tryz.f147
 | 148 => some Tryz.f148
 | 149 => some Tryz.f149
 | 150 => some Tryz.f150
 | 151 => some Tryz.f151
 | 152 => some Tryz.f152
 | 153 => some Tryz.f153
 | 154 => some Tryz.f154
 | 155 => some Tryz.f155
 | 156 => some Tryz.f156
 | 160 => some Tryz.f160
 | 161 => some Tryz.f161
 | 163 => some Tryz.f163
 | 164 => some Tryz.f164
 | 170 => some Tryz.f170
 | 171 => some Tryz.f171
 | 172 => some Tryz.f172
 | 173 => some Tryz.f173
 | 174 => some Tryz.f174
 | 183 => some Tryz.f183
 | 190 => some Tryz.f190
 | 191 => some Tryz.f191
 | 195 => some Tryz.f195
 | 197 => some Tryz.f197
 | _ => none
def rk : FuncId → Nat
 | 7 => 16
 | 14 => 13
 | 17 => 12
 | 18 => 11
 | 19 => 15
 | 20 => 1
 | 21 => 14
 | 31 => 9
 | 32 => 4
 | 33 => 12
 | 34 => 1
 | 35 => 3
 | 36 => 1
 | 37 => 2
 | 38 => 5
 | 39 => 1
 | 40 => 1
 | 41 => 11
 | 42 => 10
 | 43 => 9
 | 44 => 10
 | 45 => 9
 | 46 => 8
 | 47 => 7
 | 48 => 10
 | 49 => 7
 | 50 => 8
 | 51 => 3
 | 59 => 5
 | 60 => 8
 | 61 => 4
 | 62 => 3
 | 63 => 3
 | 64 => 1
 | 65 => 7
 | 66 => 11
 | 67 => 2
 | 68 => 1
 | 69 => 4
 | 70 => 1
 | 71 => 1
 | 72 => 4
 | 73 => 1
 | 74 => 4
 | 75 => 2
 | 76 => 5
 | 77 => 7
 | 79 => 8
 | 80 => 1
 | 81 => 7
 | 83 => 8
 | 84 => 1
 | 85 => 4
 | 86 => 6
 | 87 => 8
 | 88 => 8
 | 89 => 5
 | 90 => 5
 | 91 => 1
 | 92 => 1
 | 93 => 1
 | 94 => 6
 | 95 => 1
 | 96 => 7
 | 97 => 1
 | 98 => 2
 | 103 => 1
 | 104 => 4
 | 105 => 1
 | 106 => 7
 | 107 => 1
 | 108 => 3
 | 109 => 2
 | 110 => 2
 | 111 => 1
 | 112 => 2
 | 113 => 1
 | 114 => 1
 | 115 => 1
 | 116 => 6
 | 117 => 2
 | 118 => 1
 | 119 => 1
 | 120 => 10
 | 121 => 4
 | 122 => 1
 | 123 => 3
 | 124 => 1
 | 125 => 2
 | 126 => 1
 | 127 => 1
 | 130 => 5
 | 131 => 5
 | 132 => 6
 | 135 => 1
 | 136 => 2
 | 137 => 5
 | 138 => 2
 | 139 => 4
 | 141 => 5
 | 143 => 2
 | 145 => 1
 | 147 => 1
 | 148 => 3
 | 149 => 2
 | 150 => 6
 | 151 => 1
 | 152 => 1
 | 153 => 5
 | 154 => 2
 | 155 => 1
 | 156 => 1
 | 160 => 3
 | 161 => 1
 | 163 => 1
 | 164 => 3
 | 170 => 1
 | 171 => 1
 | 172 => 5
 | 173 => 4
 | 174 => 3
 | 183 => 1
 | 190 => 2
 | 191 => 2
 | 195 => 4
 | 197 => 3
 | _ => 0
def noop : FuncId → Bool
 | 36 | 119 => true
 | _ => false
theorem tbl_ok : TblOK Tryz.prog tbl := by
 intro k fn h
 unfold tbl at h
 split at h
 ·injection h with h; subst h; exact ⟨Tryz.func7, by kernel_rfl⟩
 ·injection h with h; subst h; exact ⟨Tryz.func14, by kernel_rfl⟩
 ·injection h with h; subst h; exact ⟨Tryz.func17, by kernel_rfl⟩
 ·injection h with h; subst h; exact ⟨Tryz.func18, by kernel_rfl⟩
 ·injection h with h; subst h; exact ⟨Tryz.func19, by kernel_rfl⟩
 ·injection h with h; subst h; exact ⟨Tryz.func20, by kernel_rfl⟩
 ·injection h with h; subst h; exact ⟨Tryz.func21, by kernel_rfl⟩
 ·injection h with h; subst h; exact ⟨Tryz.func31, by kernel_rfl⟩
 ·injection h with h; subst h; exact ⟨Tryz.func32, by kernel_rfl⟩
 ·injection h with h; subst h; exact ⟨Tryz.func33, by kernel_rfl⟩
 ·injection h with h; subst h; exact ⟨Tryz.func34, by kernel_rfl⟩
 ·injection h with h; subst h; exact ⟨Tryz.func35, by kernel_rfl⟩
 ·injection h with h; subst h; exact ⟨Tryz.func36, by kernel_rfl⟩
 ·injection h with h; subst h; exact ⟨Tryz.func37, by kernel_rfl⟩
 ·injection h with h; subst h; exact ⟨Tryz.func38, by kernel_rfl⟩
 ·injection h with h; subst h; exact ⟨Tryz.func39, by kernel_rfl⟩
 ·injection h with h; subst h; exact ⟨Tryz.func40, by kernel_rfl⟩
 ·injection h with h; subst h; exact ⟨Tryz.func41, by kernel_rfl⟩
 ·injection h with h; subst h; exact ⟨Tryz.func42, by kernel_rfl⟩
 ·injection h with h; subst h; exact ⟨Tryz.func43, by kernel_rfl⟩
 ·injection h with h; subst h; exact ⟨Tryz.func44, by kernel_rfl⟩
 ·injection h with h; subst h; exact ⟨Tryz.func45, by kernel_rfl⟩
 ·injection h with h; subst h; exact ⟨Tryz.func46, by kernel_rfl⟩
 ·injection h with h; subst h; exact ⟨Tryz.func47, by kernel_rfl⟩
 ·injection h with h; subst h; exact ⟨Tryz.func48, by kernel_rfl⟩
 ·injection h with h; subst h; exact ⟨Tryz.func49, by kernel_rfl⟩
 ·injection h with h; subst h; exact ⟨Tryz.func50, by kernel_rfl⟩
 ·injection h with h; subst h; exact ⟨Tryz.func51, by kernel_rfl⟩
 ·injection h with h; subst h; exact ⟨Tryz.func59, by kernel_rfl⟩
 ·injection h with h; subst h; exact ⟨Tryz.func60, by kernel_rfl⟩
 ·injection h with h; subst h; exact ⟨Tryz.func61, by kernel_rfl⟩
 ·injection h with h; subst h; exact ⟨Tryz.func62, by kernel_rfl⟩
 ·injection h with h; subst h; exact ⟨Tryz.func63, by kernel_rfl⟩
 ·injection h with h; subst h; exact ⟨Tryz.func64, by kernel_rfl⟩
 ·injection h with h; subst h; exact ⟨Tryz.func65, by kernel_rfl⟩
 ·injection h with h; subst h; exact ⟨Tryz.func66, by kernel_rfl⟩
 ·injection h with h; subst h; exact ⟨Tryz.func67, by kernel_rfl⟩
 ·injection h with h; subst h; exact ⟨Tryz.func68, by kernel_rfl⟩
 ·injection h with h; subst h; exact ⟨Tryz.func69, by kernel_rfl⟩
 ·injection h with h; subst h; exact ⟨Tryz.func70, by kernel_rfl⟩
 ·injection h with h; subst h; exact ⟨Tryz.func71, by kernel_rfl⟩
 ·injection h with h; subst h; exact ⟨Tryz.func72, by kernel_rfl⟩
 ·injection h with h; subst h; exact ⟨Tryz.func73, by kernel_rfl⟩
 ·injection h with h; subst h; exact ⟨Tryz.func74, by kernel_rfl⟩
 ·injection h with h; subst h; exact ⟨Tryz.func75, by kernel_rfl⟩
 ·injection h with h; subst h; exact ⟨Tryz.func76, by kernel_rfl⟩
 ·injection h with h; subst h; exact ⟨Tryz.func77, by kernel_rfl⟩
 ·injection h with h; subst h; exact ⟨Tryz.func79, by kernel_rfl⟩
 ·injection h with h; subst h; exact ⟨Tryz.func80, by kernel_rfl⟩
 ·injection h with h; subst h; exact ⟨Tryz.func81, by kernel_rfl⟩
 ·injection h with h; subst h; exact ⟨Tryz.func83, by kernel_rfl⟩
 ·injection h with h; subst h; exact ⟨Tryz.func84, by kernel_rfl⟩
 ·injection h with h; subst h; exact ⟨Tryz.func85, by kernel_rfl⟩
 ·injection h with h; subst h; exact ⟨Tryz.func86, by kernel_rfl⟩
 ·injection h with h; subst h; exact ⟨Tryz.func87, by kernel_rfl⟩
 ·injection h with h; subst h; exact ⟨Tryz.func88, by kernel_rfl⟩
 ·injection h with h; subst h; exact ⟨Tryz.func89, by kernel_rfl⟩
 ·injection h with h; subst h; exact ⟨Tryz.func90, by kernel_rfl⟩
 ·injection h with h; subst h; exact ⟨Tryz.func91, by kernel_rfl⟩
 ·injection h with h; subst h; exact ⟨Tryz.func92, by kernel_rfl⟩
 ·injection h with h; subst h; exact ⟨Tryz.func93, by kernel_rfl⟩
 ·injection h with h; subst h; exact ⟨Tryz.func94, by kernel_rfl⟩
 ·injection h with h; subst h; exact ⟨Tryz.func95, by kernel_rfl⟩
 ·injection h with h; subst h; exact ⟨Tryz.func96, by kernel_rfl⟩
 ·injection h with h; subst h; exact ⟨Tryz.func97, by kernel_rfl⟩
 ·injection h with h; subst h; exact ⟨Tryz.func98, by kernel_rfl⟩
 ·injection h with h; subst h; exact ⟨Tryz.func103, by kernel_rfl⟩
 ·injection h with h; subst h; exact ⟨Tryz.func104, by kernel_rfl⟩
 ·injection h with h; subst h; exact ⟨Tryz.func105, by kernel_rfl⟩
 ·injection h with h; subst h; exact ⟨Tryz.func106, by kernel_rfl⟩
 ·injection h with h; subst h; exact ⟨Tryz.func107, by kernel_rfl⟩
 ·injection h with h; subst h; exact ⟨Tryz.func108, by kernel_rfl⟩
 ·injection h with h; subst h; exact ⟨Tryz.func109, by kernel_rfl⟩
 ·injection h with h; subst h; exact ⟨Tryz.func110, by kernel_rfl⟩
 ·injection h with h; subst h; exact ⟨Tryz.func111, by kernel_rfl⟩
 ·injection h with h; subst h; exact ⟨Tryz.func112, by kernel_rfl⟩
 ·injection h with h; subst h; exact ⟨Tryz.func113, by kernel_rfl⟩
 ·injection h with h; subst h; exact ⟨Tryz.func114, by kernel_rfl⟩
 ·injection h with h; subst h; exact ⟨Tryz.func115, by kernel_rfl⟩
 ·injection h with h; subst h; exact ⟨Tryz.func116, by kernel_rfl⟩
 ·injection h with h; subst h; exact ⟨Tryz.func117, by kernel_rfl⟩
 ·injection h with h; subst h; exact ⟨Tryz.func118, by kernel_rfl⟩
 ·injection h with h; subst h; exact ⟨Tryz.func119, by kernel_rfl⟩
 ·injection h with h; subst h; exact ⟨Tryz.func120, by kernel_rfl⟩
 ·injection h with h; subst h; exact ⟨Tryz.func121, by kernel_rfl⟩
 ·injection h with h; subst h; exact ⟨Tryz.func122, by kernel_rfl⟩
 ·injection h with h; subst h; exact ⟨Tryz.func123, by kernel_rfl⟩
 ·injection h with h; subst h; exact ⟨Tryz.func124, by kernel_rfl⟩
 ·injection h with h; subst h; exact ⟨Tryz.func125, by kernel_rfl⟩
 ·injection h with h; subst h; exact ⟨Tryz.func126, by kernel_rfl⟩
 ·injection h with h; subst h; exact ⟨Tryz.func127, by kernel_rfl⟩
 ·injection h with h; subst h; exact ⟨Tryz.func130, by kernel_rfl⟩
 ·injection h with h; subst h; exact ⟨Tryz.func131, by kernel_rfl⟩
 ·injection h with h; subst h; exact ⟨Tryz.func132, by kernel_rfl⟩
 ·injection h with h; subst h; exact ⟨Tryz.func135, by kernel_rfl⟩
 ·injection h with h; subst h; exact ⟨Tryz.func136, by kernel_rfl⟩
 ·injection h with h; subst h; exact ⟨Tryz.func137, by kernel_rfl⟩
 ·injection h with h; subst h; exact ⟨Tryz.func138, by kernel_rfl⟩
 ·injection h with h; subst h; exact ⟨Tryz.func139, by kernel_rfl⟩
 ·injection h with h; subst h; exact ⟨Tryz.func141, by kernel_rfl⟩
 ·injection h with h; subst h; exact ⟨Tryz.func143, by kernel_rfl⟩
 ·injection h with h; subst h; exact ⟨Tryz.func145, by kernel_rfl⟩
 ·injection h with h; subst h; exact ⟨Tryz.func147, by kernel_rfl⟩
 ·injection h with h; subst h; exact ⟨Tryz.func148, by kernel_rfl⟩
 ·injection h with h; subst h; exact ⟨Tryz.func149, by kernel_rfl⟩
 ·injection h with h; subst h; exact ⟨Tryz.func150, by kernel_rfl⟩
 ·injection h with h; subst h; exact ⟨Tryz.func151, by kernel_rfl⟩
 ·injection h with h; subst h; exact ⟨Tryz.func152, by kernel_rfl⟩
 ·injection h with h; subst h; exact ⟨Tryz.func153, by kernel_rfl⟩
 ·injection h with h; subst h; exact ⟨Tryz.func154, by kernel_rfl⟩
 ·injection h with h; subst h; exact ⟨Tryz.func155, by kernel_rfl⟩
 ·injection h with h; subst h; exact ⟨Tryz.func156, by kernel_rfl⟩
 ·injection h with h; subst h; exact ⟨Tryz.func160, by kernel_rfl⟩
 ·injection h with h; subst h; exact ⟨Tryz.func161, by kernel_rfl⟩
 ·injection h with h; subst h; exact ⟨Tryz.func163, by kernel_rfl⟩
 ·injection h with h; subst h; exact ⟨Tryz.func164, by kernel_rfl⟩
 ·injection h with h; subst h; exact ⟨Tryz.func170, by kernel_rfl⟩
 ·injection h with h; subst h; exact ⟨Tryz.func171, by kernel_rfl⟩
 ·injection h with h; subst h; exact ⟨Tryz.func172, by kernel_rfl⟩
 ·injection h with h; subst h; exact ⟨Tryz.func173, by kernel_rfl⟩
 ·injection h with h; subst h; exact ⟨Tryz.func174, by kernel_rfl⟩
 ·injection h with h; subst h; exact ⟨Tryz.func183, by kernel_rfl⟩
 ·injection h with h; subst h; exact ⟨Tryz.func190, by kernel_rfl⟩
 ·injection h with h; subst h; exact ⟨Tryz.func191, by kernel_rfl⟩
 ·injection h with h; subst h; exact ⟨Tryz.func195, by kernel_rfl⟩
 ·injection h with h; subst h; exact ⟨Tryz.func197, by kernel_rfl⟩
 ·cases h
theorem noop_ok : NoopOK Tryz.prog noop := by
 intro f hf
 have hu20 := Tryz.underlying20
 unfold noop at hf
 split at hf
 ·refine ⟨⟨Tryz.f36, Tryz.func36, by kernel_rfl, by kernel_rfl⟩, fun p q w => ?_⟩
  refine callsD_of_wpS Tryz.func36 rfl fun c₀ cs hu => ?_
  apply wpS_seq
  apply wpS_region
  simp [wpOpsS, go_sem, recoverD, hu, Tryz.ntmps36, Exit.thenS]
  apply wpS_seq
  apply wpS_region
  simp [wpOpsS, go_sem, Exit.thenS]
  refine wpS_cond (t := false) (by simp [Act.eval, Array.replicate]) ?_
  simp only [Bool.false_eq_true, if_false]
  refine wpS_of_wp (wp_skip ?_)
  cases c₀
  simp_all [bodyPostS, results, Tryz.results36, Exit.thenS]
 ·refine ⟨⟨Tryz.f119, Tryz.func119, by kernel_rfl, by kernel_rfl⟩, fun p q w => ?_⟩
  refine callsD_of_wpS Tryz.func119 rfl fun c₀ cs hu => ?_
  apply wpS_seq
  apply wpS_region
  simp [wpOpsS, go_sem, recoverD, hu, Tryz.ntmps119, Exit.thenS]
  apply wpS_seq
  apply wpS_region
  simp [wpOpsS, go_sem, Exit.thenS]
  refine wpS_cond (t := false) (by simp [Act.eval, Array.replicate]) ?_
  simp only [Bool.false_eq_true, if_false]
  refine wpS_of_wp (wp_skip ?_)
  cases c₀
  simp_all [bodyPostS, results, Tryz.results119, Exit.thenS]
 ·cases hf
noncomputable def isYes (x : Option Mem) : Bool :=
 match x with
 | some (.c (.c (.b true)), _, _) => true
 | _ => false
theorem awake_reckoned : isYes (evFn Tryz.prog tbl noop rk 100 40 7 [] 1 [] []) = true := by kernel_rfl
theorem awake_calls (w : World) : Calls Tryz.prog 7 #[] w fun e w' => e = .returned (.bool true) ∧ Below w.heap.size w w' := by
 have h := awake_reckoned
 unfold isYes at h
 split at h
 ·rename_i H d he
  have hc := evFn_sound (P := Tryz.prog) (by kernel_rfl) tbl_ok noop_ok rk 100 40 (fun _ => False) w
  have hR : RH (fun _ => False) w (fun _ => none) [] [] w :=
   ⟨fun n e h => by simp [Qdy] at h, fun n m e e' g z z' h => by simp [Qdy] at h, fun n x h => (by cases h), ⟨rfl, rfl, rfl, Nat.le_refl _, fun _ _ _ => rfl⟩⟩
  refine Calls.mono (hc 7 [] 1 [] [] _ _ _ _ [] w he hR trivial).2 fun e w' hh => ?_
  obtain ⟨ρ', V, _, rfl, hV, hR'⟩ := hh
  have hV : V = .bool true := hV
  subst hV
  exact ⟨rfl, hR'.out.os, hR'.out.tape, hR'.out.output, hR'.out.size, fun k hk => hR'.out.block k hk (fun h => h)⟩
 ·cases h
end Go.Proofs.YtchpkjgibloleaaGreat.V
namespace Go.Proofs.YtchpkjgibloleaaGreat.Z
set_option maxRecDepth 100000
set_option maxHeartbeats 8000000
open Go.RowKit Go.Proofs.YtchpkjgibloleaaGreatW.PrintWords Go.Proofs.YtchpkjgibloleaaGreatW.PrintLast Go.Proofs.YtchpkjgibloleaaGreatW.PrintMore
attribute [local go_sem] Qbu Qb0
def regcerttop_awake.f (k : Nat) : Option Bool := some true
theorem regcerttop_awake.calls (k : Nat) (r : Bool) (w : World) (h : regcerttop_awake.f k = some r) : Calls Tryz.prog 7 #[] w fun e w' => e = .returned (.bool r) ∧ Below w.heap.size w w' := by
 obtain rfl := Option.some.inj h
 exact V.awake_calls w
def Qaf.j0 : Nat → Int → Int → Int → Bool → Int → Int → List (S39) → Int → Int → Int → List (S57) → List (List (S47)) → Option (Bool)
 | 0, _, _, _, _, _, _, _, _, _, _, _, _ => none
 | k + 1, x1, x2, x3, x31, x612000, x612001, x612002, x612003, kG, x612005, x612006, x612007 => if x31 = true then ((regcerttop_awake.f k).bind fun t615 => (some t615)) else ((Qai.f k x612000 x612001 x612002 x612003 kG x612005 x612006 x612007).bind fun bt616 => (if (bt616.2.2.2.2.2.2.1.length : Int) = 0 then (none) else (if kG = 0 then (none) else (if 0 ≤ (Int.tmod (wrap64 (x1)) (bt616.2.2.2.2.2.2.1.length : Int)) then (if (Int.tmod (wrap64 (x1)) (bt616.2.2.2.2.2.2.1.length : Int)) < (bt616.2.2.2.2.2.2.1.length : Int) then ((Qa1.f ((Qac bt616.2.2.2.2.2.2.1 (Int.tmod (wrap64 (x1)) (bt616.2.2.2.2.2.2.1.length : Int))).f0) (wrap64 (x2)) 18 0 0 0 0 (wrap64 (2 * (Int.tmod (wrap64 (x3)) kG))) (wrap64 (2 * (Int.tmod (wrap64 (x3)) kG)))).bind fun hU => ((some (bt616.2.2.2.2.2.2.1.set ((Int.tmod (wrap64 (x1)) (bt616.2.2.2.2.2.2.1.length : Int)) : Int).toNat (⟨hU, (⟨(Qac bt616.2.2.2.2.2.2.1 (Int.tmod (wrap64 (x1)) (bt616.2.2.2.2.2.2.1.length : Int))).f1.f0, (Qac bt616.2.2.2.2.2.2.1 (Int.tmod (wrap64 (x1)) (bt616.2.2.2.2.2.2.1.length : Int))).f1.f1, (Qac bt616.2.2.2.2.2.2.1 (Int.tmod (wrap64 (x1)) (bt616.2.2.2.2.2.2.1.length : Int))).f1.f2, (Qac bt616.2.2.2.2.2.2.1 (Int.tmod (wrap64 (x1)) (bt616.2.2.2.2.2.2.1.length : Int))).f1.f3⟩ : S37)⟩ : S57) : List (S57))).bind fun y635 => ((checker_Check.f k bt616.1 bt616.2.1 bt616.2.2.1 bt616.2.2.2.1 bt616.2.2.2.2.1 bt616.2.2.2.2.2.1 y635 bt616.2.2.2.2.2.2.2).bind fun bt636 => ((Qae.f k ((Qac y635 (Int.tmod (wrap64 (x1)) (bt616.2.2.2.2.2.2.1.length : Int))).f0)).bind fun t645 => (if t645 > 64 then (some (bt636.1 == 15)) else ((checker_Check.f k x612000 x612001 x612002 x612003 kG x612005 x612006 x612007).bind fun bt646 => (if bt636.1 = bt646.1 then (if bt636.2.1 = bt646.2.1 then (if bt636.2.2.2.2.1 = bt646.2.2.2.2.1 then (some (bt636.2.2.2.2.2.2 == bt646.2.2.2.2.2.2)) else (none)) else (none)) else (none)))))))) else (none)) else (none)))))
def refOk (a0_0 a0_1 : Int) (l0_2 : List S39) (a0_3 a0_4 a0_5 : Int) (l0_6 : List S57) (l0_7 : List (List S47)) : Prop := ((0 ≤ a0_0 ∧ a0_0 ≤ a0_1) ∧ l0_2.length ≠ 0 ∧ ∀ i : Nat, i < l0_2.length → okBrsrc (Qal l0_2 (i : Int)) a0_1 l0_2.length) ∧ (((0 ≤ a0_3 ∧ a0_3 ≤ a0_5) ∧ 0 ≤ a0_4) ∧ l0_6.length ≠ 0 ∧ ∀ i : Nat, i < l0_6.length → Qej (Qac l0_6 (i : Int)) a0_4 a0_5 l0_6.length) ∧ ((l0_2.length : Int) = (l0_6.length : Int) ∧ a0_0 = a0_3) ∧ (l0_7.length : Int) = (l0_2.length : Int) ∧ ∀ i : Nat, i < l0_7.length → ∀ j : Nat, j < (Qax l0_7 (i : Int)).length → Qd6 (Qax l0_7 (i : Int)) a0_1 a0_4 a0_5 j
def Qaf.F (k : Nat) (a0_0 a0_1 : Int) (l0_2 : List S39) (a0_3 a0_4 a0_5 : Int) (l0_6 : List S57) (l0_7 : List (List S47)) (a1 a2 a3 : Int) (r : Bool) : Prop := regcerttop_awake.f k = some true ∧ Qaf.j0 k a1 a2 a3 true a0_0 a0_1 l0_2 a0_3 a0_4 a0_5 l0_6 l0_7 = some r ∧ ∃ b, regcertref16_Few.f k a0_0 a0_1 l0_2 a0_3 a0_4 a0_5 l0_6 l0_7 = some b ∧ (b = true → (∃ u1 u2, Qa5.f k a0_0 a0_1 l0_2 = some u1 ∧ u1 ≤ 1000000 ∧ Qa4.f k a0_3 a0_4 a0_5 l0_6 = some u2 ∧ u2 ≤ 1000000 ∧ Bnd a0_1 l0_2 a0_4 a0_5 l0_6 l0_7) ∧ (refOk a0_0 a0_1 l0_2 a0_3 a0_4 a0_5 l0_6 l0_7 → a0_4 ≠ 0 → Qaf.j0 k a1 a2 a3 false a0_0 a0_1 l0_2 a0_3 a0_4 a0_5 l0_6 l0_7 = some r))
attribute [local go_sem high] eqA47
def Qaf.T6 : Bool × List (List Nat × List Nat) := (true, [([], []), ([0], [0]), ([1], [1]), ([], []), ([], []), ([4], [4]), ([5], [5]), ([], []), ([6, 7], [6, 7]), ([8], [8]), ([9], [9]), ([], []), ([11], [11]), ([], []), ([], []), ([13, 14], [13, 14]), ([10, 12, 15], [10, 12, 15]), ([2, 3, 0, 1, 2, 3, 4, 5, 6, 7, 8, 9, 10, 11, 12, 13, 14, 15, 16], [2, 3]), ([17, 0, 1, 2, 3, 4, 5, 6, 7, 8, 9, 10, 11, 12, 13, 14, 15, 16], [17]), ([18, 16, 16, 0, 1, 2, 3, 4, 5, 6, 7, 8, 9, 10, 11, 12, 13, 14, 15, 16], [16, 18])])
def Qaf.B6 : List Nat := [0, 1, 3, 0, 0, 16, 48, 0, 240, 496, 1008, 0, 2048, 0, 0, 24576, 65520, 131071, 262143, 524287]
theorem Qaf.tab6 : rtab .any (opsOf Tryz.f4 6) = Qaf.T6 := by kernel_rfl
theorem Qaf.bits6 : Qco Qaf.T6.2 Qaf.B6 = true := by kernel_rfl
theorem Qaf.calls (k : Nat) (a0_0 a0_1 : Int) (A0_2 : Option Addr) (c0_2 : Nat) (l0_2 : List (S39)) (a0_3 a0_4 a0_5 : Int) (A0_6 : Option Addr) (c0_6 : Nat) (l0_6 : List (S57)) (A0_7 : Option Addr) (c0_7 : Nat) (l0_7 : List (List (S47))) (a1 a2 a3 : Int) (r : Bool) (w : World) (hr0_2 : Kd.C k39 w A0_2 l0_2.length l0_2) (hc0_2 : l0_2.length ≤ c0_2) (hr0_6 : Kd.C k57 w A0_6 l0_6.length l0_6) (hc0_6 : l0_6.length ≤ c0_6) (hr0_7 : Kd.C (Kd.slice 47 k47) w A0_7 l0_7.length l0_7) (hc0_7 : l0_7.length ≤ c0_7) (h : Qaf.F k a0_0 a0_1 l0_2 a0_3 a0_4 a0_5 l0_6 l0_7 a1 a2 a3 r) :
 Calls Tryz.prog 4 #[.agg #[.int .i64 a0_0, .int .i64 a0_1, .slice A0_2 l0_2.length c0_2, .int .i64 a0_3, .int .i64 a0_4, .int .i64 a0_5, .slice A0_6 l0_6.length c0_6, .slice A0_7 l0_7.length c0_7], .int .u8 a1, .int .u8 a2, .int .u8 a3] w fun e w' => e = .returned (.bool r) ∧ Below w.heap.size w w' := by
 have hu30 := Tryz.underlying30
 have hu59 := Tryz.underlying59
 have hu49 := Tryz.underlying49
 have hu51 := Tryz.underlying51
 have R0_2 := As0 hr0_2
 have C0_2 := As0 hc0_2
 clear hr0_2 hc0_2
 have R0_6 := As0 hr0_6
 have C0_6 := As0 hc0_6
 clear hr0_6 hc0_6
 have R0_7 := As0 hr0_7
 have C0_7 := As0 hc0_7
 clear hr0_7 hc0_7
 have HB := As0 (Below.refl w.heap.size w)
 have C5 := As0 h
 clear h
 go_enter Tryz.func4, Tryz.ntmps4
 go_upto_region 1 with (first | ((with_reducible refine gD 4 ?_); refine bY HB.out ?_; intro dM w6 hg hb cH GW611 HB; clear hb hg))
 (try simp only [Act.put, sL1, sL2, sL3])
 go_cut [31] (fun v31 wc => ∃ (kq : Nat) (x31_4 : Bool), v31 = .bool x31_4 ∧ Qbf (Qaf.j0 kq a1 a2 a3 x31_4 a0_0 a0_1 l0_2 a0_3 a0_4 a0_5 l0_6 l0_7 = some r) ∧ Qbf (kq ≤ k) ∧ Qbf (wc.heap[dM]? = some (.cells #[.int .i64 a0_0, .int .i64 a0_1, (.slice A0_2 l0_2.length c0_2), .int .i64 a0_3, .int .i64 a0_4, .int .i64 a0_5, (.slice A0_6 l0_6.length c0_6), (.slice A0_7 l0_7.length c0_7)] 30 (0, 0))) ∧ Qbf (Below w.heap.size w wc))
 case first =>
  obtain ⟨hA, hT, b, hF, hV⟩ := C5.out
  clear C5
  have A7 := As0 hA
  have A9 := As0 hF
  have HT := As0 hT
  have HV := As0 hV
  clear hA hF hT hV
  (obtain ⟨z0, z1, z2, z3, z4, z5, z6, z7, -⟩ := cN8 cH.out)
  cases b with
  | false =>
   go_wp2_with (first
    | (go_at_call 7; refine (regcerttop_awake.calls k true _ A7.out).mono ?_; rintro e w2 ⟨rfl, hb⟩; clear z0 z1 z2 z3 z4 z5 z6 z7; replace cH := kB cH hb; replace HB := sB HB hb; (obtain ⟨z0, z1, z2, z3, z4, z5, z6, z7, -⟩ := cN8 cH.out); clear hb)
    | (go_at_call 8; refine (regcertref16_Few.calls k a0_0 a0_1 A0_2 c0_2 l0_2 a0_3 a0_4 a0_5 A0_6 c0_6 l0_6 A0_7 c0_7 l0_7 false _ (Kd.C_below R0_2.out (BU HB.out)) C0_2.out (Kd.C_below R0_6.out (BU HB.out)) C0_6.out (Kd.C_below R0_7.out (BU HB.out)) C0_7.out A9.out).mono ?_; rintro e w2 ⟨rfl, hb⟩; clear z0 z1 z2 z3 z4 z5 z6 z7; replace cH := kB cH hb; replace HB := sB HB hb; (obtain ⟨z0, z1, z2, z3, z4, z5, z6, z7, -⟩ := cN8 cH.out); clear hb))
   go_meet
   case rel => exact ⟨k, true, rfl, HT, ⟨Nat.le_refl _⟩, ⟨bU cH.out⟩, ⟨BU HB.out⟩⟩
  | true =>
   obtain ⟨⟨u1, u2, e1, e2, e3, e4, hB⟩, hV⟩ := HV.out rfl
   replace e1 := As0 e1
   replace e2 := As0 e2
   replace e3 := As0 e3
   replace e4 := As0 e4
   replace hB := As0 hB
   replace hV := As0 hV
   obtain ⟨q2, hq2⟩ : ∃ q, (a0_4 == 0) = q := ⟨_, rfl⟩
   have HQ2 := As0 hq2
   go_wp2_with (first
    | (go_at_call 7; refine (regcerttop_awake.calls k true _ A7.out).mono ?_; rintro e w2 ⟨rfl, hb⟩; clear z0 z1 z2 z3 z4 z5 z6 z7; replace cH := kB cH hb; replace HB := sB HB hb; (obtain ⟨z0, z1, z2, z3, z4, z5, z6, z7, -⟩ := cN8 cH.out); clear hb)
    | (go_at_call 8; refine (regcertref16_Few.calls k a0_0 a0_1 A0_2 c0_2 l0_2 a0_3 a0_4 a0_5 A0_6 c0_6 l0_6 A0_7 c0_7 l0_7 true _ (Kd.C_below R0_2.out (BU HB.out)) C0_2.out (Kd.C_below R0_6.out (BU HB.out)) C0_6.out (Kd.C_below R0_7.out (BU HB.out)) C0_7.out A9.out).mono ?_; rintro e w2 ⟨rfl, hb⟩; clear z0 z1 z2 z3 z4 z5 z6 z7; replace cH := kB cH hb; replace HB := sB HB hb; (obtain ⟨z0, z1, z2, z3, z4, z5, z6, z7, -⟩ := cN8 cH.out); clear hb)
    | (go_at_call 9; refine (rvalid_calls k a0_0 a0_1 u1 A0_2 c0_2 l0_2 a0_3 a0_4 a0_5 u2 A0_6 c0_6 l0_6 A0_7 c0_7 l0_7 _ (Kd.C_below R0_2.out (BU HB.out)) C0_2.out (Kd.C_below R0_6.out (BU HB.out)) C0_6.out (Kd.C_below R0_7.out (BU HB.out)) C0_7.out e1.out e2.out e3.out e4.out hB.out).mono ?_; rintro e w2 ⟨⟨x, rfl, hx⟩, hb⟩; have HX := As0 hx; (obtain ⟨q1, hq1⟩ : ∃ q, (x != 0) = q := ⟨_, rfl⟩); clear hx z0 z1 z2 z3 z4 z5 z6 z7; replace cH := kB cH hb; replace HB := sB HB hb; (obtain ⟨z0, z1, z2, z3, z4, z5, z6, z7, -⟩ := cN8 cH.out); clear hb))
   all_goals go_meet
   ·exact ⟨k, true, rfl, HT, ⟨Nat.le_refl _⟩, ⟨bU cH.out⟩, ⟨BU HB.out⟩⟩
   ·have hx0 : x = 0 := bne_eq_false_iff_eq.1 (hq1.trans (Bool.eq_false_iff.2 ‹¬q1 = true›))
    cases q2 with
    | true => exact ⟨k, true, rfl, HT, ⟨Nat.le_refl _⟩, ⟨bU cH.out⟩, ⟨BU HB.out⟩⟩
    | false => exact ⟨k, false, rfl, ⟨hV.out (HX.out hx0) (beq_eq_false_iff_ne.1 HQ2.out)⟩, ⟨Nat.le_refl _⟩, ⟨bU cH.out⟩, ⟨BU HB.out⟩⟩
 case rest =>
  clear C5
  obtain ⟨kq, x31_4, rfl, HA, HJ4, cH, HB⟩ := hcut
  cases kq with
  | zero => exact absurd HA.out (by simp [Qaf.j0])
  | succ kj4 =>
   have H := HA.out
   clear HA
   simp only [Qaf.j0] at H
   by_cases c28 : x31_4 = true
   ·subst c28
    rw [if_pos rfl] at H
    replace H := Option.bind_eq_some_iff.mp H
    obtain ⟨t615, A290, H⟩ := H
    have A29 := As0 A290
    clear A290
    obtain rfl := Option.some.inj H
    go_wp2_with (first | ((with_reducible refine Qbk (f := 7) rfl ?_); refine gL (some 32) Tryz.func7 #[] ?_; (with_reducible refine (regcerttop_awake.calls kj4  t615 _ A29.out).mono ?_); rintro e w30 ⟨rfl, hb⟩; refine ⟨_, rfl, ?_⟩; replace cH := kB cH hb; replace HB := sB HB hb; (try clear hb)))
    go_ret
    exact ⟨oR, BU HB.out⟩
   replace c28 := Bool.eq_false_iff.mpr c28
   subst c28
   rw [if_neg bF] at H
   replace H := Option.bind_eq_some_iff.mp H
   obtain ⟨⟨iN, iM, dK, iL, iJ, iI, aW, dJ⟩, A310, H⟩ := H
   have A31 := As0 A310
   clear A310
   by_cases c32 : (aW.length : Int) = 0
   ·rw [if_pos c32] at H
    exact absurd H (by simp)
   rw [if_neg c32] at H
   have c32b0 : ((aW.length : Int) == 0) = false := beq_eq_false_iff_ne.mpr c32
   have c32b1 : ((aW.length : Int) != 0) = true := bne_iff_ne.mpr c32
   have c32b2 : ¬ (aW = []) := fun h_ => c32 (by rw [h_]; rfl)
   by_cases c33 : a0_4 = 0
   ·rw [if_pos c33] at H
    exact absurd H (by simp)
   rw [if_neg c33] at H
   have c33b0 : (a0_4 == 0) = false := beq_eq_false_iff_ne.mpr c33
   have c33b1 : (a0_4 != 0) = true := bne_iff_ne.mpr c33
   obtain ⟨aU, hji34⟩ : ∃ j_ : Int, (Int.tmod (wrap64 (a1)) (aW.length : Int)) = j_ := ⟨_, rfl⟩
   replace H : (if 0 ≤ (aU) then (if (aU) < (aW.length : Int) then ((Qa1.f ((Qac aW (aU)).f0) (wrap64 (a2)) 18 0 0 0 0 (wrap64 (2 * (Int.tmod (wrap64 (a3)) a0_4))) (wrap64 (2 * (Int.tmod (wrap64 (a3)) a0_4)))).bind fun hU => ((some (aW.set ((aU) : Int).toNat (⟨hU, (⟨(Qac aW (aU)).f1.f0, (Qac aW (aU)).f1.f1, (Qac aW (aU)).f1.f2, (Qac aW (aU)).f1.f3⟩ : S37)⟩ : S57) : List (S57))).bind fun y635 => ((checker_Check.f kj4 iN iM dK iL iJ iI y635 dJ).bind fun bt636 => ((Qae.f kj4 ((Qac y635 (aU)).f0)).bind fun t645 => (if t645 > 64 then (some (bt636.1 == 15)) else ((checker_Check.f kj4 a0_0 a0_1 l0_2 a0_3 a0_4 a0_5 l0_6 l0_7).bind fun bt646 => (if bt636.1 = bt646.1 then (if bt636.2.1 = bt646.2.1 then (if bt636.2.2.2.2.1 = bt646.2.2.2.2.1 then (some (bt636.2.2.2.2.2.2 == bt646.2.2.2.2.2.2)) else (none)) else (none)) else (none)))))))) else (none)) else (none)) = some r := by first | (rw [hji34] at H; exact H) | (simp only [hji34] at H ⊢; exact H)
   (try rw [hji34] at A31)
   by_cases c35 : 0 ≤ (aU)
   rotate_left
   ·rw [if_neg c35] at H
    exact absurd H (by simp)
   rw [if_pos c35] at H
   have c35b0 := decide_eq_true c35
   clear c35
   by_cases c36 : (aU) < (aW.length : Int)
   rotate_left
   ·rw [if_neg c36] at H
    exact absurd H (by simp)
   rw [if_pos c36] at H
   have c36b0 := decide_eq_true c36
   clear c36
   replace H := Option.bind_eq_some_iff.mp H
   obtain ⟨hU, A370, H⟩ := H
   have A37 := As0 A370
   clear A370
   obtain ⟨y635, hy635⟩ : ∃ y_ : List (S57), y_ = (aW.set ((aU) : Int).toNat (⟨hU, (⟨(Qac aW (aU)).f1.f0, (Qac aW (aU)).f1.f1, (Qac aW (aU)).f1.f2, (Qac aW (aU)).f1.f3⟩ : S37)⟩ : S57)) := ⟨_, rfl⟩
   replace H : ((checker_Check.f kj4 iN iM dK iL iJ iI y635 dJ).bind fun bt636 => ((Qae.f kj4 ((Qac y635 (aU)).f0)).bind fun t645 => (if t645 > 64 then (some (bt636.1 == 15)) else ((checker_Check.f kj4 a0_0 a0_1 l0_2 a0_3 a0_4 a0_5 l0_6 l0_7).bind fun bt646 => (if bt636.1 = bt646.1 then (if bt636.2.1 = bt646.2.1 then (if bt636.2.2.2.2.1 = bt646.2.2.2.2.1 then (some (bt636.2.2.2.2.2.2 == bt646.2.2.2.2.2.2)) else (none)) else (none)) else (none)))))) = some r := by first | (rw [hy635]; exact H) | exact H
   have Ny635 := As0 hy635
   clear hy635
   replace H := Option.bind_eq_some_iff.mp H
   obtain ⟨⟨t636, t637, t638, t639, t640, t641, t642⟩, A390, H⟩ := H
   have A39 := As0 A390
   clear A390
   replace H := Option.bind_eq_some_iff.mp H
   obtain ⟨t645, A400, H⟩ := H
   have A40 := As0 A400
   clear A400
   have H2_ := As0 H
   clear H
   have q42_ := cN8 cH.out
   try go_wp2_with (first | ((with_reducible refine Qbk (f := 10) rfl ?_); refine gL (some 34) Tryz.func10 #[.agg #[.int .i64 a0_0, .int .i64 a0_1, .slice A0_2 l0_2.length c0_2, .int .i64 a0_3, .int .i64 a0_4, .int .i64 a0_5, .slice A0_6 l0_6.length c0_6, .slice A0_7 l0_7.length c0_7]] ?_; (with_reducible refine (Qai.calls kj4 a0_0 a0_1 _ _ l0_2 a0_3 a0_4 a0_5 _ _ l0_6 _ _ l0_7 iN iM dK iL iJ iI aW dJ _ ?side1 ?side2 ?side3 ?side4 ?side5 ?side6 A31.out).mono ?_); (case side1 => exact CU (Kd.C_below R0_2.out HB.out)); (case side2 => exact C0_2.out); (case side3 => exact CU (Kd.C_below R0_6.out HB.out)); (case side4 => exact C0_6.out); (case side5 => exact CU (Kd.C_below R0_7.out HB.out)); (case side6 => exact C0_7.out); rintro e w43 ⟨v619, v625, v628, rfl, ho0, ho1, ho2, hb⟩; refine ⟨_, rfl, ?_⟩; have eX := As0 (Kd.N_lower (Kd.N_mono (ok' := fun k_ => some k_ ≠ (v625 : Value).ownBlock ∧ some k_ ≠ (v628 : Value).ownBlock ∧ k_ ≠ dM) (Kd.S_N (Kd.S_bound (Kd.S_apart' (Kd.S_apart' ho0 (Kd.S_typed ho1) (by decide)) (Kd.S_typed ho2) (by decide)))) (fun k_ hk_ => ⟨hk_.1.1.2, hk_.1.2, (Kd.freshB (bU cH.out) k_ hk_.2.1)⟩)) (Qbi (BU HB.out))); have dE := As0 (Kd.N_lower (Kd.N_mono (ok' := fun k_ => some k_ ≠ (v619 : Value).ownBlock ∧ some k_ ≠ (v628 : Value).ownBlock ∧ k_ ≠ dM) (Kd.S_N (Kd.S_bound (Kd.S_apart' (Kd.S_apart' ho1 (Kd.S_typed ho0) (by decide)) (Kd.S_typed ho2) (by decide)))) (fun k_ hk_ => ⟨hk_.1.1.2, hk_.1.2, (Kd.freshB (bU cH.out) k_ hk_.2.1)⟩)) (Qbi (BU HB.out))); have eV := As0 (Kd.N_lower (Kd.N_mono (ok' := fun k_ => some k_ ≠ (v619 : Value).ownBlock ∧ some k_ ≠ (v625 : Value).ownBlock ∧ k_ ≠ dM) (Kd.S_N (Kd.S_bound (Kd.S_apart' (Kd.S_apart' ho2 (Kd.S_typed ho0) (by decide)) (Kd.S_typed ho1) (by decide)))) (fun k_ hk_ => ⟨hk_.1.1.2, hk_.1.2, (Kd.freshB (bU cH.out) k_ hk_.2.1)⟩)) (Qbi (BU HB.out))); replace cH := kB cH hb; replace HB := sB HB hb; (try clear hb); (try clear ho0); (try clear ho1); (try clear ho2)) | ((with_reducible refine gD 9 ?_); refine bX ?_; intro aG hg w44 aC hb; replace eX := As0 (Kd.N_below (Kd.N_elderB (by (with_reducible repeat (first | apply Kd.N_alloc | apply Kd.N_drewN | apply Kd.N_drew)); exact eX.out) aG (Nat.le_of_eq hg.symm)) hb); replace dE := As0 (Kd.N_below (Kd.N_elderB (by (with_reducible repeat (first | apply Kd.N_alloc | apply Kd.N_drewN | apply Kd.N_drew)); exact dE.out) aG (Nat.le_of_eq hg.symm)) hb); replace eV := As0 (Kd.N_below (Kd.N_elderB (by (with_reducible repeat (first | apply Kd.N_alloc | apply Kd.N_drewN | apply Kd.N_drew)); exact eV.out) aG (Nat.le_of_eq hg.symm)) hb); have cZ := As0 (aC); have GW630 := gW hg HB.out; replace HB := sB HB hb; have N611_630 := pL hg cH; have N630_611 := pR hg cH; replace cH := kB cH hb; clear hb aC hg; have q46_ := cN8 cZ.out; obtain ⟨Ao47, co47, eo47⟩ := Kd.N_slice eX.out; subst eo47; obtain ⟨Ao48, co48, eo48⟩ := Kd.N_slice dE.out; subst eo48; obtain ⟨Ao49, co49, eo49⟩ := Kd.N_slice eV.out; subst eo49; have q50_ := cN8 cH.out))
   have n0_ : Qbf (Kd.N k39 39 ((((((((w44.setCell ⟨aG, 0, none⟩ (.int .i64 iN)).setCell ⟨aG, 1, none⟩ (.int .i64 iM)).setCell ⟨aG, 2, none⟩ (.slice Ao47 dK.length co47)).setCell ⟨aG, 3, none⟩ (.int .i64 iL)).setCell ⟨aG, 4, none⟩ (.int .i64 iJ)).setCell ⟨aG, 5, none⟩ (.int .i64 iI)).setCell ⟨aG, 6, none⟩ (.slice Ao48 aW.length co48)).setCell ⟨aG, 7, none⟩ (.slice Ao49 dJ.length co49)) w.heap.size (fun k_ => some k_ ≠ (.slice Ao48 aW.length co48 : Value).ownBlock ∧ some k_ ≠ (.slice Ao49 dJ.length co49 : Value).ownBlock ∧ k_ ≠ dM ∧ k_ ≠ aG) (.slice Ao47 dK.length co47) dK) := ⟨by (with_reducible repeat (first | apply Kd.N_alloc | apply Kd.N_drewN | apply Kd.N_drew)); exact Kd.N_mono (Kd.N_far (p := ⟨aG, 7, none⟩) (Kd.N_far (p := ⟨aG, 6, none⟩) (Kd.N_far (p := ⟨aG, 5, none⟩) (Kd.N_far (p := ⟨aG, 4, none⟩) (Kd.N_far (p := ⟨aG, 3, none⟩) (Kd.N_far (p := ⟨aG, 2, none⟩) (Kd.N_far (p := ⟨aG, 1, none⟩) (Kd.N_far (p := ⟨aG, 0, none⟩) (Kd.N_mono eX.out (fun k_ hk => (⟨hk, hk.2⟩ : _ ∧ k_ ≠ aG))) (fun _ hk => hk.2) (.int .i64 iN)) (fun _ hk => hk.2) (.int .i64 iM)) (fun _ hk => hk.2) (.slice Ao47 dK.length co47)) (fun _ hk => hk.2) (.int .i64 iL)) (fun _ hk => hk.2) (.int .i64 iJ)) (fun _ hk => hk.2) (.int .i64 iI)) (fun _ hk => hk.2) (.slice Ao48 aW.length co48)) (fun _ hk => hk.2) (.slice Ao49 dJ.length co49)) (fun _ hk => ⟨hk.1.1.1, ⟨hk.1.1.2.1, ⟨hk.1.1.2.2, hk.1.2⟩⟩⟩)⟩
   have n1_ : Qbf (Kd.N k57 57 ((((((((w44.setCell ⟨aG, 0, none⟩ (.int .i64 iN)).setCell ⟨aG, 1, none⟩ (.int .i64 iM)).setCell ⟨aG, 2, none⟩ (.slice Ao47 dK.length co47)).setCell ⟨aG, 3, none⟩ (.int .i64 iL)).setCell ⟨aG, 4, none⟩ (.int .i64 iJ)).setCell ⟨aG, 5, none⟩ (.int .i64 iI)).setCell ⟨aG, 6, none⟩ (.slice Ao48 aW.length co48)).setCell ⟨aG, 7, none⟩ (.slice Ao49 dJ.length co49)) w.heap.size (fun k_ => some k_ ≠ (.slice Ao47 dK.length co47 : Value).ownBlock ∧ some k_ ≠ (.slice Ao49 dJ.length co49 : Value).ownBlock ∧ k_ ≠ dM ∧ k_ ≠ aG) (.slice Ao48 aW.length co48) aW) := ⟨by (with_reducible repeat (first | apply Kd.N_alloc | apply Kd.N_drewN | apply Kd.N_drew)); exact Kd.N_mono (Kd.N_far (p := ⟨aG, 7, none⟩) (Kd.N_far (p := ⟨aG, 6, none⟩) (Kd.N_far (p := ⟨aG, 5, none⟩) (Kd.N_far (p := ⟨aG, 4, none⟩) (Kd.N_far (p := ⟨aG, 3, none⟩) (Kd.N_far (p := ⟨aG, 2, none⟩) (Kd.N_far (p := ⟨aG, 1, none⟩) (Kd.N_far (p := ⟨aG, 0, none⟩) (Kd.N_mono dE.out (fun k_ hk => (⟨hk, hk.2⟩ : _ ∧ k_ ≠ aG))) (fun _ hk => hk.2) (.int .i64 iN)) (fun _ hk => hk.2) (.int .i64 iM)) (fun _ hk => hk.2) (.slice Ao47 dK.length co47)) (fun _ hk => hk.2) (.int .i64 iL)) (fun _ hk => hk.2) (.int .i64 iJ)) (fun _ hk => hk.2) (.int .i64 iI)) (fun _ hk => hk.2) (.slice Ao48 aW.length co48)) (fun _ hk => hk.2) (.slice Ao49 dJ.length co49)) (fun _ hk => ⟨hk.1.1.1, ⟨hk.1.1.2.1, ⟨hk.1.1.2.2, hk.1.2⟩⟩⟩)⟩
   have n2_ : Qbf (Kd.N (Kd.slice 47 k47) 44 ((((((((w44.setCell ⟨aG, 0, none⟩ (.int .i64 iN)).setCell ⟨aG, 1, none⟩ (.int .i64 iM)).setCell ⟨aG, 2, none⟩ (.slice Ao47 dK.length co47)).setCell ⟨aG, 3, none⟩ (.int .i64 iL)).setCell ⟨aG, 4, none⟩ (.int .i64 iJ)).setCell ⟨aG, 5, none⟩ (.int .i64 iI)).setCell ⟨aG, 6, none⟩ (.slice Ao48 aW.length co48)).setCell ⟨aG, 7, none⟩ (.slice Ao49 dJ.length co49)) w.heap.size (fun k_ => some k_ ≠ (.slice Ao47 dK.length co47 : Value).ownBlock ∧ some k_ ≠ (.slice Ao48 aW.length co48 : Value).ownBlock ∧ k_ ≠ dM ∧ k_ ≠ aG) (.slice Ao49 dJ.length co49) dJ) := ⟨by (with_reducible repeat (first | apply Kd.N_alloc | apply Kd.N_drewN | apply Kd.N_drew)); exact Kd.N_mono (Kd.N_far (p := ⟨aG, 7, none⟩) (Kd.N_far (p := ⟨aG, 6, none⟩) (Kd.N_far (p := ⟨aG, 5, none⟩) (Kd.N_far (p := ⟨aG, 4, none⟩) (Kd.N_far (p := ⟨aG, 3, none⟩) (Kd.N_far (p := ⟨aG, 2, none⟩) (Kd.N_far (p := ⟨aG, 1, none⟩) (Kd.N_far (p := ⟨aG, 0, none⟩) (Kd.N_mono eV.out (fun k_ hk => (⟨hk, hk.2⟩ : _ ∧ k_ ≠ aG))) (fun _ hk => hk.2) (.int .i64 iN)) (fun _ hk => hk.2) (.int .i64 iM)) (fun _ hk => hk.2) (.slice Ao47 dK.length co47)) (fun _ hk => hk.2) (.int .i64 iL)) (fun _ hk => hk.2) (.int .i64 iJ)) (fun _ hk => hk.2) (.int .i64 iI)) (fun _ hk => hk.2) (.slice Ao48 aW.length co48)) (fun _ hk => hk.2) (.slice Ao49 dJ.length co49)) (fun _ hk => ⟨hk.1.1.1, ⟨hk.1.1.2.1, ⟨hk.1.1.2.2, hk.1.2⟩⟩⟩)⟩
   have n3_ : Qbf (((((((((w44.setCell ⟨aG, 0, none⟩ (.int .i64 iN)).setCell ⟨aG, 1, none⟩ (.int .i64 iM)).setCell ⟨aG, 2, none⟩ (.slice Ao47 dK.length co47)).setCell ⟨aG, 3, none⟩ (.int .i64 iL)).setCell ⟨aG, 4, none⟩ (.int .i64 iJ)).setCell ⟨aG, 5, none⟩ (.int .i64 iI)).setCell ⟨aG, 6, none⟩ (.slice Ao48 aW.length co48)).setCell ⟨aG, 7, none⟩ (.slice Ao49 dJ.length co49)).heap[dM]? = some (.cells #[.int .i64 a0_0, .int .i64 a0_1, .slice A0_2 l0_2.length c0_2, .int .i64 a0_3, .int .i64 a0_4, .int .i64 a0_5, .slice A0_6 l0_6.length c0_6, .slice A0_7 l0_7.length c0_7] 30 (0, 0))) := ⟨kV cH⟩
   have n4_ : Qbf (((((((((w44.setCell ⟨aG, 0, none⟩ (.int .i64 iN)).setCell ⟨aG, 1, none⟩ (.int .i64 iM)).setCell ⟨aG, 2, none⟩ (.slice Ao47 dK.length co47)).setCell ⟨aG, 3, none⟩ (.int .i64 iL)).setCell ⟨aG, 4, none⟩ (.int .i64 iJ)).setCell ⟨aG, 5, none⟩ (.int .i64 iI)).setCell ⟨aG, 6, none⟩ (.slice Ao48 aW.length co48)).setCell ⟨aG, 7, none⟩ (.slice Ao49 dJ.length co49)).heap[aG]? = some (.cells #[.int .i64 iN, .int .i64 iM, .slice Ao47 dK.length co47, .int .i64 iL, .int .i64 iJ, .int .i64 iI, .slice Ao48 aW.length co48, .slice Ao49 dJ.length co49] 30 (0, 0))) := ⟨kV cZ⟩
   have n5_ : Qbf (Below w.heap.size w ((((((((w44.setCell ⟨aG, 0, none⟩ (.int .i64 iN)).setCell ⟨aG, 1, none⟩ (.int .i64 iM)).setCell ⟨aG, 2, none⟩ (.slice Ao47 dK.length co47)).setCell ⟨aG, 3, none⟩ (.int .i64 iL)).setCell ⟨aG, 4, none⟩ (.int .i64 iJ)).setCell ⟨aG, 5, none⟩ (.int .i64 iI)).setCell ⟨aG, 6, none⟩ (.slice Ao48 aW.length co48)).setCell ⟨aG, 7, none⟩ (.slice Ao49 dJ.length co49))) := ⟨BU HB.out⟩
   (try clear eX)
   (try clear dE)
   (try clear eV)
   (try clear cH)
   (try clear cZ)
   (try clear HB)
   generalize ((((((((w44.setCell ⟨aG, 0, none⟩ (.int .i64 iN)).setCell ⟨aG, 1, none⟩ (.int .i64 iM)).setCell ⟨aG, 2, none⟩ (.slice Ao47 dK.length co47)).setCell ⟨aG, 3, none⟩ (.int .i64 iL)).setCell ⟨aG, 4, none⟩ (.int .i64 iJ)).setCell ⟨aG, 5, none⟩ (.int .i64 iI)).setCell ⟨aG, 6, none⟩ (.slice Ao48 aW.length co48)).setCell ⟨aG, 7, none⟩ (.slice Ao49 dJ.length co49)) = w51 at n0_ n1_ n2_ n3_ n4_ n5_ ⊢
   have eX := n0_
   have dE := n1_
   have eV := n2_
   have cH := n3_
   have cZ := n4_
   have HB := n5_
   clear n0_ n1_ n2_ n3_ n4_ n5_
   replace eX := As0 (Kd.N_drew eX.out)
   replace dE := As0 (Kd.N_drew dE.out)
   replace eV := As0 (Kd.N_drew eV.out)
   replace cH := As0 (Qbm cH.out)
   replace cZ := As0 (Qbm cZ.out)
   replace HB := As0 (bd1 HB.out)
   have p631 : 0 ≤ ((aU) : Int) := qR
   have q631 : (aU) < (aW.length : Int) := qR
   obtain ⟨kA, A631_0, c631_0, e631, hx631_0, hx631_1, hx631_2, hx631_3, hx631_4, hl631_0, hi631_0⟩ := Qd1 (Kd.N_reads' dE.out).2.2 (aU) p631 q631
   cases e631
   obtain ⟨ce631, hce631, hMe631, hcc631⟩ := Kd.N_get dE.out z57 (aU) p631 (by first | exact q631 | exact qR | (have e_ := (Kd.N_reads' dE.out).1; omega))
   obtain ⟨ua631_0, uc631_0, rfl, ul631_0, ge631_0⟩ := k57_openF hMe631
   have hv631_0 := hcc631 0 _ rfl
   rw [Nat.add_zero] at hv631_0
   replace hv631_0 := Option.some.inj (hv631_0.symm.trans hx631_0)
   injection hv631_0 with hva_ hvn_ hvc_
   rw [hva_] at ge631_0
   rw [hvc_] at ul631_0
   have dC := As0 (show Kd.V k59 59 _ w.heap.size _ _ ((Qac aW (aU)).f0) from Kd.V_mk ul631_0 ge631_0)
   clear hva_ hvn_ hvc_ ge631_0 ul631_0 hcc631 hce631
   have R631_0 := As0 hi631_0
   have C631_0 := As0 hl631_0
   clear hi631_0 hl631_0
   replace p631 := eq_true p631
   replace q631 := eq_true q631
   refine Qb3 (n := 20) (S := fun w' => w'.cell? ⟨aG, 0, none⟩ = some (.int .i64 iN) ∧ w'.cell? ⟨aG, 1, none⟩ = some (.int .i64 iM) ∧ w'.cell? ⟨aG, 2, none⟩ = some (.slice Ao47 dK.length co47) ∧ w'.cell? ⟨aG, 3, none⟩ = some (.int .i64 iL) ∧ w'.cell? ⟨aG, 4, none⟩ = some (.int .i64 iJ) ∧ w'.cell? ⟨aG, 5, none⟩ = some (.int .i64 iI) ∧ w'.cell? ⟨aG, 6, none⟩ = some (.slice (some kA) aW.length co48) ∧ w'.cell? ⟨aG, 7, none⟩ = some (.slice Ao49 dJ.length co49) ∧ w'.cell? (kA.add (((aU)).toNat * 5)) = some (.slice A631_0 ((Qac aW (aU)).f0).length c631_0) ∧ w'.cell? ⟨(kA.add (((aU)).toNat * 5)).block, (kA.add (((aU)).toNat * 5)).off + 1, none⟩ = some (.int .i64 ((Qac aW (aU)).f1.f0)) ∧ w'.cell? ⟨(kA.add (((aU)).toNat * 5)).block, (kA.add (((aU)).toNat * 5)).off + 2, none⟩ = some (.int .i64 ((Qac aW (aU)).f1.f1)) ∧ w'.cell? ⟨(kA.add (((aU)).toNat * 5)).block, (kA.add (((aU)).toNat * 5)).off + 3, none⟩ = some (.int .i64 ((Qac aW (aU)).f1.f2)) ∧ w'.cell? ⟨(kA.add (((aU)).toNat * 5)).block, (kA.add (((aU)).toNat * 5)).off + 4, none⟩ = some (.int .i64 ((Qac aW (aU)).f1.f3))) (ds := [19]) (bb 20 0) (by kernel_rfl) rfl rfl ⟨bc cZ 0, bc cZ 1, bc cZ 2, bc cZ 3, bc cZ 4, bc cZ 5, bc cZ 6, bc cZ 7, hx631_0, hx631_1, hx631_2, hx631_3, hx631_4⟩ (fun aA => ?_); refine Qb6 Qaf.tab6 Qaf.bits6 (fun HT_ HW_ => ?_)
   generalize w51.drew = w52 at eX dE eV cH cZ HB dC R631_0 hx631_0 hx631_1 hx631_2 hx631_3 hx631_4 aA ⊢
   refine pv HT_.out 0 49 (bb 20 1) ?_
   refine pv HT_.out 1 50 (bb 20 3) ?_
   refine pv HT_.out 3 52 (bb 20 11) ?_
   refine pv HT_.out 4 53 (bb 20 27) ?_
   refine pv HT_.out 5 54 (bb 20 59) ?_
   refine pv HT_.out 7 56 (bb 20 187) ?_
   refine pv HT_.out 11 60 (bb 20 2235) ?_
   refine pv HT_.out 12 61 (bb 20 6331) ?_
   refine pv HT_.out 13 62 (bb 20 14523) ?_
   refine pv HT_.out 14 63 (bb 20 30907) ?_
   refine pv HT_.out 15 64 (bb 20 63675) ?_
   refine tv aA HT_.out HW_.out 2 51 (bb 20 63679) ?_
   refine tv aA HT_.out HW_.out 6 55 (bb 20 63743) ?_
   refine pv HT_.out 8 57 (bb 20 63999) ?_
   refine pv HT_.out 9 58 (bb 20 64511) ?_
   refine tv aA HT_.out HW_.out 10 59 (bb 20 65535) ?_
   refine one_ (i := 16) (N := some 65) (bb 20 131071) rfl rfl (Qb8 HT_.out (by kernel_rfl)) (by decide) (fun K hK => ?_)
   refine goes_ Tryz.func15 (by kernel_rfl) rfl #[.slice A631_0 ((Qac aW (aU)).f0).length c631_0, .int .i64 (wrap64 (a2)), .agg #[.int .i64 18, .int .i64 0, .int .i64 0, .int .i64 0, .int .i64 0, .int .i64 (wrap64 (2 * (Int.tmod (wrap64 (a3)) a0_4))), .int .i64 (wrap64 (2 * (Int.tmod (wrap64 (a3)) a0_4)))]] (by rfl) rfl rfl (by (try simp only [List.map_toArray, List.map_cons, List.map_nil]); first | done | (simp only [hji34]; rfl) | rfl | (simp only [List.length_drop, List.length_take]; rfl)) ?_
   with_reducible refine (Qa1.calls _ _ ((Qac aW (aU)).f0) (wrap64 (a2)) 18 0 0 0 0 (wrap64 (2 * (Int.tmod (wrap64 (a3)) a0_4))) (wrap64 (2 * (Int.tmod (wrap64 (a3)) a0_4))) hU _ ?side1 ?side2 A37.out).mono ?_
   (case side1 => exact CU (by repeat (first | (with_reducible exact R631_0.out) | (with_reducible refine Kd.C_alloc ?_ _) | (with_reducible refine Kd.C_drewN ?_ _) | (with_reducible refine Kd.C_drew ?_) | exact R631_0.out)))
   (case side2 => exact C631_0.out)
   rintro e w53 ⟨v633, rfl, ho0, hb⟩
   have HS8_ := (hb.cell (World.block_lt_of_cell? _ _ (aA.2.2.2.2.2.2.2.2.1))).trans (aA.2.2.2.2.2.2.2.2.1)
   have HS9_ := (hb.cell (World.block_lt_of_cell? _ _ (aA.2.2.2.2.2.2.2.2.2.1))).trans (aA.2.2.2.2.2.2.2.2.2.1)
   have HS10_ := (hb.cell (World.block_lt_of_cell? _ _ (aA.2.2.2.2.2.2.2.2.2.2.1))).trans (aA.2.2.2.2.2.2.2.2.2.2.1)
   have HS11_ := (hb.cell (World.block_lt_of_cell? _ _ (aA.2.2.2.2.2.2.2.2.2.2.2.1))).trans (aA.2.2.2.2.2.2.2.2.2.2.2.1)
   have HS12_ := (hb.cell (World.block_lt_of_cell? _ _ (aA.2.2.2.2.2.2.2.2.2.2.2.2))).trans (aA.2.2.2.2.2.2.2.2.2.2.2.2)
   refine ⟨_, rfl, ?_⟩
   replace eX := As0 (Kd.N_elder' (by (with_reducible repeat (first | apply Kd.N_alloc | apply Kd.N_drewN | apply Kd.N_drew)); exact eX.out) (Kd.R_base ho0) hb)
   replace dE := As0 (Kd.N_elder' (by (with_reducible repeat (first | apply Kd.N_alloc | apply Kd.N_drewN | apply Kd.N_drew)); exact dE.out) (Kd.R_base ho0) hb)
   replace eV := As0 (Kd.N_elder' (by (with_reducible repeat (first | apply Kd.N_alloc | apply Kd.N_drewN | apply Kd.N_drew)); exact eV.out) (Kd.R_base ho0) hb)
   replace dC := As0 (Kd.V_elder' (by (with_reducible repeat (first | apply Kd.V_alloc | apply Kd.V_drewN | apply Kd.V_drew)); exact dC.out) (Kd.R_base ho0) hb)
   have O634 := As0 (Kd.R_lower ho0 (Qbi (BU HB.out)))
   replace cH := kB cH hb
   replace cZ := kB cZ hb
   replace R631_0 := As0 (Kd.C_below (by repeat (first | (with_reducible exact R631_0.out) | (with_reducible refine Kd.C_alloc ?_ _) | (with_reducible refine Kd.C_drewN ?_ _) | (with_reducible refine Kd.C_drew ?_) | exact R631_0.out)) hb)
   replace HB := sB HB hb
   (try clear hb)
   (try clear hb2)
   (try clear hk)
   (try clear hi)
   (try clear ho0)
   obtain ⟨Ao633, co633, eo633⟩ := Kd.R_slice O634.out
   subst eo633
   have p38 : 0 ≤ ((aU) : Int) := qR
   have q38 : ((aU) : Int) < ((aW.length : Int) : Int) := qR
   obtain ⟨dD, co38, eo38, gb38, gl38, cl38, HG38⟩ := Kd.N_form dE.out (by omega)
   (first | cases eo38 | (injection eo38 with ea_ en_ ec_; (first | subst ea_ | (injection ea_ with ea_; subst ea_)); subst ec_; clear en_))
   have GB38 := As0 gb38
   have GG38 := As0 HG38
   clear gb38 gl38 HG38
   (first | simp only [Qcs] at hx631_0 | skip)
   (first | simp only [Qcs] at hx631_1 | skip)
   (first | simp only [Qcs] at hx631_2 | skip)
   (first | simp only [Qcs] at hx631_3 | skip)
   (first | simp only [Qcs] at hx631_4 | skip)
   obtain ⟨ce38, hcl38, hM38, hcc38, hfr38⟩ := Kd.N_elem dE.out z57 ((aU) : Int) p38 q38
   obtain ⟨ua38_0, uc38_0, rfl, ul38_0, ge38_0⟩ := k57_openF hM38
   have hx38_0 : World.cell? _ ⟨dD, ((aU) : Int).toNat * 5, none⟩ = some (.slice ua38_0 ((Qac aW (aU)).f0).length uc38_0) := hcc38 0 _ rfl
   have hx38_1 : World.cell? _ ⟨dD, ((aU) : Int).toNat * 5 + 1, none⟩ = some (.int .i64 ((Qac aW (aU)).f1.f0)) := hcc38 1 _ rfl
   have hx38_2 : World.cell? _ ⟨dD, ((aU) : Int).toNat * 5 + 2, none⟩ = some (.int .i64 ((Qac aW (aU)).f1.f1)) := hcc38 2 _ rfl
   have hx38_3 : World.cell? _ ⟨dD, ((aU) : Int).toNat * 5 + 3, none⟩ = some (.int .i64 ((Qac aW (aU)).f1.f2)) := hcc38 3 _ rfl
   have hx38_4 : World.cell? _ ⟨dD, ((aU) : Int).toNat * 5 + 4, none⟩ = some (.int .i64 ((Qac aW (aU)).f1.f3)) := hcc38 4 _ rfl
   have hf38_0 : World.frozen? _ ⟨dD, ((aU) : Int).toNat * 5, none⟩ = false := hfr38 0
   have hf38_1 : World.frozen? _ ⟨dD, ((aU) : Int).toNat * 5 + 1, none⟩ = false := hfr38 1
   have hf38_2 : World.frozen? _ ⟨dD, ((aU) : Int).toNat * 5 + 2, none⟩ = false := hfr38 2
   have hf38_3 : World.frozen? _ ⟨dD, ((aU) : Int).toNat * 5 + 3, none⟩ = false := hfr38 3
   have hf38_4 : World.frozen? _ ⟨dD, ((aU) : Int).toNat * 5 + 4, none⟩ = false := hfr38 4
   clear hcl38 hcc38 hfr38 hM38
   replace p38 := eq_true p38
   replace q38 := eq_true q38
   have HX54 := As0 (show Kd.N k57 57 _ w.heap.size (fun k_ => some k_ ≠ (.slice Ao47 dK.length co47 : Value).ownBlock ∧ some k_ ≠ (.slice Ao49 dJ.length co49 : Value).ownBlock ∧ some k_ ≠ (.slice Ao633 hU.length co633 : Value).ownBlock ∧ k_ ≠ dM ∧ k_ ≠ aG) (.slice (some ⟨dD, 0, none⟩) aW.length co48) aW from (Kd.N_mono (dE.out) (fun k_ hk => ⟨hk.1.1, ⟨hk.1.2.1, ⟨hk.2, ⟨hk.1.2.2.1, hk.1.2.2.2⟩⟩⟩⟩)))
   replace HX54 := As0 (show Kd.N k57 57 _ w.heap.size (fun k_ => some k_ ≠ (.slice Ao47 dK.length co47 : Value).ownBlock ∧ some k_ ≠ (.slice Ao49 dJ.length co49 : Value).ownBlock ∧ k_ ≠ dM ∧ k_ ≠ aG) (.slice (some ⟨dD, 0, none⟩) aW.length co48) aW from Kd.N_mono HX54.out (fun k_ hk => ⟨hk.1, ⟨hk.2.1, ⟨hk.2.2.2.1, hk.2.2.2.2⟩⟩⟩))
   obtain ⟨ce54, hcl54, hM54, hcc54, hfr54⟩ := Kd.N_elem HX54.out z57 ((aU) : Int) (qR) (by have h_ : ((aU) : Int) < ((aW.length : Int) : Int) := qR; first | exact h_ | (have e_ := (Kd.N_reads' dE.out).1; omega) | simpa using h_)
   obtain ⟨ua54_0, uc54_0, rfl, ul54_0, ge54_0⟩ := k57_openF hM54
   have HP54 := (Kd.N_seg HX54.out ((aU) : Int) (qR) (by have h_ : ((aU) : Int) < ((aW.length : Int) : Int) := qR; first | exact h_ | (have e_ := (Kd.N_reads' dE.out).1; omega) | simpa using h_) (seg := [(.slice Ao633 hU.length co633)]) (j := 0) hcl54 hcc54 (show 1 ≤ 5 from by decide) (x' := (⟨hU, (⟨(Qac aW (aU)).f1.f0, (Qac aW (aU)).f1.f1, (Qac aW (aU)).f1.f2, (Qac aW (aU)).f1.f3⟩ : S37)⟩ : S57)) (k57_mkF _ _ (⟨hU, (⟨(Qac aW (aU)).f1.f0, (Qac aW (aU)).f1.f1, (Qac aW (aU)).f1.f2, (Qac aW (aU)).f1.f3⟩ : S37)⟩ : S57) (Kd.R_reads' (Kd.R_mono (ok' := (fun k_ => ((fun k_ => some k_ ≠ (.slice Ao47 dK.length co47 : Value).ownBlock ∧ some k_ ≠ (.slice Ao49 dJ.length co49 : Value).ownBlock ∧ k_ ≠ dM ∧ k_ ≠ aG)) k_ ∧ k_ ≠ dD)) (Kd.R_types (Kd.R_types (Kd.R_apart' (Kd.R_apart' (Kd.R_apart' (O634.out) (Kd.N_typed eX.out) (by decide)) (Kd.N_typed eV.out) (by decide)) (Kd.N_typed dE.out) (by decide)) cH.out (by decide)) cZ.out (by decide)) (by intro k_ hk; exact ⟨⟨hk.1.1.1.1.2, ⟨hk.1.1.1.2, ⟨hk.1.2, hk.2⟩⟩⟩, fun e_ => (hk.1.1.2) (by rw [e_]; rfl)⟩))).2.1 (Kd.R_F (Kd.R_mono (ok' := (fun k_ => ((fun k_ => some k_ ≠ (.slice Ao47 dK.length co47 : Value).ownBlock ∧ some k_ ≠ (.slice Ao49 dJ.length co49 : Value).ownBlock ∧ k_ ≠ dM ∧ k_ ≠ aG)) k_ ∧ k_ ≠ dD)) (Kd.R_types (Kd.R_types (Kd.R_apart' (Kd.R_apart' (Kd.R_apart' (O634.out) (Kd.N_typed eX.out) (by decide)) (Kd.N_typed eV.out) (by decide)) (Kd.N_typed dE.out) (by decide)) cH.out (by decide)) cZ.out (by decide)) (by intro k_ hk; exact ⟨⟨hk.1.1.1.1.2, ⟨hk.1.1.1.2, ⟨hk.1.2, hk.2⟩⟩⟩, fun e_ => (hk.1.1.2) (by rw [e_]; rfl)⟩)))) (fun _ hk => hk)).1
   rw [← Ny635.out] at HP54
   have HQ54 := As0 HP54
   clear hcl54 hcc54 hfr54 hM54 HP54
   refine hK.out _ _ ⟨bc cZ 0, bc cZ 1, bc cZ 2, bc cZ 3, bc cZ 4, bc cZ 5, bc cZ 6, bc cZ 7, HS8_, HS9_, HS10_, HS11_, HS12_⟩ (fun aA => ?_)
   clear hK K
   refine Qbv (a' := ?_) ?_ ?_
   rotate_left
   ·show Act.put _ (some 65) _ = _
    simp only [Act.put, sL1, sL2, sL3, Qbo, Qbp]
    rfl
   refine pv HT_.out 17 66 (bb 20 262143) ?_
   refine pv HT_.out 18 67 (bb 20 524287) ?_
   refine Qdd (i := 19) (N := none) (bb 20 1048575) rfl rfl (Qb8 HT_.out (by kernel_rfl)) (by decide) (fun K hK => ?_)
   refine skip_ (w1 := ?_) (by rfl) rfl ?_ ?_
   rotate_left
   ·go_simp
    rfl
   refine hK.out _ _ ?_
   clear hK K
   refine Qcn (Qcm HT_.out (by kernel_rfl)) ?_
   have n0_ : Qbf (Kd.N k39 39 (w53.setCell ⟨dD, ((aU) : Int).toNat * 5, none⟩ (.slice Ao633 hU.length co633)) w.heap.size (fun k_ => some k_ ≠ (.slice (some ⟨dD, 0, none⟩) aW.length co48 : Value).ownBlock ∧ some k_ ≠ (.slice Ao49 dJ.length co49 : Value).ownBlock ∧ k_ ≠ dM ∧ k_ ≠ aG) (.slice Ao47 dK.length co47) dK) := ⟨by (with_reducible repeat (first | apply Kd.N_alloc | apply Kd.N_drewN | apply Kd.N_drew)); exact Kd.N_mono (Kd.N_far (p := ⟨dD, ((aU) : Int).toNat * 5, none⟩) (Kd.N_mono eX.out (fun k_ hk => (⟨hk, fun e_ => hk.1.1 (by rw [e_]; rfl)⟩ : _ ∧ k_ ≠ dD))) (fun _ hk => hk.2) (.slice Ao633 hU.length co633)) (fun _ hk => ⟨hk.1.1.1, ⟨hk.1.1.2.1, ⟨hk.1.1.2.2.1, hk.1.1.2.2.2⟩⟩⟩)⟩
   have n1_ : Qbf (Kd.N k57 57 (w53.setCell ⟨dD, ((aU) : Int).toNat * 5, none⟩ (.slice Ao633 hU.length co633)) w.heap.size (fun k_ => some k_ ≠ (.slice Ao47 dK.length co47 : Value).ownBlock ∧ some k_ ≠ (.slice Ao49 dJ.length co49 : Value).ownBlock ∧ k_ ≠ dM ∧ k_ ≠ aG) (.slice (some ⟨dD, 0, none⟩) aW.length co48) y635) := ⟨by (with_reducible repeat (first | apply Kd.N_alloc | apply Kd.N_drewN | apply Kd.N_drew)); exact HQ54.out⟩
   have n2_ : Qbf (Kd.N (Kd.slice 47 k47) 44 (w53.setCell ⟨dD, ((aU) : Int).toNat * 5, none⟩ (.slice Ao633 hU.length co633)) w.heap.size (fun k_ => some k_ ≠ (.slice Ao47 dK.length co47 : Value).ownBlock ∧ some k_ ≠ (.slice (some ⟨dD, 0, none⟩) aW.length co48 : Value).ownBlock ∧ k_ ≠ dM ∧ k_ ≠ aG) (.slice Ao49 dJ.length co49) dJ) := ⟨by (with_reducible repeat (first | apply Kd.N_alloc | apply Kd.N_drewN | apply Kd.N_drew)); exact Kd.N_mono (Kd.N_far (p := ⟨dD, ((aU) : Int).toNat * 5, none⟩) (Kd.N_mono eV.out (fun k_ hk => (⟨hk, fun e_ => hk.1.2.1 (by rw [e_]; rfl)⟩ : _ ∧ k_ ≠ dD))) (fun _ hk => hk.2) (.slice Ao633 hU.length co633)) (fun _ hk => ⟨hk.1.1.1, ⟨hk.1.1.2.1, ⟨hk.1.1.2.2.1, hk.1.1.2.2.2⟩⟩⟩)⟩
   have n3_ : Qbf (Kd.V k59 59 (w53.setCell ⟨dD, ((aU) : Int).toNat * 5, none⟩ (.slice Ao633 hU.length co633)) w.heap.size (fun k_ => some k_ ≠ (.slice Ao47 dK.length co47 : Value).ownBlock ∧ some k_ ≠ (.slice (some ⟨dD, 0, none⟩) aW.length co48 : Value).ownBlock ∧ some k_ ≠ (.slice Ao49 dJ.length co49 : Value).ownBlock ∧ k_ ≠ dM ∧ k_ ≠ aG) (.slice A631_0 ((Qac aW (aU)).f0).length c631_0) ((Qac aW (aU)).f0)) := ⟨by (with_reducible repeat (first | apply Kd.V_alloc | apply Kd.V_drewN | apply Kd.V_drew)); exact Kd.V_mono (Kd.V_far (p := ⟨dD, ((aU) : Int).toNat * 5, none⟩) (Kd.V_mono dC.out (fun k_ hk => (⟨hk, fun e_ => hk.1.2 (by rw [e_]; rfl)⟩ : _ ∧ k_ ≠ dD))) (fun _ hk => hk.2) (.slice Ao633 hU.length co633)) (fun _ hk => ⟨hk.1.1.1.1, ⟨hk.1.1.2, ⟨hk.1.1.1.2.1, ⟨hk.1.1.1.2.2.1, hk.1.1.1.2.2.2⟩⟩⟩⟩)⟩
   have n4_ : Qbf ((w53.setCell ⟨dD, ((aU) : Int).toNat * 5, none⟩ (.slice Ao633 hU.length co633)).heap[dM]? = some (.cells #[.int .i64 a0_0, .int .i64 a0_1, .slice A0_2 l0_2.length c0_2, .int .i64 a0_3, .int .i64 a0_4, .int .i64 a0_5, .slice A0_6 l0_6.length c0_6, .slice A0_7 l0_7.length c0_7] 30 (0, 0))) := ⟨by (with_reducible repeat (first | refine bN ?_ _ | refine bD ?_ | refine bA ?_ _)); refine Qdz ?_ (by have h_ := Kd.N_away dE.out (fun _ hk => hk.1.2.2.1); intro e_; exact h_ (by rw [e_]; rfl)) _; (with_reducible repeat (first | refine bN ?_ _ | refine bD ?_ | refine bA ?_ _)); exact cH.out⟩
   have n5_ : Qbf ((w53.setCell ⟨dD, ((aU) : Int).toNat * 5, none⟩ (.slice Ao633 hU.length co633)).heap[aG]? = some (.cells #[.int .i64 iN, .int .i64 iM, .slice Ao47 dK.length co47, .int .i64 iL, .int .i64 iJ, .int .i64 iI, .slice (some ⟨dD, 0, none⟩) aW.length co48, .slice Ao49 dJ.length co49] 30 (0, 0))) := ⟨by (with_reducible repeat (first | refine bN ?_ _ | refine bD ?_ | refine bA ?_ _)); refine Qdz ?_ (by have h_ := Kd.N_away dE.out (fun _ hk => hk.1.2.2.2); intro e_; exact h_ (by rw [e_]; rfl)) _; (with_reducible repeat (first | refine bN ?_ _ | refine bD ?_ | refine bA ?_ _)); exact cZ.out⟩
   have n6_ : Qbf (Below w.heap.size w (w53.setCell ⟨dD, ((aU) : Int).toNat * 5, none⟩ (.slice Ao633 hU.length co633))) := ⟨BU HB.out⟩
   (try clear eX)
   (try clear dE)
   (try clear eV)
   (try clear dC)
   (try clear cH)
   (try clear cZ)
   (try clear HB)
   generalize (w53.setCell ⟨dD, ((aU) : Int).toNat * 5, none⟩ (.slice Ao633 hU.length co633)) = w55 at n0_ n1_ n2_ n3_ n4_ n5_ n6_ ⊢
   have eX := n0_
   have dE := n1_
   have eV := n2_
   have dC := n3_
   have cH := n4_
   have cZ := n5_
   have HB := n6_
   clear n0_ n1_ n2_ n3_ n4_ n5_ n6_
   have q56_ := cN8 cZ.out
   have hc : (decide (64 < t645) = true ∧ r = (t636 == 15)) ∨ (decide (64 < t645) = false ∧ ∃ q : Int × Int × Int × Int × Int × Int × Int, checker_Check.f kj4 a0_0 a0_1 l0_2 a0_3 a0_4 a0_5 l0_6 l0_7 = some q ∧ (t636 == q.1) = true ∧ (t637 == q.2.1) = true ∧ (t640 == q.2.2.2.2.1) = true ∧ r = (t642 == q.2.2.2.2.2.2)) := by
    have H := H2_.out
    by_cases c41 : t645 > 64
    ·rw [if_pos c41] at H
     exact Or.inl ⟨decide_eq_true c41, (Option.some.inj H).symm⟩
    rw [if_neg c41] at H
    obtain ⟨q, hq, H⟩ := Option.bind_eq_some_iff.mp H
    by_cases c66 : t636 = q.1
    rotate_left
    ·rw [if_neg c66] at H; cases H
    rw [if_pos c66] at H
    by_cases c67 : t637 = q.2.1
    rotate_left
    ·rw [if_neg c67] at H; cases H
    rw [if_pos c67] at H
    by_cases c68 : t640 = q.2.2.2.2.1
    rotate_left
    ·rw [if_neg c68] at H; cases H
    rw [if_pos c68] at H
    exact Or.inr ⟨decide_eq_false c41, q, hq, beq_iff_eq.2 c66, beq_iff_eq.2 c67, beq_iff_eq.2 c68, (Option.some.inj H).symm⟩
   clear H2_
   rcases hc with ⟨c41b0, rfl⟩ | ⟨c41b0, ⟨t646, t647, t648, t649, t650, t651, t652⟩, A650, c66b0, c67b0, c68b0, rfl⟩
   all_goals (try (have A65 := As0 A650; clear A650; dsimp only at c66b0 c67b0 c68b0))
   all_goals go_wp2_with (first | ((with_reducible refine Qbk (f := 14) rfl ?_); refine goesL_ (some 69) rfl rfl Tryz.func14 (by kernel_rfl) rfl #[.agg #[.int .i64 iN, .int .i64 iM, .slice Ao47 dK.length co47, .int .i64 iL, .int .i64 iJ, .int .i64 iI, .slice (some ⟨dD, 0, none⟩) y635.length co48, .slice Ao49 dJ.length co49]] rfl (by (try simp only [List.map_toArray, List.map_cons, List.map_nil]); first | done | (rw [show y635.length = aW.length from (Kd.N_reads' dE.out).1.symm] <;> rfl) | rfl | (simp only [List.length_drop, List.length_take]; rfl)) ?_; (with_reducible refine (checker_Check.calls kj4 iN iM _ _ dK iL iJ iI _ _ y635 _ _ dJ t636 t637 t638 t639 t640 t641 t642 _ ?side1 ?side2 ?side3 ?side4 ?side5 ?side6 A39.out).mono ?_); (case side1 => exact CU (Kd.N_reads' eX.out).2.2); (case side2 => exact (Kd.N_reads' eX.out).2.1); (case side3 => exact CU (Kd.N_reads' dE.out).2.2); (case side4 => rw [show y635.length = aW.length from (Kd.N_reads' dE.out).1.symm]; exact (Kd.N_reads' dE.out).2.1); (case side5 => exact CU (Kd.N_reads' eV.out).2.2); (case side6 => exact (Kd.N_reads' eV.out).2.1); rintro e w84 ⟨rfl, hb⟩; refine ⟨_, rfl, ?_⟩; replace eX := As0 (Kd.N_below (by (with_reducible repeat (first | apply Kd.N_alloc | apply Kd.N_drewN | apply Kd.N_drew)); exact eX.out) hb); replace dE := As0 (Kd.N_below (by (with_reducible repeat (first | apply Kd.N_alloc | apply Kd.N_drewN | apply Kd.N_drew)); exact dE.out) hb); replace eV := As0 (Kd.N_below (by (with_reducible repeat (first | apply Kd.N_alloc | apply Kd.N_drewN | apply Kd.N_drew)); exact eV.out) hb); replace dC := As0 (Kd.V_below (by (with_reducible repeat (first | apply Kd.V_alloc | apply Kd.V_drewN | apply Kd.V_drew)); exact dC.out) hb); replace cH := kB cH hb; replace cZ := kB cZ hb; replace HB := sB HB hb; (try clear hb)) | ((with_reducible refine gD 12 ?_); refine bX ?_; intro cC hg w85 aC hb; replace eX := As0 (Kd.N_below (Kd.N_elderB (by (with_reducible repeat (first | apply Kd.N_alloc | apply Kd.N_drewN | apply Kd.N_drew)); exact eX.out) cC (Nat.le_of_eq hg.symm)) hb); replace dE := As0 (Kd.N_below (Kd.N_elderB (by (with_reducible repeat (first | apply Kd.N_alloc | apply Kd.N_drewN | apply Kd.N_drew)); exact dE.out) cC (Nat.le_of_eq hg.symm)) hb); replace eV := As0 (Kd.N_below (Kd.N_elderB (by (with_reducible repeat (first | apply Kd.N_alloc | apply Kd.N_drewN | apply Kd.N_drew)); exact eV.out) cC (Nat.le_of_eq hg.symm)) hb); replace dC := As0 (Kd.V_below (Kd.V_elderB (by (with_reducible repeat (first | apply Kd.V_alloc | apply Kd.V_drewN | apply Kd.V_drew)); exact dC.out) cC (Nat.le_of_eq hg.symm)) hb); have K643 := As0 (aC); have GW643 := gW hg HB.out; replace HB := sB HB hb; have N611_643 := pL hg cH; have N643_611 := pR hg cH; replace cH := kB cH hb; have N630_643 := pL hg cZ; have N643_630 := pR hg cZ; replace cZ := kB cZ hb; clear hb aC hg; have q88_ := cN7 K643.out) | ((with_reducible refine gate_store (t := 51) (p := 12) rfl ?_); refine store_event (t := 51) (p := 12) (v := ?vo_w89) (w1 := (((((((w85.setCell ⟨cC, 0, none⟩ (.int .i64 t636)).setCell ⟨cC, 1, none⟩ (.int .i64 t637)).setCell ⟨cC, 2, none⟩ (.int .i64 t638)).setCell ⟨cC, 3, none⟩ (.int .i64 t639)).setCell ⟨cC, 4, none⟩ (.int .i64 t640)).setCell ⟨cC, 5, none⟩ (.int .i64 t641)).setCell ⟨cC, 6, none⟩ (.int .i64 t642))) ?hg ?ho ?hn ?hr ?_; (case ho => rfl); (case hg => rfl); (case hn => rfl); (case hr => first | (go_simp; done) | (go_simp; rfl)); intro w89 hw; replace eX : Qbf (Kd.N k39 39 w89 w.heap.size (fun k_ => some k_ ≠ (.slice (some ⟨dD, 0, none⟩) aW.length co48 : Value).ownBlock ∧ some k_ ≠ (.slice Ao49 dJ.length co49 : Value).ownBlock ∧ k_ ≠ dM ∧ k_ ≠ aG ∧ k_ ≠ cC) (.slice Ao47 dK.length co47) dK) := ⟨(by rw [hw]; exact (by (with_reducible repeat (first | apply Kd.N_alloc | apply Kd.N_drewN | apply Kd.N_drew)); exact Kd.N_mono (Kd.N_far (p := ⟨cC, 6, none⟩) (Kd.N_far (p := ⟨cC, 5, none⟩) (Kd.N_far (p := ⟨cC, 4, none⟩) (Kd.N_far (p := ⟨cC, 3, none⟩) (Kd.N_far (p := ⟨cC, 2, none⟩) (Kd.N_far (p := ⟨cC, 1, none⟩) (Kd.N_far (p := ⟨cC, 0, none⟩) (Kd.N_mono eX.out (fun k_ hk => (⟨hk, hk.2⟩ : _ ∧ k_ ≠ cC))) (fun _ hk => hk.2) (.int .i64 t636)) (fun _ hk => hk.2) (.int .i64 t637)) (fun _ hk => hk.2) (.int .i64 t638)) (fun _ hk => hk.2) (.int .i64 t639)) (fun _ hk => hk.2) (.int .i64 t640)) (fun _ hk => hk.2) (.int .i64 t641)) (fun _ hk => hk.2) (.int .i64 t642)) (fun _ hk => ⟨hk.1.1.1, ⟨hk.1.1.2.1, ⟨hk.1.1.2.2.1, ⟨hk.1.1.2.2.2, hk.1.2⟩⟩⟩⟩)))⟩; replace dE : Qbf (Kd.N k57 57 w89 w.heap.size (fun k_ => some k_ ≠ (.slice Ao47 dK.length co47 : Value).ownBlock ∧ some k_ ≠ (.slice Ao49 dJ.length co49 : Value).ownBlock ∧ k_ ≠ dM ∧ k_ ≠ aG ∧ k_ ≠ cC) (.slice (some ⟨dD, 0, none⟩) aW.length co48) y635) := ⟨(by rw [hw]; exact (by (with_reducible repeat (first | apply Kd.N_alloc | apply Kd.N_drewN | apply Kd.N_drew)); exact Kd.N_mono (Kd.N_far (p := ⟨cC, 6, none⟩) (Kd.N_far (p := ⟨cC, 5, none⟩) (Kd.N_far (p := ⟨cC, 4, none⟩) (Kd.N_far (p := ⟨cC, 3, none⟩) (Kd.N_far (p := ⟨cC, 2, none⟩) (Kd.N_far (p := ⟨cC, 1, none⟩) (Kd.N_far (p := ⟨cC, 0, none⟩) (Kd.N_mono dE.out (fun k_ hk => (⟨hk, hk.2⟩ : _ ∧ k_ ≠ cC))) (fun _ hk => hk.2) (.int .i64 t636)) (fun _ hk => hk.2) (.int .i64 t637)) (fun _ hk => hk.2) (.int .i64 t638)) (fun _ hk => hk.2) (.int .i64 t639)) (fun _ hk => hk.2) (.int .i64 t640)) (fun _ hk => hk.2) (.int .i64 t641)) (fun _ hk => hk.2) (.int .i64 t642)) (fun _ hk => ⟨hk.1.1.1, ⟨hk.1.1.2.1, ⟨hk.1.1.2.2.1, ⟨hk.1.1.2.2.2, hk.1.2⟩⟩⟩⟩)))⟩; replace eV : Qbf (Kd.N (Kd.slice 47 k47) 44 w89 w.heap.size (fun k_ => some k_ ≠ (.slice Ao47 dK.length co47 : Value).ownBlock ∧ some k_ ≠ (.slice (some ⟨dD, 0, none⟩) aW.length co48 : Value).ownBlock ∧ k_ ≠ dM ∧ k_ ≠ aG ∧ k_ ≠ cC) (.slice Ao49 dJ.length co49) dJ) := ⟨(by rw [hw]; exact (by (with_reducible repeat (first | apply Kd.N_alloc | apply Kd.N_drewN | apply Kd.N_drew)); exact Kd.N_mono (Kd.N_far (p := ⟨cC, 6, none⟩) (Kd.N_far (p := ⟨cC, 5, none⟩) (Kd.N_far (p := ⟨cC, 4, none⟩) (Kd.N_far (p := ⟨cC, 3, none⟩) (Kd.N_far (p := ⟨cC, 2, none⟩) (Kd.N_far (p := ⟨cC, 1, none⟩) (Kd.N_far (p := ⟨cC, 0, none⟩) (Kd.N_mono eV.out (fun k_ hk => (⟨hk, hk.2⟩ : _ ∧ k_ ≠ cC))) (fun _ hk => hk.2) (.int .i64 t636)) (fun _ hk => hk.2) (.int .i64 t637)) (fun _ hk => hk.2) (.int .i64 t638)) (fun _ hk => hk.2) (.int .i64 t639)) (fun _ hk => hk.2) (.int .i64 t640)) (fun _ hk => hk.2) (.int .i64 t641)) (fun _ hk => hk.2) (.int .i64 t642)) (fun _ hk => ⟨hk.1.1.1, ⟨hk.1.1.2.1, ⟨hk.1.1.2.2.1, ⟨hk.1.1.2.2.2, hk.1.2⟩⟩⟩⟩)))⟩; replace dC : Qbf (Kd.V k59 59 w89 w.heap.size (fun k_ => some k_ ≠ (.slice Ao47 dK.length co47 : Value).ownBlock ∧ some k_ ≠ (.slice (some ⟨dD, 0, none⟩) aW.length co48 : Value).ownBlock ∧ some k_ ≠ (.slice Ao49 dJ.length co49 : Value).ownBlock ∧ k_ ≠ dM ∧ k_ ≠ aG ∧ k_ ≠ cC) (.slice A631_0 ((Qac aW (aU)).f0).length c631_0) ((Qac aW (aU)).f0)) := ⟨(by rw [hw]; exact (by (with_reducible repeat (first | apply Kd.V_alloc | apply Kd.V_drewN | apply Kd.V_drew)); exact Kd.V_mono (Kd.V_far (p := ⟨cC, 6, none⟩) (Kd.V_far (p := ⟨cC, 5, none⟩) (Kd.V_far (p := ⟨cC, 4, none⟩) (Kd.V_far (p := ⟨cC, 3, none⟩) (Kd.V_far (p := ⟨cC, 2, none⟩) (Kd.V_far (p := ⟨cC, 1, none⟩) (Kd.V_far (p := ⟨cC, 0, none⟩) (Kd.V_mono dC.out (fun k_ hk => (⟨hk, hk.2⟩ : _ ∧ k_ ≠ cC))) (fun _ hk => hk.2) (.int .i64 t636)) (fun _ hk => hk.2) (.int .i64 t637)) (fun _ hk => hk.2) (.int .i64 t638)) (fun _ hk => hk.2) (.int .i64 t639)) (fun _ hk => hk.2) (.int .i64 t640)) (fun _ hk => hk.2) (.int .i64 t641)) (fun _ hk => hk.2) (.int .i64 t642)) (fun _ hk => ⟨hk.1.1.1, ⟨hk.1.1.2.1, ⟨hk.1.1.2.2.1, ⟨hk.1.1.2.2.2.1, ⟨hk.1.1.2.2.2.2, hk.1.2⟩⟩⟩⟩⟩)))⟩; replace cH : Qbf (w89.heap[dM]? = some (.cells #[.int .i64 a0_0, .int .i64 a0_1, .slice A0_2 l0_2.length c0_2, .int .i64 a0_3, .int .i64 a0_4, .int .i64 a0_5, .slice A0_6 l0_6.length c0_6, .slice A0_7 l0_7.length c0_7] 30 (0, 0))) := ⟨(by rw [hw]; exact (kV cH))⟩; replace cZ : Qbf (w89.heap[aG]? = some (.cells #[.int .i64 iN, .int .i64 iM, .slice Ao47 dK.length co47, .int .i64 iL, .int .i64 iJ, .int .i64 iI, .slice (some ⟨dD, 0, none⟩) aW.length co48, .slice Ao49 dJ.length co49] 30 (0, 0))) := ⟨(by rw [hw]; exact (kV cZ))⟩; replace K643 : Qbf (w89.heap[cC]? = some (.cells #[.int .i64 t636, .int .i64 t637, .int .i64 t638, .int .i64 t639, .int .i64 t640, .int .i64 t641, .int .i64 t642] 51 (0, 0))) := ⟨(by rw [hw]; exact (kV K643))⟩; replace HB : Qbf (Below w.heap.size w w89) := ⟨(by rw [hw]; exact (BU HB.out))⟩; clear hw; have q90_ := cN8 cZ.out; have p644 : 0 ≤ ((aU) : Int) := qR; have q644 : (aU) < (y635.length : Int) := (by have h_ : ((aU) : Int) < ((aW.length : Int) : Int) := qR; first | (have e_ := (Kd.N_reads' dE.out).1; omega) | simpa only [Ny635.out, List.length_set] using h_); have ql644 : (((aU) : Int) < ((aW.length : Int) : Int)) = True := eq_true (qR); obtain ⟨ad644, A644_0, c644_0, e644, hx644_0, hx644_1, hx644_2, hx644_3, hx644_4, hl644_0, hi644_0⟩ := Qd1 (Kd.N_reads' dE.out).2.2 (aU) p644 q644; obtain rfl : (⟨dD, 0, none⟩ : Addr) = ad644 := (by injection e644); obtain ⟨ce644, hce644, hMe644, hcc644⟩ := Kd.N_get dE.out z57 (aU) p644 (by first | exact q644 | exact qR | (have e_ := (Kd.N_reads' dE.out).1; omega)); obtain ⟨ua644_0, uc644_0, rfl, ul644_0, ge644_0⟩ := k57_openF hMe644; have hv644_0 := hcc644 0 _ rfl; rw [Nat.add_zero] at hv644_0; replace hv644_0 := Option.some.inj (hv644_0.symm.trans hx644_0); injection hv644_0 with hva_ hvn_ hvc_; rw [hva_] at ge644_0; rw [hvc_] at ul644_0; have jU := As0 (show Kd.V k59 59 _ w.heap.size _ _ ((Qac y635 (aU)).f0) from Kd.V_mk ul644_0 ge644_0); clear hva_ hvn_ hvc_ ge644_0 ul644_0 hcc644 hce644; (first | simp only [Qcs] at hx644_0 | simp only [add_at] at hx644_0 | simp only [Addr.add, Nat.zero_add] at hx644_0 | skip); (first | simp only [Qcs] at hx644_1 | simp only [add_at] at hx644_1 | simp only [Addr.add, Nat.zero_add] at hx644_1 | skip); (first | simp only [Qcs] at hx644_2 | simp only [add_at] at hx644_2 | simp only [Addr.add, Nat.zero_add] at hx644_2 | skip); (first | simp only [Qcs] at hx644_3 | simp only [add_at] at hx644_3 | simp only [Addr.add, Nat.zero_add] at hx644_3 | skip); (first | simp only [Qcs] at hx644_4 | simp only [add_at] at hx644_4 | simp only [Addr.add, Nat.zero_add] at hx644_4 | skip); have R644_0 := As0 hi644_0; have C644_0 := As0 hl644_0; clear hi644_0 hl644_0; replace p644 := eq_true p644; replace q644 := eq_true q644) | ((with_reducible refine Qbk (f := 16) rfl ?_); refine goesL_ (some 77) rfl rfl Tryz.func16 (by kernel_rfl) rfl #[.slice A644_0 ((Qac y635 (aU)).f0).length c644_0] rfl (by (try simp only [List.map_toArray, List.map_cons, List.map_nil]); first | done | (simp only [hji34]; rfl) | rfl | (simp only [List.length_drop, List.length_take]; rfl)) ?_; (with_reducible refine (Qae.calls kj4 _ _ ((Qac y635 (aU)).f0) t645 _ ?side1 ?side2 A40.out).mono ?_); (case side1 => exact CU (by repeat (first | (with_reducible exact R644_0.out) | (with_reducible refine Kd.C_alloc ?_ _) | (with_reducible refine Kd.C_drewN ?_ _) | (with_reducible refine Kd.C_drew ?_) | exact R644_0.out))); (case side2 => exact C644_0.out); rintro e w' ⟨rfl, ⟨nd, rfl⟩⟩; refine ⟨_, rfl, ?_⟩; (try (rw [drewN_self w89]; generalize hq_ : World.drewN w89 _ = w89; replace dC : Qbf (Kd.V k59 59 w89 w.heap.size (fun k_ => some k_ ≠ (.slice Ao47 dK.length co47 : Value).ownBlock ∧ some k_ ≠ (.slice (some ⟨dD, 0, none⟩) aW.length co48 : Value).ownBlock ∧ some k_ ≠ (.slice Ao49 dJ.length co49 : Value).ownBlock ∧ k_ ≠ dM ∧ k_ ≠ aG ∧ k_ ≠ cC) (.slice A631_0 ((Qac aW (aU)).f0).length c631_0) ((Qac aW (aU)).f0)) := ⟨by rw [← hq_]; exact (by (with_reducible repeat (first | apply Kd.V_alloc | apply Kd.V_drewN | apply Kd.V_drew)); exact dC.out)⟩; replace jU : Qbf (Kd.V k59 59 w89 w.heap.size (fun k_ => some k_ ≠ (.slice Ao47 dK.length co47 : Value).ownBlock ∧ some k_ ≠ (.slice (some ⟨dD, 0, none⟩) aW.length co48 : Value).ownBlock ∧ some k_ ≠ (.slice Ao49 dJ.length co49 : Value).ownBlock ∧ k_ ≠ dM ∧ k_ ≠ aG ∧ k_ ≠ cC) (.slice A644_0 ((Qac y635 (aU)).f0).length c644_0) ((Qac y635 (aU)).f0)) := ⟨by rw [← hq_]; exact (by (with_reducible repeat (first | apply Kd.V_alloc | apply Kd.V_drewN | apply Kd.V_drew)); exact Kd.V_mono jU.out (fun _ hk => ⟨hk.1.1, ⟨hk.2, ⟨hk.1.2.1, ⟨hk.1.2.2.1, ⟨hk.1.2.2.2.1, hk.1.2.2.2.2⟩⟩⟩⟩⟩))⟩; replace eX : Qbf (Kd.N k39 39 w89 w.heap.size (fun k_ => some k_ ≠ (.slice (some ⟨dD, 0, none⟩) aW.length co48 : Value).ownBlock ∧ some k_ ≠ (.slice Ao49 dJ.length co49 : Value).ownBlock ∧ k_ ≠ dM ∧ k_ ≠ aG ∧ k_ ≠ cC) (.slice Ao47 dK.length co47) dK) := ⟨by rw [← hq_]; exact (by (with_reducible repeat (first | apply Kd.N_alloc | apply Kd.N_drewN | apply Kd.N_drew)); exact eX.out)⟩; replace dE : Qbf (Kd.N k57 57 w89 w.heap.size (fun k_ => some k_ ≠ (.slice Ao47 dK.length co47 : Value).ownBlock ∧ some k_ ≠ (.slice Ao49 dJ.length co49 : Value).ownBlock ∧ k_ ≠ dM ∧ k_ ≠ aG ∧ k_ ≠ cC) (.slice (some ⟨dD, 0, none⟩) aW.length co48) y635) := ⟨by rw [← hq_]; exact (by (with_reducible repeat (first | apply Kd.N_alloc | apply Kd.N_drewN | apply Kd.N_drew)); exact dE.out)⟩; replace eV : Qbf (Kd.N (Kd.slice 47 k47) 44 w89 w.heap.size (fun k_ => some k_ ≠ (.slice Ao47 dK.length co47 : Value).ownBlock ∧ some k_ ≠ (.slice (some ⟨dD, 0, none⟩) aW.length co48 : Value).ownBlock ∧ k_ ≠ dM ∧ k_ ≠ aG ∧ k_ ≠ cC) (.slice Ao49 dJ.length co49) dJ) := ⟨by rw [← hq_]; exact (by (with_reducible repeat (first | apply Kd.N_alloc | apply Kd.N_drewN | apply Kd.N_drew)); exact eV.out)⟩; replace cH : Qbf (w89.heap[dM]? = some (.cells #[.int .i64 a0_0, .int .i64 a0_1, .slice A0_2 l0_2.length c0_2, .int .i64 a0_3, .int .i64 a0_4, .int .i64 a0_5, .slice A0_6 l0_6.length c0_6, .slice A0_7 l0_7.length c0_7] 30 (0, 0))) := ⟨by rw [← hq_]; exact (bU cH.out)⟩; replace cZ : Qbf (w89.heap[aG]? = some (.cells #[.int .i64 iN, .int .i64 iM, .slice Ao47 dK.length co47, .int .i64 iL, .int .i64 iJ, .int .i64 iI, .slice (some ⟨dD, 0, none⟩) aW.length co48, .slice Ao49 dJ.length co49] 30 (0, 0))) := ⟨by rw [← hq_]; exact (bU cZ.out)⟩; replace K643 : Qbf (w89.heap[cC]? = some (.cells #[.int .i64 t636, .int .i64 t637, .int .i64 t638, .int .i64 t639, .int .i64 t640, .int .i64 t641, .int .i64 t642] 51 (0, 0))) := ⟨by rw [← hq_]; exact (bU K643.out)⟩; replace HB : Qbf (Below w.heap.size w w89) := ⟨by rw [← hq_]; exact (BU HB.out)⟩; replace R644_0 : Qbf (Kd.C k59 w89 A644_0 ((Qac y635 (aU)).f0).length ((Qac y635 (aU)).f0)) := ⟨by rw [← hq_]; exact (by repeat (first | (with_reducible exact R644_0.out) | (with_reducible refine Kd.C_alloc ?_ _) | (with_reducible refine Kd.C_drewN ?_ _) | (with_reducible refine Kd.C_drew ?_) | exact R644_0.out))⟩; clear hq_)); have hcy_0 : w89.cell? ⟨cC, 0, none⟩ = some (.int .i64 t636) := bc K643 0; have q91_ := cN8 cH.out) | ((with_reducible refine Qbk (f := 14) rfl ?_); refine gL (some 83) Tryz.func14 #[.agg #[.int .i64 a0_0, .int .i64 a0_1, .slice A0_2 l0_2.length c0_2, .int .i64 a0_3, .int .i64 a0_4, .int .i64 a0_5, .slice A0_6 l0_6.length c0_6, .slice A0_7 l0_7.length c0_7]] ?_; (with_reducible refine (checker_Check.calls kj4 a0_0 a0_1 _ _ l0_2 a0_3 a0_4 a0_5 _ _ l0_6 _ _ l0_7 t646 t647 t648 t649 t650 t651 t652 _ ?side1 ?side2 ?side3 ?side4 ?side5 ?side6 A65.out).mono ?_); (case side1 => exact CU (Kd.C_below R0_2.out HB.out)); (case side2 => exact C0_2.out); (case side3 => exact CU (Kd.C_below R0_6.out HB.out)); (case side4 => exact C0_6.out); (case side5 => exact CU (Kd.C_below R0_7.out HB.out)); (case side6 => exact C0_7.out); rintro e w92 ⟨rfl, hb⟩; refine ⟨_, rfl, ?_⟩; replace eX := As0 (Kd.N_below (by (with_reducible repeat (first | apply Kd.N_alloc | apply Kd.N_drewN | apply Kd.N_drew)); exact eX.out) hb); replace dE := As0 (Kd.N_below (by (with_reducible repeat (first | apply Kd.N_alloc | apply Kd.N_drewN | apply Kd.N_drew)); exact dE.out) hb); replace eV := As0 (Kd.N_below (by (with_reducible repeat (first | apply Kd.N_alloc | apply Kd.N_drewN | apply Kd.N_drew)); exact eV.out) hb); replace dC := As0 (Kd.V_below (by (with_reducible repeat (first | apply Kd.V_alloc | apply Kd.V_drewN | apply Kd.V_drew)); exact dC.out) hb); replace jU := As0 (Kd.V_below (by (with_reducible repeat (first | apply Kd.V_alloc | apply Kd.V_drewN | apply Kd.V_drew)); exact jU.out) hb); replace cH := kB cH hb; replace cZ := kB cZ hb; replace K643 := kB K643 hb; replace R644_0 := As0 (Kd.C_below (by repeat (first | (with_reducible exact R644_0.out) | (with_reducible refine Kd.C_alloc ?_ _) | (with_reducible refine Kd.C_drewN ?_ _) | (with_reducible refine Kd.C_drew ?_) | exact R644_0.out)) hb); replace HB := sB HB hb; (try clear hb)) | ((with_reducible refine gD 13 ?_); refine bX ?_; intro gb653 hg w93 aC hb; replace eX := As0 (Kd.N_below (Kd.N_elderB (by (with_reducible repeat (first | apply Kd.N_alloc | apply Kd.N_drewN | apply Kd.N_drew)); exact eX.out) gb653 (Nat.le_of_eq hg.symm)) hb); replace dE := As0 (Kd.N_below (Kd.N_elderB (by (with_reducible repeat (first | apply Kd.N_alloc | apply Kd.N_drewN | apply Kd.N_drew)); exact dE.out) gb653 (Nat.le_of_eq hg.symm)) hb); replace eV := As0 (Kd.N_below (Kd.N_elderB (by (with_reducible repeat (first | apply Kd.N_alloc | apply Kd.N_drewN | apply Kd.N_drew)); exact eV.out) gb653 (Nat.le_of_eq hg.symm)) hb); replace dC := As0 (Kd.V_below (Kd.V_elderB (by (with_reducible repeat (first | apply Kd.V_alloc | apply Kd.V_drewN | apply Kd.V_drew)); exact dC.out) gb653 (Nat.le_of_eq hg.symm)) hb); replace jU := As0 (Kd.V_below (Kd.V_elderB (by (with_reducible repeat (first | apply Kd.V_alloc | apply Kd.V_drewN | apply Kd.V_drew)); exact jU.out) gb653 (Nat.le_of_eq hg.symm)) hb); replace R644_0 := As0 (Kd.C_below (by repeat (first | (with_reducible exact R644_0.out) | (with_reducible refine Kd.C_alloc ?_ _) | (with_reducible refine Kd.C_drewN ?_ _) | (with_reducible refine Kd.C_drew ?_) | exact R644_0.out)) hb); have K653 := As0 (aC); have GW653 := gW hg HB.out; replace HB := sB HB hb; have N611_653 := pL hg cH; have N653_611 := pR hg cH; replace cH := kB cH hb; have N630_653 := pL hg cZ; have N653_630 := pR hg cZ; replace cZ := kB cZ hb; have N643_653 := pL hg K643; have N653_643 := pR hg K643; replace K643 := kB K643 hb; clear hb aC hg; have q97_ := cN7 K653.out; have q98_ := cN7 K643.out))
   all_goals go_ret
   all_goals exact ⟨by first | rfl | (simp [Qbb, Qba] <;> rfl) | (simp only [← hji34]; first | rfl | (simp [Qbb, Qba] <;> rfl)) | (simp [*, Qbb, Qba] <;> rfl), BU HB.out⟩
end Go.Proofs.YtchpkjgibloleaaGreat.Z
namespace Go.Proofs.YtchpkjgibloleaaGreat.Open
set_option maxRecDepth 100000
set_option maxHeartbeats 8000000
open Go.RowKit Go.ChangeShapes Go.WideShapes Go.Proofs.YtchpkjgibloleaaGreatW.PrintWords
def Qem (P : Program) (t : TypeId) {α : Type} (d : Kd α) (good : α → Prop) : Prop :=
 ∀ {H : Type} (enc : TypeId × Value → H) (w : World) (fuel : Nat) (cs : List Value) (x : DataW H × List MemPlace),
  DataW.trod enc P w 0 (fun _ => true) true fuel t cs = some x → ∃ a : α, d.K w a cs ∧ good a
theorem Qb1 {P : Program} {t : TypeId} {k : IntKind} (ht : P.underlying t = some (.int k)) : Qem P t (Kd.int k) (fun n => (Lit.int k n).wf = true) := by
 intro H enc w fuel cs x h
 obtain ⟨n, rfl, _, hw⟩ := DataW.trod_int ht h
 exact ⟨n, rfl, hw⟩
theorem cells_read {w : World} {a : Addr} {n : Nat} {cs : List Value} (h : w.cells? 0 a n = some cs) : cs.length = n ∧ ∀ i u, cs[i]? = some u → w.cell? (a.add i) = some u := by
 obtain ⟨h1, h2, h3⟩ := World.cells?_some h
 refine ⟨h2, fun i u hu => ?_⟩
 have hi : i < cs.length := (List.getElem?_eq_some_iff.1 hu).1
 have := h3 i (by omega)
 rw [hu] at this
 exact this
theorem list_of_index {α : Type} {len : Nat} {p : Nat → α → Prop} (h : ∀ i, i < len → ∃ x, p i x) : ∃ xs : List α, xs.length = len ∧ ∀ i x, xs[i]? = some x → p i x := by
 induction len with
 | zero => exact ⟨[], rfl, fun i p hp => by simp at hp⟩
 | succ q ih =>
  obtain ⟨xs, hxs, hr⟩ := ih (fun i hi => h i (by omega))
  obtain ⟨p, hp⟩ := h q (by omega)
  refine ⟨xs ++ [p], by simp [hxs], fun i p' hi => ?_⟩
  rcases Nat.lt_or_ge i xs.length with hlt | hge
  ·rw [List.getElem?_append_left hlt] at hi
   exact hr i p' hi
  ·have hiq : i = q := by
     have := (List.getElem?_eq_some_iff.1 hi).1
     simp at this
     omega
   subst hiq
   rw [List.getElem?_append_right hge] at hi
   simp [hxs] at hi
   subst hi
   exact hp
theorem Qc6 {P : Program} {t e : TypeId} {α : Type} {d : Kd α} {good : α → Prop} (ht : P.underlying t = some (.slice e)) (hc : P.cellsOf e = d.sz) (he : Qem P e d good) :
    Qem P t (Kd.slice e d) (fun xs => xs.length ≤ maxLen ∧ ∀ x ∈ xs, good x) := by
 intro H enc w fuel cs x h
 rcases Go.Deep.open_slice ht h with ⟨rfl, _⟩ | ⟨a, len, cap, m, n, D, Pl, rfl, _, hl, hm, hmm, _, hx⟩
 ·exact ⟨[], ⟨none, 0, rfl, Nat.le_refl _, rfl, by simp, fun hp => absurd hp (by simp)⟩, by simp⟩
 ·have hlm : len ≤ m := by rw [hmm]; simp only [if_true]; exact hl
  have hall : ∀ i, i < len → ∃ p : α, good p ∧ ∃ c, c.length = d.sz ∧ d.K w p c ∧ ∀ j u, c[j]? = some u → w.cell? (a.add (i * d.sz + j)) = some u := by
   intro i hi
   obtain ⟨cs', h1, h2⟩ := hx i (by omega)
   obtain ⟨p, hp, hg⟩ := he enc w n cs' _ h2
   obtain ⟨h3, h4⟩ := cells_read h1
   refine ⟨p, hg, cs', by rw [h3, hc], hp, fun j u hu => ?_⟩
   have := h4 j u hu
   rw [Go.Deep.add_add, hc] at this
   exact this
  have key := list_of_index hall
  obtain ⟨xs, rfl, hr⟩ := key
  refine ⟨xs, ⟨some a, cap, rfl, hl, rfl, by have := hm; unfold maxLen at this; omega, fun _ => ⟨a, rfl, fun j p hj => (hr j p hj).2⟩⟩, by omega, fun x hx => ?_⟩
  obtain ⟨i, hi, rfl⟩ := List.getElem_of_mem hx
  exact (hr i _ (List.getElem?_eq_getElem hi)).1
def OpensFs (P : Program) (fs : List Field) (off : Nat) {α : Type} (d : Kd α) (good : α → Prop) : Prop :=
 ∀ {H : Type} (enc : TypeId × Value → H) (w : World) (fuel : Nat) (cs : List Value) (xs : List (DataW H × List MemPlace)),
  fs.mapM (fun f => DataW.trod enc P w 0 (fun _ => true) true fuel f.type ((cs.drop f.offset).take (P.cellsOf f.type))) = some xs → cs.length = off + d.sz → ∃ a : α, d.K w a (cs.drop off) ∧ good a
theorem Qcv {P : Program} {f : Field} {off : Nat} {α : Type} {d : Kd α} {good : α → Prop} (ho : f.offset = off) (hc : P.cellsOf f.type = d.sz) (h : Qem P f.type d good) : OpensFs P [f] off d good := by
 intro H enc w fuel cs xs hx hl
 simp only [List.mapM_cons, List.mapM_nil, Option.bind_eq_bind, Option.pure_def, Option.bind_eq_some_iff] at hx
 obtain ⟨y, hy, _⟩ := hx
 rw [ho, hc, List.take_of_length_le (by rw [List.length_drop]; omega)] at hy
 exact h enc w fuel _ _ hy
theorem Qbw {P : Program} {f : Field} {fs : List Field} {off : Nat} {α β : Type} {d : Kd α} {e : Kd β} {good : α → Prop} {goods : β → Prop} (ho : f.offset = off) (hc : P.cellsOf f.type = d.sz) (h : Qem P f.type d good) (hs : OpensFs P fs (off + d.sz) e goods) :
    OpensFs P (f :: fs) off (Kd.pair d e) (fun x => good x.1 ∧ goods x.2) := by
 intro H enc w fuel cs xs hx hl
 simp only [List.mapM_cons, Option.bind_eq_bind, Option.pure_def, Option.bind_eq_some_iff] at hx
 obtain ⟨y, hy, ys, hys, _⟩ := hx
 rw [ho, hc] at hy
 have hl' : cs.length = off + d.sz + e.sz := by rw [hl]; show off + (d.sz + e.sz) = _; omega
 obtain ⟨a, ha, ga⟩ := h enc w fuel _ _ hy
 obtain ⟨b, hb, gb⟩ := hs enc w fuel cs ys hys hl'
 refine ⟨(a, b), ⟨(cs.drop off).take d.sz, cs.drop (off + d.sz), ?_, ha, hb⟩, ga, gb⟩
 rw [← List.drop_drop, List.take_append_drop]
theorem Qcd {P : Program} {t : TypeId} {fs : Array Field} {α β : Type} {d : Kd α} {good : α → Prop} (ht : P.underlying t = some (.struct fs)) (hc : P.cellsOf t = d.sz) (h : OpensFs P fs.toList 0 d good) (f : β → α) (g : α → β) (hfg : ∀ a, f (g a) = a) :
    Qem P t (Kd.iso d f) (fun x => good (f x)) := by
 intro H enc w fuel cs x hx
 cases fuel with
 | zero => exact absurd hx (by simp [DataW.trod])
 | succ n =>
  rw [DataW.trod_step] at hx
  unfold DataW.trodStep at hx
  simp only [ht] at hx
  split at hx
  ·rename_i hl
   obtain ⟨xs, hxs, _⟩ := Option.map_eq_some_iff.1 hx
   obtain ⟨a, ha, ga⟩ := h enc w n cs xs hxs (by rw [hl, hc]; omega)
   refine ⟨g a, ?_, by show good (f (g a)); rw [hfg]; exact ga⟩
   show d.K w (f (g a)) cs
   rw [hfg]
   simpa using ha
  ·exact absurd hx (by simp)
section
variable {H : Type} {enc : TypeId × Value → H} {P : Program} {W : World} {b0 : Nat}
theorem arg_struct {t : TypeId} {fs : Array Field} {α : Type} {d : Kd α} {good : α → Prop} {v : Value} {dd : DataW H} {p : List MemPlace} (ht : P.underlying t = some (.struct fs)) (ho : Qem P t d good) (hv : Value.okWide P W .any b0 t v) (h : DataW.Trod enc P W 0 (fun _ => true) true t v dd p) :
    ∃ (cs : List Value) (x : α), v = .agg cs.toArray ∧ d.K W x cs ∧ good x := by
 obtain ⟨cs, rfl, hsz⟩ := okWide_struct ht hv
 obtain ⟨fuel, hf⟩ := h
 obtain ⟨x, hk, hg⟩ := ho enc W fuel _ _ hf
 exact ⟨cs.toList, x, by simp, hk, hg⟩
end
end Go.Proofs.YtchpkjgibloleaaGreat.Open
namespace Go.Proofs.YtchpkjgibloleaaGreat.Z
set_option maxRecDepth 100000
set_option maxHeartbeats 8000000
open Go.RowKit Go.Proofs.YtchpkjgibloleaaGreatW.PrintWords Go.Proofs.YtchpkjgibloleaaGreatW.PrintLast Go.Proofs.YtchpkjgibloleaaGreatW.PrintMore
attribute [local go_sem] Qbu Qb0
open Go.Proofs.YtchpkjgibloleaaGreat.Open Go.ChangeShapes
def good41 (x : S41) : Prop := (fun n_ : Int => (Lit.int .i64 n_).wf = true) x.f0 ∧ (fun n_ : Int => (Lit.int .i64 n_).wf = true) x.f1 ∧ (fun n_ : Int => (Lit.int .i64 n_).wf = true) x.f2 ∧ (fun n_ : Int => (Lit.int .i64 n_).wf = true) x.f3 ∧ (fun n_ : Int => (Lit.int .i64 n_).wf = true) x.f4
theorem opens41 : Qem Tryz.prog 41 k41 good41 := Qcd Tryz.underlying41 (by kernel_rfl) (Qbw rfl (by kernel_rfl) (Qb1 Tryz.underlying3) (Qbw rfl (by kernel_rfl) (Qb1 Tryz.underlying3) (Qbw rfl (by kernel_rfl) (Qb1 Tryz.underlying3) (Qbw rfl (by kernel_rfl) (Qb1 Tryz.underlying3) (Qcv rfl (by kernel_rfl) (Qb1 Tryz.underlying2)))))) (fun x : S41 => (x.f0, x.f1, x.f2, x.f3, x.f4)) (fun a => ⟨a.1, a.2.1, a.2.2.1, a.2.2.2.1, a.2.2.2.2⟩) (fun _ => rfl)
def good37 (x : S37) : Prop := (fun n_ : Int => (Lit.int .i64 n_).wf = true) x.f0 ∧ (fun n_ : Int => (Lit.int .i64 n_).wf = true) x.f1 ∧ (fun n_ : Int => (Lit.int .i64 n_).wf = true) x.f2 ∧ (fun n_ : Int => (Lit.int .i64 n_).wf = true) x.f3
theorem opens37 : Qem Tryz.prog 37 k37 good37 := Qcd Tryz.underlying37 (by kernel_rfl) (Qbw rfl (by kernel_rfl) (Qb1 Tryz.underlying3) (Qbw rfl (by kernel_rfl) (Qb1 Tryz.underlying3) (Qbw rfl (by kernel_rfl) (Qb1 Tryz.underlying3) (Qcv rfl (by kernel_rfl) (Qb1 Tryz.underlying3))))) (fun x : S37 => (x.f0, x.f1, x.f2, x.f3)) (fun a => ⟨a.1, a.2.1, a.2.2.1, a.2.2.2⟩) (fun _ => rfl)
def good39 (x : S39) : Prop := (fun xs_ : List S41 => xs_.length ≤ maxLen ∧ ∀ x_ ∈ xs_, good41 x_) x.f0 ∧ good37 x.f1
theorem opens39 : Qem Tryz.prog 39 k39 good39 := Qcd Tryz.underlying39 (by kernel_rfl) (Qbw rfl (by kernel_rfl) (Qc6 Tryz.underlying35 (by kernel_rfl) opens41) (Qcv rfl (by kernel_rfl) opens37)) (fun x : S39 => (x.f0, x.f1)) (fun a => ⟨a.1, a.2⟩) (fun _ => rfl)
def good24 (x : S24) : Prop := (fun n_ : Int => (Lit.int .i64 n_).wf = true) x.f0 ∧ (fun n_ : Int => (Lit.int .i64 n_).wf = true) x.f1 ∧ (fun xs_ : List S39 => xs_.length ≤ maxLen ∧ ∀ x_ ∈ xs_, good39 x_) x.f2
theorem opens24 : Qem Tryz.prog 24 k24 good24 := Qcd Tryz.underlying24 (by kernel_rfl) (Qbw rfl (by kernel_rfl) (Qb1 Tryz.underlying3) (Qbw rfl (by kernel_rfl) (Qb1 Tryz.underlying3) (Qcv rfl (by kernel_rfl) (Qc6 Tryz.underlying22 (by kernel_rfl) opens39)))) (fun x : S24 => (x.f0, x.f1, x.f2)) (fun a => ⟨a.1, a.2.1, a.2.2⟩) (fun _ => rfl)
def good59 (x : S59) : Prop := (fun n_ : Int => (Lit.int .i64 n_).wf = true) x.f0 ∧ (fun n_ : Int => (Lit.int .i64 n_).wf = true) x.f1 ∧ (fun n_ : Int => (Lit.int .i64 n_).wf = true) x.f2 ∧ (fun n_ : Int => (Lit.int .i64 n_).wf = true) x.f3 ∧ (fun n_ : Int => (Lit.int .i64 n_).wf = true) x.f4 ∧ (fun n_ : Int => (Lit.int .i64 n_).wf = true) x.f5 ∧ (fun n_ : Int => (Lit.int .i64 n_).wf = true) x.f6
theorem opens59 : Qem Tryz.prog 59 k59 good59 := Qcd Tryz.underlying59 (by kernel_rfl) (Qbw rfl (by kernel_rfl) (Qb1 Tryz.underlying3) (Qbw rfl (by kernel_rfl) (Qb1 Tryz.underlying3) (Qbw rfl (by kernel_rfl) (Qb1 Tryz.underlying3) (Qbw rfl (by kernel_rfl) (Qb1 Tryz.underlying3) (Qbw rfl (by kernel_rfl) (Qb1 Tryz.underlying2) (Qbw rfl (by kernel_rfl) (Qb1 Tryz.underlying45) (Qcv rfl (by kernel_rfl) (Qb1 Tryz.underlying45)))))))) (fun x : S59 => (x.f0, x.f1, x.f2, x.f3, x.f4, x.f5, x.f6)) (fun a => ⟨a.1, a.2.1, a.2.2.1, a.2.2.2.1, a.2.2.2.2.1, a.2.2.2.2.2.1, a.2.2.2.2.2.2⟩) (fun _ => rfl)
def good57 (x : S57) : Prop := (fun xs_ : List S59 => xs_.length ≤ maxLen ∧ ∀ x_ ∈ xs_, good59 x_) x.f0 ∧ good37 x.f1
theorem opens57 : Qem Tryz.prog 57 k57 good57 := Qcd Tryz.underlying57 (by kernel_rfl) (Qbw rfl (by kernel_rfl) (Qc6 Tryz.underlying54 (by kernel_rfl) opens59) (Qcv rfl (by kernel_rfl) opens37)) (fun x : S57 => (x.f0, x.f1)) (fun a => ⟨a.1, a.2⟩) (fun _ => rfl)
def good27 (x : S27) : Prop := (fun n_ : Int => (Lit.int .i64 n_).wf = true) x.f0 ∧ (fun n_ : Int => (Lit.int .i64 n_).wf = true) x.f1 ∧ (fun n_ : Int => (Lit.int .i64 n_).wf = true) x.f2 ∧ (fun xs_ : List S57 => xs_.length ≤ maxLen ∧ ∀ x_ ∈ xs_, good57 x_) x.f3
theorem opens27 : Qem Tryz.prog 27 k27 good27 := Qcd Tryz.underlying27 (by kernel_rfl) (Qbw rfl (by kernel_rfl) (Qb1 Tryz.underlying3) (Qbw rfl (by kernel_rfl) (Qb1 Tryz.underlying3) (Qbw rfl (by kernel_rfl) (Qb1 Tryz.underlying3) (Qcv rfl (by kernel_rfl) (Qc6 Tryz.underlying25 (by kernel_rfl) opens57))))) (fun x : S27 => (x.f0, x.f1, x.f2, x.f3)) (fun a => ⟨a.1, a.2.1, a.2.2.1, a.2.2.2⟩) (fun _ => rfl)
def good47 (x : S47) : Prop := (fun n_ : Int => (Lit.int .i64 n_).wf = true) x.f0 ∧ (fun n_ : Int => (Lit.int .i64 n_).wf = true) x.f1
theorem opens47 : Qem Tryz.prog 47 k47 good47 := Qcd Tryz.underlying47 (by kernel_rfl) (Qbw rfl (by kernel_rfl) (Qb1 Tryz.underlying3) (Qcv rfl (by kernel_rfl) (Qb1 Tryz.underlying45))) (fun x : S47 => (x.f0, x.f1)) (fun a => ⟨a.1, a.2⟩) (fun _ => rfl)
def good30 (x : S30) : Prop := good24 x.f0 ∧ good27 x.f1 ∧ (fun xs_ : List (List (S47)) => xs_.length ≤ maxLen ∧ ∀ x_ ∈ xs_, (fun xs_ : List S47 => xs_.length ≤ maxLen ∧ ∀ x_ ∈ xs_, good47 x_) x_) x.f2
theorem opens30 : Qem Tryz.prog 30 k30 good30 := Qcd Tryz.underlying30 (by kernel_rfl) (Qbw rfl (by kernel_rfl) opens24 (Qbw rfl (by kernel_rfl) opens27 (Qcv rfl (by kernel_rfl) (Qc6 Tryz.underlying28 (by kernel_rfl) (Qc6 Tryz.underlying44 (by kernel_rfl) opens47))))) (fun x : S30 => (x.f0, x.f1, x.f2)) (fun a => ⟨a.1, a.2.1, a.2.2⟩) (fun _ => rfl)
end Go.Proofs.YtchpkjgibloleaaGreat.Z
namespace Go.Proofs.YtchpkjgibloleaaGreat.wholeSelfMove
set_option maxRecDepth 100000
set_option maxHeartbeats 8000000
open Go.ChangeShapes Go.WideShapes Go.ChangeAt Go.RowKit Go.Proofs.YtchpkjgibloleaaGreat.Open Go.Proofs.YtchpkjgibloleaaGreat.Z Go.Proofs.YtchpkjgibloleaaGreatW.PrintWords
theorem own : ownKnob Tryz.prog.godebug = none := by kernel_rfl
theorem laidOut : laidOutB Tryz.prog = true := by kernel_rfl
theorem lifted (PURE : ∀ (x0 : S30) (a1 : Int) (a2 : Int) (a3 : Int), good30 x0 → (fun n_ : Int => (Lit.int .u8 n_).wf = true) a1 → (fun n_ : Int => (Lit.int .u8 n_).wf = true) a2 → (fun n_ : Int => (Lit.int .u8 n_).wf = true) a3 → ∃ k, Qaf.F k x0.f0.f0 x0.f0.f1 x0.f0.f2 x0.f1.f0 x0.f1.f1 x0.f1.f2 x0.f1.f3 x0.f2 a1 a2 a3 true) (os : Os) (started : os.Started) (H : Type) (enc : TypeId × Value → H) :
    ReturnsInHanded {} Tryz.checked os 4 .any (Rows.wholeSelfMoveSpec.pre6 enc Tryz.prog Tryz.f4 Rows.wholeSelfMoveRow.domain false) (Rows.wholeSelfMoveSpec.post enc Tryz.prog Tryz.f4 false true false false) := by
 refine returnsInHanded_of_change_sized (C := Tryz.checked) own started (by kernel_rfl) Tryz.func4
  (ChangeSpec.witness6 (enc := enc) (C := Tryz.checked) false ⟨#[], #[(.agg #[(.int .i64 0), (.int .i64 0), (.slice none 0 0), (.int .i64 0), (.int .i64 0), (.int .i64 0), (.slice none 0 0), (.slice none 0 0)]), (.int .u8 0), (.int .u8 0), (.int .u8 0)], []⟩ 8 (by kernel_rfl) (by kernel_rfl) (by kernel_rfl) (by kernel_rfl)) ?_
 intro W base args ds gs before hval0 hW hcnd hsz0 _
 have hval : ∀ (j : Nat) t v, Tryz.f4.params[j]? = some t → args[j]? = some v → Value.okWide Tryz.prog W .any base t v := hval0
 have hW' := hW
 obtain ⟨p, q, hA0, hV, rfl, hfz, hnd⟩ := hW
 have hA : DataW.TrodAll enc Tryz.prog W 0 (fun _ => true) true Tryz.f4.params.toList args.toList ds p := hA0
 rw [Tryz.params4] at hA hval
 obtain ⟨v0, vs0, d0, ds0, p0, q0, hargs, rfl, rfl, h0, r0⟩ := trodAll_cons hA
 obtain ⟨v1, vs1, d1, ds1, p1, q1, rfl, rfl, rfl, h1, r1⟩ := trodAll_cons r0
 obtain ⟨v2, vs2, d2, ds2, p2, q2, rfl, rfl, rfl, h2, r2⟩ := trodAll_cons r1
 obtain ⟨v3, vs3, d3, ds3, p3, q3, rfl, rfl, rfl, h3, r3⟩ := trodAll_cons r2
 obtain ⟨rfl, rfl, rfl⟩ := trodAll_nil r3
 obtain rfl : args = #[v0, v1, v2, v3] := by cases args; simp_all
 obtain ⟨rfl, rfl⟩ := trodVars_none hV
 have k0 := h0
 have lt0 : ∀ x ∈ p0, x.block < W.heap.size := by obtain ⟨m, hm⟩ := k0; exact DataW.trod_lt m _ _ _ hm
 obtain ⟨cs0, x0, rfl, hk0, g0⟩ := arg_struct Tryz.underlying30 opens30 (hval 0 30 v0 rfl rfl) h0
 obtain ⟨A0_2, c0_2, A0_6, c0_6, A0_7, c0_7, rfl, hl0_2, hC0_2, hl0_6, hC0_6, hl0_7, hC0_7⟩ := k30_open hk0
 have k1 := h1
 have lt1 : ∀ x ∈ p1, x.block < W.heap.size := by obtain ⟨m, hm⟩ := k1; exact DataW.trod_lt m _ _ _ hm
 obtain ⟨a1, rfl, rfl, rfl, g1⟩ := open_int Tryz.underlying5 (hval 1 5 v1 rfl rfl) h1
 have k2 := h2
 have lt2 : ∀ x ∈ p2, x.block < W.heap.size := by obtain ⟨m, hm⟩ := k2; exact DataW.trod_lt m _ _ _ hm
 obtain ⟨a2, rfl, rfl, rfl, g2⟩ := open_int Tryz.underlying5 (hval 2 5 v2 rfl rfl) h2
 have k3 := h3
 have lt3 : ∀ x ∈ p3, x.block < W.heap.size := by obtain ⟨m, hm⟩ := k3; exact DataW.trod_lt m _ _ _ hm
 obtain ⟨a3, rfl, rfl, rfl, g3⟩ := open_int Tryz.underlying5 (hval 3 5 v3 rfl rfl) h3
 clear hA0 hval0 hsz0
 obtain ⟨k, hf⟩ := PURE x0 a1 a2 a3 g0 g1 g2 g3
 refine (Qaf.calls k (x0.f0.f0) (x0.f0.f1) A0_2 c0_2 (x0.f0.f2) (x0.f1.f0) (x0.f1.f1) (x0.f1.f2) A0_6 c0_6 (x0.f1.f3) A0_7 c0_7 (x0.f2) a1 a2 a3 true W hC0_2 hl0_2 hC0_6 hl0_6 hC0_7 hl0_7 hf).mono fun e W' ⟨he, bel0⟩ => ?_
 have bel := bel0
 subst he
 exact ⟨_, rfl, _, _, _, [], _, [], hW', trodAll_mk1 (shut_bool Tryz.underlying4 _), (trodAll_cons_mk (Below.trod laidOut (by kernel_rfl) (of_decide_eq_true (by kernel_rfl)) k0 bel lt0) (trodAll_cons_mk (Below.trod laidOut (by kernel_rfl) (of_decide_eq_true (by kernel_rfl)) k1 bel lt1) (trodAll_cons_mk (Below.trod laidOut (by kernel_rfl) (of_decide_eq_true (by kernel_rfl)) k2 bel lt2) (trodAll_cons_mk (Below.trod laidOut (by kernel_rfl) (of_decide_eq_true (by kernel_rfl)) k3 bel lt3) trodAll_mk0)))), rfl, bel.frame _, fun h => by cases h⟩
theorem over (PURE : ∀ (x0 : S30) (a1 : Int) (a2 : Int) (a3 : Int), good30 x0 → (fun n_ : Int => (Lit.int .u8 n_).wf = true) a1 → (fun n_ : Int => (Lit.int .u8 n_).wf = true) a2 → (fun n_ : Int => (Lit.int .u8 n_).wf = true) a3 → ∃ k, Qaf.F k x0.f0.f0 x0.f0.f1 x0.f0.f2 x0.f1.f0 x0.f1.f1 x0.f1.f2 x0.f1.f3 x0.f2 a1 a2 a3 true) : Rows.wholeSelfMoveRow.holds Tryz.pinned (OpenSpec.ofChange Rows.wholeSelfMoveSpec) :=
 OpenClaim.holds_of_wide 4 Tryz.f4 rfl rfl rfl rfl rfl rfl rfl ⟨rfl, rfl, rfl, rfl, rfl⟩ rfl rfl rfl rfl rfl (by kernel_rfl) Tryz.func4 (by kernel_rfl)
  (of_decide_eq_true (by kernel_rfl)) (by unfold Func.isWrapper; first | (rw [if_pos (by decide +kernel)]; kernel_rfl) | (rw [if_neg (by decide +kernel)]; exact ⟨rfl, rfl⟩))
  (fun os started H enc _ => lifted PURE os started H enc)
end Go.Proofs.YtchpkjgibloleaaGreat.wholeSelfMove
namespace Go.Proofs.YtchpkjgibloleaaGreat.Z
set_option maxRecDepth 100000
set_option maxHeartbeats 8000000
open Go.RowKit Go.Proofs.YtchpkjgibloleaaGreatW.PrintWords Go.Proofs.YtchpkjgibloleaaGreatW.PrintLast Go.Proofs.YtchpkjgibloleaaGreatW.PrintMore
def InR (l : List S47) : Prop := ∀ y ∈ l, (0 ≤ y.f0 ∧ y.f0 < 1000) ∧ 0 ≤ y.f1 ∧ y.f1 < 1000
structure Rr (nl : Int) (s t : Bs) : Prop where
 gs : Goo s
 gt : Goo t
 sub : ∀ y ∈ s.set, y ∈ t.set
 old : ∀ y ∈ s.set, y.f1 ≠ nl
 inr : InR t.set
theorem goo_len {s : Bs} (h : Goo s) : s.set.length ≤ 10000000 := by have := h.2.1; omega
theorem then_inv {f : Nat → OBs} {K : Nat → Bs → OBs} {s2 : Bs} (hf : ∃ x, Ev f x) (h : Ev (fun k => (f k).then (K k)) (s2, none)) : ∃ s1, Ev f (s1, none) ∧ Ev (fun k => K k s1) (s2, none) := by
 obtain ⟨⟨s1, q⟩, hx⟩ := hf
 cases q with
 | none =>
  refine ⟨s1, hx, ?_⟩
  obtain ⟨K1, hx⟩ := hx
  obtain ⟨K2, h⟩ := h
  exact ⟨K1 + K2, fun n hn => by have h1 := h n (by omega); simp only [hx n (by omega)] at h1; exact h1⟩
 | some q =>
  have : Ev (fun k => (f k).then (K k)) (s1, some q) := by
   obtain ⟨K1, hx⟩ := hx
   exact ⟨K1, fun n hn => by show OBs.then (f n) (K n) = _; rw [hx n hn]; rfl⟩
  have e := Ev.det h this
  cases (Prod.mk.inj e).2
theorem Rr.cost {nl : Int} {s t : Bs} (h : Rr nl s t) : Rr nl s.cost t.cost := ⟨h.gs, h.gt, h.sub, h.old, h.inr⟩
theorem run_eq (k : Nat) (bc : List S41) (mc : List S59) (bt mt : S37) (rows : List S180) (h : ∀ r ∈ rows, okAr bc.length mc.length r) (s : Bs) : runF k bc mc bt mt rows s = runE k (rows.flatMap (rowE bc mc)) s fun s1 => endF k bt mt (mc.length : Int) s1 := rows_eq k bc mc _ rows h s
structure Eqs (s t : Bs) : Prop where
 gs : Goo s
 set : s.set = t.set
 most : s.most = t.most
 big : s.largest = t.largest
 len : (s.set.length : Int) ≤ s.largest
theorem Eqs.gt {s t : Bs} (h : Eqs s t) : Goo t := ⟨h.set ▸ h.gs.1, h.set ▸ h.gs.2.1, h.most ▸ h.gs.2.2⟩
def Rel (p p' : Bs × Pan) : Prop := p.1.set = p'.1.set ∧ p.1.largest = p'.1.largest ∧ p.2.map Prod.fst = p'.2.map Prod.fst ∧ (p.2 = none → Eqs p.1 p'.1)
def RelO (f g : Nat → OBs) : Prop := ∃ p p', Ev f p ∧ Ev g p' ∧ Rel p p'
theorem RelO.then {f g : Nat → OBs} {K L : Nat → Bs → OBs} (h : RelO f g) (hk : ∀ s t, Eqs s t → RelO (fun k => K k s) (fun k => L k t)) : RelO (fun k => (f k).then (K k)) (fun k => (g k).then (L k)) := by
 obtain ⟨⟨s, q⟩, ⟨t, q'⟩, e1, e2, h1, h2, h3, h4⟩ := h
 cases q with
 | none =>
  cases q' with
  | none =>
   obtain ⟨p, p', e3, e4, h5⟩ := hk s t (h4 rfl)
   exact ⟨p, p', Ev.then e1 e3, Ev.then e2 e4, h5⟩
  | some q' => simp at h3
 | some q =>
  cases q' with
  | none => simp at h3
  | some q' => exact ⟨(s, some q), (t, some q'), Ev.then e1 (Ev.val rfl), Ev.then e2 (Ev.val rfl), h1, h2, h3, fun h => by cases h⟩
theorem rel_of {s t : Bs} (h : Eqs s t) : RelO (fun _ => some (s, none)) (fun _ => some (t, none)) := ⟨_, _, Ev.val rfl, Ev.val rfl, h.set, h.big, rfl, fun _ => h⟩
theorem rel_become {s t : Bs} (h : Eqs s t) {l : List S47} (hA : Asc l) (x y : Int) : Rel (Qci s.cost l x) (Qci t.cost l y) := by
 have hb : max s.cost.largest (l.length : Int) = max t.cost.largest (l.length : Int) := by show max s.largest _ = max t.largest _; rw [h.big]
 unfold Qci
 by_cases hl : (l.length : Int) > s.cost.most
 ·rw [if_pos hl, if_pos (by show (l.length : Int) > t.most; rw [← h.most]; exact hl)]
  exact ⟨rfl, hb, rfl, fun h => by cases h⟩
 ·rw [if_neg hl, if_neg (by show ¬ (l.length : Int) > t.most; rw [← h.most]; exact hl)]
  have hm : s.cost.most = 1048576 := h.gs.2.2
  exact ⟨rfl, hb, rfl, fun _ => ⟨⟨hA, by show l.length ≤ _; omega, hm⟩, rfl, h.most, hb, by show (l.length : Int) ≤ max s.largest _; omega⟩⟩
theorem rel_use {s t : Bs} (h : Eqs s t) (v r x y : Int) : RelO (fun k => useF k s v r x) (fun k => useF k t v r y) := by
 obtain ⟨b, hb, _⟩ := has_spec s.set ⟨v, wrap64 (2 * r)⟩ (by have := goo_len h.gs; omega) h.gs.1
 have hb' := hb
 rw [h.set] at hb'
 unfold useF
 refine ⟨_, _, Ev.then hb (Ev.val rfl), Ev.then hb' (Ev.val rfl), h.set, h.big, by cases b <;> rfl, fun _ => ⟨h.gs, h.set, h.most, h.big, h.len⟩⟩
theorem rel_copy {s t : Bs} (h : Eqs s t) (d a x y : Int) : RelO (fun k => copyF k s d a x) (fun k => copyF k t d a y) := by
 obtain ⟨r, er, hA, _⟩ := copyS_spec s.set d a (goo_len h.gs) h.gs.1
 have er' := er
 rw [h.set] at er'
 unfold copyF
 exact ⟨_, _, Ev.then er (Ev.val rfl), Ev.then er' (Ev.val rfl), rel_become h hA x y⟩
theorem rel_move {s t : Bs} (h : Eqs s t) (d a x y : Int) : RelO (fun k => moveF k s d a x) (fun k => moveF k t d a y) := by
 obtain ⟨r, er, hA, _⟩ := moveS_spec s.set d a (goo_len h.gs) h.gs.1
 have er' := er
 rw [h.set] at er'
 unfold moveF
 exact ⟨_, _, Ev.then er (Ev.val rfl), Ev.then er' (Ev.val rfl), rel_become h hA x y⟩
theorem rel_instrD {s t : Bs} (h : Eqs s t) (d : Bool) (iD mD x y : Int) : RelO (fun k => instrD k s d iD mD x) (fun k => instrD k t d iD mD y) := by
 unfold instrD
 cases d with
 | false => exact rel_of h
 | true =>
  obtain ⟨r, er, hA, _⟩ := define_spec s.set iD (wrap64 (2 * mD)) (goo_len h.gs) h.gs.1
  have er' := er
  rw [h.set] at er'
  exact ⟨_, _, Ev.pos (c := true = true) rfl (Ev.then er (Ev.val rfl)), Ev.pos (c := true = true) rfl (Ev.then er' (Ev.val rfl)), rel_become h hA x y⟩
theorem rel_instrB {s t : Bs} (h : Eqs s t) (d b : Bool) (iD iB mD mB x y : Int) : RelO (fun k => instrB k s d b iD iB mD mB x) (fun k => instrB k t d b iD iB mD mB y) := by
 unfold instrB
 cases b with
 | false => exact rel_instrD h d iD mD x y
 | true => exact (rel_use h iB mB x y).then fun s1 t1 h1 => rel_instrD h1 d iD mD x y
theorem rel_instr {s t : Bs} (h : Eqs s t) (i : S41) (m : S59) (x y : Int) : RelO (fun k => instrF k s i m x) (fun k => instrF k t i m y) := by
 unfold instrF instrA
 rw [of_some]
 simp only [Option.bind_some]
 cases (OF i.f0).2.1 with
 | false => exact rel_instrB h _ _ _ _ _ _ x y
 | true => exact (rel_use h _ _ x y).then fun s1 t1 h1 => rel_instrB h1 _ _ _ _ _ _ x y
theorem rel_ev {s t : Bs} (h : Eqs s t) (e : Evt) (x y : Int) : RelO (fun k => evF k e x s) (fun k => evF k e y t) := by
 cases e with
 | cp d a => exact rel_copy h d a x y
 | mv d a => exact rel_move h d a x y
 | ins i m => exact rel_instr h i m x y
theorem rel_end {s t : Bs} (h : Eqs s t) (bt mt : S37) (n n' : Int) : RelO (fun k => endF k bt mt n s) (fun k => endF k bt mt n' t) := by
 unfold endF
 by_cases h1 : bt.f0 = 1
 ·simp only [if_pos h1]; exact rel_of h
 ·simp only [if_neg h1]; exact rel_use h _ _ _ _
theorem rel_run (K L : Nat → Bs → OBs) (hK : ∀ s t, Eqs s t → RelO (fun k => K k s) (fun k => L k t)) : ∀ (E E' : List (Evt × Int)) (s t : Bs), era E = era E' → Eqs s t → RelO (fun k => runE k E s (K k)) (fun k => runE k E' t (L k))
 | [], [], s, t, _, h => hK s t h
 | [], b :: E', s, t, he, h => by cases he
 | a :: E, [], s, t, he, h => by cases he
 | a :: E, b :: E', s, t, he, h => by
  have h1 : a.1 = b.1 := (List.cons.inj he).1
  have h2 : era E = era E' := (List.cons.inj he).2
  exact RelO.then (f := fun k => evF k a.1 a.2 s) (g := fun k => evF k b.1 b.2 t) (h1 ▸ rel_ev h a.1 a.2 b.2) fun s1 t1 h3 => rel_run K L hK E E' s1 t1 h2 h3
theorem self_ev {s t : Bs} (h : Eqs s t) (d y : Int) : ∃ t1, Ev (fun k => evF k (.mv d d) y t) (t1, none) ∧ Eqs s t1 := by
 have hl : t.set.length ≤ 1048576 := h.gt.2.1
 have hm : t.cost.most = 1048576 := h.gt.2.2
 refine ⟨t.cost.become t.set, ?_, h.gs, h.set, h.most, ?_, h.len⟩
 ·show Ev (fun k => moveF k t d d y) _
  unfold moveF
  refine Ev.then (a := t.set) ?_ (Ev.val ?_)
  ·unfold moveS
   exact Ev.pos (by omega) (Ev.pos rfl (Ev.pos h.gt.1 (Ev.val rfl)))
  ·unfold Qci
   rw [if_neg (by omega)]
 ·show s.largest = max t.largest (t.set.length : Int)
  have := h.len
  rw [h.set] at this
  rw [← h.big]; omega
theorem reg_is {q : Int} : isSl (2 * q) = false := by
 unfold isSl
 rw [Int.mul_tmod_right 2 q]; rfl
theorem rd59 (l : List S59) (i : Nat) (h : i < l.length) : Qag l (i : Int) = l[i] := by
 show l.getD i z59 = _
 rw [List.getD_eq_getElem?_getD, List.getElem?_eq_getElem h]; rfl
theorem rd57 (l : List S57) (i : Nat) (h : i < l.length) : Qac l (i : Int) = l[i] := by
 show l.getD i z57 = _
 rw [List.getD_eq_getElem?_getD, List.getElem?_eq_getElem h]; rfl
theorem mem59 {l : List S59} {P : S59 → Prop} : (∀ i : Nat, i < l.length → P (Qag l (i : Int))) ↔ ∀ m ∈ l, P m := by
 constructor
 ·intro h m hm
  obtain ⟨i, hi, rfl⟩ := List.mem_iff_getElem.1 hm
  rw [← rd59 l i hi]; exact h i hi
 ·intro h i hi
  rw [rd59 l i hi]; exact h _ (List.getElem_mem hi)
theorem rel_after {f g : Nat → OBs} {G : Nat → Bs → OBs} {t : Bs} (h : Ev g (t, none)) (r : RelO f (fun k => G k t)) : RelO f (fun k => (g k).then (G k)) := by
 obtain ⟨p, p', e1, e2, h3⟩ := r
 exact ⟨p, p', e1, Ev.then h e2, h3⟩
theorem block_rel (bc : List S41) (A B : List S59) (v : S59) (hv : isM v = true) (hv5 : v.f5 = v.f6) (bt mt : S37) (inv : List S47) (h1 : bc.length ≤ 100000000) (h2 : (A ++ B).length ≤ 10000000) (hi : inv.length ≤ 1000) (hA : Asc inv) :
    ∃ x x', Ev (fun k => Qdj k bc (A ++ B) bt mt inv 1048576) x ∧ Ev (fun k => Qdj k bc (A ++ v :: B) bt mt inv 1048576) x' ∧ x.f0 = x'.f0 ∧ x.f1 = x'.f1 ∧ x.f4 = x'.f4 := by
 have hlen : (A ++ v :: B).length ≤ 100000000 := by
  rw [List.length_append] at h2 ⊢
  rw [List.length_cons]; omega
 obtain ⟨p, hp, hq, hz, ha, he⟩ := align_sp bc (A ++ B) h1 (by omega) (bc.length + 1) 0 0 [] (by omega) (by omega) (by omega) (by simp) (by simp)
 obtain ⟨p', hp', hq', hz', ha', he'⟩ := align_sp bc (A ++ v :: B) h1 hlen (bc.length + 1) 0 0 [] (by omega) (by omega) (by omega) (by simp) (by simp)
 simp only [List.drop_zero] at ha he ha' he'
 obtain ⟨e1, e2⟩ := evs_ins v hv (bc.length + 1) bc A B
 obtain ⟨t, ht⟩ := terms_some bt.f0 bt.f1 bt.f2 bt.f3 mt.f0 mt.f1 mt.f2 mt.f3
 by_cases h0 : p.2.2 = 0
 ·have ha0 := ha.1 h0
  have h0' : p'.2.2 = 0 := ha'.2 (e1.trans ha0)
  cases t with
  | true =>
   obtain ⟨E1, E2, e3, e4⟩ := e2 ha0
   have hE := he h0
   have hE' := he' h0'
   rw [e3] at hE
   rw [e4] at hE'
   obtain ⟨Ea, Eb, hEE, hEa, hEb⟩ := List.map_eq_append_iff.1 (show List.map Prod.fst (p.1.flatMap (rowE bc (A ++ B))) = E1 ++ E2 from hE)
   obtain ⟨Fa, Fb, hFF, hFa, hFb⟩ := List.map_eq_append_iff.1 (show List.map Prod.fst (p'.1.flatMap (rowE bc (A ++ v :: B))) = E1 ++ mvE v :: E2 from hE')
   obtain ⟨f, Fc, rfl, hf, hFc⟩ := List.map_eq_cons_iff.1 hFb
   have g0 : Eqs ⟨inv, 1048576, 0, (inv.length : Int)⟩ ⟨inv, 1048576, 0, (inv.length : Int)⟩ := ⟨⟨hA, by show inv.length ≤ _; omega, rfl⟩, rfl, rfl, rfl, Int.le_refl _⟩
   have hr : RelO (fun k => runF k bc (A ++ B) bt mt p.1 ⟨inv, 1048576, 0, (inv.length : Int)⟩) (fun k => runF k bc (A ++ v :: B) bt mt p'.1 ⟨inv, 1048576, 0, (inv.length : Int)⟩) := by
    simp only [run_eq _ bc _ bt mt p.1 hq, run_eq _ bc _ bt mt p'.1 hq', hEE, hFF, runE_app]
    refine rel_run (fun k s1 => runE k Eb s1 fun s1 => endF k bt mt ((A ++ B).length : Int) s1) (fun k t1 => runE k (f :: Fc) t1 fun s1 => endF k bt mt ((A ++ v :: B).length : Int) s1) (fun s1 t1 hR => ?_) Ea Fa _ _ (hEa.trans hFa.symm) g0
    obtain ⟨t2, e5, e6⟩ := self_ev hR v.f5 f.2
    refine rel_after (g := fun k => evF k f.1 f.2 t1) (t := t2) ?_ (rel_run _ _ (fun s t h => rel_end h bt mt _ _) Eb Fc s1 t2 (hEb.trans hFc.symm) e6)
    rw [hf]
    show Ev (fun k => evF k (.mv v.f5 v.f6) f.2 t1) (t2, none)
    rw [← hv5]; exact e5
   obtain ⟨y, y', e5, e6, h3, h4, h5, _⟩ := hr
   have hw : (whyOf ((A ++ B).length : Int) y.2).1 = (whyOf ((A ++ v :: B).length : Int) y'.2).1 := by
    cases ha : y.2 <;> cases hb : y'.2 <;> rw [ha, hb] at h5 <;> simp at h5 <;> simp [whyOf, h5]
   refine ⟨okF ((A ++ B).length : Int) y, okF ((A ++ v :: B).length : Int) y', ?_, ?_, ?_, hw, h4⟩
   ·unfold Qdj
    refine Ev.neg (by omega) (Ev.then hp (Ev.pos h0 (Ev.then (g := fun _ => _) ⟨0, fun _ _ => ht⟩ (Ev.pos rfl ?_))))
    unfold goF
    exact Ev.pos ⟨by omega, hA⟩ (Ev.then e5 (Ev.val rfl))
   ·unfold Qdj
    refine Ev.neg (by omega) (Ev.then hp' (Ev.pos h0' (Ev.then (g := fun _ => _) ⟨0, fun _ _ => ht⟩ (Ev.pos rfl ?_))))
    unfold goF
    exact Ev.pos ⟨by omega, hA⟩ (Ev.then e6 (Ev.val rfl))
   ·show (if _ then y.1.set else []) = if _ then y'.1.set else []
    rw [hw, h3]
  | false =>
   refine ⟨⟨[], 20, p.2.1, 0, (inv.length : Int)⟩, ⟨[], 20, p'.2.1, 0, (inv.length : Int)⟩, ?_, ?_, rfl, rfl, rfl⟩
   ·unfold Qdj
    exact Ev.neg (by omega) (Ev.then hp (Ev.pos h0 (Ev.then (g := fun _ => _) ⟨0, fun _ _ => ht⟩ (Ev.neg (by simp) (Ev.val rfl)))))
   ·unfold Qdj
    exact Ev.neg (by omega) (Ev.then hp' (Ev.pos h0' (Ev.then (g := fun _ => _) ⟨0, fun _ _ => ht⟩ (Ev.neg (by simp) (Ev.val rfl)))))
 ·have h0' : ¬ p'.2.2 = 0 := fun h => h0 (ha.2 (e1.symm.trans (ha'.1 h)))
  refine ⟨⟨[], p.2.2, p.2.1, 0, (inv.length : Int)⟩, ⟨[], p'.2.2, p'.2.1, 0, (inv.length : Int)⟩, ?_, ?_, rfl, ?_, rfl⟩
  ·unfold Qdj
   exact Ev.neg (by omega) (Ev.then hp (Ev.neg h0 (Ev.val rfl)))
  ·unfold Qdj
   exact Ev.neg (by omega) (Ev.then hp' (Ev.neg h0' (Ev.val rfl)))
  ·show p.2.2 = p'.2.2
   rw [hz.resolve_left h0, hz'.resolve_left h0']
def Sq (r s : S51) : Prop := r.f0 = s.f0 ∧ r.f1 = s.f1 ∧ r.f4 = s.f4 ∧ r.f6 = s.f6
theorem edges_rel (i : Nat) (W : List (List S47)) (out : List S47) (hW : ∀ i : Nat, i < W.length → (Qax W (i : Int)).length ≤ 1000 ∧ Asc (Qax W (i : Int))) (ho : out.length ≤ 100000000) (hA : Asc out) (K K' : Nat → S51 → Option S51)
    (hK : ∀ r s, Sq r s → ∃ r' s', Ev (fun k => K k r) r' ∧ Ev (fun k => K' k s) s' ∧ Sq r' s') : ∀ (l : List Int), (∀ t ∈ l, 0 ≤ t ∧ t < (W.length : Int)) → ∀ (j : Nat) (r s : S51), Sq r s → ∃ r' s', Ev (fun k => Qeb k i W out l j r (K k)) r' ∧ Ev (fun k => Qeb k i W out l j s (K' k)) s' ∧ Sq r' s' := by
 intro l
 induction l with
 | nil => exact fun _ j r s h => hK r s h
 | cons t l ih =>
  intro hl j r s hs
  have ht := hl t (by simp)
  have hb : (Qax W t).length ≤ 1000 ∧ Asc (Qax W t) := by
   have := hW t.toNat (by omega)
   rwa [Int.toNat_of_nonneg ht.1] at this
  obtain ⟨p, hp, hq⟩ := imp_sp out (Qax W t) ho (by omega) hA hb.2
  have hs2 : Sq (edgeR r out.length (Qax W t).length) (edgeR s out.length (Qax W t).length) := ⟨hs.1, hs.2.1, by show wrap64 (r.f4 + 1) = wrap64 (s.f4 + 1); rw [hs.2.2.1], hs.2.2.2⟩
  simp only [Qeb, if_pos ht]
  by_cases hz : p.2.2 = 0
  ·obtain ⟨r', s', e1, e2, h3⟩ := ih (fun u hu => hl u (by simp [hu])) (j + 1) _ _ hs2
   exact ⟨r', s', Ev.then hp (Ev.pos hz e1), Ev.then hp (Ev.pos hz e2), h3⟩
  ·exact ⟨_, _, Ev.then hp (Ev.neg hz (Ev.val rfl)), Ev.then hp (Ev.neg hz (Ev.val rfl)), rfl, rfl, hs2.2.2.1, hs2.2.2.2⟩
theorem blocks_rel (SB : List S39) (TB TB' : List S57) (W : List (List S47)) (m : Int) (hTT : TB'.length = TB.length) (hW : ∀ i : Nat, i < W.length → (Qax W (i : Int)).length ≤ 1000 ∧ Asc (Qax W (i : Int))) (hS : ∀ i : Nat, i < SB.length → okTerm (Qal SB (i : Int)).f1.f0 (Qal SB (i : Int)).f1.f1 (Qal SB (i : Int)).f1.f2 (Qal SB (i : Int)).f1.f3 m W.length)
    (hB : ∀ i : Nat, i < SB.length → ∃ x x', Ev (fun k => Qdj k (Qal SB (i : Int)).f0 (Qac TB (i : Int)).f0 (Qal SB (i : Int)).f1 (Qac TB (i : Int)).f1 (Qax W (i : Int)) 1048576) x ∧ Ev (fun k => Qdj k (Qal SB (i : Int)).f0 (Qac TB' (i : Int)).f0 (Qal SB (i : Int)).f1 (Qac TB' (i : Int)).f1 (Qax W (i : Int)) 1048576) x' ∧ (x.f0 = x'.f0 ∧ x.f1 = x'.f1 ∧ x.f4 = x'.f4) ∧ (x.f1 = 0 → x.f0.length ≤ 1048576 ∧ Asc x.f0))
    (hl1 : SB.length ≤ TB.length) (hl2 : SB.length ≤ W.length) :
    ∀ n (i : Nat) (r s : S51), SB.length - i = n → i ≤ SB.length → Sq r s → ∃ r' s', Ev (fun k => Qcw k TB W (SB.drop i) i r) r' ∧ Ev (fun k => Qcw k TB' W (SB.drop i) i s) s' ∧ Sq r' s' := by
 intro n
 induction n with
 | zero =>
  intro i r s hn hi hs
  rw [List.drop_of_length_le (by omega)]
  exact ⟨r, s, ⟨0, fun _ _ => rfl⟩, ⟨0, fun _ _ => rfl⟩, hs⟩
 | succ n ih =>
  intro i r s hn hi hs
  have hd : SB.drop i = Qal SB (i : Int) :: SB.drop (i + 1) := Qcp SB z39 i (by omega)
  rw [hd]
  have c1 : (i : Int) < (TB.length : Int) ∧ (i : Int) < (W.length : Int) := ⟨by omega, by omega⟩
  have c2 : (i : Int) < (TB'.length : Int) ∧ (i : Int) < (W.length : Int) := ⟨by omega, by omega⟩
  simp only [Qcw, if_pos c1, if_pos c2]
  obtain ⟨x, x', hx, hx', ⟨q0, q1, q4⟩, hok⟩ := hB i (by omega)
  have hn2 : Sq (nextR r x) (nextR s x') := ⟨hs.1, hs.2.1, hs.2.2.1, by show (if r.f6 < x.f4 then x.f4 else r.f6) = if s.f6 < x'.f4 then x'.f4 else s.f6; rw [hs.2.2.2, q4]⟩
  by_cases hz : x.f1 = 0
  ·obtain ⟨tg, ht, htg⟩ := succ_some (hS i (by omega))
   obtain ⟨r', s', e1, e2, h3⟩ := edges_rel i W x.f0 hW (by have := (hok hz).1; omega) (hok hz).2 (fun k r2 => Qcw k TB W (SB.drop (i + 1)) (i + 1) r2) (fun k r2 => Qcw k TB' W (SB.drop (i + 1)) (i + 1) r2) (fun r s h => ih (i + 1) r s (by omega) (by omega) h) tg htg 0 _ _ hn2
   rw [q0] at e2
   exact ⟨r', s', Ev.then hx (Ev.pos hz (Ev.then (g := fun _ => _) ⟨0, fun _ _ => ht⟩ e1)), Ev.then hx' (Ev.pos (q1 ▸ hz) (Ev.then (g := fun _ => _) ⟨0, fun _ _ => ht⟩ e2)), h3⟩
  ·exact ⟨_, _, Ev.then hx (Ev.neg hz (Ev.val rfl)), Ev.then hx' (Ev.neg (q1 ▸ hz) (Ev.val rfl)), q1, rfl, hn2.2.2.1, hn2.2.2.2⟩
theorem rd57_eq (TB : List S57) (i : Nat) (b : S57) (h : i < TB.length) : Qac (TB.set i b) (i : Int) = b := by
 rw [rd57 _ i (by rw [List.length_set]; exact h), List.getElem_set_self]
theorem rd57_ne (TB : List S57) (i j : Nat) (b : S57) (h : j < TB.length) (hne : i ≠ j) : Qac (TB.set i b) (j : Int) = Qac TB (j : Int) := by
 rw [rd57 _ j (by rw [List.length_set]; exact h), rd57 _ j h, List.getElem_set_ne hne]
theorem begin_all (sa sr : Int) (SB : List S39) (ta tr ts : Int) (W : List (List S47)) (h : W.length ≤ 1000) (h0 : 0 < W.length) (hc : ∀ i : Nat, i < W.length → (Qax W (i : Int)).length ≤ 1000) :
    ∃ e x, Ev (fun k => Qbe.f k (Qax W 0) sa) e ∧ ∀ TB, Ev (fun k => Qaw.f k sa sr SB ta tr ts TB W) (e.2.2, 0, 0, 0, 0, wrap64 (1 + ((Qax W 0).length : Int)), x) := by
 obtain ⟨e, he⟩ := entry_ev (Qax W 0) sa (by have := hc 0 h0; have e : ((0 : Nat) : Int) = 0 := rfl; rw [e] at this; omega)
 have go : ∀ (b1 b2 b3 b4 b5 b0 : Int) (m i : Nat) (x : Int), W.length - i = m → i ≤ W.length → ∃ y, ∀ TB, Ev (fun k => Qaw.l0 k W (W.length : Int) (i : Int) sa sr SB ta tr ts TB W b0 b1 b2 b3 b4 b5 x) (e.2.2, b1, b2, b3, b4, b5, y) := by
  intro b1 b2 b3 b4 b5 b0 m
  induction m with
  | zero => exact fun i x hm hi => ⟨x, fun TB => Ev.up (g := fun k => _) (fun k => by rw [Qaw.l0]) (Ev.neg (by omega) (Ev.pos (by omega) (Ev.then he (Ev.val rfl))))⟩
  | succ m ih =>
   intro i x hm hi
   obtain ⟨y, hy⟩ := ih (i + 1) (mx x ((Qax W (i : Int)).length : Int)) (by omega) (by omega)
   exact ⟨y, fun TB => Ev.up (g := fun k => _) (fun k => by rw [Qaw.l0]) (Ev.pos (by omega) (Ev.pos (by omega) (Ev.pos (by omega) (by rw [w64s (n := W.length) (by omega) (by omega)]; exact hy TB))))⟩
 obtain ⟨y, hy⟩ := go 0 0 0 0 (wrap64 (1 + ((Qax W 0).length : Int))) 0 _ 0 0 rfl (by omega)
 exact ⟨e, y, he, fun TB => by unfold Qaw.f; exact Ev.pos (by omega) (hy TB)⟩
theorem self_mi {s r q : Int} (hq0 : 0 ≤ q) (hq1 : q < r) (hr : r ≤ 100) : okMI ⟨18, 0, 0, 0, 0, 2 * q, 2 * q⟩ r s := by
 refine ⟨rfl, ?_⟩
 rw [if_pos (show (18 : Int) = 18 from rfl)]
 exact ⟨⟨by rw [reg_is, Bool.and_false], loc_reg hq0 hq1 (by omega), loc_reg hq0 hq1 (by omega)⟩, rfl, rfl, rfl, rfl⟩
theorem self_ok {sa sr : Int} {SB : List S39} {ta tr ts : Int} {TB : List S57} {W : List (List S47)} (hB : Bnd sr SB tr ts TB W) (b2 : tr ≤ 100) (hw : ∀ i : Nat, i < TB.length → (Qac TB (i : Int)).f0.length ≤ 900) (hO : okAll sa sr SB ta tr ts TB W) (i : Nat) (hi : i < TB.length) (n : Nat) {q : Int} (hq0 : 0 ≤ q) (hq1 : q < tr) :
    ∃ r s, Ev (fun k => Qc1 k sa sr SB ta tr ts TB W) r ∧ Ev (fun k => Qc1 k sa sr SB ta tr ts (TB.set i ⟨(Qac TB (i : Int)).f0.take n ++ ⟨18, 0, 0, 0, 0, 2 * q, 2 * q⟩ :: (Qac TB (i : Int)).f0.drop n, (Qac TB (i : Int)).f1⟩) W) s ∧
     (Qcj ((Qac TB (i : Int)).f0.take n ++ ⟨18, 0, 0, 0, 0, 2 * q, 2 * q⟩ :: (Qac TB (i : Int)).f0.drop n) 0 → Sq r s) ∧
     (¬ Qcj ((Qac TB (i : Int)).f0.take n ++ ⟨18, 0, 0, 0, 0, 2 * q, 2 * q⟩ :: (Qac TB (i : Int)).f0.drop n) 0 → s.f0 = 15) := by
 obtain ⟨hO1, hO2, hO3, hO4⟩ := id hO
 have hSW : W.length = SB.length := by have := hO4.1; omega
 have hST : TB.length = SB.length := by have := hO3.1; omega
 generalize hv : (⟨18, 0, 0, 0, 0, 2 * q, 2 * q⟩ : S59) = v
 have hvi : okMI v tr ts := hv ▸ self_mi hq0 hq1 b2
 have hv18 : isM v = true := by rw [← hv]; rfl
 have hv5 : v.f5 = v.f6 := by rw [← hv]
 generalize hcode : (Qac TB (i : Int)).f0 = code at *
 have hcl : code.length ≤ 900 := by rw [← hcode]; exact hw i hi
 have hcut : code.take n ++ code.drop n = code := List.take_append_drop n code
 generalize hnew : (⟨code.take n ++ v :: code.drop n, (Qac TB (i : Int)).f1⟩ : S57) = nb
 have hnl : (code.take n ++ v :: code.drop n).length = code.length + 1 := by
  rw [List.length_append, List.length_cons, List.length_take, List.length_drop]; omega
 have hlen : (TB.set i nb).length = TB.length := List.length_set
 have hrd : ∀ j : Nat, j < TB.length → (j = i ∧ Qac (TB.set i nb) (j : Int) = nb) ∨ (j ≠ i ∧ Qac (TB.set i nb) (j : Int) = Qac TB (j : Int)) := fun j hj => by
  by_cases h : j = i
  ·subst h; exact Or.inl ⟨rfl, rd57_eq TB j nb hj⟩
  ·exact Or.inr ⟨h, rd57_ne TB i j nb hj (fun e => h e.symm)⟩
 have hB' : Bnd sr SB tr ts (TB.set i nb) W := by
  refine ⟨hB.b1, hB.b2, hB.b3, hB.l1, by rw [hlen]; exact hB.l2, hB.l3, hB.c1, fun j hj => ?_, hB.c3⟩
  rw [hlen] at hj
  rcases hrd j hj with ⟨_, e⟩ | ⟨_, e⟩
  ·rw [e, ← hnew]; show (code.take n ++ v :: code.drop n).length ≤ _; omega
  ·rw [e]; exact hB.c2 j hj
 have hMo := hO2.2.2
 have hMi : ∀ m ∈ code, okMI m tr ts := by
  have := (hMo i hi).1.1
  rw [hcode] at this
  exact mem59.1 this
 have hMi' : ∀ m ∈ code.take n ++ v :: code.drop n, okMI m tr ts := by
  intro m hm
  rcases List.mem_append.1 hm with h | h
  ·exact hMi m (List.mem_of_mem_take h)
  ·rcases List.mem_cons.1 h with h | h
   ·rw [h]; exact hvi
   ·exact hMi m (List.mem_of_mem_drop h)
 have hold : ∀ j : Nat, j < TB.length → j ≠ i → okMB (Qac (TB.set i nb) (j : Int)) tr ts (TB.set i nb).length := by
  intro j hj hji
  rcases hrd j hj with ⟨e, _⟩ | ⟨_, e⟩
  ·exact absurd e hji
  ·rw [e, hlen]; exact hMo j hj
 have hWa : ∀ j : Nat, j < W.length → (Qax W (j : Int)).length ≤ 1000 ∧ Asc (Qax W (j : Int)) := fun j hj => ⟨hB.c3 j hj, row_asc (hO4.2 j hj)⟩
 obtain ⟨e, x, he, hbeg⟩ := begin_all sa sr SB ta tr ts W hB.l3 (by have := hO1.2.1; omega) hB.c3
 obtain ⟨y, hy, hyq⟩ := cValid sa sr SB ta tr ts TB W hB.b1 hB.b2 hB.b3 hB.l1 hB.l2 hB.l3 hB.c1 hB.c2 hB.c3
 obtain rfl := hyq.2 hO
 by_cases hruns : Qcj (code.take n ++ v :: code.drop n) 0
 ·have hO' : okAll sa sr SB ta tr ts (TB.set i nb) W := by
    refine ⟨hO1, ⟨hO2.1, by rw [hlen]; exact hO2.2.1, fun j hj => ?_⟩, ⟨by rw [hlen]; exact hO3.1, hO3.2⟩, hO4⟩
    rw [hlen] at hj
    by_cases hji : j = i
    ·subst hji
     rw [rd57_eq TB j nb hj, hlen, ← hnew]
     exact ⟨⟨mem59.2 hMi', hruns⟩, (hMo j hj).2⟩
    ·exact hold j hj hji
  obtain ⟨y', hy', hyq'⟩ := cValid sa sr SB ta tr ts (TB.set i nb) W hB'.b1 hB'.b2 hB'.b3 hB'.l1 hB'.l2 hB'.l3 hB'.c1 hB'.c2 hB'.c3
  obtain rfl := hyq'.2 hO'
  by_cases h0 : e.2.2 = 0
  ·have key := blocks_rel SB TB (TB.set i nb) W sr hlen hWa (fun j hj => by rw [hSW]; exact (hO1.2.2 j hj).2) (fun j hj => by
       have hjT : j < TB.length := by omega
       have hjW : j < W.length := by omega
       obtain ⟨y2, hy2, hy3⟩ := block_ev (Qal SB (j : Int)).f0 (Qac TB (j : Int)).f0 (Qal SB (j : Int)).f1 (Qac TB (j : Int)).f1 (Qax W (j : Int)) (by have := hB.c1 j hj; omega) (by have := hB.c2 j hjT; omega) (by have := (hWa j hjW).1; omega) (hWa j hjW).2
       rcases hrd j hjT with ⟨e1, e⟩ | ⟨_, e⟩
       ·subst e1
        obtain ⟨z, z', hz, hz', hzq⟩ := block_rel (Qal SB (j : Int)).f0 (code.take n) (code.drop n) v hv18 hv5 (Qal SB (j : Int)).f1 (Qac TB (j : Int)).f1 (Qax W (j : Int)) (by have := hB.c1 j hj; omega) (by rw [hcut]; omega) (hWa j hjW).1 (hWa j hjW).2
        rw [hcut] at hz
        rw [hcode] at hy2 ⊢
        obtain rfl := Ev.det hy2 hz
        rw [e, ← hnew]
        exact ⟨y2, z', hy2, hz', hzq, hy3⟩
       ·rw [e]
        exact ⟨y2, y2, hy2, hy2, ⟨rfl, rfl, rfl⟩, hy3⟩) (by omega) (by omega) _ 0 (startR W x) (startR W x) rfl (by omega) ⟨rfl, rfl, rfl, rfl⟩
   rw [List.drop_zero] at key
   obtain ⟨r', s', h5, h6, h7⟩ := key
   have g1 := hbeg TB
   have g2 := hbeg (TB.set i nb)
   rw [h0] at g1 g2
   exact ⟨r', s', by unfold Qc1; exact Ev.then hy (Ev.pos rfl (Ev.then g1 (Ev.pos rfl h5))), by unfold Qc1; exact Ev.then hy' (Ev.pos rfl (Ev.then g2 (Ev.pos rfl h6))), fun _ => h7, fun h => absurd hruns h⟩
  ·exact ⟨_, _, by unfold Qc1; exact Ev.then hy (Ev.pos rfl (Ev.then (hbeg TB) (Ev.neg h0 (Ev.val rfl)))), by unfold Qc1; exact Ev.then hy' (Ev.pos rfl (Ev.then (hbeg (TB.set i nb)) (Ev.neg h0 (Ev.val rfl)))), fun _ => ⟨rfl, rfl, rfl, rfl⟩, fun h => absurd hruns h⟩
 ·obtain ⟨s', h6, h7⟩ := check15 (sa := sa) (SB := SB) hB' hO1 hO2.1 i (by rw [hlen]; exact hi) (fun j hj => hold j (by omega) (by omega)) (by rw [rd57_eq TB i nb hi, ← hnew]; exact mem59.2 hMi') (by rw [rd57_eq TB i nb hi, ← hnew]; exact hruns)
  obtain ⟨r, hr, _⟩ := check_ev (sa := sa) (ta := ta) hB
  exact ⟨r, s', hr, h6, fun h => absurd h hruns, fun _ => h7⟩
theorem take_getD {α : Type} (l : List α) (z : α) (i : Nat) (h : i < l.length) : l.take i ++ [l.getD i z] = l.take (i + 1) := by
 rw [List.take_add_one, List.getD_eq_getElem?_getD, List.getElem?_eq_getElem h]; rfl
theorem copy07_ev (a r : Int) (l : List S39) (hl : l.length ≤ 1000) (hc : ∀ j : Nat, j < l.length → (Qal l (j : Int)).f0.length ≤ 1000) (x0 x1 : Int) : ∀ (n i : Nat), l.length - i = n → i ≤ l.length →
    Ev (fun k => Qap.l0 k (i : Int) a r l x0 x1 (l.take i)) (x0, x1, l) := by
 intro n
 induction n with
 | zero =>
  intro i hn hi
  exact Ev.up (g := fun k => _) (fun k => rfl) (Ev.neg (by omega) (Ev.val (by rw [List.take_of_length_le (by omega)])))
 | succ n ih =>
  intro i hn hi
  have hw : wrap64 ((i : Int) + 1) = ((i + 1 : Nat) : Int) := by rw [w64i (by omega) (by omega)]; omega
  have hci := hc i (by omega)
  have hk : (l.take i).length ≤ 1000 := by rw [List.length_take]; omega
  have := ih (i + 1) (by omega) (by omega)
  rw [← take_getD l z39 i (by omega)] at this
  refine Ev.up (g := fun k => _) (fun k => rfl) (Ev.pos (by omega) (Ev.then (a := ([] : List S41)) (Ev.val rfl) (Ev.pos (by omega) (Ev.pos (by simp only [List.length_nil]; omega) (Ev.pos (by omega) ?_)))))
  rw [hw]; exact this
theorem copy08_ev (a r s : Int) (l : List S57) (hl : l.length ≤ 1000) (hc : ∀ j : Nat, j < l.length → (Qac l (j : Int)).f0.length ≤ 1000) (x0 x1 x2 : Int) : ∀ (n i : Nat), l.length - i = n → i ≤ l.length →
    Ev (fun k => Qan.l0 k (i : Int) a r s l x0 x1 x2 (l.take i)) (x0, x1, x2, l) := by
 intro n
 induction n with
 | zero =>
  intro i hn hi
  exact Ev.up (g := fun k => _) (fun k => rfl) (Ev.neg (by omega) (Ev.val (by rw [List.take_of_length_le (by omega)])))
 | succ n ih =>
  intro i hn hi
  have hw : wrap64 ((i : Int) + 1) = ((i + 1 : Nat) : Int) := by rw [w64i (by omega) (by omega)]; omega
  have hci := hc i (by omega)
  have hk : (l.take i).length ≤ 1000 := by rw [List.length_take]; omega
  have := ih (i + 1) (by omega) (by omega)
  rw [← take_getD l z57 i (by omega)] at this
  refine Ev.up (g := fun k => _) (fun k => rfl) (Ev.pos (by omega) (Ev.then (a := ([] : List S59)) (Ev.val rfl) (Ev.pos (by omega) (Ev.pos (by simp only [List.length_nil]; omega) (Ev.pos (by omega) ?_)))))
  rw [hw]; exact this
theorem copy16_ev (a0 a1 : Int) (l2 : List S39) (a3 a4 a5 : Int) (l6 : List S57) (l : List (List S47)) (hl : l.length ≤ 1000) (hc : ∀ j : Nat, j < l.length → (Qax l (j : Int)).length ≤ 1000) (x0 x1 : Int) (x2 : List S39) (x3 x4 x5 : Int) (x6 : List S57) : ∀ (n i : Nat), l.length - i = n → i ≤ l.length →
    Ev (fun k => Qai.l0 k (i : Int) a0 a1 l2 a3 a4 a5 l6 l x0 x1 x2 x3 x4 x5 x6 (l.take i)) (x0, x1, x2, x3, x4, x5, x6, l) := by
 intro n
 induction n with
 | zero =>
  intro i hn hi
  exact Ev.up (g := fun k => _) (fun k => rfl) (Ev.neg (by omega) (Ev.val (by rw [List.take_of_length_le (by omega)])))
 | succ n ih =>
  intro i hn hi
  have hw : wrap64 ((i : Int) + 1) = ((i + 1 : Nat) : Int) := by rw [w64i (by omega) (by omega)]; omega
  have hci := hc i (by omega)
  have hk : (l.take i).length ≤ 1000 := by rw [List.length_take]; omega
  have := ih (i + 1) (by omega) (by omega)
  rw [← take_getD l [] i (by omega)] at this
  refine Ev.up (g := fun k => _) (fun k => rfl) (Ev.pos (by omega) (Ev.then (a := ([] : List S47)) (Ev.val rfl) (Ev.pos (by omega) (Ev.pos (by simp only [List.length_nil]; omega) (Ev.pos (by omega) ?_)))))
  rw [hw]; exact this
theorem copy16 (a0 a1 : Int) (l2 : List S39) (a3 a4 a5 : Int) (l6 : List S57) (l7 : List (List S47)) (h2 : l2.length ≤ 1000) (h6 : l6.length ≤ 1000) (h7 : l7.length ≤ 1000)
    (c2 : ∀ j : Nat, j < l2.length → (Qal l2 (j : Int)).f0.length ≤ 1000) (c6 : ∀ j : Nat, j < l6.length → (Qac l6 (j : Int)).f0.length ≤ 1000) (c7 : ∀ j : Nat, j < l7.length → (Qax l7 (j : Int)).length ≤ 1000) :
    Ev (fun k => Qai.f k a0 a1 l2 a3 a4 a5 l6 l7) (a0, a1, l2, a3, a4, a5, l6, l7) := by
 unfold Qai.f
 exact Ev.then (copy07_ev a0 a1 l2 h2 c2 a0 a1 _ 0 rfl (by omega)) (Ev.then (copy08_ev a3 a4 a5 l6 h6 c6 a3 a4 a5 _ 0 rfl (by omega)) (copy16_ev a0 a1 l2 a3 a4 a5 l6 l7 h7 c7 _ _ _ _ _ _ _ _ 0 rfl (by omega)))
theorem inr_ok {l r s : Int} (h : inrB l r s = true) : okLoc l r s := by
 unfold inrB at h
 have h0 : ¬ l < 0 := by intro h0; rw [decide_eq_true h0] at h; cases h
 rw [decide_eq_false h0] at h
 unfold okLoc Qa9.f Qau.f Qbc.f
 simp only [Option.bind_some]
 cases ht : (Int.tmod l 2 == 1) with
 | true => rw [ht] at h; rw [if_pos rfl, if_pos (by omega)]; exact congrArg some h
 | false => rw [ht] at h; rw [if_neg (by simp), if_pos (by omega)]; exact congrArg some h
theorem mInB_ok {op d a b im ds sr n m : Int} (h : mInB op d a b im ds sr n m = 0) : okMIns op d a b im ds sr n m := by
 unfold mInB at h
 obtain ⟨h1, h⟩ := bz (by decide) h
 obtain ⟨h1, o3⟩ := Bool.or_eq_false_iff.1 h1
 obtain ⟨o1, o2⟩ := Bool.or_eq_false_iff.1 h1
 have o4 := of_decide_eq_false o1
 have o5 := of_decide_eq_false o2
 have o6 := beq_eq_false_iff_ne.1 o3
 have hm : isMach op := by
  unfold isMach opcode_Machine.f Qbd.f
  rw [if_pos (show op ≥ 1 by omega)]
  simp only [Option.bind_some]
  rw [if_pos (decide_eq_true (show op ≤ 18 by omega)), bne_iff_ne.2 o6]
 refine ⟨hm, ?_⟩
 by_cases k : op = 18
 ·rw [if_pos k]
  rw [beq_iff_eq.2 k] at h
  obtain ⟨h2, h⟩ := bz (by decide) (show (bif !inrB ds n m || !inrB sr n m || ((Int.tmod ds 2 == 1) && (Int.tmod sr 2 == 1)) then (10 : Int) else bif (d != 0) || (a != 0) || (b != 0) || (im != 0) then 12 else 0) = 0 from h)
  obtain ⟨h3, _⟩ := bz (by decide) h
  obtain ⟨h2, u3⟩ := Bool.or_eq_false_iff.1 h2
  obtain ⟨u1, u2⟩ := Bool.or_eq_false_iff.1 h2
  obtain ⟨h3, v4⟩ := Bool.or_eq_false_iff.1 h3
  obtain ⟨h3, v3⟩ := Bool.or_eq_false_iff.1 h3
  obtain ⟨v1, v2⟩ := Bool.or_eq_false_iff.1 h3
  exact ⟨⟨u3, inr_ok (by simpa using u1), inr_ok (by simpa using u2)⟩, by simpa using v1, by simpa using v2, by simpa using v3, by simpa using v4⟩
 ·rw [if_neg k]
  rw [beq_eq_false_iff_ne.2 k] at h
  obtain ⟨h2, h3⟩ := bz (by decide) (show (bif (insR op d a b im n == 0) && ((ds != 0) || (sr != 0)) then (12 : Int) else insR op d a b im n) = 0 from h)
  rw [beq_iff_eq.2 h3, Bool.true_and] at h2
  obtain ⟨u1, u2⟩ := Bool.or_eq_false_iff.1 h2
  exact ⟨h3, by simpa using u1, by simpa using u2⟩
theorem less_ok {p q : S47} (h : lessBt p q = true) : ltP p q := by
 unfold lessBt at h
 unfold ltP Qa6.f
 by_cases e : p.f0 = q.f0
 ·rw [bne_eq_false_iff_eq.2 e] at h
  rw [if_neg (by omega), if_pos e]; exact congrArg some h
 ·rw [bne_iff_ne.2 e] at h
  rw [if_pos (of_decide_eq_true h)]
theorem runHead_take : ∀ (l : List S59) (n : Nat), n ≤ Qcc l → n ≤ Qcc (l.take n)
 | [], n, h => by simpa [Qcc] using h
 | m :: t, 0, h => Nat.zero_le _
 | m :: t, n + 1, h => by
  by_cases h18 : m.f0 = 18
  ·simp only [Qcc, if_pos h18] at h
   rw [List.take_succ_cons]
   simp only [Qcc, if_pos h18]
   exact Nat.succ_le_succ (runHead_take t n (by omega))
  ·simp only [Qcc, if_neg h18] at h
   omega
theorem runs_of {c : List S59} (h : ∀ i : Nat, i < c.length → 64 ≤ i → Qcj ((c.take (i + 1)).drop (i - 64)) 0) : Qcj c 0 := by
 rw [Qer]
 intro i
 by_cases hi : 65 ≤ Qcc (c.drop i)
 ·have h1 := runHead_le (c.drop i)
  rw [List.length_drop] at h1
  have h2 := h (i + 64) (by omega) (by omega)
  rw [Qer] at h2
  have h3 := h2 0
  rw [List.drop_zero, show i + 64 - 64 = i by omega, List.drop_take, show i + 64 + 1 - i = 65 by omega] at h3
  have h4 := runHead_take _ _ hi
  omega
 ·omega
theorem ref_all {sa sr ta tr ts : Int} {SB : List S39} {TB : List S57} {W : List (List S47)} (h : ((0 ≤ sa ∧ sa ≤ sr) ∧ SB.length ≠ 0 ∧ ∀ i : Nat, i < SB.length → okBrsrc (Qal SB (i : Int)) sr SB.length) ∧ (((0 ≤ ta ∧ ta ≤ ts) ∧ 0 ≤ tr) ∧ TB.length ≠ 0 ∧ ∀ i : Nat, i < TB.length → Qej (Qac TB (i : Int)) tr ts TB.length) ∧ ((SB.length : Int) = (TB.length : Int) ∧ sa = ta) ∧ (W.length : Int) = (SB.length : Int) ∧ ∀ i : Nat, i < W.length → ∀ j : Nat, j < (Qax W (i : Int)).length → Qd6 (Qax W (i : Int)) sr tr ts j) : okAll sa sr SB ta tr ts TB W := by
 obtain ⟨⟨h1, h2, h3⟩, ⟨h4, h5, h6⟩, h7, h8, h9⟩ := h
 refine ⟨⟨h1, h2, fun i hi => ⟨fun j hj => (h3 i hi).1 j hj, (h3 i hi).2⟩⟩, ⟨h4, h5, fun i hi => ⟨⟨fun j hj => mInB_ok ((h6 i hi).1 j hj).1, runs_of fun j hj => ((h6 i hi).1 j hj).2⟩, (h6 i hi).2⟩⟩, h7, h8, fun i hi j hj => ?_⟩
 obtain ⟨g1, g2, g3⟩ := h9 i hi j hj
 exact ⟨g1, inr_ok g2, fun h0 => by rw [show ((j - 1 : Nat) : Int) = (j : Int) - 1 by omega]; exact less_ok (g3 h0)⟩
def tupS (r : S51) : Int × Int × Int × Int × Int × Int × Int := (r.f0, r.f1, r.f2, r.f3, r.f4, r.f5, r.f6)
theorem CheckS_ev {sa sr : Int} {SB : List S39} {ta tr ts : Int} {TB : List S57} {W : List (List S47)} {r : S51} (h : Ev (fun k => Qc1 k sa sr SB ta tr ts TB W) r) : Ev (fun k => checker_Check.f k sa sr SB ta tr ts TB W) (tupS r) := by
 obtain ⟨K, h⟩ := h
 refine ⟨K, fun n hn => ?_⟩
 show (Qc1 n sa sr SB ta tr ts TB W).map _ = _
 rw [show Qc1 n sa sr SB ta tr ts TB W = some r from h n hn]; rfl
theorem sum2 {L : Nat → Int → Int → Option Int} {n : Nat} {x : Nat → Nat} (hn : n ≤ 1000) (hx : ∀ i, i < n → x i ≤ 1000)
    (hs : ∀ k (i : Nat) (s : Int), L (k + 1) s (i : Int) = if (i : Int) < (n : Int) then (if 0 ≤ (i : Int) then L k (wrap64 (s + (x i : Int))) (wrap64 ((i : Int) + 1)) else none) else some s) :
    ∃ v, Ev (fun k => L k 0 0) v ∧ v ≤ 1000000 := by
 have go : ∀ m (i : Nat) (s : Int), n - i = m → i ≤ n → 0 ≤ s → s ≤ 1000 * i → ∃ v, Ev (fun k => L k s (i : Int)) v ∧ v ≤ 1000 * n := by
  intro m
  induction m with
  | zero => exact fun i s hm hi h0 h1 => ⟨s, Ev.up (fun k => hs k _ _) (Ev.neg (by omega) (Ev.val rfl)), by omega⟩
  | succ m ih =>
   intro i s hm hi h0 h1
   have hxi := hx i (by omega)
   have hw : wrap64 (s + (x i : Int)) = s + (x i : Int) := w64i (by omega) (by omega)
   obtain ⟨v, hv, hb⟩ := ih (i + 1) (s + (x i : Int)) (by omega) (by omega) (by omega) (by omega)
   refine ⟨v, Ev.up (fun k => hs k _ _) (Ev.pos (by omega) (Ev.pos (by omega) ?_)), hb⟩
   rw [hw, w64s (n := n) (by omega) (by omega)]; exact hv
 obtain ⟨v, hv, hb⟩ := go n 0 0 (by omega) (by omega) (by omega) (by omega)
 exact ⟨v, hv, by omega⟩
theorem j0m_true (a1 a2 a3 b0 b1 : Int) (b2 : List S39) (b3 b4 b5 : Int) (b6 : List S57) (b7 : List (List S47)) : Ev (fun k => Qaf.j0 k a1 a2 a3 true b0 b1 b2 b3 b4 b5 b6 b7) true := ⟨1, fun n hn => by obtain ⟨m, rfl⟩ : ∃ m, n = m + 1 := ⟨n - 1, by omega⟩; rfl⟩
theorem j0m_false (a1 a2 a3 b0 b1 : Int) (b2 : List S39) (b3 b4 b5 : Int) (b6 : List S57) (b7 : List (List S47)) (i : Nat) {q : Int} (n : Nat) (hlen : b6.length ≠ 0) (hi : Int.tmod (wrap64 a1) (b6.length : Int) = (i : Int)) (hil : i < b6.length) (hq : wrap64 (2 * Int.tmod (wrap64 a3) b4) = q) (h4 : b4 ≠ 0)
    (hc : Ev (fun k => Qai.f k b0 b1 b2 b3 b4 b5 b6 b7) (b0, b1, b2, b3, b4, b5, b6, b7))
    (hins : Qa1.f (Qac b6 (i : Int)).f0 (wrap64 a2) 18 0 0 0 0 q q = some ((Qac b6 (i : Int)).f0.take n ++ ⟨18, 0, 0, 0, 0, q, q⟩ :: (Qac b6 (i : Int)).f0.drop n)) {r s : S51} {v : Nat}
    (hr : Ev (fun k => Qc1 k b0 b1 b2 b3 b4 b5 (b6.set i ⟨(Qac b6 (i : Int)).f0.take n ++ ⟨18, 0, 0, 0, 0, q, q⟩ :: (Qac b6 (i : Int)).f0.drop n, (Qac b6 (i : Int)).f1⟩) b7) r)
    (hm : Ev (fun k => Qae.f k ((Qac b6 (i : Int)).f0.take n ++ ⟨18, 0, 0, 0, 0, q, q⟩ :: (Qac b6 (i : Int)).f0.drop n)) (v : Int))
    (hs : Ev (fun k => Qc1 k b0 b1 b2 b3 b4 b5 b6 b7) s) (hv : if v ≤ 64 then Sq s r else r.f0 = 15) : Ev (fun k => Qaf.j0 k a1 a2 a3 false b0 b1 b2 b3 b4 b5 b6 b7) true := by
 have e0 : ∀ k, Qaf.j0 (k + 1) a1 a2 a3 false b0 b1 b2 b3 b4 b5 b6 b7 = _ := fun k => by rw [Qaf.j0]
 refine Ev.up e0 (Ev.neg (by simp) (Ev.then hc ?_))
 refine Ev.neg (show ¬ ((b6.length : Int) = 0) by omega) ?_
 show Ev (fun k => if b4 = 0 then _ else if 0 ≤ Int.tmod (wrap64 a1) (b6.length : Int) then _ else _) true
 simp only [hi, hq]
 refine Ev.neg h4 ?_
 refine Ev.pos (show 0 ≤ (i : Int) by omega) ?_
 refine Ev.pos (show (i : Int) < (b6.length : Int) by omega) ?_
 rw [hins]
 refine Ev.then (Ev.val rfl) (Ev.then (Ev.val rfl) (Ev.then (CheckS_ev hr) ?_))
 rw [Int.toNat_natCast, rd57_eq b6 i _ hil]
 refine Ev.then hm ?_
 by_cases h : v ≤ 64
 ·rw [if_pos h] at hv
  obtain ⟨v1, v2, v3, v4⟩ := hv
  refine Ev.neg (by omega) (Ev.then (CheckS_ev hs) ?_)
  exact Ev.pos (show r.f0 = s.f0 from v1.symm) (Ev.pos (show r.f1 = s.f1 from v2.symm) (Ev.pos (show r.f4 = s.f4 from v3.symm) (Ev.val (show (r.f6 == s.f6) = true by rw [v4]; exact beq_self_eq_true _))))
 ·rw [if_neg h] at hv
  exact Ev.pos (by omega) (Ev.val (show (r.f0 == 15) = true by rw [hv]; rfl))
theorem wfu8 {n : Int} (h : (Lit.int .u8 n).wf = true) : 0 ≤ n ∧ n < 256 := by
 have h : IntKind.u8.min ≤ n ∧ n ≤ IntKind.u8.max := by simpa [Lit.wf] using h
 have h1 : IntKind.u8.min = 0 := by decide
 have h2 : IntKind.u8.max = 255 := by decide
 omega
theorem selfm (x0 : S30) (a1 a2 a3 : Int) (g : good30 x0) (g1 : (Lit.int .u8 a1).wf = true) (g2 : (Lit.int .u8 a2).wf = true) (g3 : (Lit.int .u8 a3).wf = true) : ∃ k, Qaf.F k x0.f0.f0 x0.f0.f1 x0.f0.f2 x0.f1.f0 x0.f1.f1 x0.f1.f2 x0.f1.f3 x0.f2 a1 a2 a3 true := by
 obtain ⟨⟨sa, sr, SB⟩, ⟨ta, tr, ts, TB⟩, W⟩ := x0
 have m1 : maxLen ≤ 9223372036854775807 := by decide
 have g4 : SB.length ≤ maxLen := g.1.2.2.1
 have g5 : TB.length ≤ maxLen := g.2.1.2.2.2.1
 have g6 : W.length ≤ maxLen := g.2.2.1
 have p1 := wfu8 g1
 have p2 := wfu8 g2
 have p3 := wfu8 g3
 show ∃ k, Qaf.F k sa sr SB ta tr ts TB W a1 a2 a3 true
 obtain ⟨b, ⟨K1, eb⟩, qb⟩ := few16 sa sr SB ta tr ts TB W (by omega) (by omega) (by omega)
 obtain ⟨K2, ej⟩ := j0m_true a1 a2 a3 sa sr SB ta tr ts TB W
 suffices h : ∃ K, ∀ n, K ≤ n → b = true → (∃ u1 u2, Qa5.f n sa sr SB = some u1 ∧ u1 ≤ 1000000 ∧ Qa4.f n ta tr ts TB = some u2 ∧ u2 ≤ 1000000 ∧ Bnd sr SB tr ts TB W) ∧ (refOk sa sr SB ta tr ts TB W → tr ≠ 0 → Qaf.j0 n a1 a2 a3 false sa sr SB ta tr ts TB W = some true) from by
  obtain ⟨K3, h⟩ := h
  have n1 : K1 ≤ K1 + K2 + K3 := by omega
  have n2 : K2 ≤ K1 + K2 + K3 := by omega
  have n3 : K3 ≤ K1 + K2 + K3 := by omega
  exact ⟨K1 + K2 + K3, rfl, ej _ n2, b, eb _ n1, h _ n3⟩
 cases b with
 | false => exact ⟨0, fun n _ h => by cases h⟩
 | true =>
  obtain ⟨⟨n1, n2, n3⟩, ⟨n4, n5, n6, n7⟩, n8, n9⟩ := qb rfl
  have hB : Bnd sr SB tr ts TB W := ⟨by omega, by omega, by omega, by omega, by omega, by omega, fun i hi => by have := n3 i hi; omega, fun i hi => by have := n7 i hi; omega, fun i hi => by have := n9 i hi; omega⟩
  obtain ⟨u1, ⟨K3, h3⟩, h4⟩ := sum2 (L := fun k s i => Qa5.l0 k s i sa sr SB) (n := SB.length) (x := fun i => (Qal SB (i : Int)).f0.length) hB.l1 hB.c1 (fun k i s => rfl)
  obtain ⟨u2, ⟨K4, h5⟩, h6⟩ := sum2 (L := fun k s i => Qa4.l0 k s i ta tr ts TB) (n := TB.length) (x := fun i => (Qac TB (i : Int)).f0.length) hB.l2 hB.c2 (fun k i s => rfl)
  by_cases hR : refOk sa sr SB ta tr ts TB W ∧ tr ≠ 0
  ·have hO := ref_all hR.1
   have htr : 0 < tr := by have := hO.2.1.1.2; have := hR.2; omega
   have hne := hO.2.1.2.1
   have e1 : wrap64 a1 = a1 := w64i (by omega) (by omega)
   have e2 : wrap64 a2 = a2 := w64i (by omega) (by omega)
   have e3 : wrap64 a3 = a3 := w64i (by omega) (by omega)
   have q0 : 0 ≤ Int.tmod a3 tr := Int.tmod_nonneg _ p3.1
   have q1 : Int.tmod a3 tr < tr := Int.tmod_lt_of_pos _ (by omega)
   have i0 : 0 ≤ Int.tmod a1 (TB.length : Int) := Int.tmod_nonneg _ p1.1
   have i1 : Int.tmod a1 (TB.length : Int) < (TB.length : Int) := Int.tmod_lt_of_pos _ (by omega)
   obtain ⟨i, hi⟩ : ∃ i : Nat, Int.tmod a1 (TB.length : Int) = (i : Int) := ⟨(Int.tmod a1 (TB.length : Int)).toNat, by omega⟩
   rw [hi] at i0 i1
   generalize hqq : Int.tmod a3 tr = q at q0 q1
   have hcl := n7 i (by omega)
   obtain ⟨n, hn, hins⟩ := inserted_eq (Qac TB (i : Int)).f0 a2 p2.1 (by omega) ⟨18, 0, 0, 0, 0, 2 * q, 2 * q⟩
   have hl2 : ((Qac TB (i : Int)).f0.take n ++ (⟨18, 0, 0, 0, 0, 2 * q, 2 * q⟩ : S59) :: (Qac TB (i : Int)).f0.drop n).length ≤ 1000 := by
    rw [List.length_append, List.length_cons, List.length_take, List.length_drop]; omega
   obtain ⟨v, hv, hvq⟩ := moves_spec _ hl2
   obtain ⟨s, r, hs, hr, hz, hf⟩ := self_ok (sa := sa) (ta := ta) hB (by omega) (fun j hj => by have := n7 j hj; omega) hO i (by omega) n q0 q1
   obtain ⟨K5, h7⟩ := j0m_false a1 a2 a3 sa sr SB ta tr ts TB W i n hne (by rw [e1]; exact hi) (by omega) (by rw [e3, hqq]; exact w64i (by omega) (by omega)) (by omega)
    (copy16 sa sr SB ta tr ts TB W (by omega) (by omega) (by omega) (fun i hi => by have := n3 i hi; omega) (fun i hi => by have := n7 i hi; omega) (fun i hi => by have := n9 i hi; omega)) (by rw [e2]; exact hins) hr hv hs (by
     by_cases hv64 : v ≤ 64
     ·rw [if_pos hv64]; exact hz (hvq.1 hv64)
     ·rw [if_neg hv64]; exact hf (fun h => hv64 (hvq.2 h)))
   refine ⟨K3 + K4 + K5, fun n hn _ => ⟨⟨u1, u2, h3 n (by omega), h4, h5 n (by omega), h6, hB⟩, fun _ _ => h7 n (by omega)⟩⟩
  ·exact ⟨K3 + K4, fun n hn _ => ⟨⟨u1, u2, h3 n (by omega), h4, h5 n (by omega), h6, hB⟩, fun a b => absurd ⟨a, b⟩ hR⟩⟩
end Go.Proofs.YtchpkjgibloleaaGreat.Z
