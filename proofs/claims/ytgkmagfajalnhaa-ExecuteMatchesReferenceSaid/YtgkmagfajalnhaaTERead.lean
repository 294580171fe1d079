/-
  Read: the plain function and its contract.
-/
import Derived.Test.YtgkmagfajalnhaaTEAt
namespace Go.Proofs.Ytgkmagfajalnhaa.E
open Go.RowKit Go.Proofs.YtgkmagfajalnhaaW.PrintWords Go.Proofs.YtgkmagfajalnhaaW.PrintLast Go.Proofs.YtgkmagfajalnhaaW.PrintMore
set_option linter.unusedVariables false
set_option linter.unusedSimpArgs false

theorem cell_belowR {w w1 : World} {p : Addr} {v : Value} (hb : Below w.heap.size w w1) (h : w.cell? p = some v) : w1.cell? p = some v := by
  have hlt := World.block_lt_of_cell? w _ h
  simpa [World.cell?, hb.block p.block hlt] using h
set_option maxRecDepth 100000 in
set_option maxHeartbeats 4000000 in
theorem at_slotC (W : World) (g : Nat) (ad : Addr) (n c : Nat) (l : Int) (hs : (Int.tmod l 2 == 1) = true) (h0 : 0 ≤ (wrap64 (Int.tdiv l 2))) (h1 : (wrap64 (Int.tdiv l 2)) < n)
    (hq : W.cell? ⟨g, 5, none⟩ = some (.slice (some ad) n c)) :
    Calls Try.prog 73 #[.pointer (some ⟨g, 0, none⟩), .int .i64 l] W fun e W' =>
      e = .returned (.pointer (some (ad.add (wrap64 (Int.tdiv l 2)).toNat))) ∧ ∃ m, W' = W.drewN m := by
  have hu108 := Try.underlying108
  have hu39 := Try.underlying39
  have hu63 := Try.underlying63
  have hu61 := Try.underlying61
  have hu69 := Try.underlying69
  have hu67 := Try.underlying67
  have hu84 := Try.underlying84
  have hu48 := Try.underlying48
  have hu35 := Try.underlying35
  have h0b : decide ((wrap64 (Int.tdiv l 2)) < 0) = false := decide_eq_false (by omega)
  have h0c : decide (0 ≤ (wrap64 (Int.tdiv l 2))) = true := decide_eq_true h0
  have h1b : decide ((wrap64 (Int.tdiv l 2)) < (n : Int)) = true := decide_eq_true h1
  have hf : location_IsSlot.f l = some true := congrArg some hs
  have hx : location_Index.f l = some (wrap64 (Int.tdiv l 2)) := rfl
  go_enter Try.func73, Try.ntmps73
  go_wp2_with ((with_reducible refine gate_callee (f := 94) rfl ?_); go_loud (refine goesL_ (some 6) rfl rfl Try.func94 (by kernel_rfl) rfl #[.int .i64 l] rfl (by (try simp only [List.map_toArray, List.map_cons, List.map_nil]); rfl) ?_); go_loud (with_reducible refine (location_IsSlot.calls l true _ hf).mono ?_); rintro e w2 ⟨rfl, ⟨m1, rfl⟩⟩; refine ⟨_, rfl, ?_⟩)
  refine start_ (n := 9) (S := fun w' => w'.cell? ⟨g, 5, none⟩ = some (.slice (some ad) n c)) (ds := []) (bb 9 0) (by kernel_rfl) rfl rfl (hq) (fun hHeld => ?_)
  refine pu 0 7 (bb 9 1) ?_
  refine pu 1 8 (bb 9 3) ?_
  refine pu 2 9 (bb 9 7) ?_
  refine pu 3 10 (bb 9 15) ?_
  refine pu 5 12 (bb 9 47) ?_
  refine tu hHeld 4 11 (bb 9 63) ?_
  refine one_ (i := 6) (N := some 13) (bb 9 127) rfl rfl (by kernel_rfl) (by decide) (fun K hK => ?_)
  refine goes_ Try.func95 (by kernel_rfl) rfl #[.int .i64 l] (by rfl) rfl rfl (by simp only [List.map_toArray, List.map_cons, List.map_nil]; rfl) ?_
  with_reducible refine (location_Index.calls l _ _ hx).mono ?_
  rintro e w3 ⟨rfl, ⟨m2, rfl⟩⟩
  refine ⟨_, rfl, ?_⟩
  refine hK.out _ _ (hq) (fun hHeld => ?_)
  clear hK K
  refine norm_ (a' := ?_) ?_ ?_
  rotate_left
  · show Act.put _ (some 13) _ = _
    simp only [Act.put, List.setIfInBounds_toArray, List.set_cons_zero, List.set_cons_succ, i64_w, i32_w]
    rfl
  refine pu 7 14 (bb 9 255) ?_
  refine pu 8 4 (bb 9 511) ?_
  refine done_ (by kernel_rfl) ?_
  go_wp2
  go_ret
  exact ⟨rfl, ⟨_, by rw [World.drewN_drew, World.drewN_drewN]⟩⟩

set_option maxRecDepth 100000 in
set_option maxHeartbeats 4000000 in
theorem at_regC (W : World) (g : Nat) (ad : Addr) (n c : Nat) (l : Int) (hs : (Int.tmod l 2 == 1) = false) (h0 : 0 ≤ (wrap64 (Int.tdiv l 2))) (h1 : (wrap64 (Int.tdiv l 2)) < n)
    (hq : W.cell? ⟨g, 4, none⟩ = some (.slice (some ad) n c)) :
    Calls Try.prog 73 #[.pointer (some ⟨g, 0, none⟩), .int .i64 l] W fun e W' =>
      e = .returned (.pointer (some (ad.add (wrap64 (Int.tdiv l 2)).toNat))) ∧ ∃ m, W' = W.drewN m := by
  have hu108 := Try.underlying108
  have hu39 := Try.underlying39
  have hu63 := Try.underlying63
  have hu61 := Try.underlying61
  have hu69 := Try.underlying69
  have hu67 := Try.underlying67
  have hu84 := Try.underlying84
  have hu48 := Try.underlying48
  have hu35 := Try.underlying35
  have h0b : decide ((wrap64 (Int.tdiv l 2)) < 0) = false := decide_eq_false (by omega)
  have h0c : decide (0 ≤ (wrap64 (Int.tdiv l 2))) = true := decide_eq_true h0
  have h1b : decide ((wrap64 (Int.tdiv l 2)) < (n : Int)) = true := decide_eq_true h1
  have hf : location_IsSlot.f l = some false := congrArg some hs
  have hx : location_Index.f l = some (wrap64 (Int.tdiv l 2)) := rfl
  go_enter Try.func73, Try.ntmps73
  go_wp2_with ((with_reducible refine gate_callee (f := 94) rfl ?_); go_loud (refine goesL_ (some 6) rfl rfl Try.func94 (by kernel_rfl) rfl #[.int .i64 l] rfl (by (try simp only [List.map_toArray, List.map_cons, List.map_nil]); rfl) ?_); go_loud (with_reducible refine (location_IsSlot.calls l false _ hf).mono ?_); rintro e w2 ⟨rfl, ⟨m1, rfl⟩⟩; refine ⟨_, rfl, ?_⟩)
  refine start_ (n := 9) (S := fun w' => w'.cell? ⟨g, 4, none⟩ = some (.slice (some ad) n c)) (ds := []) (bb 9 0) (by kernel_rfl) rfl rfl (hq) (fun hHeld => ?_)
  refine pu 0 15 (bb 9 1) ?_
  refine pu 1 16 (bb 9 3) ?_
  refine pu 2 17 (bb 9 7) ?_
  refine pu 3 18 (bb 9 15) ?_
  refine pu 5 20 (bb 9 47) ?_
  refine tu hHeld 4 19 (bb 9 63) ?_
  refine one_ (i := 6) (N := some 21) (bb 9 127) rfl rfl (by kernel_rfl) (by decide) (fun K hK => ?_)
  refine goes_ Try.func95 (by kernel_rfl) rfl #[.int .i64 l] (by rfl) rfl rfl (by simp only [List.map_toArray, List.map_cons, List.map_nil]; rfl) ?_
  with_reducible refine (location_Index.calls l _ _ hx).mono ?_
  rintro e w3 ⟨rfl, ⟨m2, rfl⟩⟩
  refine ⟨_, rfl, ?_⟩
  refine hK.out _ _ (hq) (fun hHeld => ?_)
  clear hK K
  refine norm_ (a' := ?_) ?_ ?_
  rotate_left
  · show Act.put _ (some 21) _ = _
    simp only [Act.put, List.setIfInBounds_toArray, List.set_cons_zero, List.set_cons_succ, i64_w, i32_w]
    rfl
  refine pu 7 22 (bb 9 255) ?_
  refine pu 8 4 (bb 9 511) ?_
  refine done_ (by kernel_rfl) ?_
  go_wp2
  go_ret
  exact ⟨rfl, ⟨_, by rw [World.drewN_drew, World.drewN_drewN]⟩⟩

set_option maxRecDepth 100000 in
set_option maxHeartbeats 4000000 in
theorem read_slot (w : World) (A4 A5 A6 : Option Addr) (c4 c5 c6 : Nat) (st blk at_ val : Int) (l4 l5 l6 : List Int) (steps l : Int) (hC : (Kd.int .i64).C w A5 l5.length l5) (hs : (Int.tmod l 2 == 1) = true) (h0 : 0 ≤ (wrap64 (Int.tdiv l 2))) (h1 : (wrap64 (Int.tdiv l 2)) < l5.length) :
    Calls Try.prog 53 #[.agg #[.int .i64 st, .int .i64 blk, .int .i64 at_, .int .i64 val, .slice A4 l4.length c4, .slice A5 l5.length c5, .slice A6 l6.length c6, .int .i64 steps], .int .i64 l] w fun e W' => e = .returned (.int .i64 (rd l5 (wrap64 (Int.tdiv l 2)))) ∧ Below w.heap.size w W' := by
  have hu108 := Try.underlying108
  have hu39 := Try.underlying39
  have hu63 := Try.underlying63
  have hu61 := Try.underlying61
  have hu69 := Try.underlying69
  have hu67 := Try.underlying67
  have hu84 := Try.underlying84
  have hu48 := Try.underlying48
  have hu35 := Try.underlying35
  obtain ⟨ad, eA, hx⟩ := Kd.at_int hC (wrap64 (Int.tdiv l 2)) h0 h1
  subst eA
  have HX := Aside0.mk hx
  have HB := Aside0.mk (below_alloc (below_alloc (Below.refl w.heap.size w) (.cells #[.int .i64 st, .int .i64 blk, .int .i64 at_, .int .i64 val, .slice A4 l4.length c4, .slice (some ad) l5.length c5, .slice A6 l6.length c6, .int .i64 steps] 39 (0, 0))) (.cells #[.int .i64 st, .int .i64 blk, .int .i64 at_, .int .i64 val, .slice A4 l4.length c4, .slice (some ad) l5.length c5, .slice A6 l6.length c6, .int .i64 steps, .int .i64 0, .int .i64 0, .int .i64 0, .slice none 0 0] 108 (0, 0)))
  have hn := blk_new (w.alloc (.cells #[.int .i64 st, .int .i64 blk, .int .i64 at_, .int .i64 val, .slice A4 l4.length c4, .slice (some ad) l5.length c5, .slice A6 l6.length c6, .int .i64 steps] 39 (0, 0))) (.cells #[.int .i64 st, .int .i64 blk, .int .i64 at_, .int .i64 val, .slice A4 l4.length c4, .slice (some ad) l5.length c5, .slice A6 l6.length c6, .int .i64 steps, .int .i64 0, .int .i64 0, .int .i64 0, .slice none 0 0] 108 (0, 0))
  have s1 : (w.alloc (.cells #[.int .i64 st, .int .i64 blk, .int .i64 at_, .int .i64 val, .slice A4 l4.length c4, .slice (some ad) l5.length c5, .slice A6 l6.length c6, .int .i64 steps] 39 (0, 0))).heap.size = w.heap.size + 1 := by simp
  rw [s1] at hn
  have HQ := (blk_cell hn 5)
  simp only [List.getElem?_toArray, List.getElem?_cons_zero, List.getElem?_cons_succ] at HQ
  have HQ2 := Aside0.mk HQ
  clear hx hC hn s1 HQ
  go_enter Try.func53, Try.ntmps53
  go_wp2_with ((with_reducible refine gate_callee (f := 73) rfl ?_); go_loud (refine goesL_ (some 11) rfl rfl Try.func73 (by kernel_rfl) rfl #[.pointer (some ⟨w.heap.size + 1, 0, none⟩), .int .i64 l] rfl (by (try simp only [List.map_toArray, List.map_cons, List.map_nil]); rfl) ?_); go_loud (with_reducible refine (at_slotC _ (w.heap.size + 1) ad _ c5 l hs h0 h1 HQ2.out).mono ?_); rintro e w2 ⟨rfl, ⟨m, rfl⟩⟩; refine ⟨_, rfl, ?_⟩; have hc := cell_belowR HB.out HX.out)
  go_ret
  exact ⟨rfl, pw_below_drewN HB.out m⟩

set_option maxRecDepth 100000 in
set_option maxHeartbeats 4000000 in
theorem read_reg (w : World) (A4 A5 A6 : Option Addr) (c4 c5 c6 : Nat) (st blk at_ val : Int) (l4 l5 l6 : List Int) (steps l : Int) (hC : (Kd.int .i64).C w A4 l4.length l4) (hs : (Int.tmod l 2 == 1) = false) (h0 : 0 ≤ (wrap64 (Int.tdiv l 2))) (h1 : (wrap64 (Int.tdiv l 2)) < l4.length) :
    Calls Try.prog 53 #[.agg #[.int .i64 st, .int .i64 blk, .int .i64 at_, .int .i64 val, .slice A4 l4.length c4, .slice A5 l5.length c5, .slice A6 l6.length c6, .int .i64 steps], .int .i64 l] w fun e W' => e = .returned (.int .i64 (rd l4 (wrap64 (Int.tdiv l 2)))) ∧ Below w.heap.size w W' := by
  have hu108 := Try.underlying108
  have hu39 := Try.underlying39
  have hu63 := Try.underlying63
  have hu61 := Try.underlying61
  have hu69 := Try.underlying69
  have hu67 := Try.underlying67
  have hu84 := Try.underlying84
  have hu48 := Try.underlying48
  have hu35 := Try.underlying35
  obtain ⟨ad, eA, hx⟩ := Kd.at_int hC (wrap64 (Int.tdiv l 2)) h0 h1
  subst eA
  have HX := Aside0.mk hx
  have HB := Aside0.mk (below_alloc (below_alloc (Below.refl w.heap.size w) (.cells #[.int .i64 st, .int .i64 blk, .int .i64 at_, .int .i64 val, .slice (some ad) l4.length c4, .slice A5 l5.length c5, .slice A6 l6.length c6, .int .i64 steps] 39 (0, 0))) (.cells #[.int .i64 st, .int .i64 blk, .int .i64 at_, .int .i64 val, .slice (some ad) l4.length c4, .slice A5 l5.length c5, .slice A6 l6.length c6, .int .i64 steps, .int .i64 0, .int .i64 0, .int .i64 0, .slice none 0 0] 108 (0, 0)))
  have hn := blk_new (w.alloc (.cells #[.int .i64 st, .int .i64 blk, .int .i64 at_, .int .i64 val, .slice (some ad) l4.length c4, .slice A5 l5.length c5, .slice A6 l6.length c6, .int .i64 steps] 39 (0, 0))) (.cells #[.int .i64 st, .int .i64 blk, .int .i64 at_, .int .i64 val, .slice (some ad) l4.length c4, .slice A5 l5.length c5, .slice A6 l6.length c6, .int .i64 steps, .int .i64 0, .int .i64 0, .int .i64 0, .slice none 0 0] 108 (0, 0))
  have s1 : (w.alloc (.cells #[.int .i64 st, .int .i64 blk, .int .i64 at_, .int .i64 val, .slice (some ad) l4.length c4, .slice A5 l5.length c5, .slice A6 l6.length c6, .int .i64 steps] 39 (0, 0))).heap.size = w.heap.size + 1 := by simp
  rw [s1] at hn
  have HQ := (blk_cell hn 4)
  simp only [List.getElem?_toArray, List.getElem?_cons_zero, List.getElem?_cons_succ] at HQ
  have HQ2 := Aside0.mk HQ
  clear hx hC hn s1 HQ
  go_enter Try.func53, Try.ntmps53
  go_wp2_with ((with_reducible refine gate_callee (f := 73) rfl ?_); go_loud (refine goesL_ (some 11) rfl rfl Try.func73 (by kernel_rfl) rfl #[.pointer (some ⟨w.heap.size + 1, 0, none⟩), .int .i64 l] rfl (by (try simp only [List.map_toArray, List.map_cons, List.map_nil]); rfl) ?_); go_loud (with_reducible refine (at_regC _ (w.heap.size + 1) ad _ c4 l hs h0 h1 HQ2.out).mono ?_); rintro e w2 ⟨rfl, ⟨m, rfl⟩⟩; refine ⟨_, rfl, ?_⟩; have hc := cell_belowR HB.out HX.out)
  go_ret
  exact ⟨rfl, pw_below_drewN HB.out m⟩

def execute_Read.f (a0_0 a0_1 a0_2 a0_3 : Int) (l0_4 l0_5 l0_6 : List Int) (a0_7 a1 : Int) : Option Int :=
  if (Int.tmod a1 2 == 1) = true then (if 0 ≤ wrap64 (Int.tdiv a1 2) ∧ wrap64 (Int.tdiv a1 2) < (l0_5.length : Int) then some (rd l0_5 (wrap64 (Int.tdiv a1 2))) else none)
  else (if 0 ≤ wrap64 (Int.tdiv a1 2) ∧ wrap64 (Int.tdiv a1 2) < (l0_4.length : Int) then some (rd l0_4 (wrap64 (Int.tdiv a1 2))) else none)
theorem execute_Read.calls (a0_0 : Int) (a0_1 : Int) (a0_2 : Int) (a0_3 : Int) (A0_4 : Option Addr) (c0_4 : Nat) (l0_4 : List Int) (A0_5 : Option Addr) (c0_5 : Nat) (l0_5 : List Int) (A0_6 : Option Addr) (c0_6 : Nat) (l0_6 : List Int) (a0_7 : Int) (a1 : Int) (r : Int) (w : World) (hr0_4 : Kd.C (Kd.int .i64) w A0_4 l0_4.length l0_4) (hc0_4 : l0_4.length ≤ c0_4) (hr0_5 : Kd.C (Kd.int .i64) w A0_5 l0_5.length l0_5) (hc0_5 : l0_5.length ≤ c0_5) (hr0_6 : Kd.C (Kd.int .i64) w A0_6 l0_6.length l0_6) (hc0_6 : l0_6.length ≤ c0_6) (h : execute_Read.f a0_0 a0_1 a0_2 a0_3 l0_4 l0_5 l0_6 a0_7 a1 = some r) :
    Calls Try.prog 53 #[.agg #[.int .i64 a0_0, .int .i64 a0_1, .int .i64 a0_2, .int .i64 a0_3, .slice A0_4 l0_4.length c0_4, .slice A0_5 l0_5.length c0_5, .slice A0_6 l0_6.length c0_6, .int .i64 a0_7], .int .i64 a1] w fun e w' => e = .returned (.int .i64 r) ∧ Below w.heap.size w w' := by
  unfold execute_Read.f at h
  by_cases hs : (Int.tmod a1 2 == 1) = true
  rotate_left
  ·rw [if_neg hs] at h
   by_cases hi : 0 ≤ wrap64 (Int.tdiv a1 2) ∧ wrap64 (Int.tdiv a1 2) < (l0_4.length : Int)
   rotate_left
   ·rw [if_neg hi] at h
    cases h
   rw [if_pos hi] at h
   obtain rfl := Option.some.inj h
   exact read_reg w A0_4 A0_5 A0_6 c0_4 c0_5 c0_6 a0_0 a0_1 a0_2 a0_3 l0_4 l0_5 l0_6 a0_7 a1 hr0_4 (by simpa using hs) hi.1 hi.2
  rw [if_pos hs] at h
  by_cases hi : 0 ≤ wrap64 (Int.tdiv a1 2) ∧ wrap64 (Int.tdiv a1 2) < (l0_5.length : Int)
  rotate_left
  ·rw [if_neg hi] at h
   cases h
  rw [if_pos hi] at h
  obtain rfl := Option.some.inj h
  exact read_slot w A0_4 A0_5 A0_6 c0_4 c0_5 c0_6 a0_0 a0_1 a0_2 a0_3 l0_4 l0_5 l0_6 a0_7 a1 hr0_5 hs hi.1 hi.2

end Go.Proofs.Ytgkmagfajalnhaa.E
