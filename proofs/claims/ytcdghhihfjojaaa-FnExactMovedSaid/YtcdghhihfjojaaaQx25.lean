/- Plain Lean functions with the same answers as the Go functions of this seat, and a proof for each that the Go code comes to just these answers; no condition. Written by a program of this session (the kit's printer, turned). -/
import Derived.Test.YtcdghhihfjojaaaQx0
import Derived.Test.YtcdghhihfjojaaaQx3
namespace Go.Proofs.Ytcdghhihfjojaaa.Q
open Go.RowKit Go.Proofs.YtcdghhihfjojaaaW.PrintWords Go.Proofs.YtcdghhihfjojaaaW.PrintLast Go.Proofs.YtcdghhihfjojaaaW.PrintMore
attribute [local go_sem] max2_int min2_int max_two min_two max_three min_three max_four min_four   -- for this text's walks alone
set_option linter.unusedVariables false
set_option linter.unusedSimpArgs false

/-! ### laws_toBox: function 27 -/
def laws_toBox.f (k : Nat) (a0_0 : Int) (a0_1 : Int) (l0_2 : List Int) : Option (Int × Int × List Int) := (laws_toInt64S.f k l0_2).bind fun t399 => (some (a0_0, a0_1, t399))
theorem laws_toBox.mono : ∀ a0 a1 a2 k, LeO (laws_toBox.f k a0 a1 a2) (laws_toBox.f (k + 1) a0 a1 a2) := by
  intro a0 a1 a2 k
  unfold laws_toBox.f
  repeat' first
      | (with_reducible exact laws_toInt64S.mono _ _)
      | (with_reducible exact LeO.refl _)
      | (with_reducible exact LeO.none _)
      | (with_reducible refine LeO.ite ?_ ?_)
      | (with_reducible refine LeO.bind ?_ (fun _ => ?_))
      | exact laws_toInt64S.mono _ _
      | exact LeO.none _
      | refine LeO.ite ?_ ?_
      | refine LeO.bind ?_ (fun _ => ?_)
set_option maxHeartbeats 8000000 in
set_option maxRecDepth 100000 in
theorem laws_toBox.calls (k : Nat) (a0_0 : Int) (a0_1 : Int) (A0_2 : Option Addr) (c0_2 : Nat) (l0_2 : List Int) (r1 : Int) (r2 : Int) (r3 : List Int) (w : World) (hr0_2 : Kd.C (Kd.int .i64) w A0_2 l0_2.length l0_2) (hc0_2 : l0_2.length ≤ c0_2) (h : laws_toBox.f k a0_0 a0_1 l0_2 = some (r1, r2, r3)) :
    Calls Try.prog 27 #[.agg #[.int .i64 a0_0, .int .i64 a0_1, .slice A0_2 l0_2.length c0_2]] w fun e w' => ∃ v2_ : Value, e = .returned (.agg #[.int .i64 r1, .int .i64 r2, v2_]) ∧ Kd.R (Kd.int .i64) 2 w' w.heap.size (fun _ => True) v2_ r3 ∧ Below w.heap.size w w' := by
  have hu51 := Try.underlying51
  have hu55 := Try.underlying55
  have HR0_2 := Aside0.mk hr0_2
  have HC0_2 := Aside0.mk hc0_2
  clear hr0_2 hc0_2
  have HB := Aside0.mk (Below.refl w.heap.size w)
  have H : ((laws_toInt64S.f k l0_2).bind fun t399 => (some (a0_0, a0_1, t399))) = some (r1, r2, r3) := h
  clear h
  replace H := Option.bind_eq_some_iff.mp H
  obtain ⟨t399, A20, H⟩ := H
  replace H : (some (a0_0, a0_1, t399)) = some (r1, r2, r3) := H
  have A2 := Aside0.mk A20
  clear A20
  simp only [Option.some.injEq, Prod.mk.injEq] at H
  obtain ⟨rfl, rfl, rfl⟩ := H
  go_enter Try.func27, Try.ntmps27
  go_wp2_with (first | ((with_reducible refine gate_dst (N := 1) rfl ?_); refine box_event ?hg (N := 1) ?hd (cs := #[.int .i64 a0_0, .int .i64 a0_1, .slice A0_2 l0_2.length c0_2]) (t := 51) ?hr ?_; (case hd => rfl); (case hg => rfl); (case hr => first | (go_simp; done) | (go_simp; rfl)); intro gb396 hg w3 hbox hb; have n0_ := Aside0.mk (below_step (by repeat (first | (with_reducible first | exact HB.out | apply below_alloc | apply pw_below_drewN | apply below_drew1) | exact HB.out)) hb); have n1_ := Aside0.mk (hbox); have n2_ := Aside0.mk ((by rw [hg]; exact (below_size (by repeat (first | (with_reducible first | exact HB.out | apply below_alloc | apply pw_below_drewN | apply below_drew1) | exact HB.out))) : w.heap.size ≤ gb396)); have n3_ := Aside0.mk ((by rw [hg]; exact (below_size (by repeat (first | (with_reducible first | exact HB.out | apply below_alloc | apply pw_below_drewN | apply below_drew1) | exact HB.out))) : w.heap.size ≤ gb396)); clear HB; have HB := n0_; have BK396 := n1_; have GW396 := n2_; have GE396 := n3_; clear n0_ n1_ n2_ n3_; clear hb hbox hg) | ((with_reducible refine gate_dst (N := 2) rfl ?_); refine box_event ?hg (N := 2) ?hd (cs := #[.int .i64 0, .int .i64 0, .slice none 0 0]) (t := 55) ?hr ?_; (case hd => rfl); (case hg => rfl); (case hr => first | (go_simp; done) | (go_simp; rfl)); intro gb397 hg w4 hbox hb; have n0_ := Aside0.mk (blk_below (g := gb396) (o := .cells #[.int .i64 a0_0, .int .i64 a0_1, .slice A0_2 l0_2.length c0_2] 51 (0, 0)) (by (with_reducible repeat (first | refine blk_drewN ?_ _ | refine blk_drew ?_ | refine blk_alloc ?_ _)); exact BK396.out) hb); have n1_ := Aside0.mk (below_step (by repeat (first | (with_reducible first | exact HB.out | apply below_alloc | apply pw_below_drewN | apply below_drew1 | refine below_set ?_ GE396.out) | exact HB.out)) hb); have n2_ := Aside0.mk (hbox); have n3_ := Aside0.mk ((by rw [hg]; exact (below_size (by repeat (first | (with_reducible first | exact HB.out | apply below_alloc | apply pw_below_drewN | apply below_drew1 | refine below_set ?_ GE396.out) | exact HB.out))) : w.heap.size ≤ gb397)); have n4_ := Aside0.mk ((by rw [hg]; exact (below_size (by repeat (first | (with_reducible first | exact HB.out | apply below_alloc | apply pw_below_drewN | apply below_drew1 | refine below_set ?_ GE396.out) | exact HB.out))) : w.heap.size ≤ gb397)); have n5_ := Aside0.mk ((by rw [hg]; exact Nat.ne_of_lt (blk_lt (g := gb396) (o := .cells #[.int .i64 a0_0, .int .i64 a0_1, .slice A0_2 l0_2.length c0_2] 51 (0, 0)) (by (with_reducible repeat (first | refine blk_drewN ?_ _ | refine blk_drew ?_ | refine blk_alloc ?_ _)); exact BK396.out)) : gb396 ≠ gb397)); have n6_ := Aside0.mk ((by rw [hg]; exact Nat.ne_of_gt (blk_lt (g := gb396) (o := .cells #[.int .i64 a0_0, .int .i64 a0_1, .slice A0_2 l0_2.length c0_2] 51 (0, 0)) (by (with_reducible repeat (first | refine blk_drewN ?_ _ | refine blk_drew ?_ | refine blk_alloc ?_ _)); exact BK396.out)) : gb397 ≠ gb396)); clear BK396; clear HB; have BK396 := n0_; have HB := n1_; have BK397 := n2_; have GW397 := n3_; have GE397 := n4_; have NB396_397 := n5_; have NB397_396 := n6_; clear n0_ n1_ n2_ n3_ n4_ n5_ n6_; clear hb hbox hg) | ((with_reducible refine gate_dst (N := 3) rfl ?_); refine box_event ?hg (N := 3) ?hd (cs := #[.int .i64 0, .int .i64 0, .slice none 0 0]) (t := 55) ?hr ?_; (case hd => rfl); (case hg => rfl); (case hr => first | (go_simp; done) | (go_simp; rfl)); intro gb398 hg w5 hbox hb; have n0_ := Aside0.mk (blk_below (g := gb396) (o := .cells #[.int .i64 a0_0, .int .i64 a0_1, .slice A0_2 l0_2.length c0_2] 51 (0, 0)) (by (with_reducible repeat (first | refine blk_drewN ?_ _ | refine blk_drew ?_ | refine blk_alloc ?_ _)); exact BK396.out) hb); have n1_ := Aside0.mk (blk_below (g := gb397) (o := .cells #[.int .i64 0, .int .i64 0, .slice none 0 0] 55 (0, 0)) (by (with_reducible repeat (first | refine blk_drewN ?_ _ | refine blk_drew ?_ | refine blk_alloc ?_ _)); exact BK397.out) hb); have n2_ := Aside0.mk (below_step (by repeat (first | (with_reducible first | exact HB.out | apply below_alloc | apply pw_below_drewN | apply below_drew1 | refine below_set ?_ GE396.out | refine below_set ?_ GE397.out) | exact HB.out)) hb); have n3_ := Aside0.mk (hbox); have n4_ := Aside0.mk ((by rw [hg]; exact (below_size (by repeat (first | (with_reducible first | exact HB.out | apply below_alloc | apply pw_below_drewN | apply below_drew1 | refine below_set ?_ GE396.out | refine below_set ?_ GE397.out) | exact HB.out))) : w.heap.size ≤ gb398)); have n5_ := Aside0.mk ((by rw [hg]; exact (below_size (by repeat (first | (with_reducible first | exact HB.out | apply below_alloc | apply pw_below_drewN | apply below_drew1 | refine below_set ?_ GE396.out | refine below_set ?_ GE397.out) | exact HB.out))) : w.heap.size ≤ gb398)); have n6_ := Aside0.mk ((by rw [hg]; exact Nat.ne_of_lt (blk_lt (g := gb396) (o := .cells #[.int .i64 a0_0, .int .i64 a0_1, .slice A0_2 l0_2.length c0_2] 51 (0, 0)) (by (with_reducible repeat (first | refine blk_drewN ?_ _ | refine blk_drew ?_ | refine blk_alloc ?_ _)); exact BK396.out)) : gb396 ≠ gb398)); have n7_ := Aside0.mk ((by rw [hg]; exact Nat.ne_of_gt (blk_lt (g := gb396) (o := .cells #[.int .i64 a0_0, .int .i64 a0_1, .slice A0_2 l0_2.length c0_2] 51 (0, 0)) (by (with_reducible repeat (first | refine blk_drewN ?_ _ | refine blk_drew ?_ | refine blk_alloc ?_ _)); exact BK396.out)) : gb398 ≠ gb396)); have n8_ := Aside0.mk ((by rw [hg]; exact Nat.ne_of_lt (blk_lt (g := gb397) (o := .cells #[.int .i64 0, .int .i64 0, .slice none 0 0] 55 (0, 0)) (by (with_reducible repeat (first | refine blk_drewN ?_ _ | refine blk_drew ?_ | refine blk_alloc ?_ _)); exact BK397.out)) : gb397 ≠ gb398)); have n9_ := Aside0.mk ((by rw [hg]; exact Nat.ne_of_gt (blk_lt (g := gb397) (o := .cells #[.int .i64 0, .int .i64 0, .slice none 0 0] 55 (0, 0)) (by (with_reducible repeat (first | refine blk_drewN ?_ _ | refine blk_drew ?_ | refine blk_alloc ?_ _)); exact BK397.out)) : gb398 ≠ gb397)); clear BK396; clear BK397; clear HB; have BK396 := n0_; have BK397 := n1_; have HB := n2_; have BK398 := n3_; have GW398 := n4_; have GE398 := n5_; have NB396_398 := n6_; have NB398_396 := n7_; have NB397_398 := n8_; have NB398_397 := n9_; clear n0_ n1_ n2_ n3_ n4_ n5_ n6_ n7_ n8_ n9_; clear hb hbox hg; have hnb6 := NB396_397.out; have hnc6 := NB397_396.out; have hnb7 := NB396_398.out; have hnc7 := NB398_396.out; have hcz8_0 : w5.cell? ⟨gb396, 0, none⟩ = some (.int .i64 a0_0) := (blk_cell BK396.out 0).trans rfl; have hcz8_1 : w5.cell? ⟨gb396, 1, none⟩ = some (.int .i64 a0_1) := (blk_cell BK396.out 1).trans rfl; have hcz8_2 : w5.cell? ⟨gb396, 2, none⟩ = some (.slice A0_2 l0_2.length c0_2) := (blk_cell BK396.out 2).trans rfl; have hfz8_0 := blk_frozen BK396.out 0; have hfz8_1 := blk_frozen BK396.out 1; have hfz8_2 := blk_frozen BK396.out 2; have hnb9 := NB398_397.out; have hnc9 := NB397_398.out; have hcz10_0 : w5.cell? ⟨gb398, 0, none⟩ = some (.int .i64 0) := (blk_cell BK398.out 0).trans rfl; have hcz10_1 : w5.cell? ⟨gb398, 1, none⟩ = some (.int .i64 0) := (blk_cell BK398.out 1).trans rfl; have hcz10_2 : w5.cell? ⟨gb398, 2, none⟩ = some (.slice none 0 0) := (blk_cell BK398.out 2).trans rfl; have hfz10_0 := blk_frozen BK398.out 0; have hfz10_1 := blk_frozen BK398.out 1; have hfz10_2 := blk_frozen BK398.out 2) | ((with_reducible refine gate_callee (f := 10) rfl ?_); refine goesL_ (some 12) rfl rfl Try.func10 (by kernel_rfl) rfl #[.slice A0_2 l0_2.length c0_2] rfl (by (try simp only [List.map_toArray, List.map_cons, List.map_nil]); first | done | rfl | (simp only [List.length_drop, List.length_take]; rfl)) ?_; (with_reducible refine (laws_toInt64S.calls k _ _ l0_2 t399 _ ?side1 ?side2 A2.out).mono ?_); (case side1 => exact Kd.C_below HR0_2.out (by repeat (first | (with_reducible first | exact HB.out | apply below_alloc | apply pw_below_drewN | apply below_drew1 | refine below_set ?_ GE396.out | refine below_set ?_ GE397.out | refine below_set ?_ GE398.out) | exact HB.out))); (case side2 => exact HC0_2.out); rintro e w11 ⟨v400, rfl, ho0, hb⟩; refine ⟨_, rfl, ?_⟩; have n0_ := Aside0.mk (Kd.R_lower ho0 (below_size (by repeat (first | (with_reducible first | exact HB.out | apply below_alloc | apply pw_below_drewN | apply below_drew1 | refine below_set ?_ GE396.out | refine below_set ?_ GE397.out | refine below_set ?_ GE398.out) | exact HB.out)))); have n1_ := Aside0.mk (blk_below (g := gb396) (o := .cells #[.int .i64 a0_0, .int .i64 a0_1, .slice A0_2 l0_2.length c0_2] 51 (0, 0)) (by (with_reducible repeat (first | refine blk_drewN ?_ _ | refine blk_drew ?_ | refine blk_alloc ?_ _)); refine blk_far ?_ NB396_398.out _; (with_reducible repeat (first | refine blk_drewN ?_ _ | refine blk_drew ?_ | refine blk_alloc ?_ _)); refine blk_far ?_ NB396_398.out _; (with_reducible repeat (first | refine blk_drewN ?_ _ | refine blk_drew ?_ | refine blk_alloc ?_ _)); exact BK396.out) hb); have n2_ := Aside0.mk (blk_below (g := gb397) (o := .cells #[.int .i64 0, .int .i64 0, .slice none 0 0] 55 (0, 0)) (by (with_reducible repeat (first | refine blk_drewN ?_ _ | refine blk_drew ?_ | refine blk_alloc ?_ _)); refine blk_far ?_ NB397_398.out _; (with_reducible repeat (first | refine blk_drewN ?_ _ | refine blk_drew ?_ | refine blk_alloc ?_ _)); refine blk_far ?_ NB397_398.out _; (with_reducible repeat (first | refine blk_drewN ?_ _ | refine blk_drew ?_ | refine blk_alloc ?_ _)); exact BK397.out) hb); have n3_ := Aside0.mk (blk_below (g := gb398) (o := .cells #[.int .i64 a0_0, .int .i64 a0_1, .slice none 0 0] 55 (0, 0)) (by (with_reducible repeat (first | refine blk_drewN ?_ _ | refine blk_drew ?_ | refine blk_alloc ?_ _)); refine blk_put (cs := #[.int .i64 a0_0, .int .i64 0, .slice none 0 0]) ?_ 1 _ rfl; (with_reducible repeat (first | refine blk_drewN ?_ _ | refine blk_drew ?_ | refine blk_alloc ?_ _)); refine blk_put (cs := #[.int .i64 0, .int .i64 0, .slice none 0 0]) ?_ 0 _ rfl; (with_reducible repeat (first | refine blk_drewN ?_ _ | refine blk_drew ?_ | refine blk_alloc ?_ _)); exact BK398.out) hb); have n4_ := Aside0.mk (below_step (by repeat (first | (with_reducible first | exact HB.out | apply below_alloc | apply pw_below_drewN | apply below_drew1 | refine below_set ?_ GE396.out | refine below_set ?_ GE397.out | refine below_set ?_ GE398.out) | exact HB.out)) hb); clear BK396; clear BK397; clear BK398; clear HB; have HO401 := n0_; have BK396 := n1_; have BK397 := n2_; have BK398 := n3_; have HB := n4_; clear n0_ n1_ n2_ n3_ n4_; (try clear hb); (try clear hb2); (try clear hk); (try clear hi); (try clear ho0); obtain ⟨Ao12, co12, eo12⟩ := Kd.R_slice HO401.out; subst eo12; have hcz13_0 : w11.cell? ⟨gb398, 0, none⟩ = some (.int .i64 a0_0) := (blk_cell BK398.out 0).trans rfl; have hcz13_1 : w11.cell? ⟨gb398, 1, none⟩ = some (.int .i64 a0_1) := (blk_cell BK398.out 1).trans rfl; have hcz13_2 : w11.cell? ⟨gb398, 2, none⟩ = some (.slice none 0 0) := (blk_cell BK398.out 2).trans rfl; have hfz13_0 := blk_frozen BK398.out 0; have hfz13_1 := blk_frozen BK398.out 1; have hfz13_2 := blk_frozen BK398.out 2; have hcz14_0 : w11.cell? ⟨gb397, 0, none⟩ = some (.int .i64 0) := (blk_cell BK397.out 0).trans rfl; have hcz14_1 : w11.cell? ⟨gb397, 1, none⟩ = some (.int .i64 0) := (blk_cell BK397.out 1).trans rfl; have hcz14_2 : w11.cell? ⟨gb397, 2, none⟩ = some (.slice none 0 0) := (blk_cell BK397.out 2).trans rfl; have hfz14_0 := blk_frozen BK397.out 0; have hfz14_1 := blk_frozen BK397.out 1; have hfz14_2 := blk_frozen BK397.out 2))
  refine bodyPost_ret (results_cell_row rfl _ _ gb397 55 #[.int .i64 a0_0, .int .i64 a0_1, .slice Ao12 t399.length co12] (0, 0) _ rfl (by (with_reducible repeat (first | refine blk_drewN ?_ _ | refine blk_drew ?_ | refine blk_alloc ?_ _)); refine blk_put (cs := #[.int .i64 a0_0, .int .i64 a0_1, .slice none 0 0]) ?_ 2 _ rfl; (with_reducible repeat (first | refine blk_drewN ?_ _ | refine blk_drew ?_ | refine blk_alloc ?_ _)); refine blk_put (cs := #[.int .i64 a0_0, .int .i64 0, .slice none 0 0]) ?_ 1 _ rfl; (with_reducible repeat (first | refine blk_drewN ?_ _ | refine blk_drew ?_ | refine blk_alloc ?_ _)); refine blk_put (cs := #[.int .i64 0, .int .i64 0, .slice none 0 0]) ?_ 0 _ rfl; (with_reducible repeat (first | refine blk_drewN ?_ _ | refine blk_drew ?_ | refine blk_alloc ?_ _)); refine blk_far ?_ NB397_398.out _; (with_reducible repeat (first | refine blk_drewN ?_ _ | refine blk_drew ?_ | refine blk_alloc ?_ _)); exact BK397.out) Try.underlying55 rfl (by kernel_rfl)) rfl ?_
  exact ⟨_, by first | rfl | (simp [errW_none, errW_some] <;> rfl) | (simp [*, errW_none, errW_some] <;> rfl), by (with_reducible repeat (first | apply Kd.R_alloc | apply Kd.R_drewN | apply Kd.R_drew)); exact Kd.R_mono (Kd.R_far (p := ⟨gb397, 2, none⟩) (Kd.R_far (p := ⟨gb397, 1, none⟩) (Kd.R_far (p := ⟨gb397, 0, none⟩) (Kd.R_far (p := ⟨gb398, 2, none⟩) (Kd.R_types (Kd.R_types HO401.out BK398.out (by decide)) BK397.out (by decide)) (fun _ hk => hk.1.2) (.slice Ao12 t399.length co12)) (fun _ hk => hk.2) (.int .i64 a0_0)) (fun _ hk => hk.2) (.int .i64 a0_1)) (fun _ hk => hk.2) (.slice Ao12 t399.length co12)) (fun _ hk => trivial), by repeat (first | (with_reducible first | exact HB.out | apply below_alloc | apply pw_below_drewN | apply below_drew1 | refine below_set ?_ GE396.out | refine below_set ?_ GE397.out | refine below_set ?_ GE398.out) | exact HB.out)⟩

/-! ### impl_BoxOk: function 51 -/
mutual
def impl_BoxOk.j0 : Nat → Bool → Int → Int → List Int → Option (Bool)
  | 0, _, _, _, _ => none
  | k + 1, x25, x403000, x403001, x403002 => if x25 = true then (some false) else (impl_BoxOk.l0 k x403002 (x403002.length : Int) 0)
def impl_BoxOk.l0 : Nat → List Int → Int → Int → Option (Bool)
  | 0, _, _, _ => none
  | k + 1, x27, x28, x29 => if x29 < x28 then (if 0 ≤ x29 then (if x29 < (x27.length : Int) then ((impl_in.f (rd x27 x29) (-1000000000) 1000000000).bind fun t406 => (if t406 = true then (impl_BoxOk.l0 k x27 x28 (wrap64 (x29 + 1))) else (some false))) else (none)) else (none)) else (some true)
end
def impl_BoxOk.f (k : Nat) (a0_0 : Int) (a0_1 : Int) (l0_2 : List Int) : Option (Bool) := (impl_in.f a0_0 1 24).bind fun t403 => (if t403 = true then ((impl_in.f a0_1 1 24).bind fun t404 => (if t404 = true then (impl_BoxOk.j0 k ((l0_2.length : Int) != (wrap64 (a0_0 * a0_1))) a0_0 a0_1 l0_2) else (impl_BoxOk.j0 k true a0_0 a0_1 l0_2))) else (impl_BoxOk.j0 k true a0_0 a0_1 l0_2))
theorem impl_BoxOk.mono_l : ∀ k, (∀ y0 y1 y2 y3, LeO (impl_BoxOk.j0 k y0 y1 y2 y3) (impl_BoxOk.j0 (k + 1) y0 y1 y2 y3)) ∧ (∀ y0 y1 y2, LeO (impl_BoxOk.l0 k y0 y1 y2) (impl_BoxOk.l0 (k + 1) y0 y1 y2))
  | 0 => ⟨fun _ _ _ _ r h => by simp [impl_BoxOk.j0] at h, fun _ _ _ r h => by simp [impl_BoxOk.l0] at h⟩
  | k + 1 => by
    obtain ⟨ih0, ih1⟩ := impl_BoxOk.mono_l k
    refine ⟨?_, ?_⟩
    · intro y0 y1 y2 y3
      unfold impl_BoxOk.j0
      repeat' first
      | (with_reducible exact ih0 _ _ _ _)
      | (with_reducible exact ih1 _ _ _)
      | (with_reducible exact LeO.refl _)
      | (with_reducible exact LeO.none _)
      | (with_reducible refine LeO.ite ?_ ?_)
      | (with_reducible refine LeO.bind ?_ (fun _ => ?_))
      | exact ih0 _ _ _ _
      | exact ih1 _ _ _
      | exact LeO.none _
      | refine LeO.ite ?_ ?_
      | refine LeO.bind ?_ (fun _ => ?_)
    · intro y0 y1 y2
      unfold impl_BoxOk.l0
      repeat' first
      | (with_reducible exact ih0 _ _ _ _)
      | (with_reducible exact ih1 _ _ _)
      | (with_reducible exact LeO.refl _)
      | (with_reducible exact LeO.none _)
      | (with_reducible refine LeO.ite ?_ ?_)
      | (with_reducible refine LeO.bind ?_ (fun _ => ?_))
      | exact ih0 _ _ _ _
      | exact ih1 _ _ _
      | exact LeO.none _
      | refine LeO.ite ?_ ?_
      | refine LeO.bind ?_ (fun _ => ?_)
theorem impl_BoxOk.mono : ∀ a0 a1 a2 k, LeO (impl_BoxOk.f k a0 a1 a2) (impl_BoxOk.f (k + 1) a0 a1 a2) := by
  intro a0 a1 a2 k
  obtain ⟨ih0, ih1⟩ := impl_BoxOk.mono_l k
  unfold impl_BoxOk.f
  repeat' first
      | (with_reducible exact ih0 _ _ _ _)
      | (with_reducible exact ih1 _ _ _)
      | (with_reducible exact LeO.refl _)
      | (with_reducible exact LeO.none _)
      | (with_reducible refine LeO.ite ?_ ?_)
      | (with_reducible refine LeO.bind ?_ (fun _ => ?_))
      | exact ih0 _ _ _ _
      | exact ih1 _ _ _
      | exact LeO.none _
      | refine LeO.ite ?_ ?_
      | refine LeO.bind ?_ (fun _ => ?_)
set_option maxHeartbeats 8000000 in
set_option maxRecDepth 100000 in
theorem impl_BoxOk.calls (k : Nat) (a0_0 : Int) (a0_1 : Int) (A0_2 : Option Addr) (c0_2 : Nat) (l0_2 : List Int) (r : Bool) (w : World) (hr0_2 : Kd.C (Kd.int .i64) w A0_2 l0_2.length l0_2) (hc0_2 : l0_2.length ≤ c0_2) (h : impl_BoxOk.f k a0_0 a0_1 l0_2 = some r) :
    Calls Try.prog 51 #[.agg #[.int .i64 a0_0, .int .i64 a0_1, .slice A0_2 l0_2.length c0_2]] w fun e w' => e = .returned (.bool r) ∧ Below w.heap.size w w' := by
  have hu55 := Try.underlying55
  have HR0_2 := Aside0.mk hr0_2
  have HC0_2 := Aside0.mk hc0_2
  clear hr0_2 hc0_2
  have HB := Aside0.mk (Below.refl w.heap.size w)
  have H : ((impl_in.f a0_0 1 24).bind fun t403 => (if t403 = true then ((impl_in.f a0_1 1 24).bind fun t404 => (if t404 = true then (impl_BoxOk.j0 k ((l0_2.length : Int) != (wrap64 (a0_0 * a0_1))) a0_0 a0_1 l0_2) else (impl_BoxOk.j0 k true a0_0 a0_1 l0_2))) else (impl_BoxOk.j0 k true a0_0 a0_1 l0_2))) = some r := h
  clear h
  have HC2 := Aside0.mk H
  clear H
  go_enter Try.func51, Try.ntmps51
  go_upto_region 1 with (first | ((with_reducible refine gate_dst (N := 1) rfl ?_); (try (refine gate_guard (by rfl) ?_; dsimp only)); refine box_event ?hg (N := 1) ?hd (cs := #[.int .i64 a0_0, .int .i64 a0_1, .slice A0_2 l0_2.length c0_2]) (t := 55) ?hr ?_; (case hd => rfl); (case hg => rfl); (case hr => first | (go_simp; done) | (go_simp; rfl)); intro gb402 hg w3 hbox hb; have n0_ := Aside0.mk (below_step (by repeat (first | (with_reducible first | exact HB.out | apply below_alloc | apply pw_below_drewN | apply below_drew1) | exact HB.out)) hb); have n1_ := Aside0.mk (hbox); have n2_ := Aside0.mk ((by rw [hg]; exact (below_size (by repeat (first | (with_reducible first | exact HB.out | apply below_alloc | apply pw_below_drewN | apply below_drew1) | exact HB.out))) : w.heap.size ≤ gb402)); have n3_ := Aside0.mk ((by rw [hg]; exact (below_size (by repeat (first | (with_reducible first | exact HB.out | apply below_alloc | apply pw_below_drewN | apply below_drew1) | exact HB.out))) : w.heap.size ≤ gb402)); clear HB; have HB := n0_; have BK402 := n1_; have GW402 := n2_; have GE402 := n3_; clear n0_ n1_ n2_ n3_; clear hb hbox hg))
  (try simp only [Act.put, List.setIfInBounds_toArray, List.set_cons_zero, List.set_cons_succ])
  go_cut [25] (fun v25 wc => ∃ (kq : Nat) (x25_1 : Bool), v25 = .bool x25_1 ∧ Aside0 (impl_BoxOk.j0 kq x25_1 a0_0 a0_1 l0_2 = some r) ∧ Aside0 (kq ≤ k) ∧ Aside0 (wc.heap[gb402]? = some (.cells #[.int .i64 a0_0, .int .i64 a0_1, (.slice A0_2 l0_2.length c0_2)] 55 (0, 0))) ∧ Aside0 (Below w.heap.size w wc))
  case first =>
    have H := HC2.out
    clear HC2
    replace H := Option.bind_eq_some_iff.mp H
    obtain ⟨t403, A40, H⟩ := H
    replace H : (if t403 = true then ((impl_in.f a0_1 1 24).bind fun t404 => (if t404 = true then (impl_BoxOk.j0 k ((l0_2.length : Int) != (wrap64 (a0_0 * a0_1))) a0_0 a0_1 l0_2) else (impl_BoxOk.j0 k true a0_0 a0_1 l0_2))) else (impl_BoxOk.j0 k true a0_0 a0_1 l0_2)) = some r := H
    have A4 := Aside0.mk A40
    clear A40
    by_cases c5 : t403 = true
    · subst c5
      have H1 : ((impl_in.f a0_1 1 24).bind fun t404 => (if t404 = true then (impl_BoxOk.j0 k ((l0_2.length : Int) != (wrap64 (a0_0 * a0_1))) a0_0 a0_1 l0_2) else (impl_BoxOk.j0 k true a0_0 a0_1 l0_2))) = some r := by rw [if_pos rfl] at H; exact H
      clear H
      have H := H1
      clear H1
      replace H := Option.bind_eq_some_iff.mp H
      obtain ⟨t404, A60, H⟩ := H
      replace H : (if t404 = true then (impl_BoxOk.j0 k ((l0_2.length : Int) != (wrap64 (a0_0 * a0_1))) a0_0 a0_1 l0_2) else (impl_BoxOk.j0 k true a0_0 a0_1 l0_2)) = some r := H
      have A6 := Aside0.mk A60
      clear A60
      by_cases c7 : t404 = true
      · subst c7
        have H1 : (impl_BoxOk.j0 k ((l0_2.length : Int) != (wrap64 (a0_0 * a0_1))) a0_0 a0_1 l0_2) = some r := by rw [if_pos rfl] at H; exact H
        clear H
        have H := H1
        clear H1
        have H' := Aside0.mk H
        clear H
        have hcz8_0 : w3.cell? ⟨gb402, 0, none⟩ = some (.int .i64 a0_0) := (blk_cell BK402.out 0).trans rfl
        have hcz8_1 : w3.cell? ⟨gb402, 1, none⟩ = some (.int .i64 a0_1) := (blk_cell BK402.out 1).trans rfl
        have hcz8_2 : w3.cell? ⟨gb402, 2, none⟩ = some (.slice A0_2 l0_2.length c0_2) := (blk_cell BK402.out 2).trans rfl
        have hfz8_0 := blk_frozen BK402.out 0
        have hfz8_1 := blk_frozen BK402.out 1
        have hfz8_2 := blk_frozen BK402.out 2
        go_wp2_with (first | ((with_reducible refine gate_callee (f := 46) rfl ?_); refine goesL_ (some 7) rfl rfl Try.func46 (by kernel_rfl) rfl #[.int .i64 a0_0, .int .i64 1, .int .i64 24] rfl (by (try simp only [List.map_toArray, List.map_cons, List.map_nil]); first | done | rfl | (simp only [List.length_drop, List.length_take]; rfl)) ?_; (with_reducible refine (impl_in.calls a0_0 1 24 true _ A4.out).mono ?_); rintro e w' ⟨rfl, ⟨nd, rfl⟩⟩; refine ⟨_, rfl, ?_⟩) | (go_at_call 46; (with_reducible refine (impl_in.calls a0_1 1 24 true _ A6.out).mono ?_); rintro e w' ⟨rfl, ⟨nd, rfl⟩⟩))
        go_meet
        case rel => exact ⟨_, (((l0_2.length : Int) != (wrap64 (a0_0 * a0_1)))), (by first | rfl | (simp; done) | (simp [*]; done)), H', ⟨by first | omega | exact Nat.le_refl _⟩, ⟨by (with_reducible repeat (first | refine blk_drewN ?_ _ | refine blk_drew ?_ | refine blk_alloc ?_ _)); exact BK402.out⟩, ⟨by repeat (first | (with_reducible first | exact HB.out | apply below_alloc | apply pw_below_drewN | apply below_drew1 | refine below_set ?_ GE402.out) | exact HB.out)⟩⟩
      · replace c7 := Bool.eq_false_iff.mpr c7
        subst c7
        have H1 : (impl_BoxOk.j0 k true a0_0 a0_1 l0_2) = some r := by rw [if_neg (show ¬ (false = true) by decide)] at H; exact H
        clear H
        have H := H1
        clear H1
        have H' := Aside0.mk H
        clear H
        have hcz9_0 : w3.cell? ⟨gb402, 0, none⟩ = some (.int .i64 a0_0) := (blk_cell BK402.out 0).trans rfl
        have hcz9_1 : w3.cell? ⟨gb402, 1, none⟩ = some (.int .i64 a0_1) := (blk_cell BK402.out 1).trans rfl
        have hcz9_2 : w3.cell? ⟨gb402, 2, none⟩ = some (.slice A0_2 l0_2.length c0_2) := (blk_cell BK402.out 2).trans rfl
        have hfz9_0 := blk_frozen BK402.out 0
        have hfz9_1 := blk_frozen BK402.out 1
        have hfz9_2 := blk_frozen BK402.out 2
        go_wp2_with (first | ((with_reducible refine gate_callee (f := 46) rfl ?_); refine goesL_ (some 7) rfl rfl Try.func46 (by kernel_rfl) rfl #[.int .i64 a0_0, .int .i64 1, .int .i64 24] rfl (by (try simp only [List.map_toArray, List.map_cons, List.map_nil]); first | done | rfl | (simp only [List.length_drop, List.length_take]; rfl)) ?_; (with_reducible refine (impl_in.calls a0_0 1 24 true _ A4.out).mono ?_); rintro e w' ⟨rfl, ⟨nd, rfl⟩⟩; refine ⟨_, rfl, ?_⟩) | (go_at_call 46; (with_reducible refine (impl_in.calls a0_1 1 24 false _ A6.out).mono ?_); rintro e w' ⟨rfl, ⟨nd, rfl⟩⟩))
        go_meet
        case rel => exact ⟨_, (true), (by first | rfl | (simp; done) | (simp [*]; done)), H', ⟨by first | omega | exact Nat.le_refl _⟩, ⟨by (with_reducible repeat (first | refine blk_drewN ?_ _ | refine blk_drew ?_ | refine blk_alloc ?_ _)); exact BK402.out⟩, ⟨by repeat (first | (with_reducible first | exact HB.out | apply below_alloc | apply pw_below_drewN | apply below_drew1 | refine below_set ?_ GE402.out) | exact HB.out)⟩⟩
    · replace c5 := Bool.eq_false_iff.mpr c5
      subst c5
      have H1 : (impl_BoxOk.j0 k true a0_0 a0_1 l0_2) = some r := by rw [if_neg (show ¬ (false = true) by decide)] at H; exact H
      clear H
      have H := H1
      clear H1
      have H' := Aside0.mk H
      clear H
      have hcz10_0 : w3.cell? ⟨gb402, 0, none⟩ = some (.int .i64 a0_0) := (blk_cell BK402.out 0).trans rfl
      have hcz10_1 : w3.cell? ⟨gb402, 1, none⟩ = some (.int .i64 a0_1) := (blk_cell BK402.out 1).trans rfl
      have hcz10_2 : w3.cell? ⟨gb402, 2, none⟩ = some (.slice A0_2 l0_2.length c0_2) := (blk_cell BK402.out 2).trans rfl
      have hfz10_0 := blk_frozen BK402.out 0
      have hfz10_1 := blk_frozen BK402.out 1
      have hfz10_2 := blk_frozen BK402.out 2
      go_wp2_with (first | ((with_reducible refine gate_callee (f := 46) rfl ?_); refine goesL_ (some 7) rfl rfl Try.func46 (by kernel_rfl) rfl #[.int .i64 a0_0, .int .i64 1, .int .i64 24] rfl (by (try simp only [List.map_toArray, List.map_cons, List.map_nil]); first | done | rfl | (simp only [List.length_drop, List.length_take]; rfl)) ?_; (with_reducible refine (impl_in.calls a0_0 1 24 false _ A4.out).mono ?_); rintro e w' ⟨rfl, ⟨nd, rfl⟩⟩; refine ⟨_, rfl, ?_⟩))
      go_meet
      case rel => exact ⟨_, (true), (by first | rfl | (simp; done) | (simp [*]; done)), H', ⟨by first | omega | exact Nat.le_refl _⟩, ⟨by (with_reducible repeat (first | refine blk_drewN ?_ _ | refine blk_drew ?_ | refine blk_alloc ?_ _)); exact BK402.out⟩, ⟨by repeat (first | (with_reducible first | exact HB.out | apply below_alloc | apply pw_below_drewN | apply below_drew1 | refine below_set ?_ GE402.out) | exact HB.out)⟩⟩
  case rest =>
    clear HC2
    try clear p2
    try clear c4
    try clear c5
    try clear p6
    try clear c7
    try clear hcz10_0
    try clear hcz10_1
    try clear hcz10_2
    try clear hcz8_0
    try clear hcz8_1
    try clear hcz8_2
    try clear hcz9_0
    try clear hcz9_1
    try clear hcz9_2
    try clear hfz10_0
    try clear hfz10_1
    try clear hfz10_2
    try clear hfz8_0
    try clear hfz8_1
    try clear hfz8_2
    try clear hfz9_0
    try clear hfz9_1
    try clear hfz9_2
    obtain ⟨kq, x25_1, rfl, HA, HJ1, BK402, HB⟩ := hcut
    cases kq with
    | zero => exact absurd HA.out (by simp [impl_BoxOk.j0])
    | succ kj1 =>
      have H := HA.out
      clear HA
      simp only [impl_BoxOk.j0] at H
      by_cases c11 : x25_1 = true
      · subst c11
        have H1 : (some false) = some r := by rw [if_pos rfl] at H; exact H
        clear H
        have H := H1
        clear H1
        obtain rfl := Option.some.inj H
        go_wp2
        go_ret
        exact ⟨by first | rfl | (simp [errW_none, errW_some] <;> rfl) | (simp [*, errW_none, errW_some] <;> rfl), by repeat (first | (with_reducible first | exact HB.out | apply below_alloc | apply pw_below_drewN | apply below_drew1 | refine below_set ?_ GE402.out) | exact HB.out)⟩
      · replace c11 := Bool.eq_false_iff.mpr c11
        subst c11
        have H1 : (impl_BoxOk.l0 kj1 l0_2 (l0_2.length : Int) 0) = some r := by rw [if_neg (show ¬ (false = true) by decide)] at H; exact H
        clear H
        have H := H1
        clear H1
        have H' := Aside0.mk H
        clear H
        have hcz12_0 : wc.cell? ⟨gb402, 0, none⟩ = some (.int .i64 a0_0) := (blk_cell BK402.out 0).trans rfl
        have hcz12_1 : wc.cell? ⟨gb402, 1, none⟩ = some (.int .i64 a0_1) := (blk_cell BK402.out 1).trans rfl
        have hcz12_2 : wc.cell? ⟨gb402, 2, none⟩ = some (.slice A0_2 l0_2.length c0_2) := (blk_cell BK402.out 2).trans rfl
        have hfz12_0 := blk_frozen BK402.out 0
        have hfz12_1 := blk_frozen BK402.out 1
        have hfz12_2 := blk_frozen BK402.out 2
        go_wp2
        go_loopg [29] kj1 (fun kq v29 w' => ∃ (x29_2 : Int), v29 = .int .i64 x29_2 ∧ Aside0 (impl_BoxOk.l0 kq l0_2 (l0_2.length : Int) x29_2 = some r) ∧ Aside0 (kq ≤ kj1) ∧ Aside0 (w'.heap[gb402]? = some (.cells #[.int .i64 a0_0, .int .i64 a0_1, (.slice A0_2 l0_2.length c0_2)] 55 (0, 0))) ∧ Aside0 (Below w.heap.size w w'))
        case atStart => exact ⟨(0), (by first | rfl | (simp; done) | (simp [*]; done)), H', ⟨Nat.le_refl _⟩, ⟨by (with_reducible repeat (first | refine blk_drewN ?_ _ | refine blk_drew ?_ | refine blk_alloc ?_ _)); exact BK402.out⟩, ⟨by repeat (first | (with_reducible first | exact HB.out | apply below_alloc | apply pw_below_drewN | apply below_drew1 | refine below_set ?_ GE402.out) | exact HB.out)⟩⟩
        case round =>
          clear H'
          try clear c1
          try clear p2
          try clear c4
          try clear c5
          try clear p6
          try clear c7
          try clear c11
          try clear hcz10_0
          try clear hcz10_1
          try clear hcz10_2
          try clear hcz12_0
          try clear hcz12_1
          try clear hcz12_2
          try clear hcz8_0
          try clear hcz8_1
          try clear hcz8_2
          try clear hcz9_0
          try clear hcz9_1
          try clear hcz9_2
          try clear hfz10_0
          try clear hfz10_1
          try clear hfz10_2
          try clear hfz12_0
          try clear hfz12_1
          try clear hfz12_2
          try clear hfz8_0
          try clear hfz8_1
          try clear hfz8_2
          try clear hfz9_0
          try clear hfz9_1
          try clear hfz9_2
          try clear p2
          try clear p6
          obtain ⟨x29_2, rfl, HA, HK2, BK402, HB⟩ := hrel
          cases gk with
          | zero => exact absurd HA.out (by simp [impl_BoxOk.l0])
          | succ k2 =>
            have H := HA.out
            clear HA
            simp only [impl_BoxOk.l0] at H
            by_cases c13 : x29_2 < (l0_2.length : Int)
            · rw [if_pos c13] at H
              have c13b0 : decide (x29_2 < (l0_2.length : Int)) = true := decide_eq_true c13
              clear c13
              by_cases c14 : 0 ≤ x29_2
              · rw [if_pos c14] at H
                have c14b0 : decide (0 ≤ x29_2) = true := decide_eq_true c14
                clear c14
                by_cases c15 : x29_2 < (l0_2.length : Int)
                · rw [if_pos c15] at H
                  have c15b0 : decide (x29_2 < (l0_2.length : Int)) = true := decide_eq_true c15
                  clear c15
                  replace H := Option.bind_eq_some_iff.mp H
                  obtain ⟨t406, A160, H⟩ := H
                  replace H : (if t406 = true then (impl_BoxOk.l0 k2 l0_2 (l0_2.length : Int) (wrap64 (x29_2 + 1))) else (some false)) = some r := H
                  have A16 := Aside0.mk A160
                  clear A160
                  by_cases c17 : t406 = true
                  · subst c17
                    have H1 : (impl_BoxOk.l0 k2 l0_2 (l0_2.length : Int) (wrap64 (x29_2 + 1))) = some r := by rw [if_pos rfl] at H; exact H
                    clear H
                    have H := H1
                    clear H1
                    have H' := Aside0.mk H
                    clear H
                    have p405 : 0 ≤ (x29_2 : Int) := of_decide_eq_true (by first | (with_reducible assumption) | assumption)
                    have q405 : x29_2 < (l0_2.length : Int) := of_decide_eq_true (by first | (with_reducible assumption) | assumption)
                    obtain ⟨ad405, e405, hx405_0⟩ := Kd.at_int HR0_2.out x29_2 p405 q405
                    cases e405
                    replace hx405_0 := (HB.out.cell (World.block_lt_of_cell? w _ hx405_0)).trans hx405_0
                    replace p405 := eq_true p405
                    replace q405 := eq_true q405
                    go_wp2_with (first | ((with_reducible refine gate_callee (f := 46) rfl ?_); refine goesL_ (some 34) rfl rfl Try.func46 (by kernel_rfl) rfl #[.int .i64 (rd l0_2 x29_2), .int .i64 (-1000000000), .int .i64 1000000000] rfl (by (try simp only [List.map_toArray, List.map_cons, List.map_nil]); first | done | rfl | (simp only [List.length_drop, List.length_take]; rfl)) ?_; (with_reducible refine (impl_in.calls (rd l0_2 x29_2) (-1000000000) 1000000000 true _ A16.out).mono ?_); rintro e w' ⟨rfl, ⟨nd, rfl⟩⟩; refine ⟨_, rfl, ?_⟩))
                    go_roundg k2
                    case measure => have := HJ1.out; have := HK2.out; omega
                    case rel => exact ⟨(wrap64 (x29_2 + 1)), (by first | rfl | (simp; done) | (simp [*]; done)), H', ⟨by have := HJ1.out; have := HK2.out; omega⟩, ⟨by (with_reducible repeat (first | refine blk_drewN ?_ _ | refine blk_drew ?_ | refine blk_alloc ?_ _)); exact BK402.out⟩, ⟨by repeat (first | (with_reducible first | exact HB.out | apply below_alloc | apply pw_below_drewN | apply below_drew1 | refine below_set ?_ GE402.out) | exact HB.out)⟩⟩
                  · replace c17 := Bool.eq_false_iff.mpr c17
                    subst c17
                    have H1 : (some false) = some r := by rw [if_neg (show ¬ (false = true) by decide)] at H; exact H
                    clear H
                    have H := H1
                    clear H1
                    obtain rfl := Option.some.inj H
                    have p405 : 0 ≤ (x29_2 : Int) := of_decide_eq_true (by first | (with_reducible assumption) | assumption)
                    have q405 : x29_2 < (l0_2.length : Int) := of_decide_eq_true (by first | (with_reducible assumption) | assumption)
                    obtain ⟨ad405, e405, hx405_0⟩ := Kd.at_int HR0_2.out x29_2 p405 q405
                    cases e405
                    replace hx405_0 := (HB.out.cell (World.block_lt_of_cell? w _ hx405_0)).trans hx405_0
                    replace p405 := eq_true p405
                    replace q405 := eq_true q405
                    go_wp2_with (first | ((with_reducible refine gate_callee (f := 46) rfl ?_); refine goesL_ (some 34) rfl rfl Try.func46 (by kernel_rfl) rfl #[.int .i64 (rd l0_2 x29_2), .int .i64 (-1000000000), .int .i64 1000000000] rfl (by (try simp only [List.map_toArray, List.map_cons, List.map_nil]); first | done | rfl | (simp only [List.length_drop, List.length_take]; rfl)) ?_; (with_reducible refine (impl_in.calls (rd l0_2 x29_2) (-1000000000) 1000000000 false _ A16.out).mono ?_); rintro e w' ⟨rfl, ⟨nd, rfl⟩⟩; refine ⟨_, rfl, ?_⟩))
                    go_ret
                    exact ⟨by first | rfl | (simp [errW_none, errW_some] <;> rfl) | (simp [*, errW_none, errW_some] <;> rfl), by repeat (first | (with_reducible first | exact HB.out | apply below_alloc | apply pw_below_drewN | apply below_drew1 | refine below_set ?_ GE402.out) | exact HB.out)⟩
                · rw [if_neg c15] at H
                  exact absurd H (by simp)
              · rw [if_neg c14] at H
                exact absurd H (by simp)
            · rw [if_neg c13] at H
              have c13b0 : decide (x29_2 < (l0_2.length : Int)) = false := decide_eq_false c13
              clear c13
              obtain rfl := Option.some.inj H
              go_wp2
              go_ret
              exact ⟨by first | rfl | (simp [errW_none, errW_some] <;> rfl) | (simp [*, errW_none, errW_some] <;> rfl), by repeat (first | (with_reducible first | exact HB.out | apply below_alloc | apply pw_below_drewN | apply below_drew1 | refine below_set ?_ GE402.out) | exact HB.out)⟩

end Go.Proofs.Ytcdghhihfjojaaa.Q
