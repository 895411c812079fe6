/- Plain Lean functions with the same answers as the Go functions of this seat, and a proof for each that the Go code comes to just these answers; no condition. Written by a program of this session (the kit's printer, turned). -/
import Derived.Test.YtcdghhihfjojaaaQx0
import Derived.Test.YtcdghhihfjojaaaQx22
import Derived.Test.YtcdghhihfjojaaaQx24
import Derived.Test.YtcdghhihfjojaaaQx25
import Derived.Test.YtcdghhihfjojaaaQx27
import Derived.Test.YtcdghhihfjojaaaQx28
namespace Go.Proofs.Ytcdghhihfjojaaa.Q
open Go.RowKit Go.Proofs.YtcdghhihfjojaaaW.PrintWords Go.Proofs.YtcdghhihfjojaaaW.PrintLast Go.Proofs.YtcdghhihfjojaaaW.PrintMore
attribute [local go_sem] max2_int min2_int max_two min_two max_three min_three max_four min_four   -- for this text's walks alone
set_option linter.unusedVariables false
set_option linter.unusedSimpArgs false

/-! ### laws_FnExactMoved: function 6 -/
def laws_FnExactMoved.j0 : Nat → Bool → Int → Int → List Int → Int → Int → List Int → Int → Int → List Int → Int → Int → List Int → Option (Bool)
  | 0, _, _, _, _, _, _, _, _, _, _, _, _, _ => none
  | k + 1, x60, x421000, x421001, x421002, x422000, x422001, x422002, x443000, x443001, x443002, x449000, x449001, x449002 => if x60 = true then (some false) else ((laws_toBox.f k x421000 x421001 x421002).bind fun bt452 => ((laws_eqBox.f k x443000 x443001 x443002 bt452.1 bt452.2.1 bt452.2.2).bind fun t457 => (if t457 = true then ((laws_toBox.f k x422000 x422001 x422002).bind fun bt458 => ((laws_eqBox.f k x449000 x449001 x449002 bt458.1 bt458.2.1 bt458.2.2).bind fun t463 => (if t463 = true then (some true) else (some false)))) else (some false))))
def laws_FnExactMoved.f (k : Nat) (a0_0 : Int) (a0_1 : Int) (l0_2 : List Int) (a1 : Int) (a2_0 : Int) (a2_1 : Int) (l2_2 : List Int) : Option (Bool) := (laws_szBox.f a0_0 a0_1 l0_2 1048576).bind fun t422 => (if t422 < 0 then (some true) else ((laws_szBox.f a2_0 a2_1 l2_2 t422).bind fun t423 => (if t423 < 0 then (some true) else ((laws_toBox.f k a0_0 a0_1 l0_2).bind fun bt424 => ((laws_toBox.f k a2_0 a2_1 l2_2).bind fun bt429 => ((spec_Moved.f k bt424.1 bt424.2.1 bt424.2.2 a1 bt429.1 bt429.2.1 bt429.2.2).bind fun bt434 => ((laws_toBox.f k a0_0 a0_1 l0_2).bind fun bt437 => ((laws_toBox.f k a2_0 a2_1 l2_2).bind fun bt443 => ((impl_Moved.f k bt437.1 bt437.2.1 bt437.2.2 a1 bt443.1 bt443.2.1 bt443.2.2).bind fun bt449 => (if bt449.1 = bt434.1 then (if bt449.2.1 = bt434.2.1 then (laws_FnExactMoved.j0 k (bt449.2.2 != bt434.2.2) a0_0 a0_1 l0_2 a2_0 a2_1 l2_2 bt437.1 bt437.2.1 bt437.2.2 bt443.1 bt443.2.1 bt443.2.2) else (laws_FnExactMoved.j0 k true a0_0 a0_1 l0_2 a2_0 a2_1 l2_2 bt437.1 bt437.2.1 bt437.2.2 bt443.1 bt443.2.1 bt443.2.2)) else (laws_FnExactMoved.j0 k true a0_0 a0_1 l0_2 a2_0 a2_1 l2_2 bt437.1 bt437.2.1 bt437.2.2 bt443.1 bt443.2.1 bt443.2.2)))))))))))
theorem laws_FnExactMoved.mono_l : ∀ k, (∀ y0 y1 y2 y3 y4 y5 y6 y7 y8 y9 y10 y11 y12, LeO (laws_FnExactMoved.j0 k y0 y1 y2 y3 y4 y5 y6 y7 y8 y9 y10 y11 y12) (laws_FnExactMoved.j0 (k + 1) y0 y1 y2 y3 y4 y5 y6 y7 y8 y9 y10 y11 y12))
  | 0 => fun _ _ _ _ _ _ _ _ _ _ _ _ _ r h => by simp [laws_FnExactMoved.j0] at h
  | k + 1 => by
    have ih0 := laws_FnExactMoved.mono_l k
    · intro y0 y1 y2 y3 y4 y5 y6 y7 y8 y9 y10 y11 y12
      unfold laws_FnExactMoved.j0
      repeat' first
      | (with_reducible exact ih0 _ _ _ _ _ _ _ _ _ _ _ _ _)
      | (with_reducible exact impl_Moved.mono _ _ _ _ _ _ _ _)
      | (with_reducible exact laws_eqBox.mono _ _ _ _ _ _ _)
      | (with_reducible exact laws_toBox.mono _ _ _ _)
      | (with_reducible exact spec_Moved.mono _ _ _ _ _ _ _ _)
      | (with_reducible exact LeO.refl _)
      | (with_reducible exact LeO.none _)
      | (with_reducible refine LeO.ite ?_ ?_)
      | (with_reducible refine LeO.bind ?_ (fun _ => ?_))
      | exact ih0 _ _ _ _ _ _ _ _ _ _ _ _ _
      | exact impl_Moved.mono _ _ _ _ _ _ _ _
      | exact laws_eqBox.mono _ _ _ _ _ _ _
      | exact laws_toBox.mono _ _ _ _
      | exact spec_Moved.mono _ _ _ _ _ _ _ _
      | exact LeO.none _
      | refine LeO.ite ?_ ?_
      | refine LeO.bind ?_ (fun _ => ?_)
theorem laws_FnExactMoved.mono : ∀ a0 a1 a2 a3 a4 a5 a6 k, LeO (laws_FnExactMoved.f k a0 a1 a2 a3 a4 a5 a6) (laws_FnExactMoved.f (k + 1) a0 a1 a2 a3 a4 a5 a6) := by
  intro a0 a1 a2 a3 a4 a5 a6 k
  have ih0 := laws_FnExactMoved.mono_l k
  unfold laws_FnExactMoved.f
  repeat' first
      | (with_reducible exact ih0 _ _ _ _ _ _ _ _ _ _ _ _ _)
      | (with_reducible exact impl_Moved.mono _ _ _ _ _ _ _ _)
      | (with_reducible exact laws_eqBox.mono _ _ _ _ _ _ _)
      | (with_reducible exact laws_toBox.mono _ _ _ _)
      | (with_reducible exact spec_Moved.mono _ _ _ _ _ _ _ _)
      | (with_reducible exact LeO.refl _)
      | (with_reducible exact LeO.none _)
      | (with_reducible refine LeO.ite ?_ ?_)
      | (with_reducible refine LeO.bind ?_ (fun _ => ?_))
      | exact ih0 _ _ _ _ _ _ _ _ _ _ _ _ _
      | exact impl_Moved.mono _ _ _ _ _ _ _ _
      | exact laws_eqBox.mono _ _ _ _ _ _ _
      | exact laws_toBox.mono _ _ _ _
      | exact spec_Moved.mono _ _ _ _ _ _ _ _
      | exact LeO.none _
      | refine LeO.ite ?_ ?_
      | refine LeO.bind ?_ (fun _ => ?_)
def laws_FnExactMoved.T8 : Bool × List (List Nat × List Nat) := (true, [([], []), ([0], [0]), ([], []), ([], []), ([3, 1], [3]), ([1, 2, 4, 4], [1, 2, 4]), ([5], [5]), ([6], [6]), ([6], [6]), ([6], [6]), ([7, 5, 0, 1, 2, 3, 4, 5, 6, 7], [7]), ([8, 10, 0, 1, 2, 3, 4, 5, 6, 7, 8, 10], [8]), ([9, 11, 0, 1, 2, 3, 4, 5, 6, 7, 8, 9, 10, 11], [9])])
def laws_FnExactMoved.B8 : List Nat := [0, 1, 0, 0, 11, 31, 63, 127, 127, 127, 255, 1535, 4095]
theorem laws_FnExactMoved.tab8 : rtab .any (opsOf Try.f6 8) = laws_FnExactMoved.T8 := by kernel_rfl
theorem laws_FnExactMoved.bits8 : waitsOk laws_FnExactMoved.T8.2 laws_FnExactMoved.B8 = true := by kernel_rfl
set_option maxHeartbeats 8000000 in
set_option maxRecDepth 100000 in
theorem laws_FnExactMoved.calls (k : Nat) (a0_0 : Int) (a0_1 : Int) (A0_2 : Option Addr) (c0_2 : Nat) (l0_2 : List Int) (a1 : Int) (a2_0 : Int) (a2_1 : Int) (A2_2 : Option Addr) (c2_2 : Nat) (l2_2 : List Int) (r : Bool) (w : World) (hr0_2 : Kd.C (Kd.int .i64) w A0_2 l0_2.length l0_2) (hc0_2 : l0_2.length ≤ c0_2) (hr2_2 : Kd.C (Kd.int .i64) w A2_2 l2_2.length l2_2) (hc2_2 : l2_2.length ≤ c2_2) (h : laws_FnExactMoved.f k a0_0 a0_1 l0_2 a1 a2_0 a2_1 l2_2 = some r) :
    Calls Try.prog 6 #[.agg #[.int .i64 a0_0, .int .i64 a0_1, .slice A0_2 l0_2.length c0_2], .int .i64 a1, .agg #[.int .i64 a2_0, .int .i64 a2_1, .slice A2_2 l2_2.length c2_2]] w fun e w' => e = .returned (.bool r) ∧ Below w.heap.size w w' := by
  have hu51 := Try.underlying51
  have hu55 := Try.underlying55
  have HR0_2 := Aside0.mk hr0_2
  have HC0_2 := Aside0.mk hc0_2
  clear hr0_2 hc0_2
  have HR2_2 := Aside0.mk hr2_2
  have HC2_2 := Aside0.mk hc2_2
  clear hr2_2 hc2_2
  have HB := Aside0.mk (Below.refl w.heap.size w)
  have H : ((laws_szBox.f a0_0 a0_1 l0_2 1048576).bind fun t422 => (if t422 < 0 then (some true) else ((laws_szBox.f a2_0 a2_1 l2_2 t422).bind fun t423 => (if t423 < 0 then (some true) else ((laws_toBox.f k a0_0 a0_1 l0_2).bind fun bt424 => ((laws_toBox.f k a2_0 a2_1 l2_2).bind fun bt429 => ((spec_Moved.f k bt424.1 bt424.2.1 bt424.2.2 a1 bt429.1 bt429.2.1 bt429.2.2).bind fun bt434 => ((laws_toBox.f k a0_0 a0_1 l0_2).bind fun bt437 => ((laws_toBox.f k a2_0 a2_1 l2_2).bind fun bt443 => ((impl_Moved.f k bt437.1 bt437.2.1 bt437.2.2 a1 bt443.1 bt443.2.1 bt443.2.2).bind fun bt449 => (if bt449.1 = bt434.1 then (if bt449.2.1 = bt434.2.1 then (laws_FnExactMoved.j0 k (bt449.2.2 != bt434.2.2) a0_0 a0_1 l0_2 a2_0 a2_1 l2_2 bt437.1 bt437.2.1 bt437.2.2 bt443.1 bt443.2.1 bt443.2.2) else (laws_FnExactMoved.j0 k true a0_0 a0_1 l0_2 a2_0 a2_1 l2_2 bt437.1 bt437.2.1 bt437.2.2 bt443.1 bt443.2.1 bt443.2.2)) else (laws_FnExactMoved.j0 k true a0_0 a0_1 l0_2 a2_0 a2_1 l2_2 bt437.1 bt437.2.1 bt437.2.2 bt443.1 bt443.2.1 bt443.2.2)))))))))))) = some r := h
  clear h
  replace H := Option.bind_eq_some_iff.mp H
  obtain ⟨t422, A40, H⟩ := H
  replace H : (if t422 < 0 then (some true) else ((laws_szBox.f a2_0 a2_1 l2_2 t422).bind fun t423 => (if t423 < 0 then (some true) else ((laws_toBox.f k a0_0 a0_1 l0_2).bind fun bt424 => ((laws_toBox.f k a2_0 a2_1 l2_2).bind fun bt429 => ((spec_Moved.f k bt424.1 bt424.2.1 bt424.2.2 a1 bt429.1 bt429.2.1 bt429.2.2).bind fun bt434 => ((laws_toBox.f k a0_0 a0_1 l0_2).bind fun bt437 => ((laws_toBox.f k a2_0 a2_1 l2_2).bind fun bt443 => ((impl_Moved.f k bt437.1 bt437.2.1 bt437.2.2 a1 bt443.1 bt443.2.1 bt443.2.2).bind fun bt449 => (if bt449.1 = bt434.1 then (if bt449.2.1 = bt434.2.1 then (laws_FnExactMoved.j0 k (bt449.2.2 != bt434.2.2) a0_0 a0_1 l0_2 a2_0 a2_1 l2_2 bt437.1 bt437.2.1 bt437.2.2 bt443.1 bt443.2.1 bt443.2.2) else (laws_FnExactMoved.j0 k true a0_0 a0_1 l0_2 a2_0 a2_1 l2_2 bt437.1 bt437.2.1 bt437.2.2 bt443.1 bt443.2.1 bt443.2.2)) else (laws_FnExactMoved.j0 k true a0_0 a0_1 l0_2 a2_0 a2_1 l2_2 bt437.1 bt437.2.1 bt437.2.2 bt443.1 bt443.2.1 bt443.2.2))))))))))) = some r := H
  have A4 := Aside0.mk A40
  clear A40
  by_cases c5 : t422 < 0
  · rw [if_pos c5] at H
    have c5b0 : decide (t422 < 0) = true := decide_eq_true c5
    clear c5
    obtain rfl := Option.some.inj H
    go_enter Try.func6, Try.ntmps6
    go_wp2_with (first | ((with_reducible refine gate_dst (N := 3) rfl ?_); refine box_event ?hg (N := 3) ?hd (cs := #[.int .i64 a0_0, .int .i64 a0_1, .slice A0_2 l0_2.length c0_2]) (t := 51) ?hr ?_; (case hd => rfl); (case hg => rfl); (case hr => first | (go_simp; done) | (go_simp; rfl)); intro gb420 hg w6 hbox hb; have n0_ := Aside0.mk (below_step (by repeat (first | (with_reducible first | exact HB.out | apply below_alloc | apply pw_below_drewN | apply below_drew1) | exact HB.out)) hb); have n1_ := Aside0.mk (hbox); have n2_ := Aside0.mk ((by rw [hg]; exact (below_size (by repeat (first | (with_reducible first | exact HB.out | apply below_alloc | apply pw_below_drewN | apply below_drew1) | exact HB.out))) : w.heap.size ≤ gb420)); have n3_ := Aside0.mk ((by rw [hg]; exact (below_size (by repeat (first | (with_reducible first | exact HB.out | apply below_alloc | apply pw_below_drewN | apply below_drew1) | exact HB.out))) : w.heap.size ≤ gb420)); clear HB; have HB := n0_; have BK420 := n1_; have GW420 := n2_; have GE420 := n3_; clear n0_ n1_ n2_ n3_; clear hb hbox hg) | ((with_reducible refine gate_dst (N := 5) rfl ?_); refine box_event ?hg (N := 5) ?hd (cs := #[.int .i64 a2_0, .int .i64 a2_1, .slice A2_2 l2_2.length c2_2]) (t := 51) ?hr ?_; (case hd => rfl); (case hg => rfl); (case hr => first | (go_simp; done) | (go_simp; rfl)); intro gb421 hg w7 hbox hb; have n0_ := Aside0.mk (blk_below (g := gb420) (o := .cells #[.int .i64 a0_0, .int .i64 a0_1, .slice A0_2 l0_2.length c0_2] 51 (0, 0)) (by (with_reducible repeat (first | refine blk_drewN ?_ _ | refine blk_drew ?_ | refine blk_alloc ?_ _)); exact BK420.out) hb); have n1_ := Aside0.mk (below_step (by repeat (first | (with_reducible first | exact HB.out | apply below_alloc | apply pw_below_drewN | apply below_drew1 | refine below_set ?_ GE420.out) | exact HB.out)) hb); have n2_ := Aside0.mk (hbox); have n3_ := Aside0.mk ((by rw [hg]; exact (below_size (by repeat (first | (with_reducible first | exact HB.out | apply below_alloc | apply pw_below_drewN | apply below_drew1 | refine below_set ?_ GE420.out) | exact HB.out))) : w.heap.size ≤ gb421)); have n4_ := Aside0.mk ((by rw [hg]; exact (below_size (by repeat (first | (with_reducible first | exact HB.out | apply below_alloc | apply pw_below_drewN | apply below_drew1 | refine below_set ?_ GE420.out) | exact HB.out))) : w.heap.size ≤ gb421)); have n5_ := Aside0.mk ((by rw [hg]; exact Nat.ne_of_lt (blk_lt (g := gb420) (o := .cells #[.int .i64 a0_0, .int .i64 a0_1, .slice A0_2 l0_2.length c0_2] 51 (0, 0)) (by (with_reducible repeat (first | refine blk_drewN ?_ _ | refine blk_drew ?_ | refine blk_alloc ?_ _)); exact BK420.out)) : gb420 ≠ gb421)); have n6_ := Aside0.mk ((by rw [hg]; exact Nat.ne_of_gt (blk_lt (g := gb420) (o := .cells #[.int .i64 a0_0, .int .i64 a0_1, .slice A0_2 l0_2.length c0_2] 51 (0, 0)) (by (with_reducible repeat (first | refine blk_drewN ?_ _ | refine blk_drew ?_ | refine blk_alloc ?_ _)); exact BK420.out)) : gb421 ≠ gb420)); clear BK420; clear HB; have BK420 := n0_; have HB := n1_; have BK421 := n2_; have GW421 := n3_; have GE421 := n4_; have NB420_421 := n5_; have NB421_420 := n6_; clear n0_ n1_ n2_ n3_ n4_ n5_ n6_; clear hb hbox hg; have hnb8 := NB420_421.out; have hnc8 := NB421_420.out; have hcz9_0 : w7.cell? ⟨gb420, 0, none⟩ = some (.int .i64 a0_0) := (blk_cell BK420.out 0).trans rfl; have hcz9_1 : w7.cell? ⟨gb420, 1, none⟩ = some (.int .i64 a0_1) := (blk_cell BK420.out 1).trans rfl; have hcz9_2 : w7.cell? ⟨gb420, 2, none⟩ = some (.slice A0_2 l0_2.length c0_2) := (blk_cell BK420.out 2).trans rfl; have hfz9_0 := blk_frozen BK420.out 0; have hfz9_1 := blk_frozen BK420.out 1; have hfz9_2 := blk_frozen BK420.out 2) | ((with_reducible refine gate_callee (f := 25) rfl ?_); refine goesL_ (some 18) rfl rfl Try.func25 (by kernel_rfl) rfl #[.agg #[.int .i64 a0_0, .int .i64 a0_1, .slice A0_2 l0_2.length c0_2], .int .i64 1048576] rfl (by (try simp only [List.map_toArray, List.map_cons, List.map_nil]); first | done | rfl | (simp only [List.length_drop, List.length_take]; rfl)) ?_; (with_reducible refine (laws_szBox.calls a0_0 a0_1 _ _ l0_2 1048576 t422 _ ?side1 ?side2 A4.out).mono ?_); (case side1 => repeat (first | exact (Kd.C_below HR0_2.out HB.out) | (with_reducible refine Kd.C_alloc ?_ _) | (with_reducible refine Kd.C_drewN ?_ _) | (with_reducible refine Kd.C_drew ?_))); (case side2 => exact HC0_2.out); rintro e w10 ⟨rfl, hb⟩; refine ⟨_, rfl, ?_⟩; have n0_ := Aside0.mk (blk_below (g := gb420) (o := .cells #[.int .i64 a0_0, .int .i64 a0_1, .slice A0_2 l0_2.length c0_2] 51 (0, 0)) (by (with_reducible repeat (first | refine blk_drewN ?_ _ | refine blk_drew ?_ | refine blk_alloc ?_ _)); exact BK420.out) hb); have n1_ := Aside0.mk (blk_below (g := gb421) (o := .cells #[.int .i64 a2_0, .int .i64 a2_1, .slice A2_2 l2_2.length c2_2] 51 (0, 0)) (by (with_reducible repeat (first | refine blk_drewN ?_ _ | refine blk_drew ?_ | refine blk_alloc ?_ _)); exact BK421.out) hb); have n2_ := Aside0.mk (below_step (by repeat (first | (with_reducible first | exact HB.out | apply below_alloc | apply pw_below_drewN | apply below_drew1 | refine below_set ?_ GE420.out | refine below_set ?_ GE421.out) | exact HB.out)) hb); clear BK420; clear BK421; clear HB; have BK420 := n0_; have BK421 := n1_; have HB := n2_; clear n0_ n1_ n2_; (try clear hb); (try clear hb2); (try clear hk); (try clear hi)))
    go_ret
    exact ⟨by first | rfl | (simp [errW_none, errW_some] <;> rfl) | (simp [*, errW_none, errW_some] <;> rfl), by repeat (first | (with_reducible first | exact HB.out | apply below_alloc | apply pw_below_drewN | apply below_drew1 | refine below_set ?_ GE420.out | refine below_set ?_ GE421.out) | exact HB.out)⟩
  · rw [if_neg c5] at H
    have c5b0 : decide (t422 < 0) = false := decide_eq_false c5
    clear c5
    replace H := Option.bind_eq_some_iff.mp H
    obtain ⟨t423, A110, H⟩ := H
    replace H : (if t423 < 0 then (some true) else ((laws_toBox.f k a0_0 a0_1 l0_2).bind fun bt424 => ((laws_toBox.f k a2_0 a2_1 l2_2).bind fun bt429 => ((spec_Moved.f k bt424.1 bt424.2.1 bt424.2.2 a1 bt429.1 bt429.2.1 bt429.2.2).bind fun bt434 => ((laws_toBox.f k a0_0 a0_1 l0_2).bind fun bt437 => ((laws_toBox.f k a2_0 a2_1 l2_2).bind fun bt443 => ((impl_Moved.f k bt437.1 bt437.2.1 bt437.2.2 a1 bt443.1 bt443.2.1 bt443.2.2).bind fun bt449 => (if bt449.1 = bt434.1 then (if bt449.2.1 = bt434.2.1 then (laws_FnExactMoved.j0 k (bt449.2.2 != bt434.2.2) a0_0 a0_1 l0_2 a2_0 a2_1 l2_2 bt437.1 bt437.2.1 bt437.2.2 bt443.1 bt443.2.1 bt443.2.2) else (laws_FnExactMoved.j0 k true a0_0 a0_1 l0_2 a2_0 a2_1 l2_2 bt437.1 bt437.2.1 bt437.2.2 bt443.1 bt443.2.1 bt443.2.2)) else (laws_FnExactMoved.j0 k true a0_0 a0_1 l0_2 a2_0 a2_1 l2_2 bt437.1 bt437.2.1 bt437.2.2 bt443.1 bt443.2.1 bt443.2.2))))))))) = some r := H
    have A11 := Aside0.mk A110
    clear A110
    by_cases c12 : t423 < 0
    · rw [if_pos c12] at H
      have c12b0 : decide (t423 < 0) = true := decide_eq_true c12
      clear c12
      obtain rfl := Option.some.inj H
      go_enter Try.func6, Try.ntmps6
      go_wp2_with (first | ((with_reducible refine gate_dst (N := 3) rfl ?_); refine box_event ?hg (N := 3) ?hd (cs := #[.int .i64 a0_0, .int .i64 a0_1, .slice A0_2 l0_2.length c0_2]) (t := 51) ?hr ?_; (case hd => rfl); (case hg => rfl); (case hr => first | (go_simp; done) | (go_simp; rfl)); intro gb420 hg w13 hbox hb; have n0_ := Aside0.mk (below_step (by repeat (first | (with_reducible first | exact HB.out | apply below_alloc | apply pw_below_drewN | apply below_drew1) | exact HB.out)) hb); have n1_ := Aside0.mk (hbox); have n2_ := Aside0.mk ((by rw [hg]; exact (below_size (by repeat (first | (with_reducible first | exact HB.out | apply below_alloc | apply pw_below_drewN | apply below_drew1) | exact HB.out))) : w.heap.size ≤ gb420)); have n3_ := Aside0.mk ((by rw [hg]; exact (below_size (by repeat (first | (with_reducible first | exact HB.out | apply below_alloc | apply pw_below_drewN | apply below_drew1) | exact HB.out))) : w.heap.size ≤ gb420)); clear HB; have HB := n0_; have BK420 := n1_; have GW420 := n2_; have GE420 := n3_; clear n0_ n1_ n2_ n3_; clear hb hbox hg) | ((with_reducible refine gate_dst (N := 5) rfl ?_); refine box_event ?hg (N := 5) ?hd (cs := #[.int .i64 a2_0, .int .i64 a2_1, .slice A2_2 l2_2.length c2_2]) (t := 51) ?hr ?_; (case hd => rfl); (case hg => rfl); (case hr => first | (go_simp; done) | (go_simp; rfl)); intro gb421 hg w14 hbox hb; have n0_ := Aside0.mk (blk_below (g := gb420) (o := .cells #[.int .i64 a0_0, .int .i64 a0_1, .slice A0_2 l0_2.length c0_2] 51 (0, 0)) (by (with_reducible repeat (first | refine blk_drewN ?_ _ | refine blk_drew ?_ | refine blk_alloc ?_ _)); exact BK420.out) hb); have n1_ := Aside0.mk (below_step (by repeat (first | (with_reducible first | exact HB.out | apply below_alloc | apply pw_below_drewN | apply below_drew1 | refine below_set ?_ GE420.out) | exact HB.out)) hb); have n2_ := Aside0.mk (hbox); have n3_ := Aside0.mk ((by rw [hg]; exact (below_size (by repeat (first | (with_reducible first | exact HB.out | apply below_alloc | apply pw_below_drewN | apply below_drew1 | refine below_set ?_ GE420.out) | exact HB.out))) : w.heap.size ≤ gb421)); have n4_ := Aside0.mk ((by rw [hg]; exact (below_size (by repeat (first | (with_reducible first | exact HB.out | apply below_alloc | apply pw_below_drewN | apply below_drew1 | refine below_set ?_ GE420.out) | exact HB.out))) : w.heap.size ≤ gb421)); have n5_ := Aside0.mk ((by rw [hg]; exact Nat.ne_of_lt (blk_lt (g := gb420) (o := .cells #[.int .i64 a0_0, .int .i64 a0_1, .slice A0_2 l0_2.length c0_2] 51 (0, 0)) (by (with_reducible repeat (first | refine blk_drewN ?_ _ | refine blk_drew ?_ | refine blk_alloc ?_ _)); exact BK420.out)) : gb420 ≠ gb421)); have n6_ := Aside0.mk ((by rw [hg]; exact Nat.ne_of_gt (blk_lt (g := gb420) (o := .cells #[.int .i64 a0_0, .int .i64 a0_1, .slice A0_2 l0_2.length c0_2] 51 (0, 0)) (by (with_reducible repeat (first | refine blk_drewN ?_ _ | refine blk_drew ?_ | refine blk_alloc ?_ _)); exact BK420.out)) : gb421 ≠ gb420)); clear BK420; clear HB; have BK420 := n0_; have HB := n1_; have BK421 := n2_; have GW421 := n3_; have GE421 := n4_; have NB420_421 := n5_; have NB421_420 := n6_; clear n0_ n1_ n2_ n3_ n4_ n5_ n6_; clear hb hbox hg; have hnb15 := NB420_421.out; have hnc15 := NB421_420.out; have hcz16_0 : w14.cell? ⟨gb420, 0, none⟩ = some (.int .i64 a0_0) := (blk_cell BK420.out 0).trans rfl; have hcz16_1 : w14.cell? ⟨gb420, 1, none⟩ = some (.int .i64 a0_1) := (blk_cell BK420.out 1).trans rfl; have hcz16_2 : w14.cell? ⟨gb420, 2, none⟩ = some (.slice A0_2 l0_2.length c0_2) := (blk_cell BK420.out 2).trans rfl; have hfz16_0 := blk_frozen BK420.out 0; have hfz16_1 := blk_frozen BK420.out 1; have hfz16_2 := blk_frozen BK420.out 2) | ((with_reducible refine gate_callee (f := 25) rfl ?_); refine goesL_ (some 18) rfl rfl Try.func25 (by kernel_rfl) rfl #[.agg #[.int .i64 a0_0, .int .i64 a0_1, .slice A0_2 l0_2.length c0_2], .int .i64 1048576] rfl (by (try simp only [List.map_toArray, List.map_cons, List.map_nil]); first | done | rfl | (simp only [List.length_drop, List.length_take]; rfl)) ?_; (with_reducible refine (laws_szBox.calls a0_0 a0_1 _ _ l0_2 1048576 t422 _ ?side1 ?side2 A4.out).mono ?_); (case side1 => repeat (first | exact (Kd.C_below HR0_2.out HB.out) | (with_reducible refine Kd.C_alloc ?_ _) | (with_reducible refine Kd.C_drewN ?_ _) | (with_reducible refine Kd.C_drew ?_))); (case side2 => exact HC0_2.out); rintro e w17 ⟨rfl, hb⟩; refine ⟨_, rfl, ?_⟩; have n0_ := Aside0.mk (blk_below (g := gb420) (o := .cells #[.int .i64 a0_0, .int .i64 a0_1, .slice A0_2 l0_2.length c0_2] 51 (0, 0)) (by (with_reducible repeat (first | refine blk_drewN ?_ _ | refine blk_drew ?_ | refine blk_alloc ?_ _)); exact BK420.out) hb); have n1_ := Aside0.mk (blk_below (g := gb421) (o := .cells #[.int .i64 a2_0, .int .i64 a2_1, .slice A2_2 l2_2.length c2_2] 51 (0, 0)) (by (with_reducible repeat (first | refine blk_drewN ?_ _ | refine blk_drew ?_ | refine blk_alloc ?_ _)); exact BK421.out) hb); have n2_ := Aside0.mk (below_step (by repeat (first | (with_reducible first | exact HB.out | apply below_alloc | apply pw_below_drewN | apply below_drew1 | refine below_set ?_ GE420.out | refine below_set ?_ GE421.out) | exact HB.out)) hb); clear BK420; clear BK421; clear HB; have BK420 := n0_; have BK421 := n1_; have HB := n2_; clear n0_ n1_ n2_; (try clear hb); (try clear hb2); (try clear hk); (try clear hi); have hcz18_0 : w17.cell? ⟨gb421, 0, none⟩ = some (.int .i64 a2_0) := (blk_cell BK421.out 0).trans rfl; have hcz18_1 : w17.cell? ⟨gb421, 1, none⟩ = some (.int .i64 a2_1) := (blk_cell BK421.out 1).trans rfl; have hcz18_2 : w17.cell? ⟨gb421, 2, none⟩ = some (.slice A2_2 l2_2.length c2_2) := (blk_cell BK421.out 2).trans rfl; have hfz18_0 := blk_frozen BK421.out 0; have hfz18_1 := blk_frozen BK421.out 1; have hfz18_2 := blk_frozen BK421.out 2) | ((with_reducible refine gate_callee (f := 25) rfl ?_); refine goesL_ (some 23) rfl rfl Try.func25 (by kernel_rfl) rfl #[.agg #[.int .i64 a2_0, .int .i64 a2_1, .slice A2_2 l2_2.length c2_2], .int .i64 t422] rfl (by (try simp only [List.map_toArray, List.map_cons, List.map_nil]); first | done | rfl | (simp only [List.length_drop, List.length_take]; rfl)) ?_; (with_reducible refine (laws_szBox.calls a2_0 a2_1 _ _ l2_2 t422 t423 _ ?side1 ?side2 A11.out).mono ?_); (case side1 => repeat (first | exact (Kd.C_below HR2_2.out HB.out) | (with_reducible refine Kd.C_alloc ?_ _) | (with_reducible refine Kd.C_drewN ?_ _) | (with_reducible refine Kd.C_drew ?_))); (case side2 => exact HC2_2.out); rintro e w19 ⟨rfl, hb⟩; refine ⟨_, rfl, ?_⟩; have n0_ := Aside0.mk (blk_below (g := gb420) (o := .cells #[.int .i64 a0_0, .int .i64 a0_1, .slice A0_2 l0_2.length c0_2] 51 (0, 0)) (by (with_reducible repeat (first | refine blk_drewN ?_ _ | refine blk_drew ?_ | refine blk_alloc ?_ _)); exact BK420.out) hb); have n1_ := Aside0.mk (blk_below (g := gb421) (o := .cells #[.int .i64 a2_0, .int .i64 a2_1, .slice A2_2 l2_2.length c2_2] 51 (0, 0)) (by (with_reducible repeat (first | refine blk_drewN ?_ _ | refine blk_drew ?_ | refine blk_alloc ?_ _)); exact BK421.out) hb); have n2_ := Aside0.mk (below_step (by repeat (first | (with_reducible first | exact HB.out | apply below_alloc | apply pw_below_drewN | apply below_drew1 | refine below_set ?_ GE420.out | refine below_set ?_ GE421.out) | exact HB.out)) hb); clear BK420; clear BK421; clear HB; have BK420 := n0_; have BK421 := n1_; have HB := n2_; clear n0_ n1_ n2_; (try clear hb); (try clear hb2); (try clear hk); (try clear hi)))
      go_ret
      exact ⟨by first | rfl | (simp [errW_none, errW_some] <;> rfl) | (simp [*, errW_none, errW_some] <;> rfl), by repeat (first | (with_reducible first | exact HB.out | apply below_alloc | apply pw_below_drewN | apply below_drew1 | refine below_set ?_ GE420.out | refine below_set ?_ GE421.out) | exact HB.out)⟩
    · rw [if_neg c12] at H
      have c12b0 : decide (t423 < 0) = false := decide_eq_false c12
      clear c12
      replace H := Option.bind_eq_some_iff.mp H
      obtain ⟨⟨t424, t425, t426⟩, A200, H⟩ := H
      replace H : ((laws_toBox.f k a2_0 a2_1 l2_2).bind fun bt429 => ((spec_Moved.f k t424 t425 t426 a1 bt429.1 bt429.2.1 bt429.2.2).bind fun bt434 => ((laws_toBox.f k a0_0 a0_1 l0_2).bind fun bt437 => ((laws_toBox.f k a2_0 a2_1 l2_2).bind fun bt443 => ((impl_Moved.f k bt437.1 bt437.2.1 bt437.2.2 a1 bt443.1 bt443.2.1 bt443.2.2).bind fun bt449 => (if bt449.1 = bt434.1 then (if bt449.2.1 = bt434.2.1 then (laws_FnExactMoved.j0 k (bt449.2.2 != bt434.2.2) a0_0 a0_1 l0_2 a2_0 a2_1 l2_2 bt437.1 bt437.2.1 bt437.2.2 bt443.1 bt443.2.1 bt443.2.2) else (laws_FnExactMoved.j0 k true a0_0 a0_1 l0_2 a2_0 a2_1 l2_2 bt437.1 bt437.2.1 bt437.2.2 bt443.1 bt443.2.1 bt443.2.2)) else (laws_FnExactMoved.j0 k true a0_0 a0_1 l0_2 a2_0 a2_1 l2_2 bt437.1 bt437.2.1 bt437.2.2 bt443.1 bt443.2.1 bt443.2.2))))))) = some r := H
      have A20 := Aside0.mk A200
      clear A200
      replace H := Option.bind_eq_some_iff.mp H
      obtain ⟨⟨t429, t430, t431⟩, A210, H⟩ := H
      replace H : ((spec_Moved.f k t424 t425 t426 a1 t429 t430 t431).bind fun bt434 => ((laws_toBox.f k a0_0 a0_1 l0_2).bind fun bt437 => ((laws_toBox.f k a2_0 a2_1 l2_2).bind fun bt443 => ((impl_Moved.f k bt437.1 bt437.2.1 bt437.2.2 a1 bt443.1 bt443.2.1 bt443.2.2).bind fun bt449 => (if bt449.1 = bt434.1 then (if bt449.2.1 = bt434.2.1 then (laws_FnExactMoved.j0 k (bt449.2.2 != bt434.2.2) a0_0 a0_1 l0_2 a2_0 a2_1 l2_2 bt437.1 bt437.2.1 bt437.2.2 bt443.1 bt443.2.1 bt443.2.2) else (laws_FnExactMoved.j0 k true a0_0 a0_1 l0_2 a2_0 a2_1 l2_2 bt437.1 bt437.2.1 bt437.2.2 bt443.1 bt443.2.1 bt443.2.2)) else (laws_FnExactMoved.j0 k true a0_0 a0_1 l0_2 a2_0 a2_1 l2_2 bt437.1 bt437.2.1 bt437.2.2 bt443.1 bt443.2.1 bt443.2.2)))))) = some r := H
      have A21 := Aside0.mk A210
      clear A210
      replace H := Option.bind_eq_some_iff.mp H
      obtain ⟨⟨t434, t435, t436⟩, A220, H⟩ := H
      replace H : ((laws_toBox.f k a0_0 a0_1 l0_2).bind fun bt437 => ((laws_toBox.f k a2_0 a2_1 l2_2).bind fun bt443 => ((impl_Moved.f k bt437.1 bt437.2.1 bt437.2.2 a1 bt443.1 bt443.2.1 bt443.2.2).bind fun bt449 => (if bt449.1 = t434 then (if bt449.2.1 = t435 then (laws_FnExactMoved.j0 k (bt449.2.2 != t436) a0_0 a0_1 l0_2 a2_0 a2_1 l2_2 bt437.1 bt437.2.1 bt437.2.2 bt443.1 bt443.2.1 bt443.2.2) else (laws_FnExactMoved.j0 k true a0_0 a0_1 l0_2 a2_0 a2_1 l2_2 bt437.1 bt437.2.1 bt437.2.2 bt443.1 bt443.2.1 bt443.2.2)) else (laws_FnExactMoved.j0 k true a0_0 a0_1 l0_2 a2_0 a2_1 l2_2 bt437.1 bt437.2.1 bt437.2.2 bt443.1 bt443.2.1 bt443.2.2))))) = some r := H
      have A22 := Aside0.mk A220
      clear A220
      replace H := Option.bind_eq_some_iff.mp H
      obtain ⟨⟨t437, t438, t439⟩, A230, H⟩ := H
      replace H : ((laws_toBox.f k a2_0 a2_1 l2_2).bind fun bt443 => ((impl_Moved.f k t437 t438 t439 a1 bt443.1 bt443.2.1 bt443.2.2).bind fun bt449 => (if bt449.1 = t434 then (if bt449.2.1 = t435 then (laws_FnExactMoved.j0 k (bt449.2.2 != t436) a0_0 a0_1 l0_2 a2_0 a2_1 l2_2 t437 t438 t439 bt443.1 bt443.2.1 bt443.2.2) else (laws_FnExactMoved.j0 k true a0_0 a0_1 l0_2 a2_0 a2_1 l2_2 t437 t438 t439 bt443.1 bt443.2.1 bt443.2.2)) else (laws_FnExactMoved.j0 k true a0_0 a0_1 l0_2 a2_0 a2_1 l2_2 t437 t438 t439 bt443.1 bt443.2.1 bt443.2.2)))) = some r := H
      have A23 := Aside0.mk A230
      clear A230
      replace H := Option.bind_eq_some_iff.mp H
      obtain ⟨⟨t443, t444, t445⟩, A240, H⟩ := H
      replace H : ((impl_Moved.f k t437 t438 t439 a1 t443 t444 t445).bind fun bt449 => (if bt449.1 = t434 then (if bt449.2.1 = t435 then (laws_FnExactMoved.j0 k (bt449.2.2 != t436) a0_0 a0_1 l0_2 a2_0 a2_1 l2_2 t437 t438 t439 t443 t444 t445) else (laws_FnExactMoved.j0 k true a0_0 a0_1 l0_2 a2_0 a2_1 l2_2 t437 t438 t439 t443 t444 t445)) else (laws_FnExactMoved.j0 k true a0_0 a0_1 l0_2 a2_0 a2_1 l2_2 t437 t438 t439 t443 t444 t445))) = some r := H
      have A24 := Aside0.mk A240
      clear A240
      replace H := Option.bind_eq_some_iff.mp H
      obtain ⟨⟨t449, t450, t451⟩, A250, H⟩ := H
      replace H : (if t449 = t434 then (if t450 = t435 then (laws_FnExactMoved.j0 k (t451 != t436) a0_0 a0_1 l0_2 a2_0 a2_1 l2_2 t437 t438 t439 t443 t444 t445) else (laws_FnExactMoved.j0 k true a0_0 a0_1 l0_2 a2_0 a2_1 l2_2 t437 t438 t439 t443 t444 t445)) else (laws_FnExactMoved.j0 k true a0_0 a0_1 l0_2 a2_0 a2_1 l2_2 t437 t438 t439 t443 t444 t445)) = some r := H
      have A25 := Aside0.mk A250
      clear A250
      have HC26 := Aside0.mk H
      clear H
      go_enter Try.func6, Try.ntmps6
      try go_wp2_with (first | ((with_reducible refine gate_dst (N := 3) rfl ?_); refine box_event ?hg (N := 3) ?hd (cs := #[.int .i64 a0_0, .int .i64 a0_1, .slice A0_2 l0_2.length c0_2]) (t := 51) ?hr ?_; (case hd => rfl); (case hg => rfl); (case hr => first | (go_simp; done) | (go_simp; rfl)); intro gb420 hg w27 hbox hb; have n0_ := Aside0.mk (below_step (by repeat (first | (with_reducible first | exact HB.out | apply below_alloc | apply pw_below_drewN | apply below_drew1) | exact HB.out)) hb); have n1_ := Aside0.mk (hbox); have n2_ := Aside0.mk ((by rw [hg]; exact (below_size (by repeat (first | (with_reducible first | exact HB.out | apply below_alloc | apply pw_below_drewN | apply below_drew1) | exact HB.out))) : w.heap.size ≤ gb420)); have n3_ := Aside0.mk ((by rw [hg]; exact (below_size (by repeat (first | (with_reducible first | exact HB.out | apply below_alloc | apply pw_below_drewN | apply below_drew1) | exact HB.out))) : w.heap.size ≤ gb420)); clear HB; have HB := n0_; have BK420 := n1_; have GW420 := n2_; have GE420 := n3_; clear n0_ n1_ n2_ n3_; clear hb hbox hg) | ((with_reducible refine gate_dst (N := 5) rfl ?_); refine box_event ?hg (N := 5) ?hd (cs := #[.int .i64 a2_0, .int .i64 a2_1, .slice A2_2 l2_2.length c2_2]) (t := 51) ?hr ?_; (case hd => rfl); (case hg => rfl); (case hr => first | (go_simp; done) | (go_simp; rfl)); intro gb421 hg w28 hbox hb; have n0_ := Aside0.mk (blk_below (g := gb420) (o := .cells #[.int .i64 a0_0, .int .i64 a0_1, .slice A0_2 l0_2.length c0_2] 51 (0, 0)) (by (with_reducible repeat (first | refine blk_drewN ?_ _ | refine blk_drew ?_ | refine blk_alloc ?_ _)); exact BK420.out) hb); have n1_ := Aside0.mk (below_step (by repeat (first | (with_reducible first | exact HB.out | apply below_alloc | apply pw_below_drewN | apply below_drew1 | refine below_set ?_ GE420.out) | exact HB.out)) hb); have n2_ := Aside0.mk (hbox); have n3_ := Aside0.mk ((by rw [hg]; exact (below_size (by repeat (first | (with_reducible first | exact HB.out | apply below_alloc | apply pw_below_drewN | apply below_drew1 | refine below_set ?_ GE420.out) | exact HB.out))) : w.heap.size ≤ gb421)); have n4_ := Aside0.mk ((by rw [hg]; exact (below_size (by repeat (first | (with_reducible first | exact HB.out | apply below_alloc | apply pw_below_drewN | apply below_drew1 | refine below_set ?_ GE420.out) | exact HB.out))) : w.heap.size ≤ gb421)); have n5_ := Aside0.mk ((by rw [hg]; exact Nat.ne_of_lt (blk_lt (g := gb420) (o := .cells #[.int .i64 a0_0, .int .i64 a0_1, .slice A0_2 l0_2.length c0_2] 51 (0, 0)) (by (with_reducible repeat (first | refine blk_drewN ?_ _ | refine blk_drew ?_ | refine blk_alloc ?_ _)); exact BK420.out)) : gb420 ≠ gb421)); have n6_ := Aside0.mk ((by rw [hg]; exact Nat.ne_of_gt (blk_lt (g := gb420) (o := .cells #[.int .i64 a0_0, .int .i64 a0_1, .slice A0_2 l0_2.length c0_2] 51 (0, 0)) (by (with_reducible repeat (first | refine blk_drewN ?_ _ | refine blk_drew ?_ | refine blk_alloc ?_ _)); exact BK420.out)) : gb421 ≠ gb420)); clear BK420; clear HB; have BK420 := n0_; have HB := n1_; have BK421 := n2_; have GW421 := n3_; have GE421 := n4_; have NB420_421 := n5_; have NB421_420 := n6_; clear n0_ n1_ n2_ n3_ n4_ n5_ n6_; clear hb hbox hg; have hnb29 := NB420_421.out; have hnc29 := NB421_420.out; have hcz30_0 : w28.cell? ⟨gb420, 0, none⟩ = some (.int .i64 a0_0) := (blk_cell BK420.out 0).trans rfl; have hcz30_1 : w28.cell? ⟨gb420, 1, none⟩ = some (.int .i64 a0_1) := (blk_cell BK420.out 1).trans rfl; have hcz30_2 : w28.cell? ⟨gb420, 2, none⟩ = some (.slice A0_2 l0_2.length c0_2) := (blk_cell BK420.out 2).trans rfl; have hfz30_0 := blk_frozen BK420.out 0; have hfz30_1 := blk_frozen BK420.out 1; have hfz30_2 := blk_frozen BK420.out 2) | ((with_reducible refine gate_callee (f := 25) rfl ?_); refine goesL_ (some 18) rfl rfl Try.func25 (by kernel_rfl) rfl #[.agg #[.int .i64 a0_0, .int .i64 a0_1, .slice A0_2 l0_2.length c0_2], .int .i64 1048576] rfl (by (try simp only [List.map_toArray, List.map_cons, List.map_nil]); first | done | rfl | (simp only [List.length_drop, List.length_take]; rfl)) ?_; (with_reducible refine (laws_szBox.calls a0_0 a0_1 _ _ l0_2 1048576 t422 _ ?side1 ?side2 A4.out).mono ?_); (case side1 => repeat (first | exact (Kd.C_below HR0_2.out HB.out) | (with_reducible refine Kd.C_alloc ?_ _) | (with_reducible refine Kd.C_drewN ?_ _) | (with_reducible refine Kd.C_drew ?_))); (case side2 => exact HC0_2.out); rintro e w31 ⟨rfl, hb⟩; refine ⟨_, rfl, ?_⟩; have n0_ := Aside0.mk (blk_below (g := gb420) (o := .cells #[.int .i64 a0_0, .int .i64 a0_1, .slice A0_2 l0_2.length c0_2] 51 (0, 0)) (by (with_reducible repeat (first | refine blk_drewN ?_ _ | refine blk_drew ?_ | refine blk_alloc ?_ _)); exact BK420.out) hb); have n1_ := Aside0.mk (blk_below (g := gb421) (o := .cells #[.int .i64 a2_0, .int .i64 a2_1, .slice A2_2 l2_2.length c2_2] 51 (0, 0)) (by (with_reducible repeat (first | refine blk_drewN ?_ _ | refine blk_drew ?_ | refine blk_alloc ?_ _)); exact BK421.out) hb); have n2_ := Aside0.mk (below_step (by repeat (first | (with_reducible first | exact HB.out | apply below_alloc | apply pw_below_drewN | apply below_drew1 | refine below_set ?_ GE420.out | refine below_set ?_ GE421.out) | exact HB.out)) hb); clear BK420; clear BK421; clear HB; have BK420 := n0_; have BK421 := n1_; have HB := n2_; clear n0_ n1_ n2_; (try clear hb); (try clear hb2); (try clear hk); (try clear hi); have hcz32_0 : w31.cell? ⟨gb421, 0, none⟩ = some (.int .i64 a2_0) := (blk_cell BK421.out 0).trans rfl; have hcz32_1 : w31.cell? ⟨gb421, 1, none⟩ = some (.int .i64 a2_1) := (blk_cell BK421.out 1).trans rfl; have hcz32_2 : w31.cell? ⟨gb421, 2, none⟩ = some (.slice A2_2 l2_2.length c2_2) := (blk_cell BK421.out 2).trans rfl; have hfz32_0 := blk_frozen BK421.out 0; have hfz32_1 := blk_frozen BK421.out 1; have hfz32_2 := blk_frozen BK421.out 2) | ((with_reducible refine gate_callee (f := 25) rfl ?_); refine goesL_ (some 23) rfl rfl Try.func25 (by kernel_rfl) rfl #[.agg #[.int .i64 a2_0, .int .i64 a2_1, .slice A2_2 l2_2.length c2_2], .int .i64 t422] rfl (by (try simp only [List.map_toArray, List.map_cons, List.map_nil]); first | done | rfl | (simp only [List.length_drop, List.length_take]; rfl)) ?_; (with_reducible refine (laws_szBox.calls a2_0 a2_1 _ _ l2_2 t422 t423 _ ?side1 ?side2 A11.out).mono ?_); (case side1 => repeat (first | exact (Kd.C_below HR2_2.out HB.out) | (with_reducible refine Kd.C_alloc ?_ _) | (with_reducible refine Kd.C_drewN ?_ _) | (with_reducible refine Kd.C_drew ?_))); (case side2 => exact HC2_2.out); rintro e w33 ⟨rfl, hb⟩; refine ⟨_, rfl, ?_⟩; have n0_ := Aside0.mk (blk_below (g := gb420) (o := .cells #[.int .i64 a0_0, .int .i64 a0_1, .slice A0_2 l0_2.length c0_2] 51 (0, 0)) (by (with_reducible repeat (first | refine blk_drewN ?_ _ | refine blk_drew ?_ | refine blk_alloc ?_ _)); exact BK420.out) hb); have n1_ := Aside0.mk (blk_below (g := gb421) (o := .cells #[.int .i64 a2_0, .int .i64 a2_1, .slice A2_2 l2_2.length c2_2] 51 (0, 0)) (by (with_reducible repeat (first | refine blk_drewN ?_ _ | refine blk_drew ?_ | refine blk_alloc ?_ _)); exact BK421.out) hb); have n2_ := Aside0.mk (below_step (by repeat (first | (with_reducible first | exact HB.out | apply below_alloc | apply pw_below_drewN | apply below_drew1 | refine below_set ?_ GE420.out | refine below_set ?_ GE421.out) | exact HB.out)) hb); clear BK420; clear BK421; clear HB; have BK420 := n0_; have BK421 := n1_; have HB := n2_; clear n0_ n1_ n2_; (try clear hb); (try clear hb2); (try clear hk); (try clear hi)))
      have n0_ := Aside0.mk (blk_drew BK420.out)
      have n1_ := Aside0.mk (blk_drew BK421.out)
      have n2_ := Aside0.mk (below_drew1 HB.out)
      clear BK420
      clear BK421
      clear HB
      have BK420 := n0_
      have BK421 := n1_
      have HB := n2_
      clear n0_ n1_ n2_
      refine start_ (n := 13) (S := fun w' => w'.cell? ⟨gb420, 0, none⟩ = some (.int .i64 a0_0) ∧ w'.cell? ⟨gb420, 1, none⟩ = some (.int .i64 a0_1) ∧ w'.cell? ⟨gb420, 2, none⟩ = some (.slice A0_2 l0_2.length c0_2) ∧ w'.cell? ⟨gb421, 0, none⟩ = some (.int .i64 a2_0) ∧ w'.cell? ⟨gb421, 1, none⟩ = some (.int .i64 a2_1) ∧ w'.cell? ⟨gb421, 2, none⟩ = some (.slice A2_2 l2_2.length c2_2)) (ds := []) #[false, false, false, false, false, false, false, false, false, false, false, false, false] (by kernel_rfl) rfl rfl ⟨(blk_cell BK420.out 0).trans rfl, (blk_cell BK420.out 1).trans rfl, (blk_cell BK420.out 2).trans rfl, (blk_cell BK421.out 0).trans rfl, (blk_cell BK421.out 1).trans rfl, (blk_cell BK421.out 2).trans rfl⟩ (fun hHeld => ?_); refine with_tabW laws_FnExactMoved.tab8 laws_FnExactMoved.bits8 (fun HT_ HW_ => ?_)
      generalize w33.drew = w34 at BK420 BK421 HB hHeld ⊢
      refine pure_ (i := 2) (N := some 29) (v := ?_) (a' := ?_) #[false, false, true, false, false, false, false, false, false, false, false, false, false] rfl rfl (any_of HT_.out (by kernel_rfl)) (fun _ _ _ h => h) (Or.inl ⟨by rfl, ?_⟩) ?_ ?_
      rotate_left
      · intro w'
        go_simp
        with_reducible rfl
      rotate_left
      · simp only [Act.put, List.setIfInBounds_toArray, List.set_cons_zero, List.set_cons_succ, i64_w, i32_w]
        rfl
      refine take_ (i := 0) (N := some 27) (v := ?_) (a' := ?_) #[true, false, true, false, false, false, false, false, false, false, false, false, false] rfl rfl (take_ofW HT_.out HW_.out (by kernel_rfl)) (fun _ _ _ h => h) (Or.inl ⟨by rfl, ?_⟩) hHeld ?_ ?_
      rotate_left
      · rintro w' ⟨s0, s1, s2, s3, s4, s5⟩
        go_simp
        with_reducible rfl
      rotate_left
      · simp only [Act.put, List.setIfInBounds_toArray, List.set_cons_zero, List.set_cons_succ, i64_w, i32_w]
        rfl
      refine take_ (i := 3) (N := some 30) (v := ?_) (a' := ?_) #[true, false, true, true, false, false, false, false, false, false, false, false, false] rfl rfl (take_ofW HT_.out HW_.out (by kernel_rfl)) (fun _ _ _ h => h) (Or.inl ⟨by rfl, ?_⟩) hHeld ?_ ?_
      rotate_left
      · rintro w' ⟨s0, s1, s2, s3, s4, s5⟩
        go_simp
        with_reducible rfl
      rotate_left
      · simp only [Act.put, List.setIfInBounds_toArray, List.set_cons_zero, List.set_cons_succ, i64_w, i32_w]
        rfl
      refine one_ (i := 1) (N := some 28) #[true, true, true, true, false, false, false, false, false, false, false, false, false] rfl rfl (one_of HT_.out (by kernel_rfl)) (by decide) (fun K hK => ?_)
      refine goes_ Try.func27 (by kernel_rfl) rfl #[.agg #[.int .i64 a0_0, .int .i64 a0_1, .slice A0_2 l0_2.length c0_2]] (by rfl) rfl rfl (by (try simp only [List.map_toArray, List.map_cons, List.map_nil]); first | done | rfl | (simp only [List.length_drop, List.length_take]; rfl)) ?_
      with_reducible refine (laws_toBox.calls k a0_0 a0_1 _ _ l0_2 t424 t425 t426 _ ?side1 ?side2 A20.out).mono ?_
      (case side1 => repeat (first | exact (Kd.C_below HR0_2.out HB.out) | (with_reducible refine Kd.C_alloc ?_ _) | (with_reducible refine Kd.C_drewN ?_ _) | (with_reducible refine Kd.C_drew ?_)))
      (case side2 => exact HC0_2.out)
      rintro e w35 ⟨v427, rfl, ho0, hb⟩
      refine ⟨_, rfl, ?_⟩
      have n0_ := Aside0.mk (Kd.R_lower ho0 (below_size (by repeat (first | (with_reducible first | exact HB.out | apply below_alloc | apply pw_below_drewN | apply below_drew1 | refine below_set ?_ GE420.out | refine below_set ?_ GE421.out) | exact HB.out))))
      have n1_ := Aside0.mk (blk_below (g := gb420) (o := .cells #[.int .i64 a0_0, .int .i64 a0_1, .slice A0_2 l0_2.length c0_2] 51 (0, 0)) (by (with_reducible repeat (first | refine blk_drewN ?_ _ | refine blk_drew ?_ | refine blk_alloc ?_ _)); exact BK420.out) hb)
      have n2_ := Aside0.mk (blk_below (g := gb421) (o := .cells #[.int .i64 a2_0, .int .i64 a2_1, .slice A2_2 l2_2.length c2_2] 51 (0, 0)) (by (with_reducible repeat (first | refine blk_drewN ?_ _ | refine blk_drew ?_ | refine blk_alloc ?_ _)); exact BK421.out) hb)
      have n3_ := Aside0.mk (below_step (by repeat (first | (with_reducible first | exact HB.out | apply below_alloc | apply pw_below_drewN | apply below_drew1 | refine below_set ?_ GE420.out | refine below_set ?_ GE421.out) | exact HB.out)) hb)
      clear BK420
      clear BK421
      clear HB
      have HO428 := n0_
      have BK420 := n1_
      have BK421 := n2_
      have HB := n3_
      clear n0_ n1_ n2_ n3_
      (try clear hb)
      (try clear hb2)
      (try clear hk)
      (try clear hi)
      (try clear ho0)
      refine hK.out _ _ ⟨(blk_cell BK420.out 0).trans rfl, (blk_cell BK420.out 1).trans rfl, (blk_cell BK420.out 2).trans rfl, (blk_cell BK421.out 0).trans rfl, (blk_cell BK421.out 1).trans rfl, (blk_cell BK421.out 2).trans rfl⟩ (fun hHeld => ?_)
      clear hK K
      refine norm_ (a' := ?_) ?_ ?_
      rotate_left
      · show Act.put _ (some 28) _ = _
        simp only [Act.put, List.setIfInBounds_toArray, List.set_cons_zero, List.set_cons_succ, i64_w, i32_w]
        rfl
      refine one_ (i := 4) (N := some 31) #[true, true, true, true, true, false, false, false, false, false, false, false, false] rfl rfl (one_of HT_.out (by kernel_rfl)) (by decide) (fun K hK => ?_)
      refine goes_ Try.func27 (by kernel_rfl) rfl #[.agg #[.int .i64 a2_0, .int .i64 a2_1, .slice A2_2 l2_2.length c2_2]] (by rfl) rfl rfl (by (try simp only [List.map_toArray, List.map_cons, List.map_nil]); first | done | rfl | (simp only [List.length_drop, List.length_take]; rfl)) ?_
      with_reducible refine (laws_toBox.calls k a2_0 a2_1 _ _ l2_2 t429 t430 t431 _ ?side1 ?side2 A21.out).mono ?_
      (case side1 => repeat (first | exact (Kd.C_below HR2_2.out HB.out) | (with_reducible refine Kd.C_alloc ?_ _) | (with_reducible refine Kd.C_drewN ?_ _) | (with_reducible refine Kd.C_drew ?_)))
      (case side2 => exact HC2_2.out)
      rintro e w36 ⟨v432, rfl, ho0, hb⟩
      refine ⟨_, rfl, ?_⟩
      have n0_ := Aside0.mk (Kd.R_elder' (by (with_reducible repeat (first | apply Kd.R_alloc | apply Kd.R_drewN | apply Kd.R_drew)); exact HO428.out) (Kd.R_base ho0) hb)
      have n1_ := Aside0.mk (Kd.R_lower (Kd.R_new' ho0 (Kd.R_lt (by (with_reducible repeat (first | apply Kd.R_alloc | apply Kd.R_drewN | apply Kd.R_drew)); exact HO428.out))) (below_size (by repeat (first | (with_reducible first | exact HB.out | apply below_alloc | apply pw_below_drewN | apply below_drew1 | refine below_set ?_ GE420.out | refine below_set ?_ GE421.out) | exact HB.out))))
      have n2_ := Aside0.mk (blk_below (g := gb420) (o := .cells #[.int .i64 a0_0, .int .i64 a0_1, .slice A0_2 l0_2.length c0_2] 51 (0, 0)) (by (with_reducible repeat (first | refine blk_drewN ?_ _ | refine blk_drew ?_ | refine blk_alloc ?_ _)); exact BK420.out) hb)
      have n3_ := Aside0.mk (blk_below (g := gb421) (o := .cells #[.int .i64 a2_0, .int .i64 a2_1, .slice A2_2 l2_2.length c2_2] 51 (0, 0)) (by (with_reducible repeat (first | refine blk_drewN ?_ _ | refine blk_drew ?_ | refine blk_alloc ?_ _)); exact BK421.out) hb)
      have n4_ := Aside0.mk (below_step (by repeat (first | (with_reducible first | exact HB.out | apply below_alloc | apply pw_below_drewN | apply below_drew1 | refine below_set ?_ GE420.out | refine below_set ?_ GE421.out) | exact HB.out)) hb)
      clear HO428
      clear BK420
      clear BK421
      clear HB
      have HO428 := n0_
      have HO433 := n1_
      have BK420 := n2_
      have BK421 := n3_
      have HB := n4_
      clear n0_ n1_ n2_ n3_ n4_
      (try clear hb)
      (try clear hb2)
      (try clear hk)
      (try clear hi)
      (try clear ho0)
      obtain ⟨Ao37, co37, eo37⟩ := Kd.R_slice HO428.out
      (first | subst eo37 | (injection eo37 with f1_ f2_ f3_; have f4_ := f1_.symm; have f5_ := f3_.symm; clear f1_ f2_ f3_; subst f4_; subst f5_))
      obtain ⟨Ao38, co38, eo38⟩ := Kd.R_slice HO433.out
      (first | subst eo38 | (injection eo38 with f1_ f2_ f3_; have f4_ := f1_.symm; have f5_ := f3_.symm; clear f1_ f2_ f3_; subst f4_; subst f5_))
      refine hK.out _ _ ⟨(blk_cell BK420.out 0).trans rfl, (blk_cell BK420.out 1).trans rfl, (blk_cell BK420.out 2).trans rfl, (blk_cell BK421.out 0).trans rfl, (blk_cell BK421.out 1).trans rfl, (blk_cell BK421.out 2).trans rfl⟩ (fun hHeld => ?_)
      clear hK K
      refine norm_ (a' := ?_) ?_ ?_
      rotate_left
      · show Act.put _ (some 31) _ = _
        simp only [Act.put, List.setIfInBounds_toArray, List.set_cons_zero, List.set_cons_succ, i64_w, i32_w]
        rfl
      refine one_ (i := 5) (N := some 32) #[true, true, true, true, true, true, false, false, false, false, false, false, false] rfl rfl (one_of HT_.out (by kernel_rfl)) (by decide) (fun K hK => ?_)
      refine goes_ Try.func26 (by kernel_rfl) rfl #[.agg #[.int .i64 t424, .int .i64 t425, .slice Ao37 t426.length co37], .int .i64 a1, .agg #[.int .i64 t429, .int .i64 t430, .slice Ao38 t431.length co38]] (by rfl) rfl rfl (by (try simp only [List.map_toArray, List.map_cons, List.map_nil]); first | done | rfl | (simp only [List.length_drop, List.length_take]; rfl)) ?_
      with_reducible refine (spec_Moved.calls k t424 t425 _ _ t426 a1 t429 t430 _ _ t431 t434 t435 t436 _ ?side1 ?side2 ?side3 ?side4 A22.out).mono ?_
      (case side1 => repeat (first | exact (Kd.R_reads' HO428.out).2.2 | (with_reducible refine Kd.C_alloc ?_ _) | (with_reducible refine Kd.C_drewN ?_ _) | (with_reducible refine Kd.C_drew ?_)))
      (case side2 => exact (Kd.R_reads' HO428.out).2.1)
      (case side3 => repeat (first | exact (Kd.R_reads' HO433.out).2.2 | (with_reducible refine Kd.C_alloc ?_ _) | (with_reducible refine Kd.C_drewN ?_ _) | (with_reducible refine Kd.C_drew ?_)))
      (case side4 => exact (Kd.R_reads' HO433.out).2.1)
      rintro e w39 ⟨rfl, hb⟩
      refine ⟨_, rfl, ?_⟩
      have n0_ := Aside0.mk (Kd.R_below (by (with_reducible repeat (first | apply Kd.R_alloc | apply Kd.R_drewN | apply Kd.R_drew)); exact HO428.out) hb)
      have n1_ := Aside0.mk (Kd.R_below (by (with_reducible repeat (first | apply Kd.R_alloc | apply Kd.R_drewN | apply Kd.R_drew)); exact HO433.out) hb)
      have n2_ := Aside0.mk (blk_below (g := gb420) (o := .cells #[.int .i64 a0_0, .int .i64 a0_1, .slice A0_2 l0_2.length c0_2] 51 (0, 0)) (by (with_reducible repeat (first | refine blk_drewN ?_ _ | refine blk_drew ?_ | refine blk_alloc ?_ _)); exact BK420.out) hb)
      have n3_ := Aside0.mk (blk_below (g := gb421) (o := .cells #[.int .i64 a2_0, .int .i64 a2_1, .slice A2_2 l2_2.length c2_2] 51 (0, 0)) (by (with_reducible repeat (first | refine blk_drewN ?_ _ | refine blk_drew ?_ | refine blk_alloc ?_ _)); exact BK421.out) hb)
      have n4_ := Aside0.mk (below_step (by repeat (first | (with_reducible first | exact HB.out | apply below_alloc | apply pw_below_drewN | apply below_drew1 | refine below_set ?_ GE420.out | refine below_set ?_ GE421.out) | exact HB.out)) hb)
      clear HO428
      clear HO433
      clear BK420
      clear BK421
      clear HB
      have HO428 := n0_
      have HO433 := n1_
      have BK420 := n2_
      have BK421 := n3_
      have HB := n4_
      clear n0_ n1_ n2_ n3_ n4_
      (try clear hb)
      (try clear hb2)
      (try clear hk)
      (try clear hi)
      refine hK.out _ _ ⟨(blk_cell BK420.out 0).trans rfl, (blk_cell BK420.out 1).trans rfl, (blk_cell BK420.out 2).trans rfl, (blk_cell BK421.out 0).trans rfl, (blk_cell BK421.out 1).trans rfl, (blk_cell BK421.out 2).trans rfl⟩ (fun hHeld => ?_)
      clear hK K
      refine norm_ (a' := ?_) ?_ ?_
      rotate_left
      · show Act.put _ (some 32) _ = _
        simp only [Act.put, List.setIfInBounds_toArray, List.set_cons_zero, List.set_cons_succ, i64_w, i32_w]
        rfl
      refine pure_ (i := 6) (N := some 26) (v := ?_) (a' := ?_) #[true, true, true, true, true, true, true, false, false, false, false, false, false] rfl rfl (any_of HT_.out (by kernel_rfl)) (fun _ _ _ h => h) (Or.inl ⟨by rfl, ?_⟩) ?_ ?_
      rotate_left
      · intro w'
        go_simp
        with_reducible rfl
      rotate_left
      · simp only [Act.put, List.setIfInBounds_toArray, List.set_cons_zero, List.set_cons_succ, i64_w, i32_w]
        rfl
      refine pure_ (i := 7) (N := some 33) (v := ?_) (a' := ?_) #[true, true, true, true, true, true, true, true, false, false, false, false, false] rfl rfl (any_of HT_.out (by kernel_rfl)) (fun _ _ _ h => h) (Or.inl ⟨by rfl, ?_⟩) ?_ ?_
      rotate_left
      · intro w'
        go_simp
        with_reducible rfl
      rotate_left
      · simp only [Act.put, List.setIfInBounds_toArray, List.set_cons_zero, List.set_cons_succ, i64_w, i32_w]
        rfl
      refine pure_ (i := 8) (N := some 34) (v := ?_) (a' := ?_) #[true, true, true, true, true, true, true, true, true, false, false, false, false] rfl rfl (any_of HT_.out (by kernel_rfl)) (fun _ _ _ h => h) (Or.inl ⟨by rfl, ?_⟩) ?_ ?_
      rotate_left
      · intro w'
        go_simp
        with_reducible rfl
      rotate_left
      · simp only [Act.put, List.setIfInBounds_toArray, List.set_cons_zero, List.set_cons_succ, i64_w, i32_w]
        rfl
      refine pure_ (i := 9) (N := some 35) (v := ?_) (a' := ?_) #[true, true, true, true, true, true, true, true, true, true, false, false, false] rfl rfl (any_of HT_.out (by kernel_rfl)) (fun _ _ _ h => h) (Or.inl ⟨by rfl, ?_⟩) ?_ ?_
      rotate_left
      · intro w'
        go_simp
        with_reducible rfl
      rotate_left
      · simp only [Act.put, List.setIfInBounds_toArray, List.set_cons_zero, List.set_cons_succ, i64_w, i32_w]
        rfl
      refine pure_ (i := 10) (N := some 8) (v := ?_) (a' := ?_) #[true, true, true, true, true, true, true, true, true, true, true, false, false] rfl rfl (any_of HT_.out (by kernel_rfl)) (fun _ _ _ h => h) (Or.inl ⟨by rfl, ?_⟩) ?_ ?_
      rotate_left
      · intro w'
        go_simp
        with_reducible rfl
      rotate_left
      · simp only [Act.put, List.setIfInBounds_toArray, List.set_cons_zero, List.set_cons_succ, i64_w, i32_w]
        rfl
      refine pure_ (i := 11) (N := some 9) (v := ?_) (a' := ?_) #[true, true, true, true, true, true, true, true, true, true, true, true, false] rfl rfl (any_of HT_.out (by kernel_rfl)) (fun _ _ _ h => h) (Or.inl ⟨by rfl, ?_⟩) ?_ ?_
      rotate_left
      · intro w'
        go_simp
        with_reducible rfl
      rotate_left
      · simp only [Act.put, List.setIfInBounds_toArray, List.set_cons_zero, List.set_cons_succ, i64_w, i32_w]
        rfl
      refine pure_ (i := 12) (N := some 10) (v := ?_) (a' := ?_) #[true, true, true, true, true, true, true, true, true, true, true, true, true] rfl rfl (any_of HT_.out (by kernel_rfl)) (fun _ _ _ h => h) (Or.inl ⟨by rfl, ?_⟩) ?_ ?_
      rotate_left
      · intro w'
        go_simp
        with_reducible rfl
      rotate_left
      · simp only [Act.put, List.setIfInBounds_toArray, List.set_cons_zero, List.set_cons_succ, i64_w, i32_w]
        rfl
      refine done_ (done_of HT_.out (by kernel_rfl)) ?_
      have hcz40_0 : w39.cell? ⟨gb420, 0, none⟩ = some (.int .i64 a0_0) := (blk_cell BK420.out 0).trans rfl
      have hcz40_1 : w39.cell? ⟨gb420, 1, none⟩ = some (.int .i64 a0_1) := (blk_cell BK420.out 1).trans rfl
      have hcz40_2 : w39.cell? ⟨gb420, 2, none⟩ = some (.slice A0_2 l0_2.length c0_2) := (blk_cell BK420.out 2).trans rfl
      have hfz40_0 := blk_frozen BK420.out 0
      have hfz40_1 := blk_frozen BK420.out 1
      have hfz40_2 := blk_frozen BK420.out 2
      go_upto_region 12 with (first | ((with_reducible refine gate_callee (f := 27) rfl ?_); refine goesL_ (some 37) rfl rfl Try.func27 (by kernel_rfl) rfl #[.agg #[.int .i64 a0_0, .int .i64 a0_1, .slice A0_2 l0_2.length c0_2]] rfl (by (try simp only [List.map_toArray, List.map_cons, List.map_nil]); first | done | rfl | (simp only [List.length_drop, List.length_take]; rfl)) ?_; (with_reducible refine (laws_toBox.calls k a0_0 a0_1 _ _ l0_2 t437 t438 t439 _ ?side1 ?side2 A23.out).mono ?_); (case side1 => repeat (first | exact (Kd.C_below HR0_2.out HB.out) | (with_reducible refine Kd.C_alloc ?_ _) | (with_reducible refine Kd.C_drewN ?_ _) | (with_reducible refine Kd.C_drew ?_))); (case side2 => exact HC0_2.out); rintro e w41 ⟨v440, rfl, ho0, hb⟩; refine ⟨_, rfl, ?_⟩; have n0_ := Aside0.mk (Kd.R_elder' (by (with_reducible repeat (first | apply Kd.R_alloc | apply Kd.R_drewN | apply Kd.R_drew)); exact HO428.out) (Kd.R_base ho0) hb); have n1_ := Aside0.mk (Kd.R_elder' (by (with_reducible repeat (first | apply Kd.R_alloc | apply Kd.R_drewN | apply Kd.R_drew)); exact HO433.out) (Kd.R_base ho0) hb); have n2_ := Aside0.mk (Kd.R_lower (Kd.R_new' (Kd.R_new' ho0 (Kd.R_lt (by (with_reducible repeat (first | apply Kd.R_alloc | apply Kd.R_drewN | apply Kd.R_drew)); exact HO428.out))) (Kd.R_lt (by (with_reducible repeat (first | apply Kd.R_alloc | apply Kd.R_drewN | apply Kd.R_drew)); exact HO433.out))) (below_size (by repeat (first | (with_reducible first | exact HB.out | apply below_alloc | apply pw_below_drewN | apply below_drew1 | refine below_set ?_ GE420.out | refine below_set ?_ GE421.out) | exact HB.out)))); have n3_ := Aside0.mk (blk_below (g := gb420) (o := .cells #[.int .i64 a0_0, .int .i64 a0_1, .slice A0_2 l0_2.length c0_2] 51 (0, 0)) (by (with_reducible repeat (first | refine blk_drewN ?_ _ | refine blk_drew ?_ | refine blk_alloc ?_ _)); exact BK420.out) hb); have n4_ := Aside0.mk (blk_below (g := gb421) (o := .cells #[.int .i64 a2_0, .int .i64 a2_1, .slice A2_2 l2_2.length c2_2] 51 (0, 0)) (by (with_reducible repeat (first | refine blk_drewN ?_ _ | refine blk_drew ?_ | refine blk_alloc ?_ _)); exact BK421.out) hb); have n5_ := Aside0.mk (below_step (by repeat (first | (with_reducible first | exact HB.out | apply below_alloc | apply pw_below_drewN | apply below_drew1 | refine below_set ?_ GE420.out | refine below_set ?_ GE421.out) | exact HB.out)) hb); clear HO428; clear HO433; clear BK420; clear BK421; clear HB; have HO428 := n0_; have HO433 := n1_; have HO441 := n2_; have BK420 := n3_; have BK421 := n4_; have HB := n5_; clear n0_ n1_ n2_ n3_ n4_ n5_; (try clear hb); (try clear hb2); (try clear hk); (try clear hi); (try clear ho0)) | ((with_reducible refine gate_dst (N := 11) rfl ?_); refine box_event ?hg (N := 11) ?hd (cs := #[.int .i64 0, .int .i64 0, .slice none 0 0]) (t := 55) ?hr ?_; (case hd => rfl); (case hg => rfl); (case hr => first | (go_simp; done) | (go_simp; rfl)); intro gb442 hg w42 hbox hb; have n0_ := Aside0.mk (Kd.R_below (by (with_reducible repeat (first | apply Kd.R_alloc | apply Kd.R_drewN | apply Kd.R_drew)); exact HO428.out) hb); have n1_ := Aside0.mk (Kd.R_below (by (with_reducible repeat (first | apply Kd.R_alloc | apply Kd.R_drewN | apply Kd.R_drew)); exact HO433.out) hb); have n2_ := Aside0.mk (Kd.R_below (by (with_reducible repeat (first | apply Kd.R_alloc | apply Kd.R_drewN | apply Kd.R_drew)); exact HO441.out) hb); have n3_ := Aside0.mk (blk_below (g := gb420) (o := .cells #[.int .i64 a0_0, .int .i64 a0_1, .slice A0_2 l0_2.length c0_2] 51 (0, 0)) (by (with_reducible repeat (first | refine blk_drewN ?_ _ | refine blk_drew ?_ | refine blk_alloc ?_ _)); exact BK420.out) hb); have n4_ := Aside0.mk (blk_below (g := gb421) (o := .cells #[.int .i64 a2_0, .int .i64 a2_1, .slice A2_2 l2_2.length c2_2] 51 (0, 0)) (by (with_reducible repeat (first | refine blk_drewN ?_ _ | refine blk_drew ?_ | refine blk_alloc ?_ _)); exact BK421.out) hb); have n5_ := Aside0.mk (below_step (by repeat (first | (with_reducible first | exact HB.out | apply below_alloc | apply pw_below_drewN | apply below_drew1 | refine below_set ?_ GE420.out | refine below_set ?_ GE421.out) | exact HB.out)) hb); have n6_ := Aside0.mk (hbox); have n7_ := Aside0.mk ((by rw [hg]; exact (below_size (by repeat (first | (with_reducible first | exact HB.out | apply below_alloc | apply pw_below_drewN | apply below_drew1 | refine below_set ?_ GE420.out | refine below_set ?_ GE421.out) | exact HB.out))) : w.heap.size ≤ gb442)); have n8_ := Aside0.mk ((by rw [hg]; exact (below_size (by repeat (first | (with_reducible first | exact HB.out | apply below_alloc | apply pw_below_drewN | apply below_drew1 | refine below_set ?_ GE420.out | refine below_set ?_ GE421.out) | exact HB.out))) : w.heap.size ≤ gb442)); have n9_ := Aside0.mk ((by rw [hg]; exact Nat.ne_of_lt (blk_lt (g := gb420) (o := .cells #[.int .i64 a0_0, .int .i64 a0_1, .slice A0_2 l0_2.length c0_2] 51 (0, 0)) (by (with_reducible repeat (first | refine blk_drewN ?_ _ | refine blk_drew ?_ | refine blk_alloc ?_ _)); exact BK420.out)) : gb420 ≠ gb442)); have n10_ := Aside0.mk ((by rw [hg]; exact Nat.ne_of_gt (blk_lt (g := gb420) (o := .cells #[.int .i64 a0_0, .int .i64 a0_1, .slice A0_2 l0_2.length c0_2] 51 (0, 0)) (by (with_reducible repeat (first | refine blk_drewN ?_ _ | refine blk_drew ?_ | refine blk_alloc ?_ _)); exact BK420.out)) : gb442 ≠ gb420)); have n11_ := Aside0.mk ((by rw [hg]; exact Nat.ne_of_lt (blk_lt (g := gb421) (o := .cells #[.int .i64 a2_0, .int .i64 a2_1, .slice A2_2 l2_2.length c2_2] 51 (0, 0)) (by (with_reducible repeat (first | refine blk_drewN ?_ _ | refine blk_drew ?_ | refine blk_alloc ?_ _)); exact BK421.out)) : gb421 ≠ gb442)); have n12_ := Aside0.mk ((by rw [hg]; exact Nat.ne_of_gt (blk_lt (g := gb421) (o := .cells #[.int .i64 a2_0, .int .i64 a2_1, .slice A2_2 l2_2.length c2_2] 51 (0, 0)) (by (with_reducible repeat (first | refine blk_drewN ?_ _ | refine blk_drew ?_ | refine blk_alloc ?_ _)); exact BK421.out)) : gb442 ≠ gb421)); clear HO428; clear HO433; clear HO441; clear BK420; clear BK421; clear HB; have HO428 := n0_; have HO433 := n1_; have HO441 := n2_; have BK420 := n3_; have BK421 := n4_; have HB := n5_; have BK442 := n6_; have GW442 := n7_; have GE442 := n8_; have NB420_442 := n9_; have NB442_420 := n10_; have NB421_442 := n11_; have NB442_421 := n12_; clear n0_ n1_ n2_ n3_ n4_ n5_ n6_ n7_ n8_ n9_ n10_ n11_ n12_; clear hb hbox hg; have hnb43 := NB442_420.out; have hnc43 := NB420_442.out; have hnb44 := NB442_421.out; have hnc44 := NB421_442.out; have hcz45_0 : w42.cell? ⟨gb442, 0, none⟩ = some (.int .i64 0) := (blk_cell BK442.out 0).trans rfl; have hcz45_1 : w42.cell? ⟨gb442, 1, none⟩ = some (.int .i64 0) := (blk_cell BK442.out 1).trans rfl; have hcz45_2 : w42.cell? ⟨gb442, 2, none⟩ = some (.slice none 0 0) := (blk_cell BK442.out 2).trans rfl; have hfz45_0 := blk_frozen BK442.out 0; have hfz45_1 := blk_frozen BK442.out 1; have hfz45_2 := blk_frozen BK442.out 2; obtain ⟨Ao46, co46, eo46⟩ := Kd.R_slice HO441.out; subst eo46; have hcz47_0 : w42.cell? ⟨gb421, 0, none⟩ = some (.int .i64 a2_0) := (blk_cell BK421.out 0).trans rfl; have hcz47_1 : w42.cell? ⟨gb421, 1, none⟩ = some (.int .i64 a2_1) := (blk_cell BK421.out 1).trans rfl; have hcz47_2 : w42.cell? ⟨gb421, 2, none⟩ = some (.slice A2_2 l2_2.length c2_2) := (blk_cell BK421.out 2).trans rfl; have hfz47_0 := blk_frozen BK421.out 0; have hfz47_1 := blk_frozen BK421.out 1; have hfz47_2 := blk_frozen BK421.out 2) | ((with_reducible refine gate_callee (f := 27) rfl ?_); refine goesL_ (some 39) rfl rfl Try.func27 (by kernel_rfl) rfl #[.agg #[.int .i64 a2_0, .int .i64 a2_1, .slice A2_2 l2_2.length c2_2]] rfl (by (try simp only [List.map_toArray, List.map_cons, List.map_nil]); first | done | rfl | (simp only [List.length_drop, List.length_take]; rfl)) ?_; (with_reducible refine (laws_toBox.calls k a2_0 a2_1 _ _ l2_2 t443 t444 t445 _ ?side1 ?side2 A24.out).mono ?_); (case side1 => exact Kd.C_below HR2_2.out (by repeat (first | (with_reducible first | exact HB.out | apply below_alloc | apply pw_below_drewN | apply below_drew1 | refine below_set ?_ GE420.out | refine below_set ?_ GE421.out | refine below_set ?_ GE442.out) | exact HB.out))); (case side2 => exact HC2_2.out); rintro e w48 ⟨v446, rfl, ho0, hb⟩; refine ⟨_, rfl, ?_⟩; have n0_ := Aside0.mk (Kd.R_elder' (by (with_reducible repeat (first | apply Kd.R_alloc | apply Kd.R_drewN | apply Kd.R_drew)); exact (Kd.R_mono (Kd.R_far (p := ⟨gb442, 2, none⟩) (Kd.R_far (p := ⟨gb442, 1, none⟩) (Kd.R_far (p := ⟨gb442, 0, none⟩) (Kd.R_types HO428.out BK442.out (by decide)) (fun _ hk => hk.2) (.int .i64 t437)) (fun _ hk => hk.2) (.int .i64 t438)) (fun _ hk => hk.2) (.slice Ao46 t439.length co46)) (fun _ h_ => h_.1))) (Kd.R_base ho0) hb); have n1_ := Aside0.mk (Kd.R_elder' (by (with_reducible repeat (first | apply Kd.R_alloc | apply Kd.R_drewN | apply Kd.R_drew)); exact (Kd.R_mono (Kd.R_far (p := ⟨gb442, 2, none⟩) (Kd.R_far (p := ⟨gb442, 1, none⟩) (Kd.R_far (p := ⟨gb442, 0, none⟩) (Kd.R_types HO433.out BK442.out (by decide)) (fun _ hk => hk.2) (.int .i64 t437)) (fun _ hk => hk.2) (.int .i64 t438)) (fun _ hk => hk.2) (.slice Ao46 t439.length co46)) (fun _ h_ => h_.1))) (Kd.R_base ho0) hb); have n2_ := Aside0.mk (Kd.R_elder' (by (with_reducible repeat (first | apply Kd.R_alloc | apply Kd.R_drewN | apply Kd.R_drew)); exact (Kd.R_mono (Kd.R_far (p := ⟨gb442, 2, none⟩) (Kd.R_far (p := ⟨gb442, 1, none⟩) (Kd.R_far (p := ⟨gb442, 0, none⟩) (Kd.R_types HO441.out BK442.out (by decide)) (fun _ hk => hk.2) (.int .i64 t437)) (fun _ hk => hk.2) (.int .i64 t438)) (fun _ hk => hk.2) (.slice Ao46 t439.length co46)) (fun _ h_ => h_.1))) (Kd.R_base ho0) hb); have n3_ := Aside0.mk (Kd.R_lower (Kd.R_new' (Kd.R_new' (Kd.R_new' ho0 (Kd.R_lt (by (with_reducible repeat (first | apply Kd.R_alloc | apply Kd.R_drewN | apply Kd.R_drew)); exact (Kd.R_mono (Kd.R_far (p := ⟨gb442, 2, none⟩) (Kd.R_far (p := ⟨gb442, 1, none⟩) (Kd.R_far (p := ⟨gb442, 0, none⟩) (Kd.R_types HO428.out BK442.out (by decide)) (fun _ hk => hk.2) (.int .i64 t437)) (fun _ hk => hk.2) (.int .i64 t438)) (fun _ hk => hk.2) (.slice Ao46 t439.length co46)) (fun _ h_ => h_.1))))) (Kd.R_lt (by (with_reducible repeat (first | apply Kd.R_alloc | apply Kd.R_drewN | apply Kd.R_drew)); exact (Kd.R_mono (Kd.R_far (p := ⟨gb442, 2, none⟩) (Kd.R_far (p := ⟨gb442, 1, none⟩) (Kd.R_far (p := ⟨gb442, 0, none⟩) (Kd.R_types HO433.out BK442.out (by decide)) (fun _ hk => hk.2) (.int .i64 t437)) (fun _ hk => hk.2) (.int .i64 t438)) (fun _ hk => hk.2) (.slice Ao46 t439.length co46)) (fun _ h_ => h_.1))))) (Kd.R_lt (by (with_reducible repeat (first | apply Kd.R_alloc | apply Kd.R_drewN | apply Kd.R_drew)); exact (Kd.R_mono (Kd.R_far (p := ⟨gb442, 2, none⟩) (Kd.R_far (p := ⟨gb442, 1, none⟩) (Kd.R_far (p := ⟨gb442, 0, none⟩) (Kd.R_types HO441.out BK442.out (by decide)) (fun _ hk => hk.2) (.int .i64 t437)) (fun _ hk => hk.2) (.int .i64 t438)) (fun _ hk => hk.2) (.slice Ao46 t439.length co46)) (fun _ h_ => h_.1))))) (below_size (by repeat (first | (with_reducible first | exact HB.out | apply below_alloc | apply pw_below_drewN | apply below_drew1 | refine below_set ?_ GE420.out | refine below_set ?_ GE421.out | refine below_set ?_ GE442.out) | exact HB.out)))); have n4_ := Aside0.mk (blk_below (g := gb420) (o := .cells #[.int .i64 a0_0, .int .i64 a0_1, .slice A0_2 l0_2.length c0_2] 51 (0, 0)) (by (with_reducible repeat (first | refine blk_drewN ?_ _ | refine blk_drew ?_ | refine blk_alloc ?_ _)); refine blk_far ?_ NB420_442.out _; (with_reducible repeat (first | refine blk_drewN ?_ _ | refine blk_drew ?_ | refine blk_alloc ?_ _)); refine blk_far ?_ NB420_442.out _; (with_reducible repeat (first | refine blk_drewN ?_ _ | refine blk_drew ?_ | refine blk_alloc ?_ _)); refine blk_far ?_ NB420_442.out _; (with_reducible repeat (first | refine blk_drewN ?_ _ | refine blk_drew ?_ | refine blk_alloc ?_ _)); exact BK420.out) hb); have n5_ := Aside0.mk (blk_below (g := gb421) (o := .cells #[.int .i64 a2_0, .int .i64 a2_1, .slice A2_2 l2_2.length c2_2] 51 (0, 0)) (by (with_reducible repeat (first | refine blk_drewN ?_ _ | refine blk_drew ?_ | refine blk_alloc ?_ _)); refine blk_far ?_ NB421_442.out _; (with_reducible repeat (first | refine blk_drewN ?_ _ | refine blk_drew ?_ | refine blk_alloc ?_ _)); refine blk_far ?_ NB421_442.out _; (with_reducible repeat (first | refine blk_drewN ?_ _ | refine blk_drew ?_ | refine blk_alloc ?_ _)); refine blk_far ?_ NB421_442.out _; (with_reducible repeat (first | refine blk_drewN ?_ _ | refine blk_drew ?_ | refine blk_alloc ?_ _)); exact BK421.out) hb); have n6_ := Aside0.mk (blk_below (g := gb442) (o := .cells #[.int .i64 t437, .int .i64 t438, .slice Ao46 t439.length co46] 55 (0, 0)) (by (with_reducible repeat (first | refine blk_drewN ?_ _ | refine blk_drew ?_ | refine blk_alloc ?_ _)); refine blk_put (cs := #[.int .i64 t437, .int .i64 t438, .slice none 0 0]) ?_ 2 _ rfl; (with_reducible repeat (first | refine blk_drewN ?_ _ | refine blk_drew ?_ | refine blk_alloc ?_ _)); refine blk_put (cs := #[.int .i64 t437, .int .i64 0, .slice none 0 0]) ?_ 1 _ rfl; (with_reducible repeat (first | refine blk_drewN ?_ _ | refine blk_drew ?_ | refine blk_alloc ?_ _)); refine blk_put (cs := #[.int .i64 0, .int .i64 0, .slice none 0 0]) ?_ 0 _ rfl; (with_reducible repeat (first | refine blk_drewN ?_ _ | refine blk_drew ?_ | refine blk_alloc ?_ _)); exact BK442.out) hb); have n7_ := Aside0.mk (below_step (by repeat (first | (with_reducible first | exact HB.out | apply below_alloc | apply pw_below_drewN | apply below_drew1 | refine below_set ?_ GE420.out | refine below_set ?_ GE421.out | refine below_set ?_ GE442.out) | exact HB.out)) hb); clear HO428; clear HO433; clear HO441; clear BK420; clear BK421; clear BK442; clear HB; have HO428 := n0_; have HO433 := n1_; have HO441 := n2_; have HO447 := n3_; have BK420 := n4_; have BK421 := n5_; have BK442 := n6_; have HB := n7_; clear n0_ n1_ n2_ n3_ n4_ n5_ n6_ n7_; (try clear hb); (try clear hb2); (try clear hk); (try clear hi); (try clear ho0)) | ((with_reducible refine gate_dst (N := 12) rfl ?_); refine box_event ?hg (N := 12) ?hd (cs := #[.int .i64 0, .int .i64 0, .slice none 0 0]) (t := 55) ?hr ?_; (case hd => rfl); (case hg => rfl); (case hr => first | (go_simp; done) | (go_simp; rfl)); intro gb448 hg w49 hbox hb; have n0_ := Aside0.mk (Kd.R_below (by (with_reducible repeat (first | apply Kd.R_alloc | apply Kd.R_drewN | apply Kd.R_drew)); exact HO428.out) hb); have n1_ := Aside0.mk (Kd.R_below (by (with_reducible repeat (first | apply Kd.R_alloc | apply Kd.R_drewN | apply Kd.R_drew)); exact HO433.out) hb); have n2_ := Aside0.mk (Kd.R_below (by (with_reducible repeat (first | apply Kd.R_alloc | apply Kd.R_drewN | apply Kd.R_drew)); exact HO441.out) hb); have n3_ := Aside0.mk (Kd.R_below (by (with_reducible repeat (first | apply Kd.R_alloc | apply Kd.R_drewN | apply Kd.R_drew)); exact HO447.out) hb); have n4_ := Aside0.mk (blk_below (g := gb420) (o := .cells #[.int .i64 a0_0, .int .i64 a0_1, .slice A0_2 l0_2.length c0_2] 51 (0, 0)) (by (with_reducible repeat (first | refine blk_drewN ?_ _ | refine blk_drew ?_ | refine blk_alloc ?_ _)); exact BK420.out) hb); have n5_ := Aside0.mk (blk_below (g := gb421) (o := .cells #[.int .i64 a2_0, .int .i64 a2_1, .slice A2_2 l2_2.length c2_2] 51 (0, 0)) (by (with_reducible repeat (first | refine blk_drewN ?_ _ | refine blk_drew ?_ | refine blk_alloc ?_ _)); exact BK421.out) hb); have n6_ := Aside0.mk (blk_below (g := gb442) (o := .cells #[.int .i64 t437, .int .i64 t438, .slice Ao46 t439.length co46] 55 (0, 0)) (by (with_reducible repeat (first | refine blk_drewN ?_ _ | refine blk_drew ?_ | refine blk_alloc ?_ _)); exact BK442.out) hb); have n7_ := Aside0.mk (below_step (by repeat (first | (with_reducible first | exact HB.out | apply below_alloc | apply pw_below_drewN | apply below_drew1 | refine below_set ?_ GE420.out | refine below_set ?_ GE421.out | refine below_set ?_ GE442.out) | exact HB.out)) hb); have n8_ := Aside0.mk (hbox); have n9_ := Aside0.mk ((by rw [hg]; exact (below_size (by repeat (first | (with_reducible first | exact HB.out | apply below_alloc | apply pw_below_drewN | apply below_drew1 | refine below_set ?_ GE420.out | refine below_set ?_ GE421.out | refine below_set ?_ GE442.out) | exact HB.out))) : w.heap.size ≤ gb448)); have n10_ := Aside0.mk ((by rw [hg]; exact (below_size (by repeat (first | (with_reducible first | exact HB.out | apply below_alloc | apply pw_below_drewN | apply below_drew1 | refine below_set ?_ GE420.out | refine below_set ?_ GE421.out | refine below_set ?_ GE442.out) | exact HB.out))) : w.heap.size ≤ gb448)); have n11_ := Aside0.mk ((by rw [hg]; exact Nat.ne_of_lt (blk_lt (g := gb420) (o := .cells #[.int .i64 a0_0, .int .i64 a0_1, .slice A0_2 l0_2.length c0_2] 51 (0, 0)) (by (with_reducible repeat (first | refine blk_drewN ?_ _ | refine blk_drew ?_ | refine blk_alloc ?_ _)); exact BK420.out)) : gb420 ≠ gb448)); have n12_ := Aside0.mk ((by rw [hg]; exact Nat.ne_of_gt (blk_lt (g := gb420) (o := .cells #[.int .i64 a0_0, .int .i64 a0_1, .slice A0_2 l0_2.length c0_2] 51 (0, 0)) (by (with_reducible repeat (first | refine blk_drewN ?_ _ | refine blk_drew ?_ | refine blk_alloc ?_ _)); exact BK420.out)) : gb448 ≠ gb420)); have n13_ := Aside0.mk ((by rw [hg]; exact Nat.ne_of_lt (blk_lt (g := gb421) (o := .cells #[.int .i64 a2_0, .int .i64 a2_1, .slice A2_2 l2_2.length c2_2] 51 (0, 0)) (by (with_reducible repeat (first | refine blk_drewN ?_ _ | refine blk_drew ?_ | refine blk_alloc ?_ _)); exact BK421.out)) : gb421 ≠ gb448)); have n14_ := Aside0.mk ((by rw [hg]; exact Nat.ne_of_gt (blk_lt (g := gb421) (o := .cells #[.int .i64 a2_0, .int .i64 a2_1, .slice A2_2 l2_2.length c2_2] 51 (0, 0)) (by (with_reducible repeat (first | refine blk_drewN ?_ _ | refine blk_drew ?_ | refine blk_alloc ?_ _)); exact BK421.out)) : gb448 ≠ gb421)); have n15_ := Aside0.mk ((by rw [hg]; exact Nat.ne_of_lt (blk_lt (g := gb442) (o := .cells #[.int .i64 t437, .int .i64 t438, .slice Ao46 t439.length co46] 55 (0, 0)) (by (with_reducible repeat (first | refine blk_drewN ?_ _ | refine blk_drew ?_ | refine blk_alloc ?_ _)); exact BK442.out)) : gb442 ≠ gb448)); have n16_ := Aside0.mk ((by rw [hg]; exact Nat.ne_of_gt (blk_lt (g := gb442) (o := .cells #[.int .i64 t437, .int .i64 t438, .slice Ao46 t439.length co46] 55 (0, 0)) (by (with_reducible repeat (first | refine blk_drewN ?_ _ | refine blk_drew ?_ | refine blk_alloc ?_ _)); exact BK442.out)) : gb448 ≠ gb442)); clear HO428; clear HO433; clear HO441; clear HO447; clear BK420; clear BK421; clear BK442; clear HB; have HO428 := n0_; have HO433 := n1_; have HO441 := n2_; have HO447 := n3_; have BK420 := n4_; have BK421 := n5_; have BK442 := n6_; have HB := n7_; have BK448 := n8_; have GW448 := n9_; have GE448 := n10_; have NB420_448 := n11_; have NB448_420 := n12_; have NB421_448 := n13_; have NB448_421 := n14_; have NB442_448 := n15_; have NB448_442 := n16_; clear n0_ n1_ n2_ n3_ n4_ n5_ n6_ n7_ n8_ n9_ n10_ n11_ n12_ n13_ n14_ n15_ n16_; clear hb hbox hg; have hnb50 := NB448_420.out; have hnc50 := NB420_448.out; have hnb51 := NB448_421.out; have hnc51 := NB421_448.out; have hnb52 := NB448_442.out; have hnc52 := NB442_448.out; have hcz53_0 : w49.cell? ⟨gb448, 0, none⟩ = some (.int .i64 0) := (blk_cell BK448.out 0).trans rfl; have hcz53_1 : w49.cell? ⟨gb448, 1, none⟩ = some (.int .i64 0) := (blk_cell BK448.out 1).trans rfl; have hcz53_2 : w49.cell? ⟨gb448, 2, none⟩ = some (.slice none 0 0) := (blk_cell BK448.out 2).trans rfl; have hfz53_0 := blk_frozen BK448.out 0; have hfz53_1 := blk_frozen BK448.out 1; have hfz53_2 := blk_frozen BK448.out 2; obtain ⟨Ao54, co54, eo54⟩ := Kd.R_slice HO447.out; subst eo54; have hcz55_0 : w49.cell? ⟨gb442, 0, none⟩ = some (.int .i64 t437) := (blk_cell BK442.out 0).trans rfl; have hcz55_1 : w49.cell? ⟨gb442, 1, none⟩ = some (.int .i64 t438) := (blk_cell BK442.out 1).trans rfl; have hcz55_2 : w49.cell? ⟨gb442, 2, none⟩ = some (.slice Ao46 t439.length co46) := (blk_cell BK442.out 2).trans rfl; have hfz55_0 := blk_frozen BK442.out 0; have hfz55_1 := blk_frozen BK442.out 1; have hfz55_2 := blk_frozen BK442.out 2) | ((with_reducible refine gate_callee (f := 28) rfl ?_); refine goesL_ (some 44) rfl rfl Try.func28 (by kernel_rfl) rfl #[.agg #[.int .i64 t437, .int .i64 t438, .slice Ao46 t439.length co46], .int .i64 a1, .agg #[.int .i64 t443, .int .i64 t444, .slice Ao54 t445.length co54]] rfl (by (try simp only [List.map_toArray, List.map_cons, List.map_nil]); first | done | rfl | (simp only [List.length_drop, List.length_take]; rfl)) ?_; (with_reducible refine (impl_Moved.calls k t437 t438 _ _ t439 a1 t443 t444 _ _ t445 t449 t450 t451 _ ?side1 ?side2 ?side3 ?side4 A25.out).mono ?_); (case side1 => refine (Kd.R_reads' (e := 2) (base := w.heap.size) (ok := fun k_ => (((True ∧ some k_ ≠ (.slice Ao37 t426.length co37 : Value).ownBlock) ∧ some k_ ≠ (.slice Ao38 t431.length co38 : Value).ownBlock) ∧ some k_ ≠ (.slice Ao54 t445.length co54 : Value).ownBlock)) (n := t439.length) (c := co46) ?_).2.2; exact (by (with_reducible repeat (first | apply Kd.R_alloc | apply Kd.R_drewN | apply Kd.R_drew)); exact (Kd.R_mono (Kd.R_far (p := ⟨gb448, 2, none⟩) (Kd.R_far (p := ⟨gb448, 1, none⟩) (Kd.R_far (p := ⟨gb448, 0, none⟩) (Kd.R_types HO441.out BK448.out (by decide)) (fun _ hk => hk.2) (.int .i64 t443)) (fun _ hk => hk.2) (.int .i64 t444)) (fun _ hk => hk.2) (.slice Ao54 t445.length co54)) (fun _ h_ => h_.1)))); (case side2 => exact (Kd.R_reads' HO441.out).2.1); (case side3 => refine (Kd.R_reads' (e := 2) (base := w.heap.size) (ok := fun k_ => (((True ∧ some k_ ≠ (.slice Ao37 t426.length co37 : Value).ownBlock) ∧ some k_ ≠ (.slice Ao38 t431.length co38 : Value).ownBlock) ∧ some k_ ≠ (.slice Ao46 t439.length co46 : Value).ownBlock)) (n := t445.length) (c := co54) ?_).2.2; exact (by (with_reducible repeat (first | apply Kd.R_alloc | apply Kd.R_drewN | apply Kd.R_drew)); exact (Kd.R_mono (Kd.R_far (p := ⟨gb448, 2, none⟩) (Kd.R_far (p := ⟨gb448, 1, none⟩) (Kd.R_far (p := ⟨gb448, 0, none⟩) (Kd.R_types HO447.out BK448.out (by decide)) (fun _ hk => hk.2) (.int .i64 t443)) (fun _ hk => hk.2) (.int .i64 t444)) (fun _ hk => hk.2) (.slice Ao54 t445.length co54)) (fun _ h_ => h_.1)))); (case side4 => exact (Kd.R_reads' HO447.out).2.1); rintro e w56 ⟨rfl, hb⟩; refine ⟨_, rfl, ?_⟩; have n0_ := Aside0.mk (Kd.R_below (by (with_reducible repeat (first | apply Kd.R_alloc | apply Kd.R_drewN | apply Kd.R_drew)); exact (Kd.R_mono (Kd.R_far (p := ⟨gb448, 2, none⟩) (Kd.R_far (p := ⟨gb448, 1, none⟩) (Kd.R_far (p := ⟨gb448, 0, none⟩) (Kd.R_types HO428.out BK448.out (by decide)) (fun _ hk => hk.2) (.int .i64 t443)) (fun _ hk => hk.2) (.int .i64 t444)) (fun _ hk => hk.2) (.slice Ao54 t445.length co54)) (fun _ h_ => h_.1))) hb); have n1_ := Aside0.mk (Kd.R_below (by (with_reducible repeat (first | apply Kd.R_alloc | apply Kd.R_drewN | apply Kd.R_drew)); exact (Kd.R_mono (Kd.R_far (p := ⟨gb448, 2, none⟩) (Kd.R_far (p := ⟨gb448, 1, none⟩) (Kd.R_far (p := ⟨gb448, 0, none⟩) (Kd.R_types HO433.out BK448.out (by decide)) (fun _ hk => hk.2) (.int .i64 t443)) (fun _ hk => hk.2) (.int .i64 t444)) (fun _ hk => hk.2) (.slice Ao54 t445.length co54)) (fun _ h_ => h_.1))) hb); have n2_ := Aside0.mk (Kd.R_below (by (with_reducible repeat (first | apply Kd.R_alloc | apply Kd.R_drewN | apply Kd.R_drew)); exact (Kd.R_mono (Kd.R_far (p := ⟨gb448, 2, none⟩) (Kd.R_far (p := ⟨gb448, 1, none⟩) (Kd.R_far (p := ⟨gb448, 0, none⟩) (Kd.R_types HO441.out BK448.out (by decide)) (fun _ hk => hk.2) (.int .i64 t443)) (fun _ hk => hk.2) (.int .i64 t444)) (fun _ hk => hk.2) (.slice Ao54 t445.length co54)) (fun _ h_ => h_.1))) hb); have n3_ := Aside0.mk (Kd.R_below (by (with_reducible repeat (first | apply Kd.R_alloc | apply Kd.R_drewN | apply Kd.R_drew)); exact (Kd.R_mono (Kd.R_far (p := ⟨gb448, 2, none⟩) (Kd.R_far (p := ⟨gb448, 1, none⟩) (Kd.R_far (p := ⟨gb448, 0, none⟩) (Kd.R_types HO447.out BK448.out (by decide)) (fun _ hk => hk.2) (.int .i64 t443)) (fun _ hk => hk.2) (.int .i64 t444)) (fun _ hk => hk.2) (.slice Ao54 t445.length co54)) (fun _ h_ => h_.1))) hb); have n4_ := Aside0.mk (blk_below (g := gb420) (o := .cells #[.int .i64 a0_0, .int .i64 a0_1, .slice A0_2 l0_2.length c0_2] 51 (0, 0)) (by (with_reducible repeat (first | refine blk_drewN ?_ _ | refine blk_drew ?_ | refine blk_alloc ?_ _)); refine blk_far ?_ NB420_448.out _; (with_reducible repeat (first | refine blk_drewN ?_ _ | refine blk_drew ?_ | refine blk_alloc ?_ _)); refine blk_far ?_ NB420_448.out _; (with_reducible repeat (first | refine blk_drewN ?_ _ | refine blk_drew ?_ | refine blk_alloc ?_ _)); refine blk_far ?_ NB420_448.out _; (with_reducible repeat (first | refine blk_drewN ?_ _ | refine blk_drew ?_ | refine blk_alloc ?_ _)); exact BK420.out) hb); have n5_ := Aside0.mk (blk_below (g := gb421) (o := .cells #[.int .i64 a2_0, .int .i64 a2_1, .slice A2_2 l2_2.length c2_2] 51 (0, 0)) (by (with_reducible repeat (first | refine blk_drewN ?_ _ | refine blk_drew ?_ | refine blk_alloc ?_ _)); refine blk_far ?_ NB421_448.out _; (with_reducible repeat (first | refine blk_drewN ?_ _ | refine blk_drew ?_ | refine blk_alloc ?_ _)); refine blk_far ?_ NB421_448.out _; (with_reducible repeat (first | refine blk_drewN ?_ _ | refine blk_drew ?_ | refine blk_alloc ?_ _)); refine blk_far ?_ NB421_448.out _; (with_reducible repeat (first | refine blk_drewN ?_ _ | refine blk_drew ?_ | refine blk_alloc ?_ _)); exact BK421.out) hb); have n6_ := Aside0.mk (blk_below (g := gb442) (o := .cells #[.int .i64 t437, .int .i64 t438, .slice Ao46 t439.length co46] 55 (0, 0)) (by (with_reducible repeat (first | refine blk_drewN ?_ _ | refine blk_drew ?_ | refine blk_alloc ?_ _)); refine blk_far ?_ NB442_448.out _; (with_reducible repeat (first | refine blk_drewN ?_ _ | refine blk_drew ?_ | refine blk_alloc ?_ _)); refine blk_far ?_ NB442_448.out _; (with_reducible repeat (first | refine blk_drewN ?_ _ | refine blk_drew ?_ | refine blk_alloc ?_ _)); refine blk_far ?_ NB442_448.out _; (with_reducible repeat (first | refine blk_drewN ?_ _ | refine blk_drew ?_ | refine blk_alloc ?_ _)); exact BK442.out) hb); have n7_ := Aside0.mk (blk_below (g := gb448) (o := .cells #[.int .i64 t443, .int .i64 t444, .slice Ao54 t445.length co54] 55 (0, 0)) (by (with_reducible repeat (first | refine blk_drewN ?_ _ | refine blk_drew ?_ | refine blk_alloc ?_ _)); refine blk_put (cs := #[.int .i64 t443, .int .i64 t444, .slice none 0 0]) ?_ 2 _ rfl; (with_reducible repeat (first | refine blk_drewN ?_ _ | refine blk_drew ?_ | refine blk_alloc ?_ _)); refine blk_put (cs := #[.int .i64 t443, .int .i64 0, .slice none 0 0]) ?_ 1 _ rfl; (with_reducible repeat (first | refine blk_drewN ?_ _ | refine blk_drew ?_ | refine blk_alloc ?_ _)); refine blk_put (cs := #[.int .i64 0, .int .i64 0, .slice none 0 0]) ?_ 0 _ rfl; (with_reducible repeat (first | refine blk_drewN ?_ _ | refine blk_drew ?_ | refine blk_alloc ?_ _)); exact BK448.out) hb); have n8_ := Aside0.mk (below_step (by repeat (first | (with_reducible first | exact HB.out | apply below_alloc | apply pw_below_drewN | apply below_drew1 | refine below_set ?_ GE420.out | refine below_set ?_ GE421.out | refine below_set ?_ GE442.out | refine below_set ?_ GE448.out) | exact HB.out)) hb); clear HO428; clear HO433; clear HO441; clear HO447; clear BK420; clear BK421; clear BK442; clear BK448; clear HB; have HO428 := n0_; have HO433 := n1_; have HO441 := n2_; have HO447 := n3_; have BK420 := n4_; have BK421 := n5_; have BK442 := n6_; have BK448 := n7_; have HB := n8_; clear n0_ n1_ n2_ n3_ n4_ n5_ n6_ n7_ n8_; (try clear hb); (try clear hb2); (try clear hk); (try clear hi)))
      (try simp only [Act.put, List.setIfInBounds_toArray, List.set_cons_zero, List.set_cons_succ])
      go_cut [60] (fun v60 wc => ∃ (kq : Nat) (x60_25 : Bool), v60 = .bool x60_25 ∧ Aside0 (laws_FnExactMoved.j0 kq x60_25 a0_0 a0_1 l0_2 a2_0 a2_1 l2_2 t437 t438 t439 t443 t444 t445 = some r) ∧ Aside0 (kq ≤ k) ∧ Aside0 (Kd.R (Kd.int .i64) 2 wc w.heap.size (fun k_ => some k_ ≠ ((.slice Ao54 t445.length co54) : Value).ownBlock) (.slice Ao46 t439.length co46) t439) ∧ Aside0 (Kd.R (Kd.int .i64) 2 wc w.heap.size (fun k_ => some k_ ≠ ((.slice Ao46 t439.length co46) : Value).ownBlock) (.slice Ao54 t445.length co54) t445) ∧ Aside0 (wc.heap[gb420]? = some (.cells #[.int .i64 a0_0, .int .i64 a0_1, (.slice A0_2 l0_2.length c0_2)] 51 (0, 0))) ∧ Aside0 (wc.heap[gb421]? = some (.cells #[.int .i64 a2_0, .int .i64 a2_1, (.slice A2_2 l2_2.length c2_2)] 51 (0, 0))) ∧ Aside0 (wc.heap[gb442]? = some (.cells #[.int .i64 t437, .int .i64 t438, (.slice Ao46 t439.length co46)] 55 (0, 0))) ∧ Aside0 (wc.heap[gb448]? = some (.cells #[.int .i64 t443, .int .i64 t444, (.slice Ao54 t445.length co54)] 55 (0, 0))) ∧ Aside0 (Below w.heap.size w wc))
      case first =>
        have H := HC26.out
        clear HC26
        by_cases c57 : t449 = t434
        · rw [if_pos c57] at H
          have c57b0 : (t449 == t434) = true := beq_iff_eq.mpr c57
          have c57b1 : (t449 != t434) = false := bne_eq_false_iff_eq.mpr c57
          clear c57
          (first | rw [c57b0] | (simp only [i64_w, i32_w]; rw [c57b0]) | skip)
          by_cases c58 : t450 = t435
          · rw [if_pos c58] at H
            have c58b0 : (t450 == t435) = true := beq_iff_eq.mpr c58
            have c58b1 : (t450 != t435) = false := bne_eq_false_iff_eq.mpr c58
            clear c58
            have H' := Aside0.mk H
            clear H
            go_wp2
            go_meet
            case rel => exact ⟨_, ((t451 != t436)), (by first | rfl | (simp; done) | (simp [*]; done)), H', ⟨by first | omega | exact Nat.le_refl _⟩, ⟨by (with_reducible repeat (first | apply Kd.R_alloc | apply Kd.R_drewN | apply Kd.R_drew)); exact Kd.R_mono HO441.out (fun _ hk => hk.2)⟩, ⟨by (with_reducible repeat (first | apply Kd.R_alloc | apply Kd.R_drewN | apply Kd.R_drew)); exact Kd.R_mono HO447.out (fun _ hk => hk.2)⟩, ⟨by (with_reducible repeat (first | refine blk_drewN ?_ _ | refine blk_drew ?_ | refine blk_alloc ?_ _)); exact BK420.out⟩, ⟨by (with_reducible repeat (first | refine blk_drewN ?_ _ | refine blk_drew ?_ | refine blk_alloc ?_ _)); exact BK421.out⟩, ⟨by (with_reducible repeat (first | refine blk_drewN ?_ _ | refine blk_drew ?_ | refine blk_alloc ?_ _)); exact BK442.out⟩, ⟨by (with_reducible repeat (first | refine blk_drewN ?_ _ | refine blk_drew ?_ | refine blk_alloc ?_ _)); exact BK448.out⟩, ⟨by repeat (first | (with_reducible first | exact HB.out | apply below_alloc | apply pw_below_drewN | apply below_drew1 | refine below_set ?_ GE420.out | refine below_set ?_ GE421.out | refine below_set ?_ GE442.out | refine below_set ?_ GE448.out) | exact HB.out)⟩⟩
          · rw [if_neg c58] at H
            have c58b0 : (t450 == t435) = false := beq_eq_false_iff_ne.mpr c58
            have c58b1 : (t450 != t435) = true := bne_iff_ne.mpr c58
            have H' := Aside0.mk H
            clear H
            go_wp2
            go_meet
            case rel => exact ⟨_, (true), (by first | rfl | (simp; done) | (simp [*]; done)), H', ⟨by first | omega | exact Nat.le_refl _⟩, ⟨by (with_reducible repeat (first | apply Kd.R_alloc | apply Kd.R_drewN | apply Kd.R_drew)); exact Kd.R_mono HO441.out (fun _ hk => hk.2)⟩, ⟨by (with_reducible repeat (first | apply Kd.R_alloc | apply Kd.R_drewN | apply Kd.R_drew)); exact Kd.R_mono HO447.out (fun _ hk => hk.2)⟩, ⟨by (with_reducible repeat (first | refine blk_drewN ?_ _ | refine blk_drew ?_ | refine blk_alloc ?_ _)); exact BK420.out⟩, ⟨by (with_reducible repeat (first | refine blk_drewN ?_ _ | refine blk_drew ?_ | refine blk_alloc ?_ _)); exact BK421.out⟩, ⟨by (with_reducible repeat (first | refine blk_drewN ?_ _ | refine blk_drew ?_ | refine blk_alloc ?_ _)); exact BK442.out⟩, ⟨by (with_reducible repeat (first | refine blk_drewN ?_ _ | refine blk_drew ?_ | refine blk_alloc ?_ _)); exact BK448.out⟩, ⟨by repeat (first | (with_reducible first | exact HB.out | apply below_alloc | apply pw_below_drewN | apply below_drew1 | refine below_set ?_ GE420.out | refine below_set ?_ GE421.out | refine below_set ?_ GE442.out | refine below_set ?_ GE448.out) | exact HB.out)⟩⟩
        · rw [if_neg c57] at H
          have c57b0 : (t449 == t434) = false := beq_eq_false_iff_ne.mpr c57
          have c57b1 : (t449 != t434) = true := bne_iff_ne.mpr c57
          (first | rw [c57b0] | (simp only [i64_w, i32_w]; rw [c57b0]) | skip)
          have H' := Aside0.mk H
          clear H
          go_wp2
          go_meet
          case rel => exact ⟨_, (true), (by first | rfl | (simp; done) | (simp [*]; done)), H', ⟨by first | omega | exact Nat.le_refl _⟩, ⟨by (with_reducible repeat (first | apply Kd.R_alloc | apply Kd.R_drewN | apply Kd.R_drew)); exact Kd.R_mono HO441.out (fun _ hk => hk.2)⟩, ⟨by (with_reducible repeat (first | apply Kd.R_alloc | apply Kd.R_drewN | apply Kd.R_drew)); exact Kd.R_mono HO447.out (fun _ hk => hk.2)⟩, ⟨by (with_reducible repeat (first | refine blk_drewN ?_ _ | refine blk_drew ?_ | refine blk_alloc ?_ _)); exact BK420.out⟩, ⟨by (with_reducible repeat (first | refine blk_drewN ?_ _ | refine blk_drew ?_ | refine blk_alloc ?_ _)); exact BK421.out⟩, ⟨by (with_reducible repeat (first | refine blk_drewN ?_ _ | refine blk_drew ?_ | refine blk_alloc ?_ _)); exact BK442.out⟩, ⟨by (with_reducible repeat (first | refine blk_drewN ?_ _ | refine blk_drew ?_ | refine blk_alloc ?_ _)); exact BK448.out⟩, ⟨by repeat (first | (with_reducible first | exact HB.out | apply below_alloc | apply pw_below_drewN | apply below_drew1 | refine below_set ?_ GE420.out | refine below_set ?_ GE421.out | refine below_set ?_ GE442.out | refine below_set ?_ GE448.out) | exact HB.out)⟩⟩
      case rest =>
        clear HC26
        try clear c1
        try clear c2
        try clear p2
        try clear c4
        try clear c5
        try clear c5b0
        try clear c6
        try clear c8
        try clear c12
        try clear c12b0
        try clear c15
        try clear c25
        try clear c26
        try clear c27
        try clear c28
        try clear c29
        try clear c43
        try clear c44
        try clear c50
        try clear c51
        try clear c52
        try clear c57
        try clear c57b0
        try clear c57b1
        try clear c58
        try clear c58b0
        try clear c58b1
        try clear hcz16_0
        try clear hcz16_1
        try clear hcz16_2
        try clear hcz18_0
        try clear hcz18_1
        try clear hcz18_2
        try clear hcz30_0
        try clear hcz30_1
        try clear hcz30_2
        try clear hcz32_0
        try clear hcz32_1
        try clear hcz32_2
        try clear hcz40_0
        try clear hcz40_1
        try clear hcz40_2
        try clear hcz45_0
        try clear hcz45_1
        try clear hcz45_2
        try clear hcz47_0
        try clear hcz47_1
        try clear hcz47_2
        try clear hcz53_0
        try clear hcz53_1
        try clear hcz53_2
        try clear hcz55_0
        try clear hcz55_1
        try clear hcz55_2
        try clear hcz9_0
        try clear hcz9_1
        try clear hcz9_2
        try clear hfz16_0
        try clear hfz16_1
        try clear hfz16_2
        try clear hfz18_0
        try clear hfz18_1
        try clear hfz18_2
        try clear hfz30_0
        try clear hfz30_1
        try clear hfz30_2
        try clear hfz32_0
        try clear hfz32_1
        try clear hfz32_2
        try clear hfz40_0
        try clear hfz40_1
        try clear hfz40_2
        try clear hfz45_0
        try clear hfz45_1
        try clear hfz45_2
        try clear hfz47_0
        try clear hfz47_1
        try clear hfz47_2
        try clear hfz53_0
        try clear hfz53_1
        try clear hfz53_2
        try clear hfz55_0
        try clear hfz55_1
        try clear hfz55_2
        try clear hfz9_0
        try clear hfz9_1
        try clear hfz9_2
        obtain ⟨kq, x60_25, rfl, HA, HJ25, HO_443002, HO_449002, BK420, BK421, BK442, BK448, HB⟩ := hcut
        cases kq with
        | zero => exact absurd HA.out (by simp [laws_FnExactMoved.j0])
        | succ kj25 =>
          have H := HA.out
          clear HA
          simp only [laws_FnExactMoved.j0] at H
          by_cases c59 : x60_25 = true
          · subst c59
            have H1 : (some false) = some r := by rw [if_pos rfl] at H; exact H
            clear H
            have H := H1
            clear H1
            obtain rfl := Option.some.inj H
            go_wp2
            go_ret
            exact ⟨by first | rfl | (simp [errW_none, errW_some] <;> rfl) | (simp [*, errW_none, errW_some] <;> rfl), by repeat (first | (with_reducible first | exact HB.out | apply below_alloc | apply pw_below_drewN | apply below_drew1 | refine below_set ?_ GE420.out | refine below_set ?_ GE421.out | refine below_set ?_ GE442.out | refine below_set ?_ GE448.out) | exact HB.out)⟩
          · replace c59 := Bool.eq_false_iff.mpr c59
            subst c59
            have H1 : ((laws_toBox.f kj25 a0_0 a0_1 l0_2).bind fun bt452 => ((laws_eqBox.f kj25 t437 t438 t439 bt452.1 bt452.2.1 bt452.2.2).bind fun t457 => (if t457 = true then ((laws_toBox.f kj25 a2_0 a2_1 l2_2).bind fun bt458 => ((laws_eqBox.f kj25 t443 t444 t445 bt458.1 bt458.2.1 bt458.2.2).bind fun t463 => (if t463 = true then (some true) else (some false)))) else (some false)))) = some r := by rw [if_neg (show ¬ (false = true) by decide)] at H; exact H
            clear H
            have H := H1
            clear H1
            replace H := Option.bind_eq_some_iff.mp H
            obtain ⟨⟨t452, t453, t454⟩, A600, H⟩ := H
            replace H : ((laws_eqBox.f kj25 t437 t438 t439 t452 t453 t454).bind fun t457 => (if t457 = true then ((laws_toBox.f kj25 a2_0 a2_1 l2_2).bind fun bt458 => ((laws_eqBox.f kj25 t443 t444 t445 bt458.1 bt458.2.1 bt458.2.2).bind fun t463 => (if t463 = true then (some true) else (some false)))) else (some false))) = some r := H
            have A60 := Aside0.mk A600
            clear A600
            replace H := Option.bind_eq_some_iff.mp H
            obtain ⟨t457, A610, H⟩ := H
            replace H : (if t457 = true then ((laws_toBox.f kj25 a2_0 a2_1 l2_2).bind fun bt458 => ((laws_eqBox.f kj25 t443 t444 t445 bt458.1 bt458.2.1 bt458.2.2).bind fun t463 => (if t463 = true then (some true) else (some false)))) else (some false)) = some r := H
            have A61 := Aside0.mk A610
            clear A610
            by_cases c62 : t457 = true
            · subst c62
              have H1 : ((laws_toBox.f kj25 a2_0 a2_1 l2_2).bind fun bt458 => ((laws_eqBox.f kj25 t443 t444 t445 bt458.1 bt458.2.1 bt458.2.2).bind fun t463 => (if t463 = true then (some true) else (some false)))) = some r := by rw [if_pos rfl] at H; exact H
              clear H
              have H := H1
              clear H1
              replace H := Option.bind_eq_some_iff.mp H
              obtain ⟨⟨t458, t459, t460⟩, A630, H⟩ := H
              replace H : ((laws_eqBox.f kj25 t443 t444 t445 t458 t459 t460).bind fun t463 => (if t463 = true then (some true) else (some false))) = some r := H
              have A63 := Aside0.mk A630
              clear A630
              replace H := Option.bind_eq_some_iff.mp H
              obtain ⟨t463, A640, H⟩ := H
              replace H : (if t463 = true then (some true) else (some false)) = some r := H
              have A64 := Aside0.mk A640
              clear A640
              by_cases c65 : t463 = true
              · subst c65
                have H1 : (some true) = some r := by rw [if_pos rfl] at H; exact H
                clear H
                have H := H1
                clear H1
                obtain rfl := Option.some.inj H
                try go_wp2
                have n0_ := Aside0.mk (Kd.R_drew HO_443002.out)
                have n1_ := Aside0.mk (Kd.R_drew HO_449002.out)
                have n2_ := Aside0.mk (blk_drew BK420.out)
                have n3_ := Aside0.mk (blk_drew BK421.out)
                have n4_ := Aside0.mk (blk_drew BK442.out)
                have n5_ := Aside0.mk (blk_drew BK448.out)
                have n6_ := Aside0.mk (below_drew1 HB.out)
                clear HO_443002
                clear HO_449002
                clear BK420
                clear BK421
                clear BK442
                clear BK448
                clear HB
                have HO_443002 := n0_
                have HO_449002 := n1_
                have BK420 := n2_
                have BK421 := n3_
                have BK442 := n4_
                have BK448 := n5_
                have HB := n6_
                clear n0_ n1_ n2_ n3_ n4_ n5_ n6_
                refine start_ (n := 5) (S := fun w' => w'.cell? ⟨gb442, 0, none⟩ = some (.int .i64 t437) ∧ w'.cell? ⟨gb442, 1, none⟩ = some (.int .i64 t438) ∧ w'.cell? ⟨gb442, 2, none⟩ = some (.slice Ao46 t439.length co46) ∧ w'.cell? ⟨gb420, 0, none⟩ = some (.int .i64 a0_0) ∧ w'.cell? ⟨gb420, 1, none⟩ = some (.int .i64 a0_1) ∧ w'.cell? ⟨gb420, 2, none⟩ = some (.slice A0_2 l0_2.length c0_2)) (ds := []) #[false, false, false, false, false] (by kernel_rfl) rfl rfl ⟨(blk_cell BK442.out 0).trans rfl, (blk_cell BK442.out 1).trans rfl, (blk_cell BK442.out 2).trans rfl, (blk_cell BK420.out 0).trans rfl, (blk_cell BK420.out 1).trans rfl, (blk_cell BK420.out 2).trans rfl⟩ (fun hHeld => ?_)
                generalize wc.drew = w66 at HO_443002 HO_449002 BK420 BK421 BK442 BK448 HB hHeld ⊢
                refine take_ (i := 0) (N := some 61) (v := ?_) (a' := ?_) #[true, false, false, false, false] rfl rfl (by kernel_rfl) (fun _ _ _ h => h) (Or.inl ⟨by rfl, ?_⟩) hHeld ?_ ?_
                rotate_left
                · rintro w' ⟨s0, s1, s2, s3, s4, s5⟩
                  go_simp
                  with_reducible rfl
                rotate_left
                · simp only [Act.put, List.setIfInBounds_toArray, List.set_cons_zero, List.set_cons_succ, i64_w, i32_w]
                  rfl
                refine take_ (i := 1) (N := some 62) (v := ?_) (a' := ?_) #[true, true, false, false, false] rfl rfl (by kernel_rfl) (fun _ _ _ h => h) (Or.inl ⟨by rfl, ?_⟩) hHeld ?_ ?_
                rotate_left
                · rintro w' ⟨s0, s1, s2, s3, s4, s5⟩
                  go_simp
                  with_reducible rfl
                rotate_left
                · simp only [Act.put, List.setIfInBounds_toArray, List.set_cons_zero, List.set_cons_succ, i64_w, i32_w]
                  rfl
                refine one_ (i := 2) (N := some 63) #[true, true, true, false, false] rfl rfl (by kernel_rfl) (by decide) (fun K hK => ?_)
                refine goes_ Try.func27 (by kernel_rfl) rfl #[.agg #[.int .i64 a0_0, .int .i64 a0_1, .slice A0_2 l0_2.length c0_2]] (by rfl) rfl rfl (by (try simp only [List.map_toArray, List.map_cons, List.map_nil]); first | done | rfl | (simp only [List.length_drop, List.length_take]; rfl)) ?_
                with_reducible refine (laws_toBox.calls kj25 a0_0 a0_1 _ _ l0_2 t452 t453 t454 _ ?side1 ?side2 A60.out).mono ?_
                (case side1 => repeat (first | exact (Kd.C_below HR0_2.out HB.out) | (with_reducible refine Kd.C_alloc ?_ _) | (with_reducible refine Kd.C_drewN ?_ _) | (with_reducible refine Kd.C_drew ?_)))
                (case side2 => exact HC0_2.out)
                rintro e w67 ⟨v455, rfl, ho0, hb⟩
                refine ⟨_, rfl, ?_⟩
                have n0_ := Aside0.mk (Kd.R_elder' (by (with_reducible repeat (first | apply Kd.R_alloc | apply Kd.R_drewN | apply Kd.R_drew)); exact HO_443002.out) (Kd.R_base ho0) hb)
                have n1_ := Aside0.mk (Kd.R_elder' (by (with_reducible repeat (first | apply Kd.R_alloc | apply Kd.R_drewN | apply Kd.R_drew)); exact HO_449002.out) (Kd.R_base ho0) hb)
                have n2_ := Aside0.mk (Kd.R_lower (Kd.R_new' (Kd.R_new' ho0 (Kd.R_lt (by (with_reducible repeat (first | apply Kd.R_alloc | apply Kd.R_drewN | apply Kd.R_drew)); exact HO_443002.out))) (Kd.R_lt (by (with_reducible repeat (first | apply Kd.R_alloc | apply Kd.R_drewN | apply Kd.R_drew)); exact HO_449002.out))) (below_size (by repeat (first | (with_reducible first | exact HB.out | apply below_alloc | apply pw_below_drewN | apply below_drew1 | refine below_set ?_ GE420.out | refine below_set ?_ GE421.out | refine below_set ?_ GE442.out | refine below_set ?_ GE448.out) | exact HB.out))))
                have n3_ := Aside0.mk (blk_below (g := gb420) (o := .cells #[.int .i64 a0_0, .int .i64 a0_1, .slice A0_2 l0_2.length c0_2] 51 (0, 0)) (by (with_reducible repeat (first | refine blk_drewN ?_ _ | refine blk_drew ?_ | refine blk_alloc ?_ _)); exact BK420.out) hb)
                have n4_ := Aside0.mk (blk_below (g := gb421) (o := .cells #[.int .i64 a2_0, .int .i64 a2_1, .slice A2_2 l2_2.length c2_2] 51 (0, 0)) (by (with_reducible repeat (first | refine blk_drewN ?_ _ | refine blk_drew ?_ | refine blk_alloc ?_ _)); exact BK421.out) hb)
                have n5_ := Aside0.mk (blk_below (g := gb442) (o := .cells #[.int .i64 t437, .int .i64 t438, .slice Ao46 t439.length co46] 55 (0, 0)) (by (with_reducible repeat (first | refine blk_drewN ?_ _ | refine blk_drew ?_ | refine blk_alloc ?_ _)); exact BK442.out) hb)
                have n6_ := Aside0.mk (blk_below (g := gb448) (o := .cells #[.int .i64 t443, .int .i64 t444, .slice Ao54 t445.length co54] 55 (0, 0)) (by (with_reducible repeat (first | refine blk_drewN ?_ _ | refine blk_drew ?_ | refine blk_alloc ?_ _)); exact BK448.out) hb)
                have n7_ := Aside0.mk (below_step (by repeat (first | (with_reducible first | exact HB.out | apply below_alloc | apply pw_below_drewN | apply below_drew1 | refine below_set ?_ GE420.out | refine below_set ?_ GE421.out | refine below_set ?_ GE442.out | refine below_set ?_ GE448.out) | exact HB.out)) hb)
                clear HO_443002
                clear HO_449002
                clear BK420
                clear BK421
                clear BK442
                clear BK448
                clear HB
                have HO_443002 := n0_
                have HO_449002 := n1_
                have HO456 := n2_
                have BK420 := n3_
                have BK421 := n4_
                have BK442 := n5_
                have BK448 := n6_
                have HB := n7_
                clear n0_ n1_ n2_ n3_ n4_ n5_ n6_ n7_
                (try clear hb)
                (try clear hb2)
                (try clear hk)
                (try clear hi)
                (try clear ho0)
                obtain ⟨Ao68, co68, eo68⟩ := Kd.R_slice HO456.out
                (first | subst eo68 | (injection eo68 with f1_ f2_ f3_; have f4_ := f1_.symm; have f5_ := f3_.symm; clear f1_ f2_ f3_; subst f4_; subst f5_))
                refine hK.out _ _ ⟨(blk_cell BK442.out 0).trans rfl, (blk_cell BK442.out 1).trans rfl, (blk_cell BK442.out 2).trans rfl, (blk_cell BK420.out 0).trans rfl, (blk_cell BK420.out 1).trans rfl, (blk_cell BK420.out 2).trans rfl⟩ (fun hHeld => ?_)
                clear hK K
                refine norm_ (a' := ?_) ?_ ?_
                rotate_left
                · show Act.put _ (some 63) _ = _
                  simp only [Act.put, List.setIfInBounds_toArray, List.set_cons_zero, List.set_cons_succ, i64_w, i32_w]
                  rfl
                refine one_ (i := 3) (N := some 64) #[true, true, true, true, false] rfl rfl (by kernel_rfl) (by decide) (fun K hK => ?_)
                refine goes_ Try.func29 (by kernel_rfl) rfl #[.agg #[.int .i64 t437, .int .i64 t438, .slice Ao46 t439.length co46], .agg #[.int .i64 t452, .int .i64 t453, .slice Ao68 t454.length co68]] (by rfl) rfl rfl (by (try simp only [List.map_toArray, List.map_cons, List.map_nil]); first | done | rfl | (simp only [List.length_drop, List.length_take]; rfl)) ?_
                with_reducible refine (laws_eqBox.calls kj25 t437 t438 _ _ t439 t452 t453 _ _ t454 true _ ?side1 ?side2 ?side3 ?side4 A61.out).mono ?_
                (case side1 => repeat (first | exact (Kd.R_reads' HO_443002.out).2.2 | (with_reducible refine Kd.C_alloc ?_ _) | (with_reducible refine Kd.C_drewN ?_ _) | (with_reducible refine Kd.C_drew ?_)))
                (case side2 => exact (Kd.R_reads' HO_443002.out).2.1)
                (case side3 => repeat (first | exact (Kd.R_reads' HO456.out).2.2 | (with_reducible refine Kd.C_alloc ?_ _) | (with_reducible refine Kd.C_drewN ?_ _) | (with_reducible refine Kd.C_drew ?_)))
                (case side4 => exact (Kd.R_reads' HO456.out).2.1)
                rintro e w69 ⟨rfl, hb⟩
                refine ⟨_, rfl, ?_⟩
                have n0_ := Aside0.mk (Kd.R_below (by (with_reducible repeat (first | apply Kd.R_alloc | apply Kd.R_drewN | apply Kd.R_drew)); exact HO_443002.out) hb)
                have n1_ := Aside0.mk (Kd.R_below (by (with_reducible repeat (first | apply Kd.R_alloc | apply Kd.R_drewN | apply Kd.R_drew)); exact HO_449002.out) hb)
                have n2_ := Aside0.mk (Kd.R_below (by (with_reducible repeat (first | apply Kd.R_alloc | apply Kd.R_drewN | apply Kd.R_drew)); exact HO456.out) hb)
                have n3_ := Aside0.mk (blk_below (g := gb420) (o := .cells #[.int .i64 a0_0, .int .i64 a0_1, .slice A0_2 l0_2.length c0_2] 51 (0, 0)) (by (with_reducible repeat (first | refine blk_drewN ?_ _ | refine blk_drew ?_ | refine blk_alloc ?_ _)); exact BK420.out) hb)
                have n4_ := Aside0.mk (blk_below (g := gb421) (o := .cells #[.int .i64 a2_0, .int .i64 a2_1, .slice A2_2 l2_2.length c2_2] 51 (0, 0)) (by (with_reducible repeat (first | refine blk_drewN ?_ _ | refine blk_drew ?_ | refine blk_alloc ?_ _)); exact BK421.out) hb)
                have n5_ := Aside0.mk (blk_below (g := gb442) (o := .cells #[.int .i64 t437, .int .i64 t438, .slice Ao46 t439.length co46] 55 (0, 0)) (by (with_reducible repeat (first | refine blk_drewN ?_ _ | refine blk_drew ?_ | refine blk_alloc ?_ _)); exact BK442.out) hb)
                have n6_ := Aside0.mk (blk_below (g := gb448) (o := .cells #[.int .i64 t443, .int .i64 t444, .slice Ao54 t445.length co54] 55 (0, 0)) (by (with_reducible repeat (first | refine blk_drewN ?_ _ | refine blk_drew ?_ | refine blk_alloc ?_ _)); exact BK448.out) hb)
                have n7_ := Aside0.mk (below_step (by repeat (first | (with_reducible first | exact HB.out | apply below_alloc | apply pw_below_drewN | apply below_drew1 | refine below_set ?_ GE420.out | refine below_set ?_ GE421.out | refine below_set ?_ GE442.out | refine below_set ?_ GE448.out) | exact HB.out)) hb)
                clear HO_443002
                clear HO_449002
                clear HO456
                clear BK420
                clear BK421
                clear BK442
                clear BK448
                clear HB
                have HO_443002 := n0_
                have HO_449002 := n1_
                have HO456 := n2_
                have BK420 := n3_
                have BK421 := n4_
                have BK442 := n5_
                have BK448 := n6_
                have HB := n7_
                clear n0_ n1_ n2_ n3_ n4_ n5_ n6_ n7_
                (try clear hb)
                (try clear hb2)
                (try clear hk)
                (try clear hi)
                refine hK.out _ _ ⟨(blk_cell BK442.out 0).trans rfl, (blk_cell BK442.out 1).trans rfl, (blk_cell BK442.out 2).trans rfl, (blk_cell BK420.out 0).trans rfl, (blk_cell BK420.out 1).trans rfl, (blk_cell BK420.out 2).trans rfl⟩ (fun hHeld => ?_)
                clear hK K
                refine norm_ (a' := ?_) ?_ ?_
                rotate_left
                · show Act.put _ (some 64) _ = _
                  simp only [Act.put, List.setIfInBounds_toArray, List.set_cons_zero, List.set_cons_succ, i64_w, i32_w]
                  rfl
                refine pure_ (i := 4) (N := some 65) (v := ?_) (a' := ?_) #[true, true, true, true, true] rfl rfl (by kernel_rfl) (fun _ _ _ h => h) (Or.inl ⟨by rfl, ?_⟩) ?_ ?_
                rotate_left
                · intro w'
                  go_simp
                  with_reducible rfl
                rotate_left
                · simp only [Act.put, List.setIfInBounds_toArray, List.set_cons_zero, List.set_cons_succ, i64_w, i32_w]
                  rfl
                refine done_ (by kernel_rfl) ?_
                try go_wp2
                have n0_ := Aside0.mk (Kd.R_drew HO_443002.out)
                have n1_ := Aside0.mk (Kd.R_drew HO_449002.out)
                have n2_ := Aside0.mk (Kd.R_drew HO456.out)
                have n3_ := Aside0.mk (blk_drew BK420.out)
                have n4_ := Aside0.mk (blk_drew BK421.out)
                have n5_ := Aside0.mk (blk_drew BK442.out)
                have n6_ := Aside0.mk (blk_drew BK448.out)
                have n7_ := Aside0.mk (below_drew1 HB.out)
                clear HO_443002
                clear HO_449002
                clear HO456
                clear BK420
                clear BK421
                clear BK442
                clear BK448
                clear HB
                have HO_443002 := n0_
                have HO_449002 := n1_
                have HO456 := n2_
                have BK420 := n3_
                have BK421 := n4_
                have BK442 := n5_
                have BK448 := n6_
                have HB := n7_
                clear n0_ n1_ n2_ n3_ n4_ n5_ n6_ n7_
                refine start_ (n := 5) (S := fun w' => w'.cell? ⟨gb448, 0, none⟩ = some (.int .i64 t443) ∧ w'.cell? ⟨gb448, 1, none⟩ = some (.int .i64 t444) ∧ w'.cell? ⟨gb448, 2, none⟩ = some (.slice Ao54 t445.length co54) ∧ w'.cell? ⟨gb421, 0, none⟩ = some (.int .i64 a2_0) ∧ w'.cell? ⟨gb421, 1, none⟩ = some (.int .i64 a2_1) ∧ w'.cell? ⟨gb421, 2, none⟩ = some (.slice A2_2 l2_2.length c2_2)) (ds := []) #[false, false, false, false, false] (by kernel_rfl) rfl rfl ⟨(blk_cell BK448.out 0).trans rfl, (blk_cell BK448.out 1).trans rfl, (blk_cell BK448.out 2).trans rfl, (blk_cell BK421.out 0).trans rfl, (blk_cell BK421.out 1).trans rfl, (blk_cell BK421.out 2).trans rfl⟩ (fun hHeld => ?_)
                generalize w69.drew = w70 at HO_443002 HO_449002 HO456 BK420 BK421 BK442 BK448 HB hHeld ⊢
                refine take_ (i := 0) (N := some 66) (v := ?_) (a' := ?_) #[true, false, false, false, false] rfl rfl (by kernel_rfl) (fun _ _ _ h => h) (Or.inl ⟨by rfl, ?_⟩) hHeld ?_ ?_
                rotate_left
                · rintro w' ⟨s0, s1, s2, s3, s4, s5⟩
                  go_simp
                  with_reducible rfl
                rotate_left
                · simp only [Act.put, List.setIfInBounds_toArray, List.set_cons_zero, List.set_cons_succ, i64_w, i32_w]
                  rfl
                refine take_ (i := 1) (N := some 67) (v := ?_) (a' := ?_) #[true, true, false, false, false] rfl rfl (by kernel_rfl) (fun _ _ _ h => h) (Or.inl ⟨by rfl, ?_⟩) hHeld ?_ ?_
                rotate_left
                · rintro w' ⟨s0, s1, s2, s3, s4, s5⟩
                  go_simp
                  with_reducible rfl
                rotate_left
                · simp only [Act.put, List.setIfInBounds_toArray, List.set_cons_zero, List.set_cons_succ, i64_w, i32_w]
                  rfl
                refine one_ (i := 2) (N := some 68) #[true, true, true, false, false] rfl rfl (by kernel_rfl) (by decide) (fun K hK => ?_)
                refine goes_ Try.func27 (by kernel_rfl) rfl #[.agg #[.int .i64 a2_0, .int .i64 a2_1, .slice A2_2 l2_2.length c2_2]] (by rfl) rfl rfl (by (try simp only [List.map_toArray, List.map_cons, List.map_nil]); first | done | rfl | (simp only [List.length_drop, List.length_take]; rfl)) ?_
                with_reducible refine (laws_toBox.calls kj25 a2_0 a2_1 _ _ l2_2 t458 t459 t460 _ ?side1 ?side2 A63.out).mono ?_
                (case side1 => repeat (first | exact (Kd.C_below HR2_2.out HB.out) | (with_reducible refine Kd.C_alloc ?_ _) | (with_reducible refine Kd.C_drewN ?_ _) | (with_reducible refine Kd.C_drew ?_)))
                (case side2 => exact HC2_2.out)
                rintro e w71 ⟨v461, rfl, ho0, hb⟩
                refine ⟨_, rfl, ?_⟩
                have n0_ := Aside0.mk (Kd.R_elder' (by (with_reducible repeat (first | apply Kd.R_alloc | apply Kd.R_drewN | apply Kd.R_drew)); exact HO_443002.out) (Kd.R_base ho0) hb)
                have n1_ := Aside0.mk (Kd.R_elder' (by (with_reducible repeat (first | apply Kd.R_alloc | apply Kd.R_drewN | apply Kd.R_drew)); exact HO_449002.out) (Kd.R_base ho0) hb)
                have n2_ := Aside0.mk (Kd.R_elder' (by (with_reducible repeat (first | apply Kd.R_alloc | apply Kd.R_drewN | apply Kd.R_drew)); exact HO456.out) (Kd.R_base ho0) hb)
                have n3_ := Aside0.mk (Kd.R_lower (Kd.R_new' (Kd.R_new' (Kd.R_new' ho0 (Kd.R_lt (by (with_reducible repeat (first | apply Kd.R_alloc | apply Kd.R_drewN | apply Kd.R_drew)); exact HO_443002.out))) (Kd.R_lt (by (with_reducible repeat (first | apply Kd.R_alloc | apply Kd.R_drewN | apply Kd.R_drew)); exact HO_449002.out))) (Kd.R_lt (by (with_reducible repeat (first | apply Kd.R_alloc | apply Kd.R_drewN | apply Kd.R_drew)); exact HO456.out))) (below_size (by repeat (first | (with_reducible first | exact HB.out | apply below_alloc | apply pw_below_drewN | apply below_drew1 | refine below_set ?_ GE420.out | refine below_set ?_ GE421.out | refine below_set ?_ GE442.out | refine below_set ?_ GE448.out) | exact HB.out))))
                have n4_ := Aside0.mk (blk_below (g := gb420) (o := .cells #[.int .i64 a0_0, .int .i64 a0_1, .slice A0_2 l0_2.length c0_2] 51 (0, 0)) (by (with_reducible repeat (first | refine blk_drewN ?_ _ | refine blk_drew ?_ | refine blk_alloc ?_ _)); exact BK420.out) hb)
                have n5_ := Aside0.mk (blk_below (g := gb421) (o := .cells #[.int .i64 a2_0, .int .i64 a2_1, .slice A2_2 l2_2.length c2_2] 51 (0, 0)) (by (with_reducible repeat (first | refine blk_drewN ?_ _ | refine blk_drew ?_ | refine blk_alloc ?_ _)); exact BK421.out) hb)
                have n6_ := Aside0.mk (blk_below (g := gb442) (o := .cells #[.int .i64 t437, .int .i64 t438, .slice Ao46 t439.length co46] 55 (0, 0)) (by (with_reducible repeat (first | refine blk_drewN ?_ _ | refine blk_drew ?_ | refine blk_alloc ?_ _)); exact BK442.out) hb)
                have n7_ := Aside0.mk (blk_below (g := gb448) (o := .cells #[.int .i64 t443, .int .i64 t444, .slice Ao54 t445.length co54] 55 (0, 0)) (by (with_reducible repeat (first | refine blk_drewN ?_ _ | refine blk_drew ?_ | refine blk_alloc ?_ _)); exact BK448.out) hb)
                have n8_ := Aside0.mk (below_step (by repeat (first | (with_reducible first | exact HB.out | apply below_alloc | apply pw_below_drewN | apply below_drew1 | refine below_set ?_ GE420.out | refine below_set ?_ GE421.out | refine below_set ?_ GE442.out | refine below_set ?_ GE448.out) | exact HB.out)) hb)
                clear HO_443002
                clear HO_449002
                clear HO456
                clear BK420
                clear BK421
                clear BK442
                clear BK448
                clear HB
                have HO_443002 := n0_
                have HO_449002 := n1_
                have HO456 := n2_
                have HO462 := n3_
                have BK420 := n4_
                have BK421 := n5_
                have BK442 := n6_
                have BK448 := n7_
                have HB := n8_
                clear n0_ n1_ n2_ n3_ n4_ n5_ n6_ n7_ n8_
                (try clear hb)
                (try clear hb2)
                (try clear hk)
                (try clear hi)
                (try clear ho0)
                obtain ⟨Ao72, co72, eo72⟩ := Kd.R_slice HO462.out
                (first | subst eo72 | (injection eo72 with f1_ f2_ f3_; have f4_ := f1_.symm; have f5_ := f3_.symm; clear f1_ f2_ f3_; subst f4_; subst f5_))
                refine hK.out _ _ ⟨(blk_cell BK448.out 0).trans rfl, (blk_cell BK448.out 1).trans rfl, (blk_cell BK448.out 2).trans rfl, (blk_cell BK421.out 0).trans rfl, (blk_cell BK421.out 1).trans rfl, (blk_cell BK421.out 2).trans rfl⟩ (fun hHeld => ?_)
                clear hK K
                refine norm_ (a' := ?_) ?_ ?_
                rotate_left
                · show Act.put _ (some 68) _ = _
                  simp only [Act.put, List.setIfInBounds_toArray, List.set_cons_zero, List.set_cons_succ, i64_w, i32_w]
                  rfl
                refine one_ (i := 3) (N := some 69) #[true, true, true, true, false] rfl rfl (by kernel_rfl) (by decide) (fun K hK => ?_)
                refine goes_ Try.func29 (by kernel_rfl) rfl #[.agg #[.int .i64 t443, .int .i64 t444, .slice Ao54 t445.length co54], .agg #[.int .i64 t458, .int .i64 t459, .slice Ao72 t460.length co72]] (by rfl) rfl rfl (by (try simp only [List.map_toArray, List.map_cons, List.map_nil]); first | done | rfl | (simp only [List.length_drop, List.length_take]; rfl)) ?_
                with_reducible refine (laws_eqBox.calls kj25 t443 t444 _ _ t445 t458 t459 _ _ t460 true _ ?side1 ?side2 ?side3 ?side4 A64.out).mono ?_
                (case side1 => repeat (first | exact (Kd.R_reads' HO_449002.out).2.2 | (with_reducible refine Kd.C_alloc ?_ _) | (with_reducible refine Kd.C_drewN ?_ _) | (with_reducible refine Kd.C_drew ?_)))
                (case side2 => exact (Kd.R_reads' HO_449002.out).2.1)
                (case side3 => repeat (first | exact (Kd.R_reads' HO462.out).2.2 | (with_reducible refine Kd.C_alloc ?_ _) | (with_reducible refine Kd.C_drewN ?_ _) | (with_reducible refine Kd.C_drew ?_)))
                (case side4 => exact (Kd.R_reads' HO462.out).2.1)
                rintro e w73 ⟨rfl, hb⟩
                refine ⟨_, rfl, ?_⟩
                have n0_ := Aside0.mk (Kd.R_below (by (with_reducible repeat (first | apply Kd.R_alloc | apply Kd.R_drewN | apply Kd.R_drew)); exact HO_443002.out) hb)
                have n1_ := Aside0.mk (Kd.R_below (by (with_reducible repeat (first | apply Kd.R_alloc | apply Kd.R_drewN | apply Kd.R_drew)); exact HO_449002.out) hb)
                have n2_ := Aside0.mk (Kd.R_below (by (with_reducible repeat (first | apply Kd.R_alloc | apply Kd.R_drewN | apply Kd.R_drew)); exact HO456.out) hb)
                have n3_ := Aside0.mk (Kd.R_below (by (with_reducible repeat (first | apply Kd.R_alloc | apply Kd.R_drewN | apply Kd.R_drew)); exact HO462.out) hb)
                have n4_ := Aside0.mk (blk_below (g := gb420) (o := .cells #[.int .i64 a0_0, .int .i64 a0_1, .slice A0_2 l0_2.length c0_2] 51 (0, 0)) (by (with_reducible repeat (first | refine blk_drewN ?_ _ | refine blk_drew ?_ | refine blk_alloc ?_ _)); exact BK420.out) hb)
                have n5_ := Aside0.mk (blk_below (g := gb421) (o := .cells #[.int .i64 a2_0, .int .i64 a2_1, .slice A2_2 l2_2.length c2_2] 51 (0, 0)) (by (with_reducible repeat (first | refine blk_drewN ?_ _ | refine blk_drew ?_ | refine blk_alloc ?_ _)); exact BK421.out) hb)
                have n6_ := Aside0.mk (blk_below (g := gb442) (o := .cells #[.int .i64 t437, .int .i64 t438, .slice Ao46 t439.length co46] 55 (0, 0)) (by (with_reducible repeat (first | refine blk_drewN ?_ _ | refine blk_drew ?_ | refine blk_alloc ?_ _)); exact BK442.out) hb)
                have n7_ := Aside0.mk (blk_below (g := gb448) (o := .cells #[.int .i64 t443, .int .i64 t444, .slice Ao54 t445.length co54] 55 (0, 0)) (by (with_reducible repeat (first | refine blk_drewN ?_ _ | refine blk_drew ?_ | refine blk_alloc ?_ _)); exact BK448.out) hb)
                have n8_ := Aside0.mk (below_step (by repeat (first | (with_reducible first | exact HB.out | apply below_alloc | apply pw_below_drewN | apply below_drew1 | refine below_set ?_ GE420.out | refine below_set ?_ GE421.out | refine below_set ?_ GE442.out | refine below_set ?_ GE448.out) | exact HB.out)) hb)
                clear HO_443002
                clear HO_449002
                clear HO456
                clear HO462
                clear BK420
                clear BK421
                clear BK442
                clear BK448
                clear HB
                have HO_443002 := n0_
                have HO_449002 := n1_
                have HO456 := n2_
                have HO462 := n3_
                have BK420 := n4_
                have BK421 := n5_
                have BK442 := n6_
                have BK448 := n7_
                have HB := n8_
                clear n0_ n1_ n2_ n3_ n4_ n5_ n6_ n7_ n8_
                (try clear hb)
                (try clear hb2)
                (try clear hk)
                (try clear hi)
                refine hK.out _ _ ⟨(blk_cell BK448.out 0).trans rfl, (blk_cell BK448.out 1).trans rfl, (blk_cell BK448.out 2).trans rfl, (blk_cell BK421.out 0).trans rfl, (blk_cell BK421.out 1).trans rfl, (blk_cell BK421.out 2).trans rfl⟩ (fun hHeld => ?_)
                clear hK K
                refine norm_ (a' := ?_) ?_ ?_
                rotate_left
                · show Act.put _ (some 69) _ = _
                  simp only [Act.put, List.setIfInBounds_toArray, List.set_cons_zero, List.set_cons_succ, i64_w, i32_w]
                  rfl
                refine pure_ (i := 4) (N := some 70) (v := ?_) (a' := ?_) #[true, true, true, true, true] rfl rfl (by kernel_rfl) (fun _ _ _ h => h) (Or.inl ⟨by rfl, ?_⟩) ?_ ?_
                rotate_left
                · intro w'
                  go_simp
                  with_reducible rfl
                rotate_left
                · simp only [Act.put, List.setIfInBounds_toArray, List.set_cons_zero, List.set_cons_succ, i64_w, i32_w]
                  rfl
                refine done_ (by kernel_rfl) ?_
                try go_wp2
                go_ret
                exact ⟨by first | rfl | (simp [errW_none, errW_some] <;> rfl) | (simp [*, errW_none, errW_some] <;> rfl), by repeat (first | (with_reducible first | exact HB.out | apply below_alloc | apply pw_below_drewN | apply below_drew1 | refine below_set ?_ GE420.out | refine below_set ?_ GE421.out | refine below_set ?_ GE442.out | refine below_set ?_ GE448.out) | exact HB.out)⟩
              · replace c65 := Bool.eq_false_iff.mpr c65
                subst c65
                have H1 : (some false) = some r := by rw [if_neg (show ¬ (false = true) by decide)] at H; exact H
                clear H
                have H := H1
                clear H1
                obtain rfl := Option.some.inj H
                try go_wp2
                have n0_ := Aside0.mk (Kd.R_drew HO_443002.out)
                have n1_ := Aside0.mk (Kd.R_drew HO_449002.out)
                have n2_ := Aside0.mk (blk_drew BK420.out)
                have n3_ := Aside0.mk (blk_drew BK421.out)
                have n4_ := Aside0.mk (blk_drew BK442.out)
                have n5_ := Aside0.mk (blk_drew BK448.out)
                have n6_ := Aside0.mk (below_drew1 HB.out)
                clear HO_443002
                clear HO_449002
                clear BK420
                clear BK421
                clear BK442
                clear BK448
                clear HB
                have HO_443002 := n0_
                have HO_449002 := n1_
                have BK420 := n2_
                have BK421 := n3_
                have BK442 := n4_
                have BK448 := n5_
                have HB := n6_
                clear n0_ n1_ n2_ n3_ n4_ n5_ n6_
                refine start_ (n := 5) (S := fun w' => w'.cell? ⟨gb442, 0, none⟩ = some (.int .i64 t437) ∧ w'.cell? ⟨gb442, 1, none⟩ = some (.int .i64 t438) ∧ w'.cell? ⟨gb442, 2, none⟩ = some (.slice Ao46 t439.length co46) ∧ w'.cell? ⟨gb420, 0, none⟩ = some (.int .i64 a0_0) ∧ w'.cell? ⟨gb420, 1, none⟩ = some (.int .i64 a0_1) ∧ w'.cell? ⟨gb420, 2, none⟩ = some (.slice A0_2 l0_2.length c0_2)) (ds := []) #[false, false, false, false, false] (by kernel_rfl) rfl rfl ⟨(blk_cell BK442.out 0).trans rfl, (blk_cell BK442.out 1).trans rfl, (blk_cell BK442.out 2).trans rfl, (blk_cell BK420.out 0).trans rfl, (blk_cell BK420.out 1).trans rfl, (blk_cell BK420.out 2).trans rfl⟩ (fun hHeld => ?_)
                generalize wc.drew = w74 at HO_443002 HO_449002 BK420 BK421 BK442 BK448 HB hHeld ⊢
                refine take_ (i := 0) (N := some 61) (v := ?_) (a' := ?_) #[true, false, false, false, false] rfl rfl (by kernel_rfl) (fun _ _ _ h => h) (Or.inl ⟨by rfl, ?_⟩) hHeld ?_ ?_
                rotate_left
                · rintro w' ⟨s0, s1, s2, s3, s4, s5⟩
                  go_simp
                  with_reducible rfl
                rotate_left
                · simp only [Act.put, List.setIfInBounds_toArray, List.set_cons_zero, List.set_cons_succ, i64_w, i32_w]
                  rfl
                refine take_ (i := 1) (N := some 62) (v := ?_) (a' := ?_) #[true, true, false, false, false] rfl rfl (by kernel_rfl) (fun _ _ _ h => h) (Or.inl ⟨by rfl, ?_⟩) hHeld ?_ ?_
                rotate_left
                · rintro w' ⟨s0, s1, s2, s3, s4, s5⟩
                  go_simp
                  with_reducible rfl
                rotate_left
                · simp only [Act.put, List.setIfInBounds_toArray, List.set_cons_zero, List.set_cons_succ, i64_w, i32_w]
                  rfl
                refine one_ (i := 2) (N := some 63) #[true, true, true, false, false] rfl rfl (by kernel_rfl) (by decide) (fun K hK => ?_)
                refine goes_ Try.func27 (by kernel_rfl) rfl #[.agg #[.int .i64 a0_0, .int .i64 a0_1, .slice A0_2 l0_2.length c0_2]] (by rfl) rfl rfl (by (try simp only [List.map_toArray, List.map_cons, List.map_nil]); first | done | rfl | (simp only [List.length_drop, List.length_take]; rfl)) ?_
                with_reducible refine (laws_toBox.calls kj25 a0_0 a0_1 _ _ l0_2 t452 t453 t454 _ ?side1 ?side2 A60.out).mono ?_
                (case side1 => repeat (first | exact (Kd.C_below HR0_2.out HB.out) | (with_reducible refine Kd.C_alloc ?_ _) | (with_reducible refine Kd.C_drewN ?_ _) | (with_reducible refine Kd.C_drew ?_)))
                (case side2 => exact HC0_2.out)
                rintro e w75 ⟨v455, rfl, ho0, hb⟩
                refine ⟨_, rfl, ?_⟩
                have n0_ := Aside0.mk (Kd.R_elder' (by (with_reducible repeat (first | apply Kd.R_alloc | apply Kd.R_drewN | apply Kd.R_drew)); exact HO_443002.out) (Kd.R_base ho0) hb)
                have n1_ := Aside0.mk (Kd.R_elder' (by (with_reducible repeat (first | apply Kd.R_alloc | apply Kd.R_drewN | apply Kd.R_drew)); exact HO_449002.out) (Kd.R_base ho0) hb)
                have n2_ := Aside0.mk (Kd.R_lower (Kd.R_new' (Kd.R_new' ho0 (Kd.R_lt (by (with_reducible repeat (first | apply Kd.R_alloc | apply Kd.R_drewN | apply Kd.R_drew)); exact HO_443002.out))) (Kd.R_lt (by (with_reducible repeat (first | apply Kd.R_alloc | apply Kd.R_drewN | apply Kd.R_drew)); exact HO_449002.out))) (below_size (by repeat (first | (with_reducible first | exact HB.out | apply below_alloc | apply pw_below_drewN | apply below_drew1 | refine below_set ?_ GE420.out | refine below_set ?_ GE421.out | refine below_set ?_ GE442.out | refine below_set ?_ GE448.out) | exact HB.out))))
                have n3_ := Aside0.mk (blk_below (g := gb420) (o := .cells #[.int .i64 a0_0, .int .i64 a0_1, .slice A0_2 l0_2.length c0_2] 51 (0, 0)) (by (with_reducible repeat (first | refine blk_drewN ?_ _ | refine blk_drew ?_ | refine blk_alloc ?_ _)); exact BK420.out) hb)
                have n4_ := Aside0.mk (blk_below (g := gb421) (o := .cells #[.int .i64 a2_0, .int .i64 a2_1, .slice A2_2 l2_2.length c2_2] 51 (0, 0)) (by (with_reducible repeat (first | refine blk_drewN ?_ _ | refine blk_drew ?_ | refine blk_alloc ?_ _)); exact BK421.out) hb)
                have n5_ := Aside0.mk (blk_below (g := gb442) (o := .cells #[.int .i64 t437, .int .i64 t438, .slice Ao46 t439.length co46] 55 (0, 0)) (by (with_reducible repeat (first | refine blk_drewN ?_ _ | refine blk_drew ?_ | refine blk_alloc ?_ _)); exact BK442.out) hb)
                have n6_ := Aside0.mk (blk_below (g := gb448) (o := .cells #[.int .i64 t443, .int .i64 t444, .slice Ao54 t445.length co54] 55 (0, 0)) (by (with_reducible repeat (first | refine blk_drewN ?_ _ | refine blk_drew ?_ | refine blk_alloc ?_ _)); exact BK448.out) hb)
                have n7_ := Aside0.mk (below_step (by repeat (first | (with_reducible first | exact HB.out | apply below_alloc | apply pw_below_drewN | apply below_drew1 | refine below_set ?_ GE420.out | refine below_set ?_ GE421.out | refine below_set ?_ GE442.out | refine below_set ?_ GE448.out) | exact HB.out)) hb)
                clear HO_443002
                clear HO_449002
                clear BK420
                clear BK421
                clear BK442
                clear BK448
                clear HB
                have HO_443002 := n0_
                have HO_449002 := n1_
                have HO456 := n2_
                have BK420 := n3_
                have BK421 := n4_
                have BK442 := n5_
                have BK448 := n6_
                have HB := n7_
                clear n0_ n1_ n2_ n3_ n4_ n5_ n6_ n7_
                (try clear hb)
                (try clear hb2)
                (try clear hk)
                (try clear hi)
                (try clear ho0)
                obtain ⟨Ao76, co76, eo76⟩ := Kd.R_slice HO456.out
                (first | subst eo76 | (injection eo76 with f1_ f2_ f3_; have f4_ := f1_.symm; have f5_ := f3_.symm; clear f1_ f2_ f3_; subst f4_; subst f5_))
                refine hK.out _ _ ⟨(blk_cell BK442.out 0).trans rfl, (blk_cell BK442.out 1).trans rfl, (blk_cell BK442.out 2).trans rfl, (blk_cell BK420.out 0).trans rfl, (blk_cell BK420.out 1).trans rfl, (blk_cell BK420.out 2).trans rfl⟩ (fun hHeld => ?_)
                clear hK K
                refine norm_ (a' := ?_) ?_ ?_
                rotate_left
                · show Act.put _ (some 63) _ = _
                  simp only [Act.put, List.setIfInBounds_toArray, List.set_cons_zero, List.set_cons_succ, i64_w, i32_w]
                  rfl
                refine one_ (i := 3) (N := some 64) #[true, true, true, true, false] rfl rfl (by kernel_rfl) (by decide) (fun K hK => ?_)
                refine goes_ Try.func29 (by kernel_rfl) rfl #[.agg #[.int .i64 t437, .int .i64 t438, .slice Ao46 t439.length co46], .agg #[.int .i64 t452, .int .i64 t453, .slice Ao76 t454.length co76]] (by rfl) rfl rfl (by (try simp only [List.map_toArray, List.map_cons, List.map_nil]); first | done | rfl | (simp only [List.length_drop, List.length_take]; rfl)) ?_
                with_reducible refine (laws_eqBox.calls kj25 t437 t438 _ _ t439 t452 t453 _ _ t454 true _ ?side1 ?side2 ?side3 ?side4 A61.out).mono ?_
                (case side1 => repeat (first | exact (Kd.R_reads' HO_443002.out).2.2 | (with_reducible refine Kd.C_alloc ?_ _) | (with_reducible refine Kd.C_drewN ?_ _) | (with_reducible refine Kd.C_drew ?_)))
                (case side2 => exact (Kd.R_reads' HO_443002.out).2.1)
                (case side3 => repeat (first | exact (Kd.R_reads' HO456.out).2.2 | (with_reducible refine Kd.C_alloc ?_ _) | (with_reducible refine Kd.C_drewN ?_ _) | (with_reducible refine Kd.C_drew ?_)))
                (case side4 => exact (Kd.R_reads' HO456.out).2.1)
                rintro e w77 ⟨rfl, hb⟩
                refine ⟨_, rfl, ?_⟩
                have n0_ := Aside0.mk (Kd.R_below (by (with_reducible repeat (first | apply Kd.R_alloc | apply Kd.R_drewN | apply Kd.R_drew)); exact HO_443002.out) hb)
                have n1_ := Aside0.mk (Kd.R_below (by (with_reducible repeat (first | apply Kd.R_alloc | apply Kd.R_drewN | apply Kd.R_drew)); exact HO_449002.out) hb)
                have n2_ := Aside0.mk (Kd.R_below (by (with_reducible repeat (first | apply Kd.R_alloc | apply Kd.R_drewN | apply Kd.R_drew)); exact HO456.out) hb)
                have n3_ := Aside0.mk (blk_below (g := gb420) (o := .cells #[.int .i64 a0_0, .int .i64 a0_1, .slice A0_2 l0_2.length c0_2] 51 (0, 0)) (by (with_reducible repeat (first | refine blk_drewN ?_ _ | refine blk_drew ?_ | refine blk_alloc ?_ _)); exact BK420.out) hb)
                have n4_ := Aside0.mk (blk_below (g := gb421) (o := .cells #[.int .i64 a2_0, .int .i64 a2_1, .slice A2_2 l2_2.length c2_2] 51 (0, 0)) (by (with_reducible repeat (first | refine blk_drewN ?_ _ | refine blk_drew ?_ | refine blk_alloc ?_ _)); exact BK421.out) hb)
                have n5_ := Aside0.mk (blk_below (g := gb442) (o := .cells #[.int .i64 t437, .int .i64 t438, .slice Ao46 t439.length co46] 55 (0, 0)) (by (with_reducible repeat (first | refine blk_drewN ?_ _ | refine blk_drew ?_ | refine blk_alloc ?_ _)); exact BK442.out) hb)
                have n6_ := Aside0.mk (blk_below (g := gb448) (o := .cells #[.int .i64 t443, .int .i64 t444, .slice Ao54 t445.length co54] 55 (0, 0)) (by (with_reducible repeat (first | refine blk_drewN ?_ _ | refine blk_drew ?_ | refine blk_alloc ?_ _)); exact BK448.out) hb)
                have n7_ := Aside0.mk (below_step (by repeat (first | (with_reducible first | exact HB.out | apply below_alloc | apply pw_below_drewN | apply below_drew1 | refine below_set ?_ GE420.out | refine below_set ?_ GE421.out | refine below_set ?_ GE442.out | refine below_set ?_ GE448.out) | exact HB.out)) hb)
                clear HO_443002
                clear HO_449002
                clear HO456
                clear BK420
                clear BK421
                clear BK442
                clear BK448
                clear HB
                have HO_443002 := n0_
                have HO_449002 := n1_
                have HO456 := n2_
                have BK420 := n3_
                have BK421 := n4_
                have BK442 := n5_
                have BK448 := n6_
                have HB := n7_
                clear n0_ n1_ n2_ n3_ n4_ n5_ n6_ n7_
                (try clear hb)
                (try clear hb2)
                (try clear hk)
                (try clear hi)
                refine hK.out _ _ ⟨(blk_cell BK442.out 0).trans rfl, (blk_cell BK442.out 1).trans rfl, (blk_cell BK442.out 2).trans rfl, (blk_cell BK420.out 0).trans rfl, (blk_cell BK420.out 1).trans rfl, (blk_cell BK420.out 2).trans rfl⟩ (fun hHeld => ?_)
                clear hK K
                refine norm_ (a' := ?_) ?_ ?_
                rotate_left
                · show Act.put _ (some 64) _ = _
                  simp only [Act.put, List.setIfInBounds_toArray, List.set_cons_zero, List.set_cons_succ, i64_w, i32_w]
                  rfl
                refine pure_ (i := 4) (N := some 65) (v := ?_) (a' := ?_) #[true, true, true, true, true] rfl rfl (by kernel_rfl) (fun _ _ _ h => h) (Or.inl ⟨by rfl, ?_⟩) ?_ ?_
                rotate_left
                · intro w'
                  go_simp
                  with_reducible rfl
                rotate_left
                · simp only [Act.put, List.setIfInBounds_toArray, List.set_cons_zero, List.set_cons_succ, i64_w, i32_w]
                  rfl
                refine done_ (by kernel_rfl) ?_
                try go_wp2
                have n0_ := Aside0.mk (Kd.R_drew HO_443002.out)
                have n1_ := Aside0.mk (Kd.R_drew HO_449002.out)
                have n2_ := Aside0.mk (Kd.R_drew HO456.out)
                have n3_ := Aside0.mk (blk_drew BK420.out)
                have n4_ := Aside0.mk (blk_drew BK421.out)
                have n5_ := Aside0.mk (blk_drew BK442.out)
                have n6_ := Aside0.mk (blk_drew BK448.out)
                have n7_ := Aside0.mk (below_drew1 HB.out)
                clear HO_443002
                clear HO_449002
                clear HO456
                clear BK420
                clear BK421
                clear BK442
                clear BK448
                clear HB
                have HO_443002 := n0_
                have HO_449002 := n1_
                have HO456 := n2_
                have BK420 := n3_
                have BK421 := n4_
                have BK442 := n5_
                have BK448 := n6_
                have HB := n7_
                clear n0_ n1_ n2_ n3_ n4_ n5_ n6_ n7_
                refine start_ (n := 5) (S := fun w' => w'.cell? ⟨gb448, 0, none⟩ = some (.int .i64 t443) ∧ w'.cell? ⟨gb448, 1, none⟩ = some (.int .i64 t444) ∧ w'.cell? ⟨gb448, 2, none⟩ = some (.slice Ao54 t445.length co54) ∧ w'.cell? ⟨gb421, 0, none⟩ = some (.int .i64 a2_0) ∧ w'.cell? ⟨gb421, 1, none⟩ = some (.int .i64 a2_1) ∧ w'.cell? ⟨gb421, 2, none⟩ = some (.slice A2_2 l2_2.length c2_2)) (ds := []) #[false, false, false, false, false] (by kernel_rfl) rfl rfl ⟨(blk_cell BK448.out 0).trans rfl, (blk_cell BK448.out 1).trans rfl, (blk_cell BK448.out 2).trans rfl, (blk_cell BK421.out 0).trans rfl, (blk_cell BK421.out 1).trans rfl, (blk_cell BK421.out 2).trans rfl⟩ (fun hHeld => ?_)
                generalize w77.drew = w78 at HO_443002 HO_449002 HO456 BK420 BK421 BK442 BK448 HB hHeld ⊢
                refine take_ (i := 0) (N := some 66) (v := ?_) (a' := ?_) #[true, false, false, false, false] rfl rfl (by kernel_rfl) (fun _ _ _ h => h) (Or.inl ⟨by rfl, ?_⟩) hHeld ?_ ?_
                rotate_left
                · rintro w' ⟨s0, s1, s2, s3, s4, s5⟩
                  go_simp
                  with_reducible rfl
                rotate_left
                · simp only [Act.put, List.setIfInBounds_toArray, List.set_cons_zero, List.set_cons_succ, i64_w, i32_w]
                  rfl
                refine take_ (i := 1) (N := some 67) (v := ?_) (a' := ?_) #[true, true, false, false, false] rfl rfl (by kernel_rfl) (fun _ _ _ h => h) (Or.inl ⟨by rfl, ?_⟩) hHeld ?_ ?_
                rotate_left
                · rintro w' ⟨s0, s1, s2, s3, s4, s5⟩
                  go_simp
                  with_reducible rfl
                rotate_left
                · simp only [Act.put, List.setIfInBounds_toArray, List.set_cons_zero, List.set_cons_succ, i64_w, i32_w]
                  rfl
                refine one_ (i := 2) (N := some 68) #[true, true, true, false, false] rfl rfl (by kernel_rfl) (by decide) (fun K hK => ?_)
                refine goes_ Try.func27 (by kernel_rfl) rfl #[.agg #[.int .i64 a2_0, .int .i64 a2_1, .slice A2_2 l2_2.length c2_2]] (by rfl) rfl rfl (by (try simp only [List.map_toArray, List.map_cons, List.map_nil]); first | done | rfl | (simp only [List.length_drop, List.length_take]; rfl)) ?_
                with_reducible refine (laws_toBox.calls kj25 a2_0 a2_1 _ _ l2_2 t458 t459 t460 _ ?side1 ?side2 A63.out).mono ?_
                (case side1 => repeat (first | exact (Kd.C_below HR2_2.out HB.out) | (with_reducible refine Kd.C_alloc ?_ _) | (with_reducible refine Kd.C_drewN ?_ _) | (with_reducible refine Kd.C_drew ?_)))
                (case side2 => exact HC2_2.out)
                rintro e w79 ⟨v461, rfl, ho0, hb⟩
                refine ⟨_, rfl, ?_⟩
                have n0_ := Aside0.mk (Kd.R_elder' (by (with_reducible repeat (first | apply Kd.R_alloc | apply Kd.R_drewN | apply Kd.R_drew)); exact HO_443002.out) (Kd.R_base ho0) hb)
                have n1_ := Aside0.mk (Kd.R_elder' (by (with_reducible repeat (first | apply Kd.R_alloc | apply Kd.R_drewN | apply Kd.R_drew)); exact HO_449002.out) (Kd.R_base ho0) hb)
                have n2_ := Aside0.mk (Kd.R_elder' (by (with_reducible repeat (first | apply Kd.R_alloc | apply Kd.R_drewN | apply Kd.R_drew)); exact HO456.out) (Kd.R_base ho0) hb)
                have n3_ := Aside0.mk (Kd.R_lower (Kd.R_new' (Kd.R_new' (Kd.R_new' ho0 (Kd.R_lt (by (with_reducible repeat (first | apply Kd.R_alloc | apply Kd.R_drewN | apply Kd.R_drew)); exact HO_443002.out))) (Kd.R_lt (by (with_reducible repeat (first | apply Kd.R_alloc | apply Kd.R_drewN | apply Kd.R_drew)); exact HO_449002.out))) (Kd.R_lt (by (with_reducible repeat (first | apply Kd.R_alloc | apply Kd.R_drewN | apply Kd.R_drew)); exact HO456.out))) (below_size (by repeat (first | (with_reducible first | exact HB.out | apply below_alloc | apply pw_below_drewN | apply below_drew1 | refine below_set ?_ GE420.out | refine below_set ?_ GE421.out | refine below_set ?_ GE442.out | refine below_set ?_ GE448.out) | exact HB.out))))
                have n4_ := Aside0.mk (blk_below (g := gb420) (o := .cells #[.int .i64 a0_0, .int .i64 a0_1, .slice A0_2 l0_2.length c0_2] 51 (0, 0)) (by (with_reducible repeat (first | refine blk_drewN ?_ _ | refine blk_drew ?_ | refine blk_alloc ?_ _)); exact BK420.out) hb)
                have n5_ := Aside0.mk (blk_below (g := gb421) (o := .cells #[.int .i64 a2_0, .int .i64 a2_1, .slice A2_2 l2_2.length c2_2] 51 (0, 0)) (by (with_reducible repeat (first | refine blk_drewN ?_ _ | refine blk_drew ?_ | refine blk_alloc ?_ _)); exact BK421.out) hb)
                have n6_ := Aside0.mk (blk_below (g := gb442) (o := .cells #[.int .i64 t437, .int .i64 t438, .slice Ao46 t439.length co46] 55 (0, 0)) (by (with_reducible repeat (first | refine blk_drewN ?_ _ | refine blk_drew ?_ | refine blk_alloc ?_ _)); exact BK442.out) hb)
                have n7_ := Aside0.mk (blk_below (g := gb448) (o := .cells #[.int .i64 t443, .int .i64 t444, .slice Ao54 t445.length co54] 55 (0, 0)) (by (with_reducible repeat (first | refine blk_drewN ?_ _ | refine blk_drew ?_ | refine blk_alloc ?_ _)); exact BK448.out) hb)
                have n8_ := Aside0.mk (below_step (by repeat (first | (with_reducible first | exact HB.out | apply below_alloc | apply pw_below_drewN | apply below_drew1 | refine below_set ?_ GE420.out | refine below_set ?_ GE421.out | refine below_set ?_ GE442.out | refine below_set ?_ GE448.out) | exact HB.out)) hb)
                clear HO_443002
                clear HO_449002
                clear HO456
                clear BK420
                clear BK421
                clear BK442
                clear BK448
                clear HB
                have HO_443002 := n0_
                have HO_449002 := n1_
                have HO456 := n2_
                have HO462 := n3_
                have BK420 := n4_
                have BK421 := n5_
                have BK442 := n6_
                have BK448 := n7_
                have HB := n8_
                clear n0_ n1_ n2_ n3_ n4_ n5_ n6_ n7_ n8_
                (try clear hb)
                (try clear hb2)
                (try clear hk)
                (try clear hi)
                (try clear ho0)
                obtain ⟨Ao80, co80, eo80⟩ := Kd.R_slice HO462.out
                (first | subst eo80 | (injection eo80 with f1_ f2_ f3_; have f4_ := f1_.symm; have f5_ := f3_.symm; clear f1_ f2_ f3_; subst f4_; subst f5_))
                refine hK.out _ _ ⟨(blk_cell BK448.out 0).trans rfl, (blk_cell BK448.out 1).trans rfl, (blk_cell BK448.out 2).trans rfl, (blk_cell BK421.out 0).trans rfl, (blk_cell BK421.out 1).trans rfl, (blk_cell BK421.out 2).trans rfl⟩ (fun hHeld => ?_)
                clear hK K
                refine norm_ (a' := ?_) ?_ ?_
                rotate_left
                · show Act.put _ (some 68) _ = _
                  simp only [Act.put, List.setIfInBounds_toArray, List.set_cons_zero, List.set_cons_succ, i64_w, i32_w]
                  rfl
                refine one_ (i := 3) (N := some 69) #[true, true, true, true, false] rfl rfl (by kernel_rfl) (by decide) (fun K hK => ?_)
                refine goes_ Try.func29 (by kernel_rfl) rfl #[.agg #[.int .i64 t443, .int .i64 t444, .slice Ao54 t445.length co54], .agg #[.int .i64 t458, .int .i64 t459, .slice Ao80 t460.length co80]] (by rfl) rfl rfl (by (try simp only [List.map_toArray, List.map_cons, List.map_nil]); first | done | rfl | (simp only [List.length_drop, List.length_take]; rfl)) ?_
                with_reducible refine (laws_eqBox.calls kj25 t443 t444 _ _ t445 t458 t459 _ _ t460 false _ ?side1 ?side2 ?side3 ?side4 A64.out).mono ?_
                (case side1 => repeat (first | exact (Kd.R_reads' HO_449002.out).2.2 | (with_reducible refine Kd.C_alloc ?_ _) | (with_reducible refine Kd.C_drewN ?_ _) | (with_reducible refine Kd.C_drew ?_)))
                (case side2 => exact (Kd.R_reads' HO_449002.out).2.1)
                (case side3 => repeat (first | exact (Kd.R_reads' HO462.out).2.2 | (with_reducible refine Kd.C_alloc ?_ _) | (with_reducible refine Kd.C_drewN ?_ _) | (with_reducible refine Kd.C_drew ?_)))
                (case side4 => exact (Kd.R_reads' HO462.out).2.1)
                rintro e w81 ⟨rfl, hb⟩
                refine ⟨_, rfl, ?_⟩
                have n0_ := Aside0.mk (Kd.R_below (by (with_reducible repeat (first | apply Kd.R_alloc | apply Kd.R_drewN | apply Kd.R_drew)); exact HO_443002.out) hb)
                have n1_ := Aside0.mk (Kd.R_below (by (with_reducible repeat (first | apply Kd.R_alloc | apply Kd.R_drewN | apply Kd.R_drew)); exact HO_449002.out) hb)
                have n2_ := Aside0.mk (Kd.R_below (by (with_reducible repeat (first | apply Kd.R_alloc | apply Kd.R_drewN | apply Kd.R_drew)); exact HO456.out) hb)
                have n3_ := Aside0.mk (Kd.R_below (by (with_reducible repeat (first | apply Kd.R_alloc | apply Kd.R_drewN | apply Kd.R_drew)); exact HO462.out) hb)
                have n4_ := Aside0.mk (blk_below (g := gb420) (o := .cells #[.int .i64 a0_0, .int .i64 a0_1, .slice A0_2 l0_2.length c0_2] 51 (0, 0)) (by (with_reducible repeat (first | refine blk_drewN ?_ _ | refine blk_drew ?_ | refine blk_alloc ?_ _)); exact BK420.out) hb)
                have n5_ := Aside0.mk (blk_below (g := gb421) (o := .cells #[.int .i64 a2_0, .int .i64 a2_1, .slice A2_2 l2_2.length c2_2] 51 (0, 0)) (by (with_reducible repeat (first | refine blk_drewN ?_ _ | refine blk_drew ?_ | refine blk_alloc ?_ _)); exact BK421.out) hb)
                have n6_ := Aside0.mk (blk_below (g := gb442) (o := .cells #[.int .i64 t437, .int .i64 t438, .slice Ao46 t439.length co46] 55 (0, 0)) (by (with_reducible repeat (first | refine blk_drewN ?_ _ | refine blk_drew ?_ | refine blk_alloc ?_ _)); exact BK442.out) hb)
                have n7_ := Aside0.mk (blk_below (g := gb448) (o := .cells #[.int .i64 t443, .int .i64 t444, .slice Ao54 t445.length co54] 55 (0, 0)) (by (with_reducible repeat (first | refine blk_drewN ?_ _ | refine blk_drew ?_ | refine blk_alloc ?_ _)); exact BK448.out) hb)
                have n8_ := Aside0.mk (below_step (by repeat (first | (with_reducible first | exact HB.out | apply below_alloc | apply pw_below_drewN | apply below_drew1 | refine below_set ?_ GE420.out | refine below_set ?_ GE421.out | refine below_set ?_ GE442.out | refine below_set ?_ GE448.out) | exact HB.out)) hb)
                clear HO_443002
                clear HO_449002
                clear HO456
                clear HO462
                clear BK420
                clear BK421
                clear BK442
                clear BK448
                clear HB
                have HO_443002 := n0_
                have HO_449002 := n1_
                have HO456 := n2_
                have HO462 := n3_
                have BK420 := n4_
                have BK421 := n5_
                have BK442 := n6_
                have BK448 := n7_
                have HB := n8_
                clear n0_ n1_ n2_ n3_ n4_ n5_ n6_ n7_ n8_
                (try clear hb)
                (try clear hb2)
                (try clear hk)
                (try clear hi)
                refine hK.out _ _ ⟨(blk_cell BK448.out 0).trans rfl, (blk_cell BK448.out 1).trans rfl, (blk_cell BK448.out 2).trans rfl, (blk_cell BK421.out 0).trans rfl, (blk_cell BK421.out 1).trans rfl, (blk_cell BK421.out 2).trans rfl⟩ (fun hHeld => ?_)
                clear hK K
                refine norm_ (a' := ?_) ?_ ?_
                rotate_left
                · show Act.put _ (some 69) _ = _
                  simp only [Act.put, List.setIfInBounds_toArray, List.set_cons_zero, List.set_cons_succ, i64_w, i32_w]
                  rfl
                refine pure_ (i := 4) (N := some 70) (v := ?_) (a' := ?_) #[true, true, true, true, true] rfl rfl (by kernel_rfl) (fun _ _ _ h => h) (Or.inl ⟨by rfl, ?_⟩) ?_ ?_
                rotate_left
                · intro w'
                  go_simp
                  with_reducible rfl
                rotate_left
                · simp only [Act.put, List.setIfInBounds_toArray, List.set_cons_zero, List.set_cons_succ, i64_w, i32_w]
                  rfl
                refine done_ (by kernel_rfl) ?_
                try go_wp2
                go_ret
                exact ⟨by first | rfl | (simp [errW_none, errW_some] <;> rfl) | (simp [*, errW_none, errW_some] <;> rfl), by repeat (first | (with_reducible first | exact HB.out | apply below_alloc | apply pw_below_drewN | apply below_drew1 | refine below_set ?_ GE420.out | refine below_set ?_ GE421.out | refine below_set ?_ GE442.out | refine below_set ?_ GE448.out) | exact HB.out)⟩
            · replace c62 := Bool.eq_false_iff.mpr c62
              subst c62
              have H1 : (some false) = some r := by rw [if_neg (show ¬ (false = true) by decide)] at H; exact H
              clear H
              have H := H1
              clear H1
              obtain rfl := Option.some.inj H
              try go_wp2
              have n0_ := Aside0.mk (Kd.R_drew HO_443002.out)
              have n1_ := Aside0.mk (Kd.R_drew HO_449002.out)
              have n2_ := Aside0.mk (blk_drew BK420.out)
              have n3_ := Aside0.mk (blk_drew BK421.out)
              have n4_ := Aside0.mk (blk_drew BK442.out)
              have n5_ := Aside0.mk (blk_drew BK448.out)
              have n6_ := Aside0.mk (below_drew1 HB.out)
              clear HO_443002
              clear HO_449002
              clear BK420
              clear BK421
              clear BK442
              clear BK448
              clear HB
              have HO_443002 := n0_
              have HO_449002 := n1_
              have BK420 := n2_
              have BK421 := n3_
              have BK442 := n4_
              have BK448 := n5_
              have HB := n6_
              clear n0_ n1_ n2_ n3_ n4_ n5_ n6_
              refine start_ (n := 5) (S := fun w' => w'.cell? ⟨gb442, 0, none⟩ = some (.int .i64 t437) ∧ w'.cell? ⟨gb442, 1, none⟩ = some (.int .i64 t438) ∧ w'.cell? ⟨gb442, 2, none⟩ = some (.slice Ao46 t439.length co46) ∧ w'.cell? ⟨gb420, 0, none⟩ = some (.int .i64 a0_0) ∧ w'.cell? ⟨gb420, 1, none⟩ = some (.int .i64 a0_1) ∧ w'.cell? ⟨gb420, 2, none⟩ = some (.slice A0_2 l0_2.length c0_2)) (ds := []) #[false, false, false, false, false] (by kernel_rfl) rfl rfl ⟨(blk_cell BK442.out 0).trans rfl, (blk_cell BK442.out 1).trans rfl, (blk_cell BK442.out 2).trans rfl, (blk_cell BK420.out 0).trans rfl, (blk_cell BK420.out 1).trans rfl, (blk_cell BK420.out 2).trans rfl⟩ (fun hHeld => ?_)
              generalize wc.drew = w82 at HO_443002 HO_449002 BK420 BK421 BK442 BK448 HB hHeld ⊢
              refine take_ (i := 0) (N := some 61) (v := ?_) (a' := ?_) #[true, false, false, false, false] rfl rfl (by kernel_rfl) (fun _ _ _ h => h) (Or.inl ⟨by rfl, ?_⟩) hHeld ?_ ?_
              rotate_left
              · rintro w' ⟨s0, s1, s2, s3, s4, s5⟩
                go_simp
                with_reducible rfl
              rotate_left
              · simp only [Act.put, List.setIfInBounds_toArray, List.set_cons_zero, List.set_cons_succ, i64_w, i32_w]
                rfl
              refine take_ (i := 1) (N := some 62) (v := ?_) (a' := ?_) #[true, true, false, false, false] rfl rfl (by kernel_rfl) (fun _ _ _ h => h) (Or.inl ⟨by rfl, ?_⟩) hHeld ?_ ?_
              rotate_left
              · rintro w' ⟨s0, s1, s2, s3, s4, s5⟩
                go_simp
                with_reducible rfl
              rotate_left
              · simp only [Act.put, List.setIfInBounds_toArray, List.set_cons_zero, List.set_cons_succ, i64_w, i32_w]
                rfl
              refine one_ (i := 2) (N := some 63) #[true, true, true, false, false] rfl rfl (by kernel_rfl) (by decide) (fun K hK => ?_)
              refine goes_ Try.func27 (by kernel_rfl) rfl #[.agg #[.int .i64 a0_0, .int .i64 a0_1, .slice A0_2 l0_2.length c0_2]] (by rfl) rfl rfl (by (try simp only [List.map_toArray, List.map_cons, List.map_nil]); first | done | rfl | (simp only [List.length_drop, List.length_take]; rfl)) ?_
              with_reducible refine (laws_toBox.calls kj25 a0_0 a0_1 _ _ l0_2 t452 t453 t454 _ ?side1 ?side2 A60.out).mono ?_
              (case side1 => repeat (first | exact (Kd.C_below HR0_2.out HB.out) | (with_reducible refine Kd.C_alloc ?_ _) | (with_reducible refine Kd.C_drewN ?_ _) | (with_reducible refine Kd.C_drew ?_)))
              (case side2 => exact HC0_2.out)
              rintro e w83 ⟨v455, rfl, ho0, hb⟩
              refine ⟨_, rfl, ?_⟩
              have n0_ := Aside0.mk (Kd.R_elder' (by (with_reducible repeat (first | apply Kd.R_alloc | apply Kd.R_drewN | apply Kd.R_drew)); exact HO_443002.out) (Kd.R_base ho0) hb)
              have n1_ := Aside0.mk (Kd.R_elder' (by (with_reducible repeat (first | apply Kd.R_alloc | apply Kd.R_drewN | apply Kd.R_drew)); exact HO_449002.out) (Kd.R_base ho0) hb)
              have n2_ := Aside0.mk (Kd.R_lower (Kd.R_new' (Kd.R_new' ho0 (Kd.R_lt (by (with_reducible repeat (first | apply Kd.R_alloc | apply Kd.R_drewN | apply Kd.R_drew)); exact HO_443002.out))) (Kd.R_lt (by (with_reducible repeat (first | apply Kd.R_alloc | apply Kd.R_drewN | apply Kd.R_drew)); exact HO_449002.out))) (below_size (by repeat (first | (with_reducible first | exact HB.out | apply below_alloc | apply pw_below_drewN | apply below_drew1 | refine below_set ?_ GE420.out | refine below_set ?_ GE421.out | refine below_set ?_ GE442.out | refine below_set ?_ GE448.out) | exact HB.out))))
              have n3_ := Aside0.mk (blk_below (g := gb420) (o := .cells #[.int .i64 a0_0, .int .i64 a0_1, .slice A0_2 l0_2.length c0_2] 51 (0, 0)) (by (with_reducible repeat (first | refine blk_drewN ?_ _ | refine blk_drew ?_ | refine blk_alloc ?_ _)); exact BK420.out) hb)
              have n4_ := Aside0.mk (blk_below (g := gb421) (o := .cells #[.int .i64 a2_0, .int .i64 a2_1, .slice A2_2 l2_2.length c2_2] 51 (0, 0)) (by (with_reducible repeat (first | refine blk_drewN ?_ _ | refine blk_drew ?_ | refine blk_alloc ?_ _)); exact BK421.out) hb)
              have n5_ := Aside0.mk (blk_below (g := gb442) (o := .cells #[.int .i64 t437, .int .i64 t438, .slice Ao46 t439.length co46] 55 (0, 0)) (by (with_reducible repeat (first | refine blk_drewN ?_ _ | refine blk_drew ?_ | refine blk_alloc ?_ _)); exact BK442.out) hb)
              have n6_ := Aside0.mk (blk_below (g := gb448) (o := .cells #[.int .i64 t443, .int .i64 t444, .slice Ao54 t445.length co54] 55 (0, 0)) (by (with_reducible repeat (first | refine blk_drewN ?_ _ | refine blk_drew ?_ | refine blk_alloc ?_ _)); exact BK448.out) hb)
              have n7_ := Aside0.mk (below_step (by repeat (first | (with_reducible first | exact HB.out | apply below_alloc | apply pw_below_drewN | apply below_drew1 | refine below_set ?_ GE420.out | refine below_set ?_ GE421.out | refine below_set ?_ GE442.out | refine below_set ?_ GE448.out) | exact HB.out)) hb)
              clear HO_443002
              clear HO_449002
              clear BK420
              clear BK421
              clear BK442
              clear BK448
              clear HB
              have HO_443002 := n0_
              have HO_449002 := n1_
              have HO456 := n2_
              have BK420 := n3_
              have BK421 := n4_
              have BK442 := n5_
              have BK448 := n6_
              have HB := n7_
              clear n0_ n1_ n2_ n3_ n4_ n5_ n6_ n7_
              (try clear hb)
              (try clear hb2)
              (try clear hk)
              (try clear hi)
              (try clear ho0)
              obtain ⟨Ao84, co84, eo84⟩ := Kd.R_slice HO456.out
              (first | subst eo84 | (injection eo84 with f1_ f2_ f3_; have f4_ := f1_.symm; have f5_ := f3_.symm; clear f1_ f2_ f3_; subst f4_; subst f5_))
              refine hK.out _ _ ⟨(blk_cell BK442.out 0).trans rfl, (blk_cell BK442.out 1).trans rfl, (blk_cell BK442.out 2).trans rfl, (blk_cell BK420.out 0).trans rfl, (blk_cell BK420.out 1).trans rfl, (blk_cell BK420.out 2).trans rfl⟩ (fun hHeld => ?_)
              clear hK K
              refine norm_ (a' := ?_) ?_ ?_
              rotate_left
              · show Act.put _ (some 63) _ = _
                simp only [Act.put, List.setIfInBounds_toArray, List.set_cons_zero, List.set_cons_succ, i64_w, i32_w]
                rfl
              refine one_ (i := 3) (N := some 64) #[true, true, true, true, false] rfl rfl (by kernel_rfl) (by decide) (fun K hK => ?_)
              refine goes_ Try.func29 (by kernel_rfl) rfl #[.agg #[.int .i64 t437, .int .i64 t438, .slice Ao46 t439.length co46], .agg #[.int .i64 t452, .int .i64 t453, .slice Ao84 t454.length co84]] (by rfl) rfl rfl (by (try simp only [List.map_toArray, List.map_cons, List.map_nil]); first | done | rfl | (simp only [List.length_drop, List.length_take]; rfl)) ?_
              with_reducible refine (laws_eqBox.calls kj25 t437 t438 _ _ t439 t452 t453 _ _ t454 false _ ?side1 ?side2 ?side3 ?side4 A61.out).mono ?_
              (case side1 => repeat (first | exact (Kd.R_reads' HO_443002.out).2.2 | (with_reducible refine Kd.C_alloc ?_ _) | (with_reducible refine Kd.C_drewN ?_ _) | (with_reducible refine Kd.C_drew ?_)))
              (case side2 => exact (Kd.R_reads' HO_443002.out).2.1)
              (case side3 => repeat (first | exact (Kd.R_reads' HO456.out).2.2 | (with_reducible refine Kd.C_alloc ?_ _) | (with_reducible refine Kd.C_drewN ?_ _) | (with_reducible refine Kd.C_drew ?_)))
              (case side4 => exact (Kd.R_reads' HO456.out).2.1)
              rintro e w85 ⟨rfl, hb⟩
              refine ⟨_, rfl, ?_⟩
              have n0_ := Aside0.mk (Kd.R_below (by (with_reducible repeat (first | apply Kd.R_alloc | apply Kd.R_drewN | apply Kd.R_drew)); exact HO_443002.out) hb)
              have n1_ := Aside0.mk (Kd.R_below (by (with_reducible repeat (first | apply Kd.R_alloc | apply Kd.R_drewN | apply Kd.R_drew)); exact HO_449002.out) hb)
              have n2_ := Aside0.mk (Kd.R_below (by (with_reducible repeat (first | apply Kd.R_alloc | apply Kd.R_drewN | apply Kd.R_drew)); exact HO456.out) hb)
              have n3_ := Aside0.mk (blk_below (g := gb420) (o := .cells #[.int .i64 a0_0, .int .i64 a0_1, .slice A0_2 l0_2.length c0_2] 51 (0, 0)) (by (with_reducible repeat (first | refine blk_drewN ?_ _ | refine blk_drew ?_ | refine blk_alloc ?_ _)); exact BK420.out) hb)
              have n4_ := Aside0.mk (blk_below (g := gb421) (o := .cells #[.int .i64 a2_0, .int .i64 a2_1, .slice A2_2 l2_2.length c2_2] 51 (0, 0)) (by (with_reducible repeat (first | refine blk_drewN ?_ _ | refine blk_drew ?_ | refine blk_alloc ?_ _)); exact BK421.out) hb)
              have n5_ := Aside0.mk (blk_below (g := gb442) (o := .cells #[.int .i64 t437, .int .i64 t438, .slice Ao46 t439.length co46] 55 (0, 0)) (by (with_reducible repeat (first | refine blk_drewN ?_ _ | refine blk_drew ?_ | refine blk_alloc ?_ _)); exact BK442.out) hb)
              have n6_ := Aside0.mk (blk_below (g := gb448) (o := .cells #[.int .i64 t443, .int .i64 t444, .slice Ao54 t445.length co54] 55 (0, 0)) (by (with_reducible repeat (first | refine blk_drewN ?_ _ | refine blk_drew ?_ | refine blk_alloc ?_ _)); exact BK448.out) hb)
              have n7_ := Aside0.mk (below_step (by repeat (first | (with_reducible first | exact HB.out | apply below_alloc | apply pw_below_drewN | apply below_drew1 | refine below_set ?_ GE420.out | refine below_set ?_ GE421.out | refine below_set ?_ GE442.out | refine below_set ?_ GE448.out) | exact HB.out)) hb)
              clear HO_443002
              clear HO_449002
              clear HO456
              clear BK420
              clear BK421
              clear BK442
              clear BK448
              clear HB
              have HO_443002 := n0_
              have HO_449002 := n1_
              have HO456 := n2_
              have BK420 := n3_
              have BK421 := n4_
              have BK442 := n5_
              have BK448 := n6_
              have HB := n7_
              clear n0_ n1_ n2_ n3_ n4_ n5_ n6_ n7_
              (try clear hb)
              (try clear hb2)
              (try clear hk)
              (try clear hi)
              refine hK.out _ _ ⟨(blk_cell BK442.out 0).trans rfl, (blk_cell BK442.out 1).trans rfl, (blk_cell BK442.out 2).trans rfl, (blk_cell BK420.out 0).trans rfl, (blk_cell BK420.out 1).trans rfl, (blk_cell BK420.out 2).trans rfl⟩ (fun hHeld => ?_)
              clear hK K
              refine norm_ (a' := ?_) ?_ ?_
              rotate_left
              · show Act.put _ (some 64) _ = _
                simp only [Act.put, List.setIfInBounds_toArray, List.set_cons_zero, List.set_cons_succ, i64_w, i32_w]
                rfl
              refine pure_ (i := 4) (N := some 65) (v := ?_) (a' := ?_) #[true, true, true, true, true] rfl rfl (by kernel_rfl) (fun _ _ _ h => h) (Or.inl ⟨by rfl, ?_⟩) ?_ ?_
              rotate_left
              · intro w'
                go_simp
                with_reducible rfl
              rotate_left
              · simp only [Act.put, List.setIfInBounds_toArray, List.set_cons_zero, List.set_cons_succ, i64_w, i32_w]
                rfl
              refine done_ (by kernel_rfl) ?_
              try go_wp2
              go_ret
              exact ⟨by first | rfl | (simp [errW_none, errW_some] <;> rfl) | (simp [*, errW_none, errW_some] <;> rfl), by repeat (first | (with_reducible first | exact HB.out | apply below_alloc | apply pw_below_drewN | apply below_drew1 | refine below_set ?_ GE420.out | refine below_set ?_ GE421.out | refine below_set ?_ GE442.out | refine below_set ?_ GE448.out) | exact HB.out)⟩

/-- THE ONE PURE STATEMENT of laws_FnExactMoved: yours. -/
def laws_FnExactMoved.Pure : Prop := ∀ (a0_0 : Int) (a0_1 : Int) (l0_2 : List Int) (a1 : Int) (a2_0 : Int) (a2_1 : Int) (l2_2 : List Int), l0_2.length ≤ 9223372036854775807 → (Lit.int .i64 a1).wf = true → l2_2.length ≤ 9223372036854775807 → ∃ k, laws_FnExactMoved.f k a0_0 a0_1 l0_2 a1 a2_0 a2_1 l2_2 = some true

end Go.Proofs.Ytcdghhihfjojaaa.Q
