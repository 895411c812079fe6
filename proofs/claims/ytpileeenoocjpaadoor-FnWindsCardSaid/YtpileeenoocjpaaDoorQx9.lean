/- Plain Lean functions with the same answers as the Go functions of this seat, and a proof for each that the Go code comes to just these answers; no condition. Written by a program of this session (the kit's printer, turned). -/
import Derived.Test.YtpileeenoocjpaaDoorQx0
import Derived.Test.YtpileeenoocjpaaDoorQx2
import Derived.Test.YtpileeenoocjpaaDoorQx3
import Derived.Test.YtpileeenoocjpaaDoorQx4
import Derived.Test.YtpileeenoocjpaaDoorQx6
import Derived.Test.YtpileeenoocjpaaDoorQx7
import Derived.Test.YtpileeenoocjpaaDoorQx8
namespace Go.Proofs.YtpileeenoocjpaaDoor.Q
open Go.RowKit Go.Proofs.YtpileeenoocjpaaDoorW.PrintWords Go.Proofs.YtpileeenoocjpaaDoorW.PrintLast Go.Proofs.YtpileeenoocjpaaDoorW.PrintMore Go.Proofs.YtpileeenoocjpaaDoorW.PrintFlt
attribute [local go_sem] cmp_lss cmp_leq cmp_gtr cmp_geq cmp_eql cmp_neq flt_l flt_r fgt_l fgt_r feq_l feq_r fne_l fne_r ord_lt ord_gt ord_eq ord_ne conv_int foi_fold run_store_flt
attribute [local go_sem] max2_int min2_int max_two min_two max_three min_three max_four min_four   -- for this text's walks alone
set_option linter.unusedVariables false
set_option linter.unusedSimpArgs false

/-! ### laws_FnWinds: function 8 -/
def laws_FnWinds.j0 : Nat → Bool → List (Nat) → Int → Nat → Nat → Nat → Nat → Nat → Option (Bool)
 | 0, _, _, _, _, _, _, _, _ => none
 | k + 1, x28, x950, x286000, x286001, x291000, x291001, x299000, x299001 => if x28 = true then ((spec_Known.f x291000).bind fun t305 => (if t305 = true then (some false) else ((spec_Known.f x299000).bind fun t306 => (if t306 = true then (some false) else ((spec_Known.f x299001).bind fun t307 => (some (!t307))))))) else ((laws_equal.f x299000 x299001 x291000 x291001).bind fun t308 => (if t308 = true then (if x286000 = 0 then ((laws_equal.f x299000 x299001 0 0).bind fun t309 => (some t309)) else ((impl_MeanWind.f k (([(⟨x286000, x286001⟩ : S54), (⟨wrap64 ((Int.tmod (wrap64 (x286000 + 17)) 36) + 1), x286001⟩ : S54)] : List (S54))) x950).bind fun bt314 => ((laws_equal.f bt314.1 bt314.2 0 0).bind fun t318 => (some t318)))) else (some false)))
def laws_FnWinds.f (k : Nat) (l0 : List Int) (l1 : List (Nat)) : Option (Bool) := (laws_big.f l0).bind fun t281 => (if t281 = true then (some true) else ((spec_DrawWindPair.f k l0).bind fun bt282 => ((spec_WindPair.f bt282.1 bt282.2).bind fun bt286 => ((impl_MeanWind.f k (([(⟨bt282.1, bt282.2⟩ : S54)] : List (S54))) l1).bind fun bt294 => ((impl_WindPair.f bt282.1 bt282.2 l1).bind fun bt299 => ((spec_Same.f k bt286.1 bt299.1).bind fun t303 => (if t303 = true then ((spec_Known.f bt286.1).bind fun t304 => (laws_FnWinds.j0 k (!t304) l1 bt282.1 bt282.2 bt286.1 bt286.2 bt294.1 bt294.2)) else (laws_FnWinds.j0 k true l1 bt282.1 bt282.2 bt286.1 bt286.2 bt294.1 bt294.2))))))))
theorem laws_FnWinds.mono_l : ∀ k, (∀ y0 y1 y2 y3 y4 y5 y6 y7, LeO (laws_FnWinds.j0 k y0 y1 y2 y3 y4 y5 y6 y7) (laws_FnWinds.j0 (k + 1) y0 y1 y2 y3 y4 y5 y6 y7))
 | 0 => fun _ _ _ _ _ _ _ _ r h => by simp [laws_FnWinds.j0] at h
 | k + 1 => by
  have ih0 := laws_FnWinds.mono_l k
  ·intro y0 y1 y2 y3 y4 y5 y6 y7
   unfold laws_FnWinds.j0
   repeat' first
   | (with_reducible exact ih0 _ _ _ _ _ _ _ _)
   | (with_reducible exact impl_MeanWind.mono _ _ _)
   | (with_reducible exact spec_DrawWindPair.mono _ _)
   | (with_reducible exact spec_Same.mono _ _ _)
   | (with_reducible exact LeO.refl _)
   | (with_reducible exact LeO.none _)
   | (with_reducible refine LeO.ite ?_ ?_)
   | (with_reducible refine LeO.bind ?_ (fun _ => ?_))
   | exact ih0 _ _ _ _ _ _ _ _
   | exact impl_MeanWind.mono _ _ _
   | exact spec_DrawWindPair.mono _ _
   | exact spec_Same.mono _ _ _
   | exact LeO.none _
   | refine LeO.ite ?_ ?_
   | refine LeO.bind ?_ (fun _ => ?_)
theorem laws_FnWinds.mono : ∀ a0 a1 k, LeO (laws_FnWinds.f k a0 a1) (laws_FnWinds.f (k + 1) a0 a1) := by
 intro a0 a1 k
 have ih0 := laws_FnWinds.mono_l k
 unfold laws_FnWinds.f
 repeat' first
   | (with_reducible exact ih0 _ _ _ _ _ _ _ _)
   | (with_reducible exact impl_MeanWind.mono _ _ _)
   | (with_reducible exact spec_DrawWindPair.mono _ _)
   | (with_reducible exact spec_Same.mono _ _ _)
   | (with_reducible exact LeO.refl _)
   | (with_reducible exact LeO.none _)
   | (with_reducible refine LeO.ite ?_ ?_)
   | (with_reducible refine LeO.bind ?_ (fun _ => ?_))
   | exact ih0 _ _ _ _ _ _ _ _
   | exact impl_MeanWind.mono _ _ _
   | exact spec_DrawWindPair.mono _ _
   | exact spec_Same.mono _ _ _
   | exact LeO.none _
   | refine LeO.ite ?_ ?_
   | refine LeO.bind ?_ (fun _ => ?_)
def laws_FnWinds.T6 : Bool × List (List Nat × List Nat) := (true, [([], []), ([0], [0]), ([], []), ([2], [2]), ([3], [3]), ([1, 4, 3], [1, 4]), ([5], [5]), ([6, 5], [6]), ([7], [7]), ([8, 7], [7, 8]), ([9, 7, 7], [7, 9]), ([10, 7], [7, 10]), ([7, 11], [7, 11])])
def laws_FnWinds.B6 : List Nat := [0, 1, 0, 4, 12, 31, 63, 127, 255, 511, 1023, 2047, 4095]
theorem laws_FnWinds.tab6 : rtab .any (opsOf Tryd.f8 6) = laws_FnWinds.T6 := by kernel_rfl
theorem laws_FnWinds.bits6 : waitsOk laws_FnWinds.T6.2 laws_FnWinds.B6 = true := by kernel_rfl
set_option maxHeartbeats 8000000 in
set_option maxRecDepth 100000 in
theorem laws_FnWinds.calls (k : Nat) (A0 : Option Addr) (c0 : Nat) (l0 : List Int) (l1 : List (Nat)) (r : Bool) (w : World) (hr0 : Kd.C (Kd.int .u8) w A0 l0.length l0) (hc0 : l0.length ≤ c0) (hr1 : Kd.C Kd.flt w (some ⟨1, 0, none⟩) l1.length l1) (hc1 : l1.length ≤ l1.length) (hn1 : l1.length = 10) (h : laws_FnWinds.f k l0 l1 = some r) :
  Calls Tryd.prog 8 #[.slice A0 l0.length c0] w fun e w' => e = .returned (.bool r) ∧ Below w.heap.size w w' := by
 have hu54 := Tryd.underlying54
 have hu42 := Tryd.underlying42
 have HR0 := Aside0.mk hr0
 have HC0 := Aside0.mk hc0
 clear hr0 hc0
 have HR1 := Aside0.mk hr1
 have HC1 := Aside0.mk hc1
 clear hr1 hc1
 have HN1 := Aside0.mk hn1
 clear hn1
 have HB := Aside0.mk (Below.refl w.heap.size w)
 have H : ((laws_big.f l0).bind fun t281 => (if t281 = true then (some true) else ((spec_DrawWindPair.f k l0).bind fun bt282 => ((spec_WindPair.f bt282.1 bt282.2).bind fun bt286 => ((impl_MeanWind.f k (([(⟨bt282.1, bt282.2⟩ : S54)] : List (S54))) l1).bind fun bt294 => ((impl_WindPair.f bt282.1 bt282.2 l1).bind fun bt299 => ((spec_Same.f k bt286.1 bt299.1).bind fun t303 => (if t303 = true then ((spec_Known.f bt286.1).bind fun t304 => (laws_FnWinds.j0 k (!t304) l1 bt282.1 bt282.2 bt286.1 bt286.2 bt294.1 bt294.2)) else (laws_FnWinds.j0 k true l1 bt282.1 bt282.2 bt286.1 bt286.2 bt294.1 bt294.2))))))))) = some r := h
 clear h
 replace H := Option.bind_eq_some_iff.mp H
 obtain ⟨t281, A30, H⟩ := H
 replace H : (if t281 = true then (some true) else ((spec_DrawWindPair.f k l0).bind fun bt282 => ((spec_WindPair.f bt282.1 bt282.2).bind fun bt286 => ((impl_MeanWind.f k (([(⟨bt282.1, bt282.2⟩ : S54)] : List (S54))) l1).bind fun bt294 => ((impl_WindPair.f bt282.1 bt282.2 l1).bind fun bt299 => ((spec_Same.f k bt286.1 bt299.1).bind fun t303 => (if t303 = true then ((spec_Known.f bt286.1).bind fun t304 => (laws_FnWinds.j0 k (!t304) l1 bt282.1 bt282.2 bt286.1 bt286.2 bt294.1 bt294.2)) else (laws_FnWinds.j0 k true l1 bt282.1 bt282.2 bt286.1 bt286.2 bt294.1 bt294.2)))))))) = some r := H
 have A3 := Aside0.mk A30
 clear A30
 by_cases c4 : t281 = true
 ·subst c4
  have H1 : (some true) = some r := by rw [if_pos rfl] at H; exact H
  clear H
  have H := H1
  clear H1
  obtain rfl := Option.some.inj H
  go_enter Tryd.func8, Tryd.ntmps8
  go_wp2_with (first | ((with_reducible refine gate_callee (f := 34) rfl ?_); refine goesL_ (some 8) rfl rfl Tryd.func34 (by kernel_rfl) rfl #[.slice A0 l0.length c0] rfl (by (try simp only [List.map_toArray, List.map_cons, List.map_nil]); first | done | rfl | (simp only [List.length_drop, List.length_take]; rfl)) ?_; (with_reducible refine (laws_big.calls _ _ l0 true _ ?side1 ?side2 A3.out).mono ?_); (case side1 => repeat (first | exact HR0.out | (with_reducible refine Kd.C_alloc ?_ _) | (with_reducible refine Kd.C_drewN ?_ _) | (with_reducible refine Kd.C_drew ?_))); (case side2 => exact HC0.out); rintro e w' ⟨rfl, ⟨nd, rfl⟩⟩; refine ⟨_, rfl, ?_⟩))
  go_ret
  exact ⟨by first | rfl | (simp [errW_none, errW_some] <;> rfl) | (simp [*, errW_none, errW_some] <;> rfl), by repeat (first | (with_reducible first | exact HB.out | apply below_alloc | apply pw_below_drewN | apply below_drew1) | exact HB.out)⟩
 ·replace c4 := Bool.eq_false_iff.mpr c4
  subst c4
  have H1 : ((spec_DrawWindPair.f k l0).bind fun bt282 => ((spec_WindPair.f bt282.1 bt282.2).bind fun bt286 => ((impl_MeanWind.f k (([(⟨bt282.1, bt282.2⟩ : S54)] : List (S54))) l1).bind fun bt294 => ((impl_WindPair.f bt282.1 bt282.2 l1).bind fun bt299 => ((spec_Same.f k bt286.1 bt299.1).bind fun t303 => (if t303 = true then ((spec_Known.f bt286.1).bind fun t304 => (laws_FnWinds.j0 k (!t304) l1 bt282.1 bt282.2 bt286.1 bt286.2 bt294.1 bt294.2)) else (laws_FnWinds.j0 k true l1 bt282.1 bt282.2 bt286.1 bt286.2 bt294.1 bt294.2))))))) = some r := by rw [if_neg (show ¬ (false = true) by decide)] at H; exact H
  clear H
  have H := H1
  clear H1
  replace H := Option.bind_eq_some_iff.mp H
  obtain ⟨⟨t282, t283⟩, A50, H⟩ := H
  replace H : ((spec_WindPair.f t282 t283).bind fun bt286 => ((impl_MeanWind.f k (([(⟨t282, t283⟩ : S54)] : List (S54))) l1).bind fun bt294 => ((impl_WindPair.f t282 t283 l1).bind fun bt299 => ((spec_Same.f k bt286.1 bt299.1).bind fun t303 => (if t303 = true then ((spec_Known.f bt286.1).bind fun t304 => (laws_FnWinds.j0 k (!t304) l1 t282 t283 bt286.1 bt286.2 bt294.1 bt294.2)) else (laws_FnWinds.j0 k true l1 t282 t283 bt286.1 bt286.2 bt294.1 bt294.2)))))) = some r := H
  have A5 := Aside0.mk A50
  clear A50
  replace H := Option.bind_eq_some_iff.mp H
  obtain ⟨⟨t286, t288⟩, A60, H⟩ := H
  replace H : ((impl_MeanWind.f k (([(⟨t282, t283⟩ : S54)] : List (S54))) l1).bind fun bt294 => ((impl_WindPair.f t282 t283 l1).bind fun bt299 => ((spec_Same.f k t286 bt299.1).bind fun t303 => (if t303 = true then ((spec_Known.f t286).bind fun t304 => (laws_FnWinds.j0 k (!t304) l1 t282 t283 t286 t288 bt294.1 bt294.2)) else (laws_FnWinds.j0 k true l1 t282 t283 t286 t288 bt294.1 bt294.2))))) = some r := H
  have A6 := Aside0.mk A60
  clear A60
  obtain ⟨y291, hy291⟩ : ∃ y_ : List (S54), y_ = (([(⟨t282, t283⟩ : S54)] : List (S54))) := ⟨_, rfl⟩
  replace H : ((impl_MeanWind.f k y291 l1).bind fun bt294 => ((impl_WindPair.f t282 t283 l1).bind fun bt299 => ((spec_Same.f k t286 bt299.1).bind fun t303 => (if t303 = true then ((spec_Known.f t286).bind fun t304 => (laws_FnWinds.j0 k (!t304) l1 t282 t283 t286 t288 bt294.1 bt294.2)) else (laws_FnWinds.j0 k true l1 t282 t283 t286 t288 bt294.1 bt294.2))))) = some r := by first | (rw [hy291]; with_reducible exact H) | (have H2_ := (Option.bind_some _ _).symm.trans H; rw [hy291]; with_reducible exact H2_) | (have H2_ := (Option.bind_some _ _).symm.trans H; with_reducible exact H2_) | with_reducible exact H | (rw [hy291]; exact H) | exact H
  have Ny291 := Aside0.mk hy291
  clear hy291
  replace H := Option.bind_eq_some_iff.mp H
  obtain ⟨⟨t294, t296⟩, A70, H⟩ := H
  replace H : ((impl_WindPair.f t282 t283 l1).bind fun bt299 => ((spec_Same.f k t286 bt299.1).bind fun t303 => (if t303 = true then ((spec_Known.f t286).bind fun t304 => (laws_FnWinds.j0 k (!t304) l1 t282 t283 t286 t288 t294 t296)) else (laws_FnWinds.j0 k true l1 t282 t283 t286 t288 t294 t296)))) = some r := H
  have A7 := Aside0.mk A70
  clear A70
  have HC8 := Aside0.mk H
  clear H
  go_enter Tryd.func8, Tryd.ntmps8
  go_upto_region 6 with (first | ((with_reducible refine gate_callee (f := 34) rfl ?_); refine goesL_ (some 8) rfl rfl Tryd.func34 (by kernel_rfl) rfl #[.slice A0 l0.length c0] rfl (by (try simp only [List.map_toArray, List.map_cons, List.map_nil]); first | done | rfl | (simp only [List.length_drop, List.length_take]; rfl)) ?_; (with_reducible refine (laws_big.calls _ _ l0 false _ ?side1 ?side2 A3.out).mono ?_); (case side1 => repeat (first | exact HR0.out | (with_reducible refine Kd.C_alloc ?_ _) | (with_reducible refine Kd.C_drewN ?_ _) | (with_reducible refine Kd.C_drew ?_))); (case side2 => exact HC0.out); rintro e w' ⟨rfl, ⟨nd, rfl⟩⟩; refine ⟨_, rfl, ?_⟩) | ((with_reducible refine gate_callee (f := 35) rfl ?_); refine goesL_ (some 10) rfl rfl Tryd.func35 (by kernel_rfl) rfl #[.slice A0 l0.length c0] rfl (by (try simp only [List.map_toArray, List.map_cons, List.map_nil]); first | done | rfl | (simp only [List.length_drop, List.length_take]; rfl)) ?_; (with_reducible refine (spec_DrawWindPair.calls k _ _ l0 t282 t283 _ ?side1 ?side2 A5.out).mono ?_); (case side1 => repeat (first | exact HR0.out | (with_reducible refine Kd.C_alloc ?_ _) | (with_reducible refine Kd.C_drewN ?_ _) | (with_reducible refine Kd.C_drew ?_))); (case side2 => exact HC0.out); rintro e w9 ⟨pr284, rfl, hb⟩; refine ⟨_, rfl, ?_⟩; have n0_ := Aside0.mk (below_step (by repeat (first | (with_reducible first | exact HB.out | apply below_alloc | apply pw_below_drewN | apply below_drew1) | exact HB.out)) hb); clear HB; have HB := n0_; clear n0_; (try clear hb); (try clear hb2); (try clear hk); (try clear hi)) | ((with_reducible refine gate_dst (N := 3) rfl ?_); refine box_event ?hg (N := 3) ?hd (cs := #[.int .i64 0, .float .f64 0]) (t := 54) ?hr ?_; (case hd => rfl); (case hg => rfl); (case hr => first | (go_simp; done) | (go_simp; rfl)); intro gb285 hg w10 hbox hb; have n0_ := Aside0.mk (below_step (by repeat (first | (with_reducible first | exact HB.out | apply below_alloc | apply pw_below_drewN | apply below_drew1) | exact HB.out)) hb); have n1_ := Aside0.mk (hbox); have n2_ := Aside0.mk ((by rw [hg]; exact (below_size (by repeat (first | (with_reducible first | exact HB.out | apply below_alloc | apply pw_below_drewN | apply below_drew1) | exact HB.out))) : w.heap.size ≤ gb285)); have n3_ := Aside0.mk ((by rw [hg]; exact (below_size (by repeat (first | (with_reducible first | exact HB.out | apply below_alloc | apply pw_below_drewN | apply below_drew1) | exact HB.out))) : w.heap.size ≤ gb285)); clear HB; have HB := n0_; have BK285 := n1_; have GW285 := n2_; have GE285 := n3_; clear n0_ n1_ n2_ n3_; clear hb hbox hg; have hcz11_0 : w10.cell? ⟨gb285, 0, none⟩ = some (.int .i64 0) := (blk_cell BK285.out 0).trans rfl; have hcz11_1 : w10.cell? ⟨gb285, 1, none⟩ = some (.float .f64 0) := (blk_cell BK285.out 1).trans rfl; have hfz11_0 := blk_frozen BK285.out 0; have hfz11_1 := blk_frozen BK285.out 1) | ((with_reducible refine gate_callee (f := 36) rfl ?_); refine goesL_ (some 12) rfl rfl Tryd.func36 (by kernel_rfl) rfl #[.agg #[.int .i64 t282, .float .f64 (un pr284 t283)]] rfl (by (try simp only [List.map_toArray, List.map_cons, List.map_nil]); first | done | rfl | (simp only [List.length_drop, List.length_take]; rfl)) ?_; (with_reducible refine (spec_WindPair.calls t282 pr284 t283 t286 t288 _ A6.out).mono ?_); rintro e w12 ⟨pr287, pr289, rfl, hb⟩; refine ⟨_, rfl, ?_⟩; have n0_ := Aside0.mk (blk_below (g := gb285) (o := .cells #[.int .i64 t282, .float .f64 (un pr284 t283)] 54 (0, 0)) (by (with_reducible repeat (first | refine blk_drewN ?_ _ | refine blk_drew ?_ | refine blk_alloc ?_ _)); refine blk_put (cs := #[.int .i64 t282, .float .f64 0]) ?_ 1 _ rfl; (with_reducible repeat (first | refine blk_drewN ?_ _ | refine blk_drew ?_ | refine blk_alloc ?_ _)); refine blk_put (cs := #[.int .i64 0, .float .f64 0]) ?_ 0 _ rfl; (with_reducible repeat (first | refine blk_drewN ?_ _ | refine blk_drew ?_ | refine blk_alloc ?_ _)); exact BK285.out) hb); have n1_ := Aside0.mk (below_step (by repeat (first | (with_reducible first | exact HB.out | apply below_alloc | apply pw_below_drewN | apply below_drew1 | refine below_set ?_ GE285.out) | exact HB.out)) hb); clear BK285; clear HB; have BK285 := n0_; have HB := n1_; clear n0_ n1_; (try clear hb); (try clear hb2); (try clear hk); (try clear hi)) | ((with_reducible refine gate_dst (N := 4) rfl ?_); refine box_event ?hg (N := 4) ?hd (cs := #[.float .f64 0, .float .f64 0]) (t := 42) ?hr ?_; (case hd => rfl); (case hg => rfl); (case hr => first | (go_simp; done) | (go_simp; rfl)); intro gb290 hg w13 hbox hb; have n0_ := Aside0.mk (blk_below (g := gb285) (o := .cells #[.int .i64 t282, .float .f64 (un pr284 t283)] 54 (0, 0)) (by (with_reducible repeat (first | refine blk_drewN ?_ _ | refine blk_drew ?_ | refine blk_alloc ?_ _)); exact BK285.out) hb); have n1_ := Aside0.mk (below_step (by repeat (first | (with_reducible first | exact HB.out | apply below_alloc | apply pw_below_drewN | apply below_drew1 | refine below_set ?_ GE285.out) | exact HB.out)) hb); have n2_ := Aside0.mk (hbox); have n3_ := Aside0.mk ((by rw [hg]; exact (below_size (by repeat (first | (with_reducible first | exact HB.out | apply below_alloc | apply pw_below_drewN | apply below_drew1 | refine below_set ?_ GE285.out) | exact HB.out))) : w.heap.size ≤ gb290)); have n4_ := Aside0.mk ((by rw [hg]; exact (below_size (by repeat (first | (with_reducible first | exact HB.out | apply below_alloc | apply pw_below_drewN | apply below_drew1 | refine below_set ?_ GE285.out) | exact HB.out))) : w.heap.size ≤ gb290)); have n5_ := Aside0.mk ((by rw [hg]; exact Nat.ne_of_lt (blk_lt (g := gb285) (o := .cells #[.int .i64 t282, .float .f64 (un pr284 t283)] 54 (0, 0)) (by (with_reducible repeat (first | refine blk_drewN ?_ _ | refine blk_drew ?_ | refine blk_alloc ?_ _)); exact BK285.out)) : gb285 ≠ gb290)); have n6_ := Aside0.mk ((by rw [hg]; exact Nat.ne_of_gt (blk_lt (g := gb285) (o := .cells #[.int .i64 t282, .float .f64 (un pr284 t283)] 54 (0, 0)) (by (with_reducible repeat (first | refine blk_drewN ?_ _ | refine blk_drew ?_ | refine blk_alloc ?_ _)); exact BK285.out)) : gb290 ≠ gb285)); clear BK285; clear HB; have BK285 := n0_; have HB := n1_; have BK290 := n2_; have GW290 := n3_; have GE290 := n4_; have NB285_290 := n5_; have NB290_285 := n6_; clear n0_ n1_ n2_ n3_ n4_ n5_ n6_; clear hb hbox hg; have hnb14 := NB290_285.out; have hnc14 := NB285_290.out; have hcz15_0 : w13.cell? ⟨gb290, 0, none⟩ = some (.float .f64 0) := (blk_cell BK290.out 0).trans rfl; have hcz15_1 : w13.cell? ⟨gb290, 1, none⟩ = some (.float .f64 0) := (blk_cell BK290.out 1).trans rfl; have hfz15_0 := blk_frozen BK290.out 0; have hfz15_1 := blk_frozen BK290.out 1; have hcz16_0 : w13.cell? ⟨gb285, 0, none⟩ = some (.int .i64 t282) := (blk_cell BK285.out 0).trans rfl; have hcz16_1 : w13.cell? ⟨gb285, 1, none⟩ = some (.float .f64 (un pr284 t283)) := (blk_cell BK285.out 1).trans rfl; have hfz16_0 := blk_frozen BK285.out 0; have hfz16_1 := blk_frozen BK285.out 1) | ((with_reducible refine gate_dst (N := 14) rfl ?_); refine Kd.R_lit k54 _ 54 ?hg (N := 14) ?hd (xs := ([(⟨t282, t283⟩ : S54)] : List (S54))) (inner := [.int .i64 t282, .float .f64 (un pr284 t283)]) (ok := fun _ => True) (okp := fun _ => True) ?hr ?hp (fun _ hk => hk) trivial (Below.refl _ _) (Nat.le_refl _) (by simp) ?_; (case hd => rfl); (case hg => rfl); (case hr => first | (go_simp; done) | (go_simp; rfl)); (case hp => exact (Reps.c2 (show Kd.M k54 _ _ _ (⟨t282, t283⟩ : S54) [.int .i64 t282, .float .f64 (un pr284 t283)] from (k54_mkM _ _ _ (⟨t282, t283⟩ : S54) )) (Reps.none _ _))); intro v292 w17 ho18 hb hg_ hnew_; clear hg_ hnew_; (first | rw [← Ny291.out] at ho18 | (simp only [Int.reduceToNat] at ho18; rw [← Ny291.out] at ho18)); have n0_ := Aside0.mk (Kd.R_lower (Kd.R_newB ho18 (g := gb285) (o := .cells #[.int .i64 t282, .float .f64 (un pr284 t283)] 54 (0, 0)) (by (with_reducible repeat (first | refine blk_drewN ?_ _ | refine blk_drew ?_ | refine blk_alloc ?_ _)); refine blk_far ?_ NB285_290.out _; (with_reducible repeat (first | refine blk_drewN ?_ _ | refine blk_drew ?_ | refine blk_alloc ?_ _)); refine blk_far ?_ NB285_290.out _; (with_reducible repeat (first | refine blk_drewN ?_ _ | refine blk_drew ?_ | refine blk_alloc ?_ _)); exact BK285.out)) (below_size (by repeat (first | (with_reducible first | exact HB.out | apply below_alloc | apply pw_below_drewN | apply below_drew1 | refine below_set ?_ GE285.out | refine below_set ?_ GE290.out) | exact HB.out)))); have n1_ := Aside0.mk (blk_below (g := gb285) (o := .cells #[.int .i64 t282, .float .f64 (un pr284 t283)] 54 (0, 0)) (by (with_reducible repeat (first | refine blk_drewN ?_ _ | refine blk_drew ?_ | refine blk_alloc ?_ _)); refine blk_far ?_ NB285_290.out _; (with_reducible repeat (first | refine blk_drewN ?_ _ | refine blk_drew ?_ | refine blk_alloc ?_ _)); refine blk_far ?_ NB285_290.out _; (with_reducible repeat (first | refine blk_drewN ?_ _ | refine blk_drew ?_ | refine blk_alloc ?_ _)); exact BK285.out) hb); have n2_ := Aside0.mk (blk_below (g := gb290) (o := .cells #[.float .f64 (un pr287 t286), .float .f64 (un pr289 t288)] 42 (0, 0)) (by (with_reducible repeat (first | refine blk_drewN ?_ _ | refine blk_drew ?_ | refine blk_alloc ?_ _)); refine blk_put (cs := #[.float .f64 (un pr287 t286), .float .f64 0]) ?_ 1 _ rfl; (with_reducible repeat (first | refine blk_drewN ?_ _ | refine blk_drew ?_ | refine blk_alloc ?_ _)); refine blk_put (cs := #[.float .f64 0, .float .f64 0]) ?_ 0 _ rfl; (with_reducible repeat (first | refine blk_drewN ?_ _ | refine blk_drew ?_ | refine blk_alloc ?_ _)); exact BK290.out) hb); have n3_ := Aside0.mk (below_step (by repeat (first | (with_reducible first | exact HB.out | apply below_alloc | apply pw_below_drewN | apply below_drew1 | refine below_set ?_ GE285.out | refine below_set ?_ GE290.out) | exact HB.out)) hb); clear BK285; clear BK290; clear HB; have HO293 := n0_; have BK285 := n1_; have BK290 := n2_; have HB := n3_; clear n0_ n1_ n2_ n3_; clear hb ho18; obtain ⟨Ao19, co19, eo19⟩ := Kd.R_slice HO293.out; subst eo19) | ((with_reducible refine gate_callee (f := 25) rfl ?_); refine goesL_ (some 15) rfl rfl Tryd.func25 (by kernel_rfl) rfl #[.slice Ao19 y291.length co19] rfl (by (try simp only [List.map_toArray, List.map_cons, List.map_nil]); first | done | rfl | (simp only [List.length_drop, List.length_take]; rfl)) ?_; (with_reducible refine (impl_MeanWind.calls k _ _ y291 l1 t294 t296 _ ?side1 ?side2 ?side3 ?side4 ?side5 A7.out).mono ?_); (case side1 => repeat (first | exact (Kd.R_reads' HO293.out).2.2 | (with_reducible refine Kd.C_alloc ?_ _) | (with_reducible refine Kd.C_drewN ?_ _) | (with_reducible refine Kd.C_drew ?_))); (case side2 => exact (Kd.R_reads' HO293.out).2.1); (case side3 => repeat (first | exact (Kd.C_below HR1.out HB.out) | (with_reducible refine Kd.C_alloc ?_ _) | (with_reducible refine Kd.C_drewN ?_ _) | (with_reducible refine Kd.C_drew ?_))); (case side4 => exact HC1.out); (case side5 => exact HN1.out); rintro e w20 ⟨pr295, pr297, rfl, hb⟩; refine ⟨_, rfl, ?_⟩; have n0_ := Aside0.mk (Kd.R_below (by (with_reducible repeat (first | apply Kd.R_alloc | apply Kd.R_drewN | apply Kd.R_drew)); exact HO293.out) hb); have n1_ := Aside0.mk (blk_below (g := gb285) (o := .cells #[.int .i64 t282, .float .f64 (un pr284 t283)] 54 (0, 0)) (by (with_reducible repeat (first | refine blk_drewN ?_ _ | refine blk_drew ?_ | refine blk_alloc ?_ _)); exact BK285.out) hb); have n2_ := Aside0.mk (blk_below (g := gb290) (o := .cells #[.float .f64 (un pr287 t286), .float .f64 (un pr289 t288)] 42 (0, 0)) (by (with_reducible repeat (first | refine blk_drewN ?_ _ | refine blk_drew ?_ | refine blk_alloc ?_ _)); exact BK290.out) hb); have n3_ := Aside0.mk (below_step (by repeat (first | (with_reducible first | exact HB.out | apply below_alloc | apply pw_below_drewN | apply below_drew1 | refine below_set ?_ GE285.out | refine below_set ?_ GE290.out) | exact HB.out)) hb); clear HO293; clear BK285; clear BK290; clear HB; have HO293 := n0_; have BK285 := n1_; have BK290 := n2_; have HB := n3_; clear n0_ n1_ n2_ n3_; (try clear hb); (try clear hb2); (try clear hk); (try clear hi)) | ((with_reducible refine gate_dst (N := 5) rfl ?_); refine box_event ?hg (N := 5) ?hd (cs := #[.float .f64 0, .float .f64 0]) (t := 42) ?hr ?_; (case hd => rfl); (case hg => rfl); (case hr => first | (go_simp; done) | (go_simp; rfl)); intro gb298 hg w21 hbox hb; have n0_ := Aside0.mk (Kd.R_below (by (with_reducible repeat (first | apply Kd.R_alloc | apply Kd.R_drewN | apply Kd.R_drew)); exact HO293.out) hb); have n1_ := Aside0.mk (blk_below (g := gb285) (o := .cells #[.int .i64 t282, .float .f64 (un pr284 t283)] 54 (0, 0)) (by (with_reducible repeat (first | refine blk_drewN ?_ _ | refine blk_drew ?_ | refine blk_alloc ?_ _)); exact BK285.out) hb); have n2_ := Aside0.mk (blk_below (g := gb290) (o := .cells #[.float .f64 (un pr287 t286), .float .f64 (un pr289 t288)] 42 (0, 0)) (by (with_reducible repeat (first | refine blk_drewN ?_ _ | refine blk_drew ?_ | refine blk_alloc ?_ _)); exact BK290.out) hb); have n3_ := Aside0.mk (below_step (by repeat (first | (with_reducible first | exact HB.out | apply below_alloc | apply pw_below_drewN | apply below_drew1 | refine below_set ?_ GE285.out | refine below_set ?_ GE290.out) | exact HB.out)) hb); have n4_ := Aside0.mk (hbox); have n5_ := Aside0.mk ((by rw [hg]; exact (below_size (by repeat (first | (with_reducible first | exact HB.out | apply below_alloc | apply pw_below_drewN | apply below_drew1 | refine below_set ?_ GE285.out | refine below_set ?_ GE290.out) | exact HB.out))) : w.heap.size ≤ gb298)); have n6_ := Aside0.mk ((by rw [hg]; exact (below_size (by repeat (first | (with_reducible first | exact HB.out | apply below_alloc | apply pw_below_drewN | apply below_drew1 | refine below_set ?_ GE285.out | refine below_set ?_ GE290.out) | exact HB.out))) : w.heap.size ≤ gb298)); have n7_ := Aside0.mk ((by rw [hg]; exact Nat.ne_of_lt (blk_lt (g := gb285) (o := .cells #[.int .i64 t282, .float .f64 (un pr284 t283)] 54 (0, 0)) (by (with_reducible repeat (first | refine blk_drewN ?_ _ | refine blk_drew ?_ | refine blk_alloc ?_ _)); exact BK285.out)) : gb285 ≠ gb298)); have n8_ := Aside0.mk ((by rw [hg]; exact Nat.ne_of_gt (blk_lt (g := gb285) (o := .cells #[.int .i64 t282, .float .f64 (un pr284 t283)] 54 (0, 0)) (by (with_reducible repeat (first | refine blk_drewN ?_ _ | refine blk_drew ?_ | refine blk_alloc ?_ _)); exact BK285.out)) : gb298 ≠ gb285)); have n9_ := Aside0.mk ((by rw [hg]; exact Nat.ne_of_lt (blk_lt (g := gb290) (o := .cells #[.float .f64 (un pr287 t286), .float .f64 (un pr289 t288)] 42 (0, 0)) (by (with_reducible repeat (first | refine blk_drewN ?_ _ | refine blk_drew ?_ | refine blk_alloc ?_ _)); exact BK290.out)) : gb290 ≠ gb298)); have n10_ := Aside0.mk ((by rw [hg]; exact Nat.ne_of_gt (blk_lt (g := gb290) (o := .cells #[.float .f64 (un pr287 t286), .float .f64 (un pr289 t288)] 42 (0, 0)) (by (with_reducible repeat (first | refine blk_drewN ?_ _ | refine blk_drew ?_ | refine blk_alloc ?_ _)); exact BK290.out)) : gb298 ≠ gb290)); clear HO293; clear BK285; clear BK290; clear HB; have HO293 := n0_; have BK285 := n1_; have BK290 := n2_; have HB := n3_; have BK298 := n4_; have GW298 := n5_; have GE298 := n6_; have NB285_298 := n7_; have NB298_285 := n8_; have NB290_298 := n9_; have NB298_290 := n10_; clear n0_ n1_ n2_ n3_ n4_ n5_ n6_ n7_ n8_ n9_ n10_; clear hb hbox hg; have hnb22 := NB298_285.out; have hnc22 := NB285_298.out; have hnb23 := NB298_290.out; have hnc23 := NB290_298.out; have hcz24_0 : w21.cell? ⟨gb298, 0, none⟩ = some (.float .f64 0) := (blk_cell BK298.out 0).trans rfl; have hcz24_1 : w21.cell? ⟨gb298, 1, none⟩ = some (.float .f64 0) := (blk_cell BK298.out 1).trans rfl; have hfz24_0 := blk_frozen BK298.out 0; have hfz24_1 := blk_frozen BK298.out 1))
  (try simp only [Act.put, sqA, sqZ, sqS])
  go_cut [28] (fun v28 wc => ∃ (kq : Nat) (x28_7 : Bool), v28 = .bool x28_7 ∧ Aside0 (laws_FnWinds.j0 kq x28_7 l1 t282 t283 t286 t288 t294 t296 = some r) ∧ Aside0 (kq ≤ k) ∧ Aside0 (wc.heap[gb285]? = some (.cells #[.int .i64 t282, .float .f64 (un pr284 t283)] 54 (0, 0))) ∧ Aside0 (wc.heap[gb290]? = some (.cells #[.float .f64 (un pr287 t286), .float .f64 (un pr289 t288)] 42 (0, 0))) ∧ Aside0 (wc.heap[gb298]? = some (.cells #[.float .f64 (un pr295 t294), .float .f64 (un pr297 t296)] 42 (0, 0))) ∧ Aside0 (Below w.heap.size w wc))
  case first =>
   have H := HC8.out
   clear HC8
   replace H := Option.bind_eq_some_iff.mp H
   obtain ⟨⟨t299, t301⟩, A250, H⟩ := H
   replace H : ((spec_Same.f k t286 t299).bind fun t303 => (if t303 = true then ((spec_Known.f t286).bind fun t304 => (laws_FnWinds.j0 k (!t304) l1 t282 t283 t286 t288 t294 t296)) else (laws_FnWinds.j0 k true l1 t282 t283 t286 t288 t294 t296))) = some r := H
   have A25 := Aside0.mk A250
   clear A250
   replace H := Option.bind_eq_some_iff.mp H
   obtain ⟨t303, A260, H⟩ := H
   replace H : (if t303 = true then ((spec_Known.f t286).bind fun t304 => (laws_FnWinds.j0 k (!t304) l1 t282 t283 t286 t288 t294 t296)) else (laws_FnWinds.j0 k true l1 t282 t283 t286 t288 t294 t296)) = some r := H
   have A26 := Aside0.mk A260
   clear A260
   by_cases c27 : t303 = true
   ·subst c27
    have H1 : ((spec_Known.f t286).bind fun t304 => (laws_FnWinds.j0 k (!t304) l1 t282 t283 t286 t288 t294 t296)) = some r := by rw [if_pos rfl] at H; exact H
    clear H
    have H := H1
    clear H1
    replace H := Option.bind_eq_some_iff.mp H
    obtain ⟨t304, A280, H⟩ := H
    replace H : (laws_FnWinds.j0 k (!t304) l1 t282 t283 t286 t288 t294 t296) = some r := H
    have A28 := Aside0.mk A280
    clear A280
    have H' := Aside0.mk H
    clear H
    try go_wp2
    have n0_ : Aside0 (Kd.R k54 54 ((w21.setCell ⟨gb298, 0, none⟩ (.float .f64 (un pr295 t294))).setCell ⟨gb298, 1, none⟩ (.float .f64 (un pr297 t296))) w.heap.size (fun k_ => k_ ≠ gb285) (.slice Ao19 y291.length co19) y291) := ⟨by (with_reducible repeat (first | apply Kd.R_alloc | apply Kd.R_drewN | apply Kd.R_drew)); exact Kd.R_mono (Kd.R_far (p := ⟨gb298, 1, none⟩) (Kd.R_far (p := ⟨gb298, 0, none⟩) (Kd.R_types HO293.out BK298.out (by decide)) (fun _ hk => hk.2) (.float .f64 (un pr295 t294))) (fun _ hk => hk.2) (.float .f64 (un pr297 t296))) (fun _ hk => hk.1.2)⟩
    have n1_ : Aside0 (((w21.setCell ⟨gb298, 0, none⟩ (.float .f64 (un pr295 t294))).setCell ⟨gb298, 1, none⟩ (.float .f64 (un pr297 t296))).heap[gb285]? = some (.cells #[.int .i64 t282, .float .f64 (un pr284 t283)] 54 (0, 0))) := ⟨by (with_reducible repeat (first | refine blk_drewN ?_ _ | refine blk_drew ?_ | refine blk_alloc ?_ _)); refine blk_far ?_ NB285_298.out _; (with_reducible repeat (first | refine blk_drewN ?_ _ | refine blk_drew ?_ | refine blk_alloc ?_ _)); refine blk_far ?_ NB285_298.out _; (with_reducible repeat (first | refine blk_drewN ?_ _ | refine blk_drew ?_ | refine blk_alloc ?_ _)); exact BK285.out⟩
    have n2_ : Aside0 (((w21.setCell ⟨gb298, 0, none⟩ (.float .f64 (un pr295 t294))).setCell ⟨gb298, 1, none⟩ (.float .f64 (un pr297 t296))).heap[gb290]? = some (.cells #[.float .f64 (un pr287 t286), .float .f64 (un pr289 t288)] 42 (0, 0))) := ⟨by (with_reducible repeat (first | refine blk_drewN ?_ _ | refine blk_drew ?_ | refine blk_alloc ?_ _)); refine blk_far ?_ NB290_298.out _; (with_reducible repeat (first | refine blk_drewN ?_ _ | refine blk_drew ?_ | refine blk_alloc ?_ _)); refine blk_far ?_ NB290_298.out _; (with_reducible repeat (first | refine blk_drewN ?_ _ | refine blk_drew ?_ | refine blk_alloc ?_ _)); exact BK290.out⟩
    have n3_ : Aside0 (((w21.setCell ⟨gb298, 0, none⟩ (.float .f64 (un pr295 t294))).setCell ⟨gb298, 1, none⟩ (.float .f64 (un pr297 t296))).heap[gb298]? = some (.cells #[.float .f64 (un pr295 t294), .float .f64 (un pr297 t296)] 42 (0, 0))) := ⟨by (with_reducible repeat (first | refine blk_drewN ?_ _ | refine blk_drew ?_ | refine blk_alloc ?_ _)); refine blk_put (cs := #[.float .f64 (un pr295 t294), .float .f64 0]) ?_ 1 _ rfl; (with_reducible repeat (first | refine blk_drewN ?_ _ | refine blk_drew ?_ | refine blk_alloc ?_ _)); refine blk_put (cs := #[.float .f64 0, .float .f64 0]) ?_ 0 _ rfl; (with_reducible repeat (first | refine blk_drewN ?_ _ | refine blk_drew ?_ | refine blk_alloc ?_ _)); exact BK298.out⟩
    have n4_ : Aside0 (Below w.heap.size w ((w21.setCell ⟨gb298, 0, none⟩ (.float .f64 (un pr295 t294))).setCell ⟨gb298, 1, none⟩ (.float .f64 (un pr297 t296)))) := ⟨by repeat (first | (with_reducible first | exact HB.out | apply below_alloc | apply pw_below_drewN | apply below_drew1 | refine below_set ?_ GE285.out | refine below_set ?_ GE290.out | refine below_set ?_ GE298.out) | exact HB.out)⟩
    (try clear HO293)
    (try clear BK285)
    (try clear BK290)
    (try clear BK298)
    (try clear HB)
    generalize ((w21.setCell ⟨gb298, 0, none⟩ (.float .f64 (un pr295 t294))).setCell ⟨gb298, 1, none⟩ (.float .f64 (un pr297 t296))) = w29 at n0_ n1_ n2_ n3_ n4_ ⊢
    have HO293 := n0_
    have BK285 := n1_
    have BK290 := n2_
    have BK298 := n3_
    have HB := n4_
    clear n0_ n1_ n2_ n3_ n4_
    have n0_ := Aside0.mk (Kd.R_drew HO293.out)
    have n1_ := Aside0.mk (blk_drew BK285.out)
    have n2_ := Aside0.mk (blk_drew BK290.out)
    have n3_ := Aside0.mk (blk_drew BK298.out)
    have n4_ := Aside0.mk (below_drew1 HB.out)
    clear HO293
    clear BK285
    clear BK290
    clear BK298
    clear HB
    have HO293 := n0_
    have BK285 := n1_
    have BK290 := n2_
    have BK298 := n3_
    have HB := n4_
    clear n0_ n1_ n2_ n3_ n4_
    refine start_ (n := 13) (S := fun w' => w'.cell? ⟨gb290, 0, none⟩ = some (.float .f64 (un pr287 t286)) ∧ w'.cell? ⟨gb290, 1, none⟩ = some (.float .f64 (un pr289 t288)) ∧ w'.cell? ⟨gb285, 0, none⟩ = some (.int .i64 t282) ∧ w'.cell? ⟨gb285, 1, none⟩ = some (.float .f64 (un pr284 t283))) (ds := []) #[false, false, false, false, false, false, false, false, false, false, false, false, false] (by kernel_rfl) rfl rfl ⟨(blk_cell BK290.out 0).trans rfl, (blk_cell BK290.out 1).trans rfl, (blk_cell BK285.out 0).trans rfl, (blk_cell BK285.out 1).trans rfl⟩ (fun hHeld => ?_); refine with_tabW laws_FnWinds.tab6 laws_FnWinds.bits6 (fun HT_ HW_ => ?_)
    generalize w29.drew = w30 at HO293 BK285 BK290 BK298 HB hHeld ⊢
    refine pure_ (i := 0) (N := some 16) (v := ?_) (a' := ?_) #[true, false, false, false, false, false, false, false, false, false, false, false, false] rfl rfl (any_of HT_.out (by kernel_rfl)) (fun _ _ _ h => h) (Or.inl ⟨by rfl, ?_⟩) ?_ ?_
    rotate_left
    ·intro w'
     go_simp
     with_reducible rfl
    rotate_left
    ·simp only [Act.put, sqA, sqZ, sqS, i64_w, i32_w]
     rfl
    refine take_ (i := 1) (N := some 17) (v := ?_) (a' := ?_) #[true, true, false, false, false, false, false, false, false, false, false, false, false] rfl rfl (take_ofW HT_.out HW_.out (by kernel_rfl)) (fun _ _ _ h => h) (Or.inl ⟨by rfl, ?_⟩) hHeld ?_ ?_
    rotate_left
    ·rintro w' ⟨s0, s1, s2, s3⟩
     go_simp
     with_reducible rfl
    rotate_left
    ·simp only [Act.put, sqA, sqZ, sqS, i64_w, i32_w]
     rfl
    refine take_ (i := 2) (N := some 18) (v := ?_) (a' := ?_) #[true, true, true, false, false, false, false, false, false, false, false, false, false] rfl rfl (take_ofW HT_.out HW_.out (by kernel_rfl)) (fun _ _ _ h => h) (Or.inl ⟨by rfl, ?_⟩) hHeld ?_ ?_
    rotate_left
    ·rintro w' ⟨s0, s1, s2, s3⟩
     go_simp
     with_reducible rfl
    rotate_left
    ·simp only [Act.put, sqA, sqZ, sqS, i64_w, i32_w]
     rfl
    refine one_ (i := 3) (N := some 19) #[true, true, true, true, false, false, false, false, false, false, false, false, false] rfl rfl (one_of HT_.out (by kernel_rfl)) (by decide) (fun K hK => ?_)
    refine goes_ Tryd.func38 (by kernel_rfl) rfl #[.agg #[.int .i64 t282, .float .f64 (un pr284 t283)]] (by rfl) rfl rfl (by (try simp only [List.map_toArray, List.map_cons, List.map_nil]); first | done | rfl | (simp only [List.length_drop, List.length_take]; rfl)) ?_
    with_reducible refine (impl_WindPair.calls t282 pr284 t283 l1 t299 t301 _ ?side1 ?side2 ?side3 A25.out).mono ?_
    (case side1 => repeat (first | exact (Kd.C_below HR1.out HB.out) | (with_reducible refine Kd.C_alloc ?_ _) | (with_reducible refine Kd.C_drewN ?_ _) | (with_reducible refine Kd.C_drew ?_)))
    (case side2 => exact HC1.out)
    (case side3 => exact HN1.out)
    rintro e w31 ⟨pr300, pr302, rfl, hb⟩
    refine ⟨_, rfl, ?_⟩
    have n0_ := Aside0.mk (Kd.R_below (by (with_reducible repeat (first | apply Kd.R_alloc | apply Kd.R_drewN | apply Kd.R_drew)); exact HO293.out) hb)
    have n1_ := Aside0.mk (blk_below (g := gb285) (o := .cells #[.int .i64 t282, .float .f64 (un pr284 t283)] 54 (0, 0)) (by (with_reducible repeat (first | refine blk_drewN ?_ _ | refine blk_drew ?_ | refine blk_alloc ?_ _)); exact BK285.out) hb)
    have n2_ := Aside0.mk (blk_below (g := gb290) (o := .cells #[.float .f64 (un pr287 t286), .float .f64 (un pr289 t288)] 42 (0, 0)) (by (with_reducible repeat (first | refine blk_drewN ?_ _ | refine blk_drew ?_ | refine blk_alloc ?_ _)); exact BK290.out) hb)
    have n3_ := Aside0.mk (blk_below (g := gb298) (o := .cells #[.float .f64 (un pr295 t294), .float .f64 (un pr297 t296)] 42 (0, 0)) (by (with_reducible repeat (first | refine blk_drewN ?_ _ | refine blk_drew ?_ | refine blk_alloc ?_ _)); exact BK298.out) hb)
    have n4_ := Aside0.mk (below_step (by repeat (first | (with_reducible first | exact HB.out | apply below_alloc | apply pw_below_drewN | apply below_drew1 | refine below_set ?_ GE285.out | refine below_set ?_ GE290.out | refine below_set ?_ GE298.out) | exact HB.out)) hb)
    clear HO293
    clear BK285
    clear BK290
    clear BK298
    clear HB
    have HO293 := n0_
    have BK285 := n1_
    have BK290 := n2_
    have BK298 := n3_
    have HB := n4_
    clear n0_ n1_ n2_ n3_ n4_
    (try clear hb)
    (try clear hb2)
    (try clear hk)
    (try clear hi)
    refine hK.out _ _ ⟨(blk_cell BK290.out 0).trans rfl, (blk_cell BK290.out 1).trans rfl, (blk_cell BK285.out 0).trans rfl, (blk_cell BK285.out 1).trans rfl⟩ (fun hHeld => ?_)
    clear hK K
    refine norm_ (a' := ?_) ?_ ?_
    rotate_left
    ·show Act.put _ (some 19) _ = _
     simp only [Act.put, sqA, sqZ, sqS, i64_w, i32_w]
     rfl
    refine pure_ (i := 4) (N := some 20) (v := ?_) (a' := ?_) #[true, true, true, true, true, false, false, false, false, false, false, false, false] rfl rfl (any_of HT_.out (by kernel_rfl)) (fun _ _ _ h => h) (Or.inl ⟨by rfl, ?_⟩) ?_ ?_
    rotate_left
    ·intro w'
     go_simp
     first | with_reducible rfl | rfl
    rotate_left
    ·simp only [Act.put, sqA, sqZ, sqS, i64_w, i32_w]
     rfl
    refine one_ (i := 5) (N := some 21) #[true, true, true, true, true, true, false, false, false, false, false, false, false] rfl rfl (one_of HT_.out (by kernel_rfl)) (by decide) (fun K hK => ?_)
    refine goes_ Tryd.func37 (by kernel_rfl) rfl #[.float .f64 (un pr287 t286), .float .f64 (un pr300 t299)] (by rfl) rfl rfl (by (try simp only [List.map_toArray, List.map_cons, List.map_nil]); first | done | rfl | (simp only [List.length_drop, List.length_take]; rfl)) ?_
    with_reducible refine (spec_Same.calls k pr287 t286 pr300 t299 true _ A26.out).mono ?_
    rintro e w' ⟨rfl, ⟨nd, rfl⟩⟩
    refine ⟨_, rfl, ?_⟩
    refine hK.out _ _ ⟨(blk_cell BK290.out 0).trans rfl, (blk_cell BK290.out 1).trans rfl, (blk_cell BK285.out 0).trans rfl, (blk_cell BK285.out 1).trans rfl⟩ (fun hHeld => ?_)
    clear hK K
    refine norm_ (a' := ?_) ?_ ?_
    rotate_left
    ·show Act.put _ (some 21) _ = _
     simp only [Act.put, sqA, sqZ, sqS, i64_w, i32_w]
     rfl
    refine pure_ (i := 6) (N := some 22) (v := ?_) (a' := ?_) #[true, true, true, true, true, true, true, false, false, false, false, false, false] rfl rfl (any_of HT_.out (by kernel_rfl)) (fun _ _ _ h => h) (Or.inl ⟨by rfl, ?_⟩) ?_ ?_
    rotate_left
    ·intro w'
     go_simp
     with_reducible rfl
    rotate_left
    ·simp only [Act.put, sqA, sqZ, sqS, i64_w, i32_w]
     rfl
    refine pure_ (i := 7) (N := some 23) (v := ?_) (a' := ?_) #[true, true, true, true, true, true, true, true, false, false, false, false, false] rfl rfl (any_of HT_.out (by kernel_rfl)) (fun _ _ _ h => h) (Or.inl ⟨by rfl, ?_⟩) ?_ ?_
    rotate_left
    ·intro w'
     go_simp
     with_reducible rfl
    rotate_left
    ·simp only [Act.put, sqA, sqZ, sqS, i64_w, i32_w]
     rfl
    refine pure_ (i := 8) (N := some 24) (v := ?_) (a' := ?_) #[true, true, true, true, true, true, true, true, true, false, false, false, false] rfl rfl (any_of HT_.out (by kernel_rfl)) (fun _ _ _ h => h) (Or.inl ⟨by rfl, ?_⟩) ?_ ?_
    rotate_left
    ·intro w'
     go_simp
     with_reducible rfl
    rotate_left
    ·simp only [Act.put, sqA, sqZ, sqS, i64_w, i32_w]
     rfl
    refine take_ (i := 9) (N := some 25) (v := ?_) (a' := ?_) #[true, true, true, true, true, true, true, true, true, true, false, false, false] rfl rfl (take_ofW HT_.out HW_.out (by kernel_rfl)) (fun _ _ _ h => h) (Or.inl ⟨by rfl, ?_⟩) hHeld ?_ ?_
    rotate_left
    ·rintro w' ⟨s0, s1, s2, s3⟩
     go_simp
     with_reducible rfl
    rotate_left
    ·simp only [Act.put, sqA, sqZ, sqS, i64_w, i32_w]
     rfl
    refine one_ (i := 10) (N := some 26) #[true, true, true, true, true, true, true, true, true, true, true, false, false] rfl rfl (one_of HT_.out (by kernel_rfl)) (by decide) (fun K hK => ?_)
    refine goes_ Tryd.func39 (by kernel_rfl) rfl #[.float .f64 (un pr287 t286)] (by rfl) rfl rfl (by (try simp only [List.map_toArray, List.map_cons, List.map_nil]); first | done | rfl | (simp only [List.length_drop, List.length_take]; rfl)) ?_
    with_reducible refine (spec_Known.calls pr287 t286 t304 _ A28.out).mono ?_
    rintro e w' ⟨rfl, ⟨nd, rfl⟩⟩
    refine ⟨_, rfl, ?_⟩
    refine hK.out _ _ ⟨(blk_cell BK290.out 0).trans rfl, (blk_cell BK290.out 1).trans rfl, (blk_cell BK285.out 0).trans rfl, (blk_cell BK285.out 1).trans rfl⟩ (fun hHeld => ?_)
    clear hK K
    refine norm_ (a' := ?_) ?_ ?_
    rotate_left
    ·show Act.put _ (some 26) _ = _
     simp only [Act.put, sqA, sqZ, sqS, i64_w, i32_w]
     rfl
    refine pure_ (i := 11) (N := some 27) (v := ?_) (a' := ?_) #[true, true, true, true, true, true, true, true, true, true, true, true, false] rfl rfl (any_of HT_.out (by kernel_rfl)) (fun _ _ _ h => h) (Or.inl ⟨by rfl, ?_⟩) ?_ ?_
    rotate_left
    ·intro w'
     go_simp
     with_reducible rfl
    rotate_left
    ·simp only [Act.put, sqA, sqZ, sqS, i64_w, i32_w]
     rfl
    refine pure_ (i := 12) (N := some 28) (v := ?_) (a' := ?_) #[true, true, true, true, true, true, true, true, true, true, true, true, true] rfl rfl (any_of HT_.out (by kernel_rfl)) (fun _ _ _ h => h) (Or.inl ⟨by rfl, ?_⟩) ?_ ?_
    rotate_left
    ·intro w'
     go_simp
     with_reducible rfl
    rotate_left
    ·simp only [Act.put, sqA, sqZ, sqS, i64_w, i32_w]
     rfl
    refine done_ (done_of HT_.out (by kernel_rfl)) ?_
    try go_wp2
    go_meet
    case rel => exact ⟨_, (!t304), (by first | rfl | (simp; done) | (simp [*]; done)), H', ⟨by first | omega | exact Nat.le_refl _⟩, ⟨by (with_reducible repeat (first | refine blk_drewN ?_ _ | refine blk_drew ?_ | refine blk_alloc ?_ _)); exact BK285.out⟩, ⟨by (with_reducible repeat (first | refine blk_drewN ?_ _ | refine blk_drew ?_ | refine blk_alloc ?_ _)); exact BK290.out⟩, ⟨by (with_reducible repeat (first | refine blk_drewN ?_ _ | refine blk_drew ?_ | refine blk_alloc ?_ _)); exact BK298.out⟩, ⟨by repeat (first | (with_reducible first | exact HB.out | apply below_alloc | apply pw_below_drewN | apply below_drew1 | refine below_set ?_ GE285.out | refine below_set ?_ GE290.out | refine below_set ?_ GE298.out) | exact HB.out)⟩⟩
   ·replace c27 := Bool.eq_false_iff.mpr c27
    subst c27
    have H1 : (laws_FnWinds.j0 k true l1 t282 t283 t286 t288 t294 t296) = some r := by rw [if_neg (show ¬ (false = true) by decide)] at H; exact H
    clear H
    have H := H1
    clear H1
    have H' := Aside0.mk H
    clear H
    try go_wp2
    have n0_ : Aside0 (Kd.R k54 54 ((w21.setCell ⟨gb298, 0, none⟩ (.float .f64 (un pr295 t294))).setCell ⟨gb298, 1, none⟩ (.float .f64 (un pr297 t296))) w.heap.size (fun k_ => k_ ≠ gb285) (.slice Ao19 y291.length co19) y291) := ⟨by (with_reducible repeat (first | apply Kd.R_alloc | apply Kd.R_drewN | apply Kd.R_drew)); exact Kd.R_mono (Kd.R_far (p := ⟨gb298, 1, none⟩) (Kd.R_far (p := ⟨gb298, 0, none⟩) (Kd.R_types HO293.out BK298.out (by decide)) (fun _ hk => hk.2) (.float .f64 (un pr295 t294))) (fun _ hk => hk.2) (.float .f64 (un pr297 t296))) (fun _ hk => hk.1.2)⟩
    have n1_ : Aside0 (((w21.setCell ⟨gb298, 0, none⟩ (.float .f64 (un pr295 t294))).setCell ⟨gb298, 1, none⟩ (.float .f64 (un pr297 t296))).heap[gb285]? = some (.cells #[.int .i64 t282, .float .f64 (un pr284 t283)] 54 (0, 0))) := ⟨by (with_reducible repeat (first | refine blk_drewN ?_ _ | refine blk_drew ?_ | refine blk_alloc ?_ _)); refine blk_far ?_ NB285_298.out _; (with_reducible repeat (first | refine blk_drewN ?_ _ | refine blk_drew ?_ | refine blk_alloc ?_ _)); refine blk_far ?_ NB285_298.out _; (with_reducible repeat (first | refine blk_drewN ?_ _ | refine blk_drew ?_ | refine blk_alloc ?_ _)); exact BK285.out⟩
    have n2_ : Aside0 (((w21.setCell ⟨gb298, 0, none⟩ (.float .f64 (un pr295 t294))).setCell ⟨gb298, 1, none⟩ (.float .f64 (un pr297 t296))).heap[gb290]? = some (.cells #[.float .f64 (un pr287 t286), .float .f64 (un pr289 t288)] 42 (0, 0))) := ⟨by (with_reducible repeat (first | refine blk_drewN ?_ _ | refine blk_drew ?_ | refine blk_alloc ?_ _)); refine blk_far ?_ NB290_298.out _; (with_reducible repeat (first | refine blk_drewN ?_ _ | refine blk_drew ?_ | refine blk_alloc ?_ _)); refine blk_far ?_ NB290_298.out _; (with_reducible repeat (first | refine blk_drewN ?_ _ | refine blk_drew ?_ | refine blk_alloc ?_ _)); exact BK290.out⟩
    have n3_ : Aside0 (((w21.setCell ⟨gb298, 0, none⟩ (.float .f64 (un pr295 t294))).setCell ⟨gb298, 1, none⟩ (.float .f64 (un pr297 t296))).heap[gb298]? = some (.cells #[.float .f64 (un pr295 t294), .float .f64 (un pr297 t296)] 42 (0, 0))) := ⟨by (with_reducible repeat (first | refine blk_drewN ?_ _ | refine blk_drew ?_ | refine blk_alloc ?_ _)); refine blk_put (cs := #[.float .f64 (un pr295 t294), .float .f64 0]) ?_ 1 _ rfl; (with_reducible repeat (first | refine blk_drewN ?_ _ | refine blk_drew ?_ | refine blk_alloc ?_ _)); refine blk_put (cs := #[.float .f64 0, .float .f64 0]) ?_ 0 _ rfl; (with_reducible repeat (first | refine blk_drewN ?_ _ | refine blk_drew ?_ | refine blk_alloc ?_ _)); exact BK298.out⟩
    have n4_ : Aside0 (Below w.heap.size w ((w21.setCell ⟨gb298, 0, none⟩ (.float .f64 (un pr295 t294))).setCell ⟨gb298, 1, none⟩ (.float .f64 (un pr297 t296)))) := ⟨by repeat (first | (with_reducible first | exact HB.out | apply below_alloc | apply pw_below_drewN | apply below_drew1 | refine below_set ?_ GE285.out | refine below_set ?_ GE290.out | refine below_set ?_ GE298.out) | exact HB.out)⟩
    (try clear HO293)
    (try clear BK285)
    (try clear BK290)
    (try clear BK298)
    (try clear HB)
    generalize ((w21.setCell ⟨gb298, 0, none⟩ (.float .f64 (un pr295 t294))).setCell ⟨gb298, 1, none⟩ (.float .f64 (un pr297 t296))) = w32 at n0_ n1_ n2_ n3_ n4_ ⊢
    have HO293 := n0_
    have BK285 := n1_
    have BK290 := n2_
    have BK298 := n3_
    have HB := n4_
    clear n0_ n1_ n2_ n3_ n4_
    have n0_ := Aside0.mk (Kd.R_drew HO293.out)
    have n1_ := Aside0.mk (blk_drew BK285.out)
    have n2_ := Aside0.mk (blk_drew BK290.out)
    have n3_ := Aside0.mk (blk_drew BK298.out)
    have n4_ := Aside0.mk (below_drew1 HB.out)
    clear HO293
    clear BK285
    clear BK290
    clear BK298
    clear HB
    have HO293 := n0_
    have BK285 := n1_
    have BK290 := n2_
    have BK298 := n3_
    have HB := n4_
    clear n0_ n1_ n2_ n3_ n4_
    refine start_ (n := 13) (S := fun w' => w'.cell? ⟨gb290, 0, none⟩ = some (.float .f64 (un pr287 t286)) ∧ w'.cell? ⟨gb290, 1, none⟩ = some (.float .f64 (un pr289 t288)) ∧ w'.cell? ⟨gb285, 0, none⟩ = some (.int .i64 t282) ∧ w'.cell? ⟨gb285, 1, none⟩ = some (.float .f64 (un pr284 t283))) (ds := []) #[false, false, false, false, false, false, false, false, false, false, false, false, false] (by kernel_rfl) rfl rfl ⟨(blk_cell BK290.out 0).trans rfl, (blk_cell BK290.out 1).trans rfl, (blk_cell BK285.out 0).trans rfl, (blk_cell BK285.out 1).trans rfl⟩ (fun hHeld => ?_); refine with_tabW laws_FnWinds.tab6 laws_FnWinds.bits6 (fun HT_ HW_ => ?_)
    generalize w32.drew = w33 at HO293 BK285 BK290 BK298 HB hHeld ⊢
    refine pure_ (i := 0) (N := some 16) (v := ?_) (a' := ?_) #[true, false, false, false, false, false, false, false, false, false, false, false, false] rfl rfl (any_of HT_.out (by kernel_rfl)) (fun _ _ _ h => h) (Or.inl ⟨by rfl, ?_⟩) ?_ ?_
    rotate_left
    ·intro w'
     go_simp
     with_reducible rfl
    rotate_left
    ·simp only [Act.put, sqA, sqZ, sqS, i64_w, i32_w]
     rfl
    refine take_ (i := 1) (N := some 17) (v := ?_) (a' := ?_) #[true, true, false, false, false, false, false, false, false, false, false, false, false] rfl rfl (take_ofW HT_.out HW_.out (by kernel_rfl)) (fun _ _ _ h => h) (Or.inl ⟨by rfl, ?_⟩) hHeld ?_ ?_
    rotate_left
    ·rintro w' ⟨s0, s1, s2, s3⟩
     go_simp
     with_reducible rfl
    rotate_left
    ·simp only [Act.put, sqA, sqZ, sqS, i64_w, i32_w]
     rfl
    refine take_ (i := 2) (N := some 18) (v := ?_) (a' := ?_) #[true, true, true, false, false, false, false, false, false, false, false, false, false] rfl rfl (take_ofW HT_.out HW_.out (by kernel_rfl)) (fun _ _ _ h => h) (Or.inl ⟨by rfl, ?_⟩) hHeld ?_ ?_
    rotate_left
    ·rintro w' ⟨s0, s1, s2, s3⟩
     go_simp
     with_reducible rfl
    rotate_left
    ·simp only [Act.put, sqA, sqZ, sqS, i64_w, i32_w]
     rfl
    refine one_ (i := 3) (N := some 19) #[true, true, true, true, false, false, false, false, false, false, false, false, false] rfl rfl (one_of HT_.out (by kernel_rfl)) (by decide) (fun K hK => ?_)
    refine goes_ Tryd.func38 (by kernel_rfl) rfl #[.agg #[.int .i64 t282, .float .f64 (un pr284 t283)]] (by rfl) rfl rfl (by (try simp only [List.map_toArray, List.map_cons, List.map_nil]); first | done | rfl | (simp only [List.length_drop, List.length_take]; rfl)) ?_
    with_reducible refine (impl_WindPair.calls t282 pr284 t283 l1 t299 t301 _ ?side1 ?side2 ?side3 A25.out).mono ?_
    (case side1 => repeat (first | exact (Kd.C_below HR1.out HB.out) | (with_reducible refine Kd.C_alloc ?_ _) | (with_reducible refine Kd.C_drewN ?_ _) | (with_reducible refine Kd.C_drew ?_)))
    (case side2 => exact HC1.out)
    (case side3 => exact HN1.out)
    rintro e w34 ⟨pr300, pr302, rfl, hb⟩
    refine ⟨_, rfl, ?_⟩
    have n0_ := Aside0.mk (Kd.R_below (by (with_reducible repeat (first | apply Kd.R_alloc | apply Kd.R_drewN | apply Kd.R_drew)); exact HO293.out) hb)
    have n1_ := Aside0.mk (blk_below (g := gb285) (o := .cells #[.int .i64 t282, .float .f64 (un pr284 t283)] 54 (0, 0)) (by (with_reducible repeat (first | refine blk_drewN ?_ _ | refine blk_drew ?_ | refine blk_alloc ?_ _)); exact BK285.out) hb)
    have n2_ := Aside0.mk (blk_below (g := gb290) (o := .cells #[.float .f64 (un pr287 t286), .float .f64 (un pr289 t288)] 42 (0, 0)) (by (with_reducible repeat (first | refine blk_drewN ?_ _ | refine blk_drew ?_ | refine blk_alloc ?_ _)); exact BK290.out) hb)
    have n3_ := Aside0.mk (blk_below (g := gb298) (o := .cells #[.float .f64 (un pr295 t294), .float .f64 (un pr297 t296)] 42 (0, 0)) (by (with_reducible repeat (first | refine blk_drewN ?_ _ | refine blk_drew ?_ | refine blk_alloc ?_ _)); exact BK298.out) hb)
    have n4_ := Aside0.mk (below_step (by repeat (first | (with_reducible first | exact HB.out | apply below_alloc | apply pw_below_drewN | apply below_drew1 | refine below_set ?_ GE285.out | refine below_set ?_ GE290.out | refine below_set ?_ GE298.out) | exact HB.out)) hb)
    clear HO293
    clear BK285
    clear BK290
    clear BK298
    clear HB
    have HO293 := n0_
    have BK285 := n1_
    have BK290 := n2_
    have BK298 := n3_
    have HB := n4_
    clear n0_ n1_ n2_ n3_ n4_
    (try clear hb)
    (try clear hb2)
    (try clear hk)
    (try clear hi)
    refine hK.out _ _ ⟨(blk_cell BK290.out 0).trans rfl, (blk_cell BK290.out 1).trans rfl, (blk_cell BK285.out 0).trans rfl, (blk_cell BK285.out 1).trans rfl⟩ (fun hHeld => ?_)
    clear hK K
    refine norm_ (a' := ?_) ?_ ?_
    rotate_left
    ·show Act.put _ (some 19) _ = _
     simp only [Act.put, sqA, sqZ, sqS, i64_w, i32_w]
     rfl
    refine pure_ (i := 4) (N := some 20) (v := ?_) (a' := ?_) #[true, true, true, true, true, false, false, false, false, false, false, false, false] rfl rfl (any_of HT_.out (by kernel_rfl)) (fun _ _ _ h => h) (Or.inl ⟨by rfl, ?_⟩) ?_ ?_
    rotate_left
    ·intro w'
     go_simp
     first | with_reducible rfl | rfl
    rotate_left
    ·simp only [Act.put, sqA, sqZ, sqS, i64_w, i32_w]
     rfl
    refine one_ (i := 5) (N := some 21) #[true, true, true, true, true, true, false, false, false, false, false, false, false] rfl rfl (one_of HT_.out (by kernel_rfl)) (by decide) (fun K hK => ?_)
    refine goes_ Tryd.func37 (by kernel_rfl) rfl #[.float .f64 (un pr287 t286), .float .f64 (un pr300 t299)] (by rfl) rfl rfl (by (try simp only [List.map_toArray, List.map_cons, List.map_nil]); first | done | rfl | (simp only [List.length_drop, List.length_take]; rfl)) ?_
    with_reducible refine (spec_Same.calls k pr287 t286 pr300 t299 false _ A26.out).mono ?_
    rintro e w' ⟨rfl, ⟨nd, rfl⟩⟩
    refine ⟨_, rfl, ?_⟩
    refine hK.out _ _ ⟨(blk_cell BK290.out 0).trans rfl, (blk_cell BK290.out 1).trans rfl, (blk_cell BK285.out 0).trans rfl, (blk_cell BK285.out 1).trans rfl⟩ (fun hHeld => ?_)
    clear hK K
    refine norm_ (a' := ?_) ?_ ?_
    rotate_left
    ·show Act.put _ (some 21) _ = _
     simp only [Act.put, sqA, sqZ, sqS, i64_w, i32_w]
     rfl
    refine pure_ (i := 6) (N := some 22) (v := ?_) (a' := ?_) #[true, true, true, true, true, true, true, false, false, false, false, false, false] rfl rfl (any_of HT_.out (by kernel_rfl)) (fun _ _ _ h => h) (Or.inl ⟨by rfl, ?_⟩) ?_ ?_
    rotate_left
    ·intro w'
     go_simp
     with_reducible rfl
    rotate_left
    ·simp only [Act.put, sqA, sqZ, sqS, i64_w, i32_w]
     rfl
    refine pure_ (i := 7) (N := some 23) (v := ?_) (a' := ?_) #[true, true, true, true, true, true, true, true, false, false, false, false, false] rfl rfl (any_of HT_.out (by kernel_rfl)) (fun _ _ _ h => h) (Or.inl ⟨by rfl, ?_⟩) ?_ ?_
    rotate_left
    ·intro w'
     go_simp
     with_reducible rfl
    rotate_left
    ·simp only [Act.put, sqA, sqZ, sqS, i64_w, i32_w]
     rfl
    refine pure_ (i := 8) (N := some 24) (v := undef) (a' := ?_) #[true, true, true, true, true, true, true, true, true, false, false, false, false] rfl rfl (any_of HT_.out (by kernel_rfl)) (fun _ _ _ h => h) (Or.inr ⟨by rfl, rfl⟩) ?_ ?_
    rotate_left
    ·simp only [Act.put, sqA, sqZ, sqS, i64_w, i32_w]
     rfl
    refine pure_ (i := 9) (N := some 25) (v := undef) (a' := ?_) #[true, true, true, true, true, true, true, true, true, true, false, false, false] rfl rfl (any_of HT_.out (by kernel_rfl)) (fun _ _ _ h => h) (Or.inr ⟨by rfl, rfl⟩) ?_ ?_
    rotate_left
    ·simp only [Act.put, sqA, sqZ, sqS, i64_w, i32_w]
     rfl
    refine pure_ (i := 10) (N := some 26) (v := undef) (a' := ?_) #[true, true, true, true, true, true, true, true, true, true, true, false, false] rfl rfl (any_of HT_.out (by kernel_rfl)) (fun _ _ _ h => h) (Or.inr ⟨by rfl, rfl⟩) ?_ ?_
    rotate_left
    ·simp only [Act.put, sqA, sqZ, sqS, i64_w, i32_w]
     rfl
    refine pure_ (i := 11) (N := some 27) (v := undef) (a' := ?_) #[true, true, true, true, true, true, true, true, true, true, true, true, false] rfl rfl (any_of HT_.out (by kernel_rfl)) (fun _ _ _ h => h) (Or.inr ⟨by rfl, rfl⟩) ?_ ?_
    rotate_left
    ·simp only [Act.put, sqA, sqZ, sqS, i64_w, i32_w]
     rfl
    refine pure_ (i := 12) (N := some 28) (v := ?_) (a' := ?_) #[true, true, true, true, true, true, true, true, true, true, true, true, true] rfl rfl (any_of HT_.out (by kernel_rfl)) (fun _ _ _ h => h) (Or.inl ⟨by rfl, ?_⟩) ?_ ?_
    rotate_left
    ·intro w'
     go_simp
     with_reducible rfl
    rotate_left
    ·simp only [Act.put, sqA, sqZ, sqS, i64_w, i32_w]
     rfl
    refine done_ (done_of HT_.out (by kernel_rfl)) ?_
    try go_wp2
    go_meet
    case rel => exact ⟨_, (true), (by first | rfl | (simp; done) | (simp [*]; done)), H', ⟨by first | omega | exact Nat.le_refl _⟩, ⟨by (with_reducible repeat (first | refine blk_drewN ?_ _ | refine blk_drew ?_ | refine blk_alloc ?_ _)); exact BK285.out⟩, ⟨by (with_reducible repeat (first | refine blk_drewN ?_ _ | refine blk_drew ?_ | refine blk_alloc ?_ _)); exact BK290.out⟩, ⟨by (with_reducible repeat (first | refine blk_drewN ?_ _ | refine blk_drew ?_ | refine blk_alloc ?_ _)); exact BK298.out⟩, ⟨by repeat (first | (with_reducible first | exact HB.out | apply below_alloc | apply pw_below_drewN | apply below_drew1 | refine below_set ?_ GE285.out | refine below_set ?_ GE290.out | refine below_set ?_ GE298.out) | exact HB.out)⟩⟩
  case rest =>
   clear HC8
   try clear c1
   try clear c2
   try clear p2
   try clear c3
   try clear c4
   try clear c8
   try clear c14
   try clear c22
   try clear c23
   try clear c25
   try clear c27
   try clear c34
   try clear hcz11_0
   try clear hcz11_1
   try clear hcz15_0
   try clear hcz15_1
   try clear hcz16_0
   try clear hcz16_1
   try clear hcz24_0
   try clear hcz24_1
   try clear hfz11_0
   try clear hfz11_1
   try clear hfz15_0
   try clear hfz15_1
   try clear hfz16_0
   try clear hfz16_1
   try clear hfz24_0
   try clear hfz24_1
   obtain ⟨kq, x28_7, rfl, HA, HJ7, BK285, BK290, BK298, HB⟩ := hcut
   cases kq with
   | zero => exact absurd HA.out (by simp [laws_FnWinds.j0])
   | succ kj7 =>
    have H := HA.out
    clear HA
    simp only [laws_FnWinds.j0] at H
    by_cases c35 : x28_7 = true
    ·subst c35
     have H1 : ((spec_Known.f t286).bind fun t305 => (if t305 = true then (some false) else ((spec_Known.f t294).bind fun t306 => (if t306 = true then (some false) else ((spec_Known.f t296).bind fun t307 => (some (!t307))))))) = some r := by rw [if_pos rfl] at H; exact H
     clear H
     have H := H1
     clear H1
     replace H := Option.bind_eq_some_iff.mp H
     obtain ⟨t305, A360, H⟩ := H
     replace H : (if t305 = true then (some false) else ((spec_Known.f t294).bind fun t306 => (if t306 = true then (some false) else ((spec_Known.f t296).bind fun t307 => (some (!t307)))))) = some r := H
     have A36 := Aside0.mk A360
     clear A360
     by_cases c37 : t305 = true
     ·subst c37
      have H1 : (some false) = some r := by rw [if_pos rfl] at H; exact H
      clear H
      have H := H1
      clear H1
      obtain rfl := Option.some.inj H
      have hnb38 := NB290_285.out
      have hnc38 := NB285_290.out
      have hnb39 := NB290_298.out
      have hnc39 := NB298_290.out
      have hcz40_0 : wc.cell? ⟨gb290, 0, none⟩ = some (.float .f64 (un pr287 t286)) := (blk_cell BK290.out 0).trans rfl
      have hcz40_1 : wc.cell? ⟨gb290, 1, none⟩ = some (.float .f64 (un pr289 t288)) := (blk_cell BK290.out 1).trans rfl
      have hfz40_0 := blk_frozen BK290.out 0
      have hfz40_1 := blk_frozen BK290.out 1
      go_wp2_with (first | ((with_reducible refine gate_callee (f := 39) rfl ?_); refine goesL_ (some 31) rfl rfl Tryd.func39 (by kernel_rfl) rfl #[.float .f64 (un pr287 t286)] rfl (by (try simp only [List.map_toArray, List.map_cons, List.map_nil]); first | done | rfl | (simp only [List.length_drop, List.length_take]; rfl)) ?_; (with_reducible refine (spec_Known.calls pr287 t286 true _ A36.out).mono ?_); rintro e w' ⟨rfl, ⟨nd, rfl⟩⟩; refine ⟨_, rfl, ?_⟩))
      go_ret
      exact ⟨by first | rfl | (simp [errW_none, errW_some] <;> rfl) | (simp [*, errW_none, errW_some] <;> rfl), by repeat (first | (with_reducible first | exact HB.out | apply below_alloc | apply pw_below_drewN | apply below_drew1 | refine below_set ?_ GE285.out | refine below_set ?_ GE290.out | refine below_set ?_ GE298.out) | exact HB.out)⟩
     ·replace c37 := Bool.eq_false_iff.mpr c37
      subst c37
      have H1 : ((spec_Known.f t294).bind fun t306 => (if t306 = true then (some false) else ((spec_Known.f t296).bind fun t307 => (some (!t307))))) = some r := by rw [if_neg (show ¬ (false = true) by decide)] at H; exact H
      clear H
      have H := H1
      clear H1
      replace H := Option.bind_eq_some_iff.mp H
      obtain ⟨t306, A410, H⟩ := H
      replace H : (if t306 = true then (some false) else ((spec_Known.f t296).bind fun t307 => (some (!t307)))) = some r := H
      have A41 := Aside0.mk A410
      clear A410
      by_cases c42 : t306 = true
      ·subst c42
       have H1 : (some false) = some r := by rw [if_pos rfl] at H; exact H
       clear H
       have H := H1
       clear H1
       obtain rfl := Option.some.inj H
       have hnb43 := NB290_285.out
       have hnc43 := NB285_290.out
       have hnb44 := NB290_298.out
       have hnc44 := NB298_290.out
       have hcz45_0 : wc.cell? ⟨gb290, 0, none⟩ = some (.float .f64 (un pr287 t286)) := (blk_cell BK290.out 0).trans rfl
       have hcz45_1 : wc.cell? ⟨gb290, 1, none⟩ = some (.float .f64 (un pr289 t288)) := (blk_cell BK290.out 1).trans rfl
       have hfz45_0 := blk_frozen BK290.out 0
       have hfz45_1 := blk_frozen BK290.out 1
       go_wp2_with (first | ((with_reducible refine gate_callee (f := 39) rfl ?_); refine goesL_ (some 31) rfl rfl Tryd.func39 (by kernel_rfl) rfl #[.float .f64 (un pr287 t286)] rfl (by (try simp only [List.map_toArray, List.map_cons, List.map_nil]); first | done | rfl | (simp only [List.length_drop, List.length_take]; rfl)) ?_; (with_reducible refine (spec_Known.calls pr287 t286 false _ A36.out).mono ?_); rintro e w' ⟨rfl, ⟨nd, rfl⟩⟩; refine ⟨_, rfl, ?_⟩; have hnb46 := NB298_285.out; have hnc46 := NB285_298.out; have hcz47_0 : wc.cell? ⟨gb298, 0, none⟩ = some (.float .f64 (un pr295 t294)) := (blk_cell BK298.out 0).trans rfl; have hcz47_1 : wc.cell? ⟨gb298, 1, none⟩ = some (.float .f64 (un pr297 t296)) := (blk_cell BK298.out 1).trans rfl; have hfz47_0 := blk_frozen BK298.out 0; have hfz47_1 := blk_frozen BK298.out 1) | (go_at_call 39; (with_reducible refine (spec_Known.calls pr295 t294 true _ A41.out).mono ?_); rintro e w' ⟨rfl, ⟨nd, rfl⟩⟩))
       go_ret
       exact ⟨by first | rfl | (simp [errW_none, errW_some] <;> rfl) | (simp [*, errW_none, errW_some] <;> rfl), by repeat (first | (with_reducible first | exact HB.out | apply below_alloc | apply pw_below_drewN | apply below_drew1 | refine below_set ?_ GE285.out | refine below_set ?_ GE290.out | refine below_set ?_ GE298.out) | exact HB.out)⟩
      ·replace c42 := Bool.eq_false_iff.mpr c42
       subst c42
       have H1 : ((spec_Known.f t296).bind fun t307 => (some (!t307))) = some r := by rw [if_neg (show ¬ (false = true) by decide)] at H; exact H
       clear H
       have H := H1
       clear H1
       replace H := Option.bind_eq_some_iff.mp H
       obtain ⟨t307, A480, H⟩ := H
       replace H : (some (!t307)) = some r := H
       have A48 := Aside0.mk A480
       clear A480
       obtain rfl := Option.some.inj H
       have hnb49 := NB290_285.out
       have hnc49 := NB285_290.out
       have hnb50 := NB290_298.out
       have hnc50 := NB298_290.out
       have hcz51_0 : wc.cell? ⟨gb290, 0, none⟩ = some (.float .f64 (un pr287 t286)) := (blk_cell BK290.out 0).trans rfl
       have hcz51_1 : wc.cell? ⟨gb290, 1, none⟩ = some (.float .f64 (un pr289 t288)) := (blk_cell BK290.out 1).trans rfl
       have hfz51_0 := blk_frozen BK290.out 0
       have hfz51_1 := blk_frozen BK290.out 1
       go_wp2_with (first | ((with_reducible refine gate_callee (f := 39) rfl ?_); refine goesL_ (some 31) rfl rfl Tryd.func39 (by kernel_rfl) rfl #[.float .f64 (un pr287 t286)] rfl (by (try simp only [List.map_toArray, List.map_cons, List.map_nil]); first | done | rfl | (simp only [List.length_drop, List.length_take]; rfl)) ?_; (with_reducible refine (spec_Known.calls pr287 t286 false _ A36.out).mono ?_); rintro e w' ⟨rfl, ⟨nd, rfl⟩⟩; refine ⟨_, rfl, ?_⟩; have hnb52 := NB298_285.out; have hnc52 := NB285_298.out; have hcz53_0 : wc.cell? ⟨gb298, 0, none⟩ = some (.float .f64 (un pr295 t294)) := (blk_cell BK298.out 0).trans rfl; have hcz53_1 : wc.cell? ⟨gb298, 1, none⟩ = some (.float .f64 (un pr297 t296)) := (blk_cell BK298.out 1).trans rfl; have hfz53_0 := blk_frozen BK298.out 0; have hfz53_1 := blk_frozen BK298.out 1) | (go_at_call 39; (with_reducible refine (spec_Known.calls pr295 t294 false _ A41.out).mono ?_); rintro e w' ⟨rfl, ⟨nd, rfl⟩⟩) | (go_at_call 39; (with_reducible refine (spec_Known.calls pr297 t296 t307 _ A48.out).mono ?_); rintro e w' ⟨rfl, ⟨nd, rfl⟩⟩))
       go_ret
       exact ⟨by first | rfl | (simp [errW_none, errW_some] <;> rfl) | (simp [*, errW_none, errW_some] <;> rfl), by repeat (first | (with_reducible first | exact HB.out | apply below_alloc | apply pw_below_drewN | apply below_drew1 | refine below_set ?_ GE285.out | refine below_set ?_ GE290.out | refine below_set ?_ GE298.out) | exact HB.out)⟩
    ·replace c35 := Bool.eq_false_iff.mpr c35
     subst c35
     have H1 : ((laws_equal.f t294 t296 t286 t288).bind fun t308 => (if t308 = true then (if t282 = 0 then ((laws_equal.f t294 t296 0 0).bind fun t309 => (some t309)) else ((impl_MeanWind.f kj7 (([(⟨t282, t283⟩ : S54), (⟨wrap64 ((Int.tmod (wrap64 (t282 + 17)) 36) + 1), t283⟩ : S54)] : List (S54))) l1).bind fun bt314 => ((laws_equal.f bt314.1 bt314.2 0 0).bind fun t318 => (some t318)))) else (some false))) = some r := by rw [if_neg (show ¬ (false = true) by decide)] at H; exact H
     clear H
     have H := H1
     clear H1
     replace H := Option.bind_eq_some_iff.mp H
     obtain ⟨t308, A540, H⟩ := H
     replace H : (if t308 = true then (if t282 = 0 then ((laws_equal.f t294 t296 0 0).bind fun t309 => (some t309)) else ((impl_MeanWind.f kj7 (([(⟨t282, t283⟩ : S54), (⟨wrap64 ((Int.tmod (wrap64 (t282 + 17)) 36) + 1), t283⟩ : S54)] : List (S54))) l1).bind fun bt314 => ((laws_equal.f bt314.1 bt314.2 0 0).bind fun t318 => (some t318)))) else (some false)) = some r := H
     have A54 := Aside0.mk A540
     clear A540
     by_cases c55 : t308 = true
     ·subst c55
      have H1 : (if t282 = 0 then ((laws_equal.f t294 t296 0 0).bind fun t309 => (some t309)) else ((impl_MeanWind.f kj7 (([(⟨t282, t283⟩ : S54), (⟨wrap64 ((Int.tmod (wrap64 (t282 + 17)) 36) + 1), t283⟩ : S54)] : List (S54))) l1).bind fun bt314 => ((laws_equal.f bt314.1 bt314.2 0 0).bind fun t318 => (some t318)))) = some r := by rw [if_pos rfl] at H; exact H
      clear H
      have H := H1
      clear H1
      by_cases c56 : t282 = 0
      ·rw [if_pos c56] at H
       have c56b0 : (t282 == 0) = true := beq_iff_eq.mpr c56
       have c56b1 : (t282 != 0) = false := bne_eq_false_iff_eq.mpr c56
       clear c56
       replace H := Option.bind_eq_some_iff.mp H
       obtain ⟨t309, A570, H⟩ := H
       replace H : (some t309) = some r := H
       have A57 := Aside0.mk A570
       clear A570
       obtain rfl := Option.some.inj H
       have hnb58 := NB298_285.out
       have hnc58 := NB285_298.out
       have hnb59 := NB298_290.out
       have hnc59 := NB290_298.out
       have hcz60_0 : wc.cell? ⟨gb298, 0, none⟩ = some (.float .f64 (un pr295 t294)) := (blk_cell BK298.out 0).trans rfl
       have hcz60_1 : wc.cell? ⟨gb298, 1, none⟩ = some (.float .f64 (un pr297 t296)) := (blk_cell BK298.out 1).trans rfl
       have hfz60_0 := blk_frozen BK298.out 0
       have hfz60_1 := blk_frozen BK298.out 1
       have hnb61 := NB290_285.out
       have hnc61 := NB285_290.out
       have hcz62_0 : wc.cell? ⟨gb290, 0, none⟩ = some (.float .f64 (un pr287 t286)) := (blk_cell BK290.out 0).trans rfl
       have hcz62_1 : wc.cell? ⟨gb290, 1, none⟩ = some (.float .f64 (un pr289 t288)) := (blk_cell BK290.out 1).trans rfl
       have hfz62_0 := blk_frozen BK290.out 0
       have hfz62_1 := blk_frozen BK290.out 1
       go_wp2_with (first | ((with_reducible refine gate_callee (f := 40) rfl ?_); refine goesL_ (some 47) rfl rfl Tryd.func40 (by kernel_rfl) rfl #[.agg #[.float .f64 (un pr295 t294), .float .f64 (un pr297 t296)], .agg #[.float .f64 (un pr287 t286), .float .f64 (un pr289 t288)]] rfl (by (try simp only [List.map_toArray, List.map_cons, List.map_nil]); first | done | rfl | (simp only [List.length_drop, List.length_take]; rfl)) ?_; (with_reducible refine (laws_equal.calls pr295 t294 pr297 t296 pr287 t286 pr289 t288 true _ A54.out).mono ?_); rintro e w63 ⟨rfl, hb⟩; refine ⟨_, rfl, ?_⟩; have n0_ := Aside0.mk (blk_below (g := gb285) (o := .cells #[.int .i64 t282, .float .f64 (un pr284 t283)] 54 (0, 0)) (by (with_reducible repeat (first | refine blk_drewN ?_ _ | refine blk_drew ?_ | refine blk_alloc ?_ _)); exact BK285.out) hb); have n1_ := Aside0.mk (blk_below (g := gb290) (o := .cells #[.float .f64 (un pr287 t286), .float .f64 (un pr289 t288)] 42 (0, 0)) (by (with_reducible repeat (first | refine blk_drewN ?_ _ | refine blk_drew ?_ | refine blk_alloc ?_ _)); exact BK290.out) hb); have n2_ := Aside0.mk (blk_below (g := gb298) (o := .cells #[.float .f64 (un pr295 t294), .float .f64 (un pr297 t296)] 42 (0, 0)) (by (with_reducible repeat (first | refine blk_drewN ?_ _ | refine blk_drew ?_ | refine blk_alloc ?_ _)); exact BK298.out) hb); have n3_ := Aside0.mk (below_step (by repeat (first | (with_reducible first | exact HB.out | apply below_alloc | apply pw_below_drewN | apply below_drew1 | refine below_set ?_ GE285.out | refine below_set ?_ GE290.out | refine below_set ?_ GE298.out) | exact HB.out)) hb); clear BK285; clear BK290; clear BK298; clear HB; have BK285 := n0_; have BK290 := n1_; have BK298 := n2_; have HB := n3_; clear n0_ n1_ n2_ n3_; (try clear hb); (try clear hb2); (try clear hk); (try clear hi); have hcz64_0 : w63.cell? ⟨gb285, 0, none⟩ = some (.int .i64 t282) := (blk_cell BK285.out 0).trans rfl; have hcz64_1 : w63.cell? ⟨gb285, 1, none⟩ = some (.float .f64 (un pr284 t283)) := (blk_cell BK285.out 1).trans rfl; have hfz64_0 := blk_frozen BK285.out 0; have hfz64_1 := blk_frozen BK285.out 1; have hcz65_0 : w63.cell? ⟨gb298, 0, none⟩ = some (.float .f64 (un pr295 t294)) := (blk_cell BK298.out 0).trans rfl; have hcz65_1 : w63.cell? ⟨gb298, 1, none⟩ = some (.float .f64 (un pr297 t296)) := (blk_cell BK298.out 1).trans rfl; have hfz65_0 := blk_frozen BK298.out 0; have hfz65_1 := blk_frozen BK298.out 1) | ((with_reducible refine gate_callee (f := 40) rfl ?_); refine goesL_ (some 54) rfl rfl Tryd.func40 (by kernel_rfl) rfl #[.agg #[.float .f64 (un pr295 t294), .float .f64 (un pr297 t296)], .agg #[.float .f64 (un 0 0), .float .f64 (un 0 0)]] rfl (by (try simp only [List.map_toArray, List.map_cons, List.map_nil]); first | done | rfl | (simp only [List.length_drop, List.length_take]; rfl)) ?_; (with_reducible refine (laws_equal.calls pr295 t294 pr297 t296 0 0 0 0 t309 _ A57.out).mono ?_); rintro e w66 ⟨rfl, hb⟩; refine ⟨_, rfl, ?_⟩; have n0_ := Aside0.mk (blk_below (g := gb285) (o := .cells #[.int .i64 t282, .float .f64 (un pr284 t283)] 54 (0, 0)) (by (with_reducible repeat (first | refine blk_drewN ?_ _ | refine blk_drew ?_ | refine blk_alloc ?_ _)); exact BK285.out) hb); have n1_ := Aside0.mk (blk_below (g := gb290) (o := .cells #[.float .f64 (un pr287 t286), .float .f64 (un pr289 t288)] 42 (0, 0)) (by (with_reducible repeat (first | refine blk_drewN ?_ _ | refine blk_drew ?_ | refine blk_alloc ?_ _)); exact BK290.out) hb); have n2_ := Aside0.mk (blk_below (g := gb298) (o := .cells #[.float .f64 (un pr295 t294), .float .f64 (un pr297 t296)] 42 (0, 0)) (by (with_reducible repeat (first | refine blk_drewN ?_ _ | refine blk_drew ?_ | refine blk_alloc ?_ _)); exact BK298.out) hb); have n3_ := Aside0.mk (below_step (by repeat (first | (with_reducible first | exact HB.out | apply below_alloc | apply pw_below_drewN | apply below_drew1 | refine below_set ?_ GE285.out | refine below_set ?_ GE290.out | refine below_set ?_ GE298.out) | exact HB.out)) hb); clear BK285; clear BK290; clear BK298; clear HB; have BK285 := n0_; have BK290 := n1_; have BK298 := n2_; have HB := n3_; clear n0_ n1_ n2_ n3_; (try clear hb); (try clear hb2); (try clear hk); (try clear hi)))
       go_ret
       exact ⟨by first | rfl | (simp [errW_none, errW_some] <;> rfl) | (simp [*, errW_none, errW_some] <;> rfl), by repeat (first | (with_reducible first | exact HB.out | apply below_alloc | apply pw_below_drewN | apply below_drew1 | refine below_set ?_ GE285.out | refine below_set ?_ GE290.out | refine below_set ?_ GE298.out) | exact HB.out)⟩
      ·rw [if_neg c56] at H
       have c56b0 : (t282 == 0) = false := beq_eq_false_iff_ne.mpr c56
       have c56b1 : (t282 != 0) = true := bne_iff_ne.mpr c56
       obtain ⟨y311, hy311⟩ : ∃ y_ : List (S54), y_ = (([(⟨t282, t283⟩ : S54), (⟨wrap64 ((Int.tmod (wrap64 (t282 + 17)) 36) + 1), t283⟩ : S54)] : List (S54))) := ⟨_, rfl⟩
       replace H : ((impl_MeanWind.f kj7 y311 l1).bind fun bt314 => ((laws_equal.f bt314.1 bt314.2 0 0).bind fun t318 => (some t318))) = some r := by first | (rw [hy311]; with_reducible exact H) | (have H2_ := (Option.bind_some _ _).symm.trans H; rw [hy311]; with_reducible exact H2_) | (have H2_ := (Option.bind_some _ _).symm.trans H; with_reducible exact H2_) | with_reducible exact H | (rw [hy311]; exact H) | exact H
       have Ny311 := Aside0.mk hy311
       clear hy311
       replace H := Option.bind_eq_some_iff.mp H
       obtain ⟨⟨t314, t316⟩, A670, H⟩ := H
       replace H : ((laws_equal.f t314 t316 0 0).bind fun t318 => (some t318)) = some r := H
       have A67 := Aside0.mk A670
       clear A670
       replace H := Option.bind_eq_some_iff.mp H
       obtain ⟨t318, A680, H⟩ := H
       replace H : (some t318) = some r := H
       have A68 := Aside0.mk A680
       clear A680
       obtain rfl := Option.some.inj H
       have hnb69 := NB298_285.out
       have hnc69 := NB285_298.out
       have hnb70 := NB298_290.out
       have hnc70 := NB290_298.out
       have hcz71_0 : wc.cell? ⟨gb298, 0, none⟩ = some (.float .f64 (un pr295 t294)) := (blk_cell BK298.out 0).trans rfl
       have hcz71_1 : wc.cell? ⟨gb298, 1, none⟩ = some (.float .f64 (un pr297 t296)) := (blk_cell BK298.out 1).trans rfl
       have hfz71_0 := blk_frozen BK298.out 0
       have hfz71_1 := blk_frozen BK298.out 1
       have hnb72 := NB290_285.out
       have hnc72 := NB285_290.out
       have hcz73_0 : wc.cell? ⟨gb290, 0, none⟩ = some (.float .f64 (un pr287 t286)) := (blk_cell BK290.out 0).trans rfl
       have hcz73_1 : wc.cell? ⟨gb290, 1, none⟩ = some (.float .f64 (un pr289 t288)) := (blk_cell BK290.out 1).trans rfl
       have hfz73_0 := blk_frozen BK290.out 0
       have hfz73_1 := blk_frozen BK290.out 1
       go_wp2_with (first | ((with_reducible refine gate_callee (f := 40) rfl ?_); refine goesL_ (some 47) rfl rfl Tryd.func40 (by kernel_rfl) rfl #[.agg #[.float .f64 (un pr295 t294), .float .f64 (un pr297 t296)], .agg #[.float .f64 (un pr287 t286), .float .f64 (un pr289 t288)]] rfl (by (try simp only [List.map_toArray, List.map_cons, List.map_nil]); first | done | rfl | (simp only [List.length_drop, List.length_take]; rfl)) ?_; (with_reducible refine (laws_equal.calls pr295 t294 pr297 t296 pr287 t286 pr289 t288 true _ A54.out).mono ?_); rintro e w74 ⟨rfl, hb⟩; refine ⟨_, rfl, ?_⟩; have n0_ := Aside0.mk (blk_below (g := gb285) (o := .cells #[.int .i64 t282, .float .f64 (un pr284 t283)] 54 (0, 0)) (by (with_reducible repeat (first | refine blk_drewN ?_ _ | refine blk_drew ?_ | refine blk_alloc ?_ _)); exact BK285.out) hb); have n1_ := Aside0.mk (blk_below (g := gb290) (o := .cells #[.float .f64 (un pr287 t286), .float .f64 (un pr289 t288)] 42 (0, 0)) (by (with_reducible repeat (first | refine blk_drewN ?_ _ | refine blk_drew ?_ | refine blk_alloc ?_ _)); exact BK290.out) hb); have n2_ := Aside0.mk (blk_below (g := gb298) (o := .cells #[.float .f64 (un pr295 t294), .float .f64 (un pr297 t296)] 42 (0, 0)) (by (with_reducible repeat (first | refine blk_drewN ?_ _ | refine blk_drew ?_ | refine blk_alloc ?_ _)); exact BK298.out) hb); have n3_ := Aside0.mk (below_step (by repeat (first | (with_reducible first | exact HB.out | apply below_alloc | apply pw_below_drewN | apply below_drew1 | refine below_set ?_ GE285.out | refine below_set ?_ GE290.out | refine below_set ?_ GE298.out) | exact HB.out)) hb); clear BK285; clear BK290; clear BK298; clear HB; have BK285 := n0_; have BK290 := n1_; have BK298 := n2_; have HB := n3_; clear n0_ n1_ n2_ n3_; (try clear hb); (try clear hb2); (try clear hk); (try clear hi); have hcz75_0 : w74.cell? ⟨gb285, 0, none⟩ = some (.int .i64 t282) := (blk_cell BK285.out 0).trans rfl; have hcz75_1 : w74.cell? ⟨gb285, 1, none⟩ = some (.float .f64 (un pr284 t283)) := (blk_cell BK285.out 1).trans rfl; have hfz75_0 := blk_frozen BK285.out 0; have hfz75_1 := blk_frozen BK285.out 1) | ((with_reducible refine gate_dst (N := 6) rfl ?_); refine box_event ?hg (N := 6) ?hd (cs := #[.int .i64 0, .float .f64 0]) (t := 54) ?hr ?_; (case hd => rfl); (case hg => rfl); (case hr => first | (go_simp; done) | (go_simp; rfl)); intro gb310 hg w76 hbox hb; have n0_ := Aside0.mk (blk_below (g := gb285) (o := .cells #[.int .i64 t282, .float .f64 (un pr284 t283)] 54 (0, 0)) (by (with_reducible repeat (first | refine blk_drewN ?_ _ | refine blk_drew ?_ | refine blk_alloc ?_ _)); exact BK285.out) hb); have n1_ := Aside0.mk (blk_below (g := gb290) (o := .cells #[.float .f64 (un pr287 t286), .float .f64 (un pr289 t288)] 42 (0, 0)) (by (with_reducible repeat (first | refine blk_drewN ?_ _ | refine blk_drew ?_ | refine blk_alloc ?_ _)); exact BK290.out) hb); have n2_ := Aside0.mk (blk_below (g := gb298) (o := .cells #[.float .f64 (un pr295 t294), .float .f64 (un pr297 t296)] 42 (0, 0)) (by (with_reducible repeat (first | refine blk_drewN ?_ _ | refine blk_drew ?_ | refine blk_alloc ?_ _)); exact BK298.out) hb); have n3_ := Aside0.mk (below_step (by repeat (first | (with_reducible first | exact HB.out | apply below_alloc | apply pw_below_drewN | apply below_drew1 | refine below_set ?_ GE285.out | refine below_set ?_ GE290.out | refine below_set ?_ GE298.out) | exact HB.out)) hb); have n4_ := Aside0.mk (hbox); have n5_ := Aside0.mk ((by rw [hg]; exact (below_size (by repeat (first | (with_reducible first | exact HB.out | apply below_alloc | apply pw_below_drewN | apply below_drew1 | refine below_set ?_ GE285.out | refine below_set ?_ GE290.out | refine below_set ?_ GE298.out) | exact HB.out))) : w.heap.size ≤ gb310)); have n6_ := Aside0.mk ((by rw [hg]; exact (below_size (by repeat (first | (with_reducible first | exact HB.out | apply below_alloc | apply pw_below_drewN | apply below_drew1 | refine below_set ?_ GE285.out | refine below_set ?_ GE290.out | refine below_set ?_ GE298.out) | exact HB.out))) : w.heap.size ≤ gb310)); have n7_ := Aside0.mk ((by rw [hg]; exact Nat.ne_of_lt (blk_lt (g := gb285) (o := .cells #[.int .i64 t282, .float .f64 (un pr284 t283)] 54 (0, 0)) (by (with_reducible repeat (first | refine blk_drewN ?_ _ | refine blk_drew ?_ | refine blk_alloc ?_ _)); exact BK285.out)) : gb285 ≠ gb310)); have n8_ := Aside0.mk ((by rw [hg]; exact Nat.ne_of_gt (blk_lt (g := gb285) (o := .cells #[.int .i64 t282, .float .f64 (un pr284 t283)] 54 (0, 0)) (by (with_reducible repeat (first | refine blk_drewN ?_ _ | refine blk_drew ?_ | refine blk_alloc ?_ _)); exact BK285.out)) : gb310 ≠ gb285)); have n9_ := Aside0.mk ((by rw [hg]; exact Nat.ne_of_lt (blk_lt (g := gb290) (o := .cells #[.float .f64 (un pr287 t286), .float .f64 (un pr289 t288)] 42 (0, 0)) (by (with_reducible repeat (first | refine blk_drewN ?_ _ | refine blk_drew ?_ | refine blk_alloc ?_ _)); exact BK290.out)) : gb290 ≠ gb310)); have n10_ := Aside0.mk ((by rw [hg]; exact Nat.ne_of_gt (blk_lt (g := gb290) (o := .cells #[.float .f64 (un pr287 t286), .float .f64 (un pr289 t288)] 42 (0, 0)) (by (with_reducible repeat (first | refine blk_drewN ?_ _ | refine blk_drew ?_ | refine blk_alloc ?_ _)); exact BK290.out)) : gb310 ≠ gb290)); have n11_ := Aside0.mk ((by rw [hg]; exact Nat.ne_of_lt (blk_lt (g := gb298) (o := .cells #[.float .f64 (un pr295 t294), .float .f64 (un pr297 t296)] 42 (0, 0)) (by (with_reducible repeat (first | refine blk_drewN ?_ _ | refine blk_drew ?_ | refine blk_alloc ?_ _)); exact BK298.out)) : gb298 ≠ gb310)); have n12_ := Aside0.mk ((by rw [hg]; exact Nat.ne_of_gt (blk_lt (g := gb298) (o := .cells #[.float .f64 (un pr295 t294), .float .f64 (un pr297 t296)] 42 (0, 0)) (by (with_reducible repeat (first | refine blk_drewN ?_ _ | refine blk_drew ?_ | refine blk_alloc ?_ _)); exact BK298.out)) : gb310 ≠ gb298)); clear BK285; clear BK290; clear BK298; clear HB; have BK285 := n0_; have BK290 := n1_; have BK298 := n2_; have HB := n3_; have BK310 := n4_; have GW310 := n5_; have GE310 := n6_; have NB285_310 := n7_; have NB310_285 := n8_; have NB290_310 := n9_; have NB310_290 := n10_; have NB298_310 := n11_; have NB310_298 := n12_; clear n0_ n1_ n2_ n3_ n4_ n5_ n6_ n7_ n8_ n9_ n10_ n11_ n12_; clear hb hbox hg; have hnb77 := NB310_285.out; have hnc77 := NB285_310.out; have hnb78 := NB310_290.out; have hnc78 := NB290_310.out; have hnb79 := NB310_298.out; have hnc79 := NB298_310.out; have hcz80_0 : w76.cell? ⟨gb310, 0, none⟩ = some (.int .i64 0) := (blk_cell BK310.out 0).trans rfl; have hcz80_1 : w76.cell? ⟨gb310, 1, none⟩ = some (.float .f64 0) := (blk_cell BK310.out 1).trans rfl; have hfz80_0 := blk_frozen BK310.out 0; have hfz80_1 := blk_frozen BK310.out 1; have hcz81_0 : w76.cell? ⟨gb285, 0, none⟩ = some (.int .i64 t282) := (blk_cell BK285.out 0).trans rfl; have hcz81_1 : w76.cell? ⟨gb285, 1, none⟩ = some (.float .f64 (un pr284 t283)) := (blk_cell BK285.out 1).trans rfl; have hfz81_0 := blk_frozen BK285.out 0; have hfz81_1 := blk_frozen BK285.out 1) | ((with_reducible refine gate_dst (N := 65) rfl ?_); refine Kd.R_lit k54 _ 54 ?hg (N := 65) ?hd (xs := ([(⟨t282, t283⟩ : S54), (⟨wrap64 ((Int.tmod (wrap64 (t282 + 17)) 36) + 1), t283⟩ : S54)] : List (S54))) (inner := [.int .i64 t282, .float .f64 (un pr284 t283), .int .i64 (wrap64 ((Int.tmod (wrap64 (t282 + 17)) 36) + 1)), .float .f64 (un pr284 t283)]) (ok := fun _ => True) (okp := fun _ => True) ?hr ?hp (fun _ hk => hk) trivial (Below.refl _ _) (Nat.le_refl _) (by simp) ?_; (case hd => rfl); (case hg => rfl); (case hr => first | (go_simp; done) | (go_simp; rfl)); (case hp => exact (Reps.c2 (show Kd.M k54 _ _ _ (⟨t282, t283⟩ : S54) [.int .i64 t282, .float .f64 (un pr284 t283)] from (k54_mkM _ _ _ (⟨t282, t283⟩ : S54) )) (Reps.c2 (show Kd.M k54 _ _ _ (⟨wrap64 ((Int.tmod (wrap64 (t282 + 17)) 36) + 1), t283⟩ : S54) [.int .i64 (wrap64 ((Int.tmod (wrap64 (t282 + 17)) 36) + 1)), .float .f64 (un pr284 t283)] from (k54_mkM _ _ _ (⟨wrap64 ((Int.tmod (wrap64 (t282 + 17)) 36) + 1), t283⟩ : S54) )) (Reps.none _ _)))); intro v312 w82 ho83 hb hg_ hnew_; clear hg_ hnew_; (first | rw [← Ny311.out] at ho83 | (simp only [Int.reduceToNat] at ho83; rw [← Ny311.out] at ho83)); have n0_ := Aside0.mk (Kd.R_lower (Kd.R_newB (Kd.R_newB ho83 (g := gb285) (o := .cells #[.int .i64 t282, .float .f64 (un pr284 t283)] 54 (0, 0)) (by (with_reducible repeat (first | refine blk_drewN ?_ _ | refine blk_drew ?_ | refine blk_alloc ?_ _)); refine blk_far ?_ NB285_310.out _; (with_reducible repeat (first | refine blk_drewN ?_ _ | refine blk_drew ?_ | refine blk_alloc ?_ _)); refine blk_far ?_ NB285_310.out _; (with_reducible repeat (first | refine blk_drewN ?_ _ | refine blk_drew ?_ | refine blk_alloc ?_ _)); exact BK285.out)) (g := gb310) (o := .cells #[.int .i64 (wrap64 ((Int.tmod (wrap64 (t282 + 17)) 36) + 1)), .float .f64 (un pr284 t283)] 54 (0, 0)) (by (with_reducible repeat (first | refine blk_drewN ?_ _ | refine blk_drew ?_ | refine blk_alloc ?_ _)); refine blk_put (cs := #[.int .i64 (wrap64 ((Int.tmod (wrap64 (t282 + 17)) 36) + 1)), .float .f64 0]) ?_ 1 _ rfl; (with_reducible repeat (first | refine blk_drewN ?_ _ | refine blk_drew ?_ | refine blk_alloc ?_ _)); refine blk_put (cs := #[.int .i64 0, .float .f64 0]) ?_ 0 _ rfl; (with_reducible repeat (first | refine blk_drewN ?_ _ | refine blk_drew ?_ | refine blk_alloc ?_ _)); exact BK310.out)) (below_size (by repeat (first | (with_reducible first | exact HB.out | apply below_alloc | apply pw_below_drewN | apply below_drew1 | refine below_set ?_ GE285.out | refine below_set ?_ GE290.out | refine below_set ?_ GE298.out | refine below_set ?_ GE310.out) | exact HB.out)))); have n1_ := Aside0.mk (blk_below (g := gb285) (o := .cells #[.int .i64 t282, .float .f64 (un pr284 t283)] 54 (0, 0)) (by (with_reducible repeat (first | refine blk_drewN ?_ _ | refine blk_drew ?_ | refine blk_alloc ?_ _)); refine blk_far ?_ NB285_310.out _; (with_reducible repeat (first | refine blk_drewN ?_ _ | refine blk_drew ?_ | refine blk_alloc ?_ _)); refine blk_far ?_ NB285_310.out _; (with_reducible repeat (first | refine blk_drewN ?_ _ | refine blk_drew ?_ | refine blk_alloc ?_ _)); exact BK285.out) hb); have n2_ := Aside0.mk (blk_below (g := gb290) (o := .cells #[.float .f64 (un pr287 t286), .float .f64 (un pr289 t288)] 42 (0, 0)) (by (with_reducible repeat (first | refine blk_drewN ?_ _ | refine blk_drew ?_ | refine blk_alloc ?_ _)); refine blk_far ?_ NB290_310.out _; (with_reducible repeat (first | refine blk_drewN ?_ _ | refine blk_drew ?_ | refine blk_alloc ?_ _)); refine blk_far ?_ NB290_310.out _; (with_reducible repeat (first | refine blk_drewN ?_ _ | refine blk_drew ?_ | refine blk_alloc ?_ _)); exact BK290.out) hb); have n3_ := Aside0.mk (blk_below (g := gb298) (o := .cells #[.float .f64 (un pr295 t294), .float .f64 (un pr297 t296)] 42 (0, 0)) (by (with_reducible repeat (first | refine blk_drewN ?_ _ | refine blk_drew ?_ | refine blk_alloc ?_ _)); refine blk_far ?_ NB298_310.out _; (with_reducible repeat (first | refine blk_drewN ?_ _ | refine blk_drew ?_ | refine blk_alloc ?_ _)); refine blk_far ?_ NB298_310.out _; (with_reducible repeat (first | refine blk_drewN ?_ _ | refine blk_drew ?_ | refine blk_alloc ?_ _)); exact BK298.out) hb); have n4_ := Aside0.mk (blk_below (g := gb310) (o := .cells #[.int .i64 (wrap64 ((Int.tmod (wrap64 (t282 + 17)) 36) + 1)), .float .f64 (un pr284 t283)] 54 (0, 0)) (by (with_reducible repeat (first | refine blk_drewN ?_ _ | refine blk_drew ?_ | refine blk_alloc ?_ _)); refine blk_put (cs := #[.int .i64 (wrap64 ((Int.tmod (wrap64 (t282 + 17)) 36) + 1)), .float .f64 0]) ?_ 1 _ rfl; (with_reducible repeat (first | refine blk_drewN ?_ _ | refine blk_drew ?_ | refine blk_alloc ?_ _)); refine blk_put (cs := #[.int .i64 0, .float .f64 0]) ?_ 0 _ rfl; (with_reducible repeat (first | refine blk_drewN ?_ _ | refine blk_drew ?_ | refine blk_alloc ?_ _)); exact BK310.out) hb); have n5_ := Aside0.mk (below_step (by repeat (first | (with_reducible first | exact HB.out | apply below_alloc | apply pw_below_drewN | apply below_drew1 | refine below_set ?_ GE285.out | refine below_set ?_ GE290.out | refine below_set ?_ GE298.out | refine below_set ?_ GE310.out) | exact HB.out)) hb); clear BK285; clear BK290; clear BK298; clear BK310; clear HB; have HO313 := n0_; have BK285 := n1_; have BK290 := n2_; have BK298 := n3_; have BK310 := n4_; have HB := n5_; clear n0_ n1_ n2_ n3_ n4_ n5_; clear hb ho83; obtain ⟨Ao84, co84, eo84⟩ := Kd.R_slice HO313.out; subst eo84) | ((with_reducible refine gate_callee (f := 25) rfl ?_); refine goesL_ (some 66) rfl rfl Tryd.func25 (by kernel_rfl) rfl #[.slice Ao84 y311.length co84] rfl (by (try simp only [List.map_toArray, List.map_cons, List.map_nil]); first | done | rfl | (simp only [List.length_drop, List.length_take]; rfl)) ?_; (with_reducible refine (impl_MeanWind.calls kj7 _ _ y311 l1 t314 t316 _ ?side1 ?side2 ?side3 ?side4 ?side5 A67.out).mono ?_); (case side1 => repeat (first | exact (Kd.R_reads' HO313.out).2.2 | (with_reducible refine Kd.C_alloc ?_ _) | (with_reducible refine Kd.C_drewN ?_ _) | (with_reducible refine Kd.C_drew ?_))); (case side2 => exact (Kd.R_reads' HO313.out).2.1); (case side3 => repeat (first | exact (Kd.C_below HR1.out HB.out) | (with_reducible refine Kd.C_alloc ?_ _) | (with_reducible refine Kd.C_drewN ?_ _) | (with_reducible refine Kd.C_drew ?_))); (case side4 => exact HC1.out); (case side5 => exact HN1.out); rintro e w85 ⟨pr315, pr317, rfl, hb⟩; refine ⟨_, rfl, ?_⟩; have n0_ := Aside0.mk (Kd.R_below (by (with_reducible repeat (first | apply Kd.R_alloc | apply Kd.R_drewN | apply Kd.R_drew)); exact HO313.out) hb); have n1_ := Aside0.mk (blk_below (g := gb285) (o := .cells #[.int .i64 t282, .float .f64 (un pr284 t283)] 54 (0, 0)) (by (with_reducible repeat (first | refine blk_drewN ?_ _ | refine blk_drew ?_ | refine blk_alloc ?_ _)); exact BK285.out) hb); have n2_ := Aside0.mk (blk_below (g := gb290) (o := .cells #[.float .f64 (un pr287 t286), .float .f64 (un pr289 t288)] 42 (0, 0)) (by (with_reducible repeat (first | refine blk_drewN ?_ _ | refine blk_drew ?_ | refine blk_alloc ?_ _)); exact BK290.out) hb); have n3_ := Aside0.mk (blk_below (g := gb298) (o := .cells #[.float .f64 (un pr295 t294), .float .f64 (un pr297 t296)] 42 (0, 0)) (by (with_reducible repeat (first | refine blk_drewN ?_ _ | refine blk_drew ?_ | refine blk_alloc ?_ _)); exact BK298.out) hb); have n4_ := Aside0.mk (blk_below (g := gb310) (o := .cells #[.int .i64 (wrap64 ((Int.tmod (wrap64 (t282 + 17)) 36) + 1)), .float .f64 (un pr284 t283)] 54 (0, 0)) (by (with_reducible repeat (first | refine blk_drewN ?_ _ | refine blk_drew ?_ | refine blk_alloc ?_ _)); exact BK310.out) hb); have n5_ := Aside0.mk (below_step (by repeat (first | (with_reducible first | exact HB.out | apply below_alloc | apply pw_below_drewN | apply below_drew1 | refine below_set ?_ GE285.out | refine below_set ?_ GE290.out | refine below_set ?_ GE298.out | refine below_set ?_ GE310.out) | exact HB.out)) hb); clear HO313; clear BK285; clear BK290; clear BK298; clear BK310; clear HB; have HO313 := n0_; have BK285 := n1_; have BK290 := n2_; have BK298 := n3_; have BK310 := n4_; have HB := n5_; clear n0_ n1_ n2_ n3_ n4_ n5_; (try clear hb); (try clear hb2); (try clear hk); (try clear hi)) | ((with_reducible refine gate_callee (f := 40) rfl ?_); refine goesL_ (some 68) rfl rfl Tryd.func40 (by kernel_rfl) rfl #[.agg #[.float .f64 (un pr315 t314), .float .f64 (un pr317 t316)], .agg #[.float .f64 (un 0 0), .float .f64 (un 0 0)]] rfl (by (try simp only [List.map_toArray, List.map_cons, List.map_nil]); first | done | rfl | (simp only [List.length_drop, List.length_take]; rfl)) ?_; (with_reducible refine (laws_equal.calls pr315 t314 pr317 t316 0 0 0 0 t318 _ A68.out).mono ?_); rintro e w86 ⟨rfl, hb⟩; refine ⟨_, rfl, ?_⟩; have n0_ := Aside0.mk (Kd.R_below (by (with_reducible repeat (first | apply Kd.R_alloc | apply Kd.R_drewN | apply Kd.R_drew)); exact HO313.out) hb); have n1_ := Aside0.mk (blk_below (g := gb285) (o := .cells #[.int .i64 t282, .float .f64 (un pr284 t283)] 54 (0, 0)) (by (with_reducible repeat (first | refine blk_drewN ?_ _ | refine blk_drew ?_ | refine blk_alloc ?_ _)); exact BK285.out) hb); have n2_ := Aside0.mk (blk_below (g := gb290) (o := .cells #[.float .f64 (un pr287 t286), .float .f64 (un pr289 t288)] 42 (0, 0)) (by (with_reducible repeat (first | refine blk_drewN ?_ _ | refine blk_drew ?_ | refine blk_alloc ?_ _)); exact BK290.out) hb); have n3_ := Aside0.mk (blk_below (g := gb298) (o := .cells #[.float .f64 (un pr295 t294), .float .f64 (un pr297 t296)] 42 (0, 0)) (by (with_reducible repeat (first | refine blk_drewN ?_ _ | refine blk_drew ?_ | refine blk_alloc ?_ _)); exact BK298.out) hb); have n4_ := Aside0.mk (blk_below (g := gb310) (o := .cells #[.int .i64 (wrap64 ((Int.tmod (wrap64 (t282 + 17)) 36) + 1)), .float .f64 (un pr284 t283)] 54 (0, 0)) (by (with_reducible repeat (first | refine blk_drewN ?_ _ | refine blk_drew ?_ | refine blk_alloc ?_ _)); exact BK310.out) hb); have n5_ := Aside0.mk (below_step (by repeat (first | (with_reducible first | exact HB.out | apply below_alloc | apply pw_below_drewN | apply below_drew1 | refine below_set ?_ GE285.out | refine below_set ?_ GE290.out | refine below_set ?_ GE298.out | refine below_set ?_ GE310.out) | exact HB.out)) hb); clear HO313; clear BK285; clear BK290; clear BK298; clear BK310; clear HB; have HO313 := n0_; have BK285 := n1_; have BK290 := n2_; have BK298 := n3_; have BK310 := n4_; have HB := n5_; clear n0_ n1_ n2_ n3_ n4_ n5_; (try clear hb); (try clear hb2); (try clear hk); (try clear hi)))
       go_ret
       exact ⟨by first | rfl | (simp [errW_none, errW_some] <;> rfl) | (simp [*, errW_none, errW_some] <;> rfl), by repeat (first | (with_reducible first | exact HB.out | apply below_alloc | apply pw_below_drewN | apply below_drew1 | refine below_set ?_ GE285.out | refine below_set ?_ GE290.out | refine below_set ?_ GE298.out | refine below_set ?_ GE310.out) | exact HB.out)⟩
     ·replace c55 := Bool.eq_false_iff.mpr c55
      subst c55
      have H1 : (some false) = some r := by rw [if_neg (show ¬ (false = true) by decide)] at H; exact H
      clear H
      have H := H1
      clear H1
      obtain rfl := Option.some.inj H
      have hnb87 := NB298_285.out
      have hnc87 := NB285_298.out
      have hnb88 := NB298_290.out
      have hnc88 := NB290_298.out
      have hcz89_0 : wc.cell? ⟨gb298, 0, none⟩ = some (.float .f64 (un pr295 t294)) := (blk_cell BK298.out 0).trans rfl
      have hcz89_1 : wc.cell? ⟨gb298, 1, none⟩ = some (.float .f64 (un pr297 t296)) := (blk_cell BK298.out 1).trans rfl
      have hfz89_0 := blk_frozen BK298.out 0
      have hfz89_1 := blk_frozen BK298.out 1
      have hnb90 := NB290_285.out
      have hnc90 := NB285_290.out
      have hcz91_0 : wc.cell? ⟨gb290, 0, none⟩ = some (.float .f64 (un pr287 t286)) := (blk_cell BK290.out 0).trans rfl
      have hcz91_1 : wc.cell? ⟨gb290, 1, none⟩ = some (.float .f64 (un pr289 t288)) := (blk_cell BK290.out 1).trans rfl
      have hfz91_0 := blk_frozen BK290.out 0
      have hfz91_1 := blk_frozen BK290.out 1
      go_wp2_with (first | ((with_reducible refine gate_callee (f := 40) rfl ?_); refine goesL_ (some 47) rfl rfl Tryd.func40 (by kernel_rfl) rfl #[.agg #[.float .f64 (un pr295 t294), .float .f64 (un pr297 t296)], .agg #[.float .f64 (un pr287 t286), .float .f64 (un pr289 t288)]] rfl (by (try simp only [List.map_toArray, List.map_cons, List.map_nil]); first | done | rfl | (simp only [List.length_drop, List.length_take]; rfl)) ?_; (with_reducible refine (laws_equal.calls pr295 t294 pr297 t296 pr287 t286 pr289 t288 false _ A54.out).mono ?_); rintro e w92 ⟨rfl, hb⟩; refine ⟨_, rfl, ?_⟩; have n0_ := Aside0.mk (blk_below (g := gb285) (o := .cells #[.int .i64 t282, .float .f64 (un pr284 t283)] 54 (0, 0)) (by (with_reducible repeat (first | refine blk_drewN ?_ _ | refine blk_drew ?_ | refine blk_alloc ?_ _)); exact BK285.out) hb); have n1_ := Aside0.mk (blk_below (g := gb290) (o := .cells #[.float .f64 (un pr287 t286), .float .f64 (un pr289 t288)] 42 (0, 0)) (by (with_reducible repeat (first | refine blk_drewN ?_ _ | refine blk_drew ?_ | refine blk_alloc ?_ _)); exact BK290.out) hb); have n2_ := Aside0.mk (blk_below (g := gb298) (o := .cells #[.float .f64 (un pr295 t294), .float .f64 (un pr297 t296)] 42 (0, 0)) (by (with_reducible repeat (first | refine blk_drewN ?_ _ | refine blk_drew ?_ | refine blk_alloc ?_ _)); exact BK298.out) hb); have n3_ := Aside0.mk (below_step (by repeat (first | (with_reducible first | exact HB.out | apply below_alloc | apply pw_below_drewN | apply below_drew1 | refine below_set ?_ GE285.out | refine below_set ?_ GE290.out | refine below_set ?_ GE298.out) | exact HB.out)) hb); clear BK285; clear BK290; clear BK298; clear HB; have BK285 := n0_; have BK290 := n1_; have BK298 := n2_; have HB := n3_; clear n0_ n1_ n2_ n3_; (try clear hb); (try clear hb2); (try clear hk); (try clear hi)))
      go_ret
      exact ⟨by first | rfl | (simp [errW_none, errW_some] <;> rfl) | (simp [*, errW_none, errW_some] <;> rfl), by repeat (first | (with_reducible first | exact HB.out | apply below_alloc | apply pw_below_drewN | apply below_drew1 | refine below_set ?_ GE285.out | refine below_set ?_ GE290.out | refine below_set ?_ GE298.out) | exact HB.out)⟩

/-- THE ONE PURE STATEMENT of laws_FnWinds: yours. -/
def laws_FnWinds.Pure : Prop := ∀ (l0 : List Int), l0.length ≤ 9223372036854775807 → (∀ x ∈ l0, (Lit.int .u8 x).wf = true) → ∃ k, laws_FnWinds.f k l0 [0, 4595424355236410249, 4599832907078044661, 4602678819172646912, 4603964935624201756, 4605075134482436153, 4605975682916830378, 4606639218218904859, 4607045579204271127, 4607182418800017408] = some true

end Go.Proofs.YtpileeenoocjpaaDoor.Q
