/- Plain Lean functions with the same answers as the Go functions of this seat, and a proof for each that the Go code comes to just these answers; no condition. Written by a program of this session (the kit's printer, turned). -/
import Derived.Test.YtcdghhihfjojaabQx0
import Derived.Test.YtcdghhihfjojaabQx10
import Derived.Test.YtcdghhihfjojaabQx11
namespace Go.Proofs.Ytcdghhihfjojaab.Q
open Go.RowKit Go.Proofs.YtcdghhihfjojaabW.PrintWords Go.Proofs.YtcdghhihfjojaabW.PrintLast Go.Proofs.YtcdghhihfjojaabW.PrintMore Go.Proofs.YtcdghhihfjojaabW.PrintFlt
attribute [local go_sem] cmp_lss cmp_leq cmp_gtr cmp_geq cmp_eql cmp_neq flt_l flt_r fgt_l fgt_r feq_l feq_r fne_l fne_r ord_lt ord_gt ord_eq ord_ne conv_int foi_fold run_store_flt
attribute [local go_sem] max2_int min2_int max_two min_two max_three min_three max_four min_four   -- for this text's walks alone
set_option linter.unusedVariables false
set_option linter.unusedSimpArgs false

/-! ### impl_Moved: function 19 -/
mutual
def impl_Moved.j0 : Nat → Int → Bool → Int → Int → List Int → Int → Int → List Int → Option (Int × Int × Bool)
 | 0, _, _, _, _, _, _, _, _ => none
 | k + 1, x1, x38, x352000, x352001, x352002, x353000, x353001, x353002 => if x38 = true then (some (0, 0, false)) else (impl_Moved.l0 k x1 (-1) 0 0 (-3) x352000 x352001 x352002 x353000 x353001 x353002)
def impl_Moved.l0 : Nat → Int → Int → Int → Int → Int → Int → Int → List Int → Int → Int → List Int → Option (Int × Int × Bool)
 | 0, _, _, _, _, _, _, _, _, _, _, _ => none
 | k + 1, x1, x9, x10, x11, x12, x352000, x352001, x352002, x353000, x353001, x353002 => if x12 ≤ 3 then (impl_Moved.l1 k x1 x9 x10 x11 x12 (-3) x352000 x352001 x352002 x353000 x353001 x353002) else (some (x10, x11, true))
def impl_Moved.l1 : Nat → Int → Int → Int → Int → Int → Int → Int → Int → List Int → Int → Int → List Int → Option (Int × Int × Bool)
 | 0, _, _, _, _, _, _, _, _, _, _, _, _ => none
 | k + 1, x1, x9, x10, x11, x12, x13, x352000, x352001, x352002, x353000, x353001, x353002 => if x13 ≤ 3 then (impl_Moved.l2 k x1 x9 x10 x11 x12 x13 0 0 x352000 x352001 x352002 x353000 x353001 x353002) else (impl_Moved.l0 k x1 x9 x10 x11 (wrap64 (x12 + 1)) x352000 x352001 x352002 x353000 x353001 x353002)
def impl_Moved.l2 : Nat → Int → Int → Int → Int → Int → Int → Int → Int → Int → Int → List Int → Int → Int → List Int → Option (Int × Int × Bool)
 | 0, _, _, _, _, _, _, _, _, _, _, _, _, _, _ => none
 | k + 1, x1, x9, x10, x11, x12, x13, x14, x15, x352000, x352001, x352002, x353000, x353001, x353002 => if x15 < x352000 then (impl_Moved.l3 k x1 x9 x10 x11 x12 x13 x14 x15 0 x352000 x352001 x352002 x353000 x353001 x353002) else (if x14 > x9 then (impl_Moved.l1 k x1 x14 x12 x13 x12 (wrap64 (x13 + 1)) x352000 x352001 x352002 x353000 x353001 x353002) else (if x14 = x9 then (if (wrap64 ((wrap64 (x12 * x12)) + (wrap64 (x13 * x13)))) < (wrap64 ((wrap64 (x10 * x10)) + (wrap64 (x11 * x11)))) then (impl_Moved.l1 k x1 x14 x12 x13 x12 (wrap64 (x13 + 1)) x352000 x352001 x352002 x353000 x353001 x353002) else (impl_Moved.l1 k x1 x9 x10 x11 x12 (wrap64 (x13 + 1)) x352000 x352001 x352002 x353000 x353001 x353002)) else (impl_Moved.l1 k x1 x9 x10 x11 x12 (wrap64 (x13 + 1)) x352000 x352001 x352002 x353000 x353001 x353002)))
def impl_Moved.l3 : Nat → Int → Int → Int → Int → Int → Int → Int → Int → Int → Int → Int → List Int → Int → Int → List Int → Option (Int × Int × Bool)
 | 0, _, _, _, _, _, _, _, _, _, _, _, _, _, _, _ => none
 | k + 1, x1, x9, x10, x11, x12, x13, x14, x15, x16, x352000, x352001, x352002, x353000, x353001, x353002 => if x16 < x352001 then ((impl_Box_high.f x352000 x352001 x352002 x15 x16 x1).bind fun t355 => (if t355 = true then ((impl_Box_high.f x353000 x353001 x353002 (wrap64 (x15 + x12)) (wrap64 (x16 + x13)) x1).bind fun t356 => (if t356 = true then (impl_Moved.l3 k x1 x9 x10 x11 x12 x13 (wrap64 (x14 + 1)) x15 (wrap64 (x16 + 1)) x352000 x352001 x352002 x353000 x353001 x353002) else (impl_Moved.l3 k x1 x9 x10 x11 x12 x13 x14 x15 (wrap64 (x16 + 1)) x352000 x352001 x352002 x353000 x353001 x353002))) else (impl_Moved.l3 k x1 x9 x10 x11 x12 x13 x14 x15 (wrap64 (x16 + 1)) x352000 x352001 x352002 x353000 x353001 x353002))) else (impl_Moved.l2 k x1 x9 x10 x11 x12 x13 x14 (wrap64 (x15 + 1)) x352000 x352001 x352002 x353000 x353001 x353002)
end
def impl_Moved.f (k : Nat) (a0_0 : Int) (a0_1 : Int) (l0_2 : List Int) (a1 : Int) (a2_0 : Int) (a2_1 : Int) (l2_2 : List Int) : Option (Int × Int × Bool) := (impl_BoxOk.f k a0_0 a0_1 l0_2).bind fun t353 => (if t353 = true then ((impl_BoxOk.f k a2_0 a2_1 l2_2).bind fun t354 => (if t354 = true then (if a0_0 = a2_0 then (impl_Moved.j0 k a1 (a0_1 != a2_1) a0_0 a0_1 l0_2 a2_0 a2_1 l2_2) else (impl_Moved.j0 k a1 true a0_0 a0_1 l0_2 a2_0 a2_1 l2_2)) else (impl_Moved.j0 k a1 true a0_0 a0_1 l0_2 a2_0 a2_1 l2_2))) else (impl_Moved.j0 k a1 true a0_0 a0_1 l0_2 a2_0 a2_1 l2_2))
theorem impl_Moved.mono_l : ∀ k, (∀ y0 y1 y2 y3 y4 y5 y6 y7, LeO (impl_Moved.j0 k y0 y1 y2 y3 y4 y5 y6 y7) (impl_Moved.j0 (k + 1) y0 y1 y2 y3 y4 y5 y6 y7)) ∧ (∀ y0 y1 y2 y3 y4 y5 y6 y7 y8 y9 y10, LeO (impl_Moved.l0 k y0 y1 y2 y3 y4 y5 y6 y7 y8 y9 y10) (impl_Moved.l0 (k + 1) y0 y1 y2 y3 y4 y5 y6 y7 y8 y9 y10)) ∧ (∀ y0 y1 y2 y3 y4 y5 y6 y7 y8 y9 y10 y11, LeO (impl_Moved.l1 k y0 y1 y2 y3 y4 y5 y6 y7 y8 y9 y10 y11) (impl_Moved.l1 (k + 1) y0 y1 y2 y3 y4 y5 y6 y7 y8 y9 y10 y11)) ∧ (∀ y0 y1 y2 y3 y4 y5 y6 y7 y8 y9 y10 y11 y12 y13, LeO (impl_Moved.l2 k y0 y1 y2 y3 y4 y5 y6 y7 y8 y9 y10 y11 y12 y13) (impl_Moved.l2 (k + 1) y0 y1 y2 y3 y4 y5 y6 y7 y8 y9 y10 y11 y12 y13)) ∧ (∀ y0 y1 y2 y3 y4 y5 y6 y7 y8 y9 y10 y11 y12 y13 y14, LeO (impl_Moved.l3 k y0 y1 y2 y3 y4 y5 y6 y7 y8 y9 y10 y11 y12 y13 y14) (impl_Moved.l3 (k + 1) y0 y1 y2 y3 y4 y5 y6 y7 y8 y9 y10 y11 y12 y13 y14))
 | 0 => ⟨fun _ _ _ _ _ _ _ _ r h => by simp [impl_Moved.j0] at h, fun _ _ _ _ _ _ _ _ _ _ _ r h => by simp [impl_Moved.l0] at h, fun _ _ _ _ _ _ _ _ _ _ _ _ r h => by simp [impl_Moved.l1] at h, fun _ _ _ _ _ _ _ _ _ _ _ _ _ _ r h => by simp [impl_Moved.l2] at h, fun _ _ _ _ _ _ _ _ _ _ _ _ _ _ _ r h => by simp [impl_Moved.l3] at h⟩
 | k + 1 => by
  obtain ⟨ih0, ih1, ih2, ih3, ih4⟩ := impl_Moved.mono_l k
  refine ⟨?_, ?_, ?_, ?_, ?_⟩
  ·intro y0 y1 y2 y3 y4 y5 y6 y7
   unfold impl_Moved.j0
   repeat' first
   | (with_reducible exact ih0 _ _ _ _ _ _ _ _)
   | (with_reducible exact ih1 _ _ _ _ _ _ _ _ _ _ _)
   | (with_reducible exact ih2 _ _ _ _ _ _ _ _ _ _ _ _)
   | (with_reducible exact ih3 _ _ _ _ _ _ _ _ _ _ _ _ _ _)
   | (with_reducible exact ih4 _ _ _ _ _ _ _ _ _ _ _ _ _ _ _)
   | (with_reducible exact impl_BoxOk.mono _ _ _ _)
   | (with_reducible exact LeO.refl _)
   | (with_reducible exact LeO.none _)
   | (with_reducible refine LeO.ite ?_ ?_)
   | (with_reducible refine LeO.bind ?_ (fun _ => ?_))
   | exact ih0 _ _ _ _ _ _ _ _
   | exact ih1 _ _ _ _ _ _ _ _ _ _ _
   | exact ih2 _ _ _ _ _ _ _ _ _ _ _ _
   | exact ih3 _ _ _ _ _ _ _ _ _ _ _ _ _ _
   | exact ih4 _ _ _ _ _ _ _ _ _ _ _ _ _ _ _
   | exact impl_BoxOk.mono _ _ _ _
   | exact LeO.none _
   | refine LeO.ite ?_ ?_
   | refine LeO.bind ?_ (fun _ => ?_)
  ·intro y0 y1 y2 y3 y4 y5 y6 y7 y8 y9 y10
   unfold impl_Moved.l0
   repeat' first
   | (with_reducible exact ih0 _ _ _ _ _ _ _ _)
   | (with_reducible exact ih1 _ _ _ _ _ _ _ _ _ _ _)
   | (with_reducible exact ih2 _ _ _ _ _ _ _ _ _ _ _ _)
   | (with_reducible exact ih3 _ _ _ _ _ _ _ _ _ _ _ _ _ _)
   | (with_reducible exact ih4 _ _ _ _ _ _ _ _ _ _ _ _ _ _ _)
   | (with_reducible exact impl_BoxOk.mono _ _ _ _)
   | (with_reducible exact LeO.refl _)
   | (with_reducible exact LeO.none _)
   | (with_reducible refine LeO.ite ?_ ?_)
   | (with_reducible refine LeO.bind ?_ (fun _ => ?_))
   | exact ih0 _ _ _ _ _ _ _ _
   | exact ih1 _ _ _ _ _ _ _ _ _ _ _
   | exact ih2 _ _ _ _ _ _ _ _ _ _ _ _
   | exact ih3 _ _ _ _ _ _ _ _ _ _ _ _ _ _
   | exact ih4 _ _ _ _ _ _ _ _ _ _ _ _ _ _ _
   | exact impl_BoxOk.mono _ _ _ _
   | exact LeO.none _
   | refine LeO.ite ?_ ?_
   | refine LeO.bind ?_ (fun _ => ?_)
  ·intro y0 y1 y2 y3 y4 y5 y6 y7 y8 y9 y10 y11
   unfold impl_Moved.l1
   repeat' first
   | (with_reducible exact ih0 _ _ _ _ _ _ _ _)
   | (with_reducible exact ih1 _ _ _ _ _ _ _ _ _ _ _)
   | (with_reducible exact ih2 _ _ _ _ _ _ _ _ _ _ _ _)
   | (with_reducible exact ih3 _ _ _ _ _ _ _ _ _ _ _ _ _ _)
   | (with_reducible exact ih4 _ _ _ _ _ _ _ _ _ _ _ _ _ _ _)
   | (with_reducible exact impl_BoxOk.mono _ _ _ _)
   | (with_reducible exact LeO.refl _)
   | (with_reducible exact LeO.none _)
   | (with_reducible refine LeO.ite ?_ ?_)
   | (with_reducible refine LeO.bind ?_ (fun _ => ?_))
   | exact ih0 _ _ _ _ _ _ _ _
   | exact ih1 _ _ _ _ _ _ _ _ _ _ _
   | exact ih2 _ _ _ _ _ _ _ _ _ _ _ _
   | exact ih3 _ _ _ _ _ _ _ _ _ _ _ _ _ _
   | exact ih4 _ _ _ _ _ _ _ _ _ _ _ _ _ _ _
   | exact impl_BoxOk.mono _ _ _ _
   | exact LeO.none _
   | refine LeO.ite ?_ ?_
   | refine LeO.bind ?_ (fun _ => ?_)
  ·intro y0 y1 y2 y3 y4 y5 y6 y7 y8 y9 y10 y11 y12 y13
   unfold impl_Moved.l2
   repeat' first
   | (with_reducible exact ih0 _ _ _ _ _ _ _ _)
   | (with_reducible exact ih1 _ _ _ _ _ _ _ _ _ _ _)
   | (with_reducible exact ih2 _ _ _ _ _ _ _ _ _ _ _ _)
   | (with_reducible exact ih3 _ _ _ _ _ _ _ _ _ _ _ _ _ _)
   | (with_reducible exact ih4 _ _ _ _ _ _ _ _ _ _ _ _ _ _ _)
   | (with_reducible exact impl_BoxOk.mono _ _ _ _)
   | (with_reducible exact LeO.refl _)
   | (with_reducible exact LeO.none _)
   | (with_reducible refine LeO.ite ?_ ?_)
   | (with_reducible refine LeO.bind ?_ (fun _ => ?_))
   | exact ih0 _ _ _ _ _ _ _ _
   | exact ih1 _ _ _ _ _ _ _ _ _ _ _
   | exact ih2 _ _ _ _ _ _ _ _ _ _ _ _
   | exact ih3 _ _ _ _ _ _ _ _ _ _ _ _ _ _
   | exact ih4 _ _ _ _ _ _ _ _ _ _ _ _ _ _ _
   | exact impl_BoxOk.mono _ _ _ _
   | exact LeO.none _
   | refine LeO.ite ?_ ?_
   | refine LeO.bind ?_ (fun _ => ?_)
  ·intro y0 y1 y2 y3 y4 y5 y6 y7 y8 y9 y10 y11 y12 y13 y14
   unfold impl_Moved.l3
   repeat' first
   | (with_reducible exact ih0 _ _ _ _ _ _ _ _)
   | (with_reducible exact ih1 _ _ _ _ _ _ _ _ _ _ _)
   | (with_reducible exact ih2 _ _ _ _ _ _ _ _ _ _ _ _)
   | (with_reducible exact ih3 _ _ _ _ _ _ _ _ _ _ _ _ _ _)
   | (with_reducible exact ih4 _ _ _ _ _ _ _ _ _ _ _ _ _ _ _)
   | (with_reducible exact impl_BoxOk.mono _ _ _ _)
   | (with_reducible exact LeO.refl _)
   | (with_reducible exact LeO.none _)
   | (with_reducible refine LeO.ite ?_ ?_)
   | (with_reducible refine LeO.bind ?_ (fun _ => ?_))
   | exact ih0 _ _ _ _ _ _ _ _
   | exact ih1 _ _ _ _ _ _ _ _ _ _ _
   | exact ih2 _ _ _ _ _ _ _ _ _ _ _ _
   | exact ih3 _ _ _ _ _ _ _ _ _ _ _ _ _ _
   | exact ih4 _ _ _ _ _ _ _ _ _ _ _ _ _ _ _
   | exact impl_BoxOk.mono _ _ _ _
   | exact LeO.none _
   | refine LeO.ite ?_ ?_
   | refine LeO.bind ?_ (fun _ => ?_)
theorem impl_Moved.mono : ∀ a0 a1 a2 a3 a4 a5 a6 k, LeO (impl_Moved.f k a0 a1 a2 a3 a4 a5 a6) (impl_Moved.f (k + 1) a0 a1 a2 a3 a4 a5 a6) := by
 intro a0 a1 a2 a3 a4 a5 a6 k
 obtain ⟨ih0, ih1, ih2, ih3, ih4⟩ := impl_Moved.mono_l k
 unfold impl_Moved.f
 repeat' first
   | (with_reducible exact ih0 _ _ _ _ _ _ _ _)
   | (with_reducible exact ih1 _ _ _ _ _ _ _ _ _ _ _)
   | (with_reducible exact ih2 _ _ _ _ _ _ _ _ _ _ _ _)
   | (with_reducible exact ih3 _ _ _ _ _ _ _ _ _ _ _ _ _ _)
   | (with_reducible exact ih4 _ _ _ _ _ _ _ _ _ _ _ _ _ _ _)
   | (with_reducible exact impl_BoxOk.mono _ _ _ _)
   | (with_reducible exact LeO.refl _)
   | (with_reducible exact LeO.none _)
   | (with_reducible refine LeO.ite ?_ ?_)
   | (with_reducible refine LeO.bind ?_ (fun _ => ?_))
   | exact ih0 _ _ _ _ _ _ _ _
   | exact ih1 _ _ _ _ _ _ _ _ _ _ _
   | exact ih2 _ _ _ _ _ _ _ _ _ _ _ _
   | exact ih3 _ _ _ _ _ _ _ _ _ _ _ _ _ _
   | exact ih4 _ _ _ _ _ _ _ _ _ _ _ _ _ _ _
   | exact impl_BoxOk.mono _ _ _ _
   | exact LeO.none _
   | refine LeO.ite ?_ ?_
   | refine LeO.bind ?_ (fun _ => ?_)
set_option maxHeartbeats 8000000 in
set_option maxRecDepth 100000 in
theorem impl_Moved.calls (k : Nat) (a0_0 : Int) (a0_1 : Int) (A0_2 : Option Addr) (c0_2 : Nat) (l0_2 : List Int) (a1 : Int) (a2_0 : Int) (a2_1 : Int) (A2_2 : Option Addr) (c2_2 : Nat) (l2_2 : List Int) (r1 : Int) (r2 : Int) (r3 : Bool) (w : World) (hr0_2 : Kd.C (Kd.int .i64) w A0_2 l0_2.length l0_2) (hc0_2 : l0_2.length ≤ c0_2) (hr2_2 : Kd.C (Kd.int .i64) w A2_2 l2_2.length l2_2) (hc2_2 : l2_2.length ≤ c2_2) (h : impl_Moved.f k a0_0 a0_1 l0_2 a1 a2_0 a2_1 l2_2 = some (r1, r2, r3)) :
  Calls Try.prog 19 #[.agg #[.int .i64 a0_0, .int .i64 a0_1, .slice A0_2 l0_2.length c0_2], .int .i64 a1, .agg #[.int .i64 a2_0, .int .i64 a2_1, .slice A2_2 l2_2.length c2_2]] w fun e w' => e = .returned (.tuple #[.int .i64 r1, .int .i64 r2, .bool r3]) ∧ Below w.heap.size w w' := by
 have hu27 := Try.underlying27
 have HR0_2 := Aside0.mk hr0_2
 have HC0_2 := Aside0.mk hc0_2
 clear hr0_2 hc0_2
 have HR2_2 := Aside0.mk hr2_2
 have HC2_2 := Aside0.mk hc2_2
 clear hr2_2 hc2_2
 have HB := Aside0.mk (Below.refl w.heap.size w)
 have H : ((impl_BoxOk.f k a0_0 a0_1 l0_2).bind fun t353 => (if t353 = true then ((impl_BoxOk.f k a2_0 a2_1 l2_2).bind fun t354 => (if t354 = true then (if a0_0 = a2_0 then (impl_Moved.j0 k a1 (a0_1 != a2_1) a0_0 a0_1 l0_2 a2_0 a2_1 l2_2) else (impl_Moved.j0 k a1 true a0_0 a0_1 l0_2 a2_0 a2_1 l2_2)) else (impl_Moved.j0 k a1 true a0_0 a0_1 l0_2 a2_0 a2_1 l2_2))) else (impl_Moved.j0 k a1 true a0_0 a0_1 l0_2 a2_0 a2_1 l2_2))) = some (r1, r2, r3) := h
 clear h
 have HC4 := Aside0.mk H
 clear H
 go_enter Try.func19, Try.ntmps19
 go_upto_region 1 with (first | ((with_reducible refine gate_dst (N := 3) rfl ?_); refine box_event ?hg (N := 3) ?hd (cs := #[.int .i64 a0_0, .int .i64 a0_1, .slice A0_2 l0_2.length c0_2]) (t := 27) ?hr ?_; (case hd => rfl); (case hg => rfl); (case hr => first | (go_simp; done) | (go_simp; rfl)); intro gb351 hg w5 hbox hb; have n0_ := Aside0.mk (below_step (by repeat (first | (with_reducible first | exact HB.out | apply below_alloc | apply pw_below_drewN | apply below_drew1) | exact HB.out)) hb); have n1_ := Aside0.mk (hbox); have n2_ := Aside0.mk ((by rw [hg]; exact (below_size (by repeat (first | (with_reducible first | exact HB.out | apply below_alloc | apply pw_below_drewN | apply below_drew1) | exact HB.out))) : w.heap.size ≤ gb351)); have n3_ := Aside0.mk ((by rw [hg]; exact (below_size (by repeat (first | (with_reducible first | exact HB.out | apply below_alloc | apply pw_below_drewN | apply below_drew1) | exact HB.out))) : w.heap.size ≤ gb351)); clear HB; have HB := n0_; have BK351 := n1_; have GW351 := n2_; have GE351 := n3_; clear n0_ n1_ n2_ n3_; clear hb hbox hg) | ((with_reducible refine gate_dst (N := 5) rfl ?_); refine box_event ?hg (N := 5) ?hd (cs := #[.int .i64 a2_0, .int .i64 a2_1, .slice A2_2 l2_2.length c2_2]) (t := 27) ?hr ?_; (case hd => rfl); (case hg => rfl); (case hr => first | (go_simp; done) | (go_simp; rfl)); intro gb352 hg w6 hbox hb; have n0_ := Aside0.mk (blk_below (g := gb351) (o := .cells #[.int .i64 a0_0, .int .i64 a0_1, .slice A0_2 l0_2.length c0_2] 27 (0, 0)) (by (with_reducible repeat (first | refine blk_drewN ?_ _ | refine blk_drew ?_ | refine blk_alloc ?_ _)); exact BK351.out) hb); have n1_ := Aside0.mk (below_step (by repeat (first | (with_reducible first | exact HB.out | apply below_alloc | apply pw_below_drewN | apply below_drew1 | refine below_set ?_ GE351.out) | exact HB.out)) hb); have n2_ := Aside0.mk (hbox); have n3_ := Aside0.mk ((by rw [hg]; exact (below_size (by repeat (first | (with_reducible first | exact HB.out | apply below_alloc | apply pw_below_drewN | apply below_drew1 | refine below_set ?_ GE351.out) | exact HB.out))) : w.heap.size ≤ gb352)); have n4_ := Aside0.mk ((by rw [hg]; exact (below_size (by repeat (first | (with_reducible first | exact HB.out | apply below_alloc | apply pw_below_drewN | apply below_drew1 | refine below_set ?_ GE351.out) | exact HB.out))) : w.heap.size ≤ gb352)); have n5_ := Aside0.mk ((by rw [hg]; exact Nat.ne_of_lt (blk_lt (g := gb351) (o := .cells #[.int .i64 a0_0, .int .i64 a0_1, .slice A0_2 l0_2.length c0_2] 27 (0, 0)) (by (with_reducible repeat (first | refine blk_drewN ?_ _ | refine blk_drew ?_ | refine blk_alloc ?_ _)); exact BK351.out)) : gb351 ≠ gb352)); have n6_ := Aside0.mk ((by rw [hg]; exact Nat.ne_of_gt (blk_lt (g := gb351) (o := .cells #[.int .i64 a0_0, .int .i64 a0_1, .slice A0_2 l0_2.length c0_2] 27 (0, 0)) (by (with_reducible repeat (first | refine blk_drewN ?_ _ | refine blk_drew ?_ | refine blk_alloc ?_ _)); exact BK351.out)) : gb352 ≠ gb351)); clear BK351; clear HB; have BK351 := n0_; have HB := n1_; have BK352 := n2_; have GW352 := n3_; have GE352 := n4_; have NB351_352 := n5_; have NB352_351 := n6_; clear n0_ n1_ n2_ n3_ n4_ n5_ n6_; clear hb hbox hg))
 (try simp only [Act.put, sqA, sqZ, sqS])
 go_cut [38] (fun v38 wc => ∃ (kq : Nat) (x38_3 : Bool), v38 = .bool x38_3 ∧ Aside0 (impl_Moved.j0 kq a1 x38_3 a0_0 a0_1 l0_2 a2_0 a2_1 l2_2 = some (r1, r2, r3)) ∧ Aside0 (kq ≤ k) ∧ Aside0 (wc.heap[gb351]? = some (.cells #[.int .i64 a0_0, .int .i64 a0_1, (.slice A0_2 l0_2.length c0_2)] 27 (0, 0))) ∧ Aside0 (wc.heap[gb352]? = some (.cells #[.int .i64 a2_0, .int .i64 a2_1, (.slice A2_2 l2_2.length c2_2)] 27 (0, 0))) ∧ Aside0 (Below w.heap.size w wc))
 case first =>
  have H := HC4.out
  clear HC4
  replace H := Option.bind_eq_some_iff.mp H
  obtain ⟨t353, A70, H⟩ := H
  replace H : (if t353 = true then ((impl_BoxOk.f k a2_0 a2_1 l2_2).bind fun t354 => (if t354 = true then (if a0_0 = a2_0 then (impl_Moved.j0 k a1 (a0_1 != a2_1) a0_0 a0_1 l0_2 a2_0 a2_1 l2_2) else (impl_Moved.j0 k a1 true a0_0 a0_1 l0_2 a2_0 a2_1 l2_2)) else (impl_Moved.j0 k a1 true a0_0 a0_1 l0_2 a2_0 a2_1 l2_2))) else (impl_Moved.j0 k a1 true a0_0 a0_1 l0_2 a2_0 a2_1 l2_2)) = some (r1, r2, r3) := H
  have A7 := Aside0.mk A70
  clear A70
  by_cases c8 : t353 = true
  ·subst c8
   have H1 : ((impl_BoxOk.f k a2_0 a2_1 l2_2).bind fun t354 => (if t354 = true then (if a0_0 = a2_0 then (impl_Moved.j0 k a1 (a0_1 != a2_1) a0_0 a0_1 l0_2 a2_0 a2_1 l2_2) else (impl_Moved.j0 k a1 true a0_0 a0_1 l0_2 a2_0 a2_1 l2_2)) else (impl_Moved.j0 k a1 true a0_0 a0_1 l0_2 a2_0 a2_1 l2_2))) = some (r1, r2, r3) := by rw [if_pos rfl] at H; exact H
   clear H
   have H := H1
   clear H1
   replace H := Option.bind_eq_some_iff.mp H
   obtain ⟨t354, A90, H⟩ := H
   replace H : (if t354 = true then (if a0_0 = a2_0 then (impl_Moved.j0 k a1 (a0_1 != a2_1) a0_0 a0_1 l0_2 a2_0 a2_1 l2_2) else (impl_Moved.j0 k a1 true a0_0 a0_1 l0_2 a2_0 a2_1 l2_2)) else (impl_Moved.j0 k a1 true a0_0 a0_1 l0_2 a2_0 a2_1 l2_2)) = some (r1, r2, r3) := H
   have A9 := Aside0.mk A90
   clear A90
   by_cases c10 : t354 = true
   ·subst c10
    have H1 : (if a0_0 = a2_0 then (impl_Moved.j0 k a1 (a0_1 != a2_1) a0_0 a0_1 l0_2 a2_0 a2_1 l2_2) else (impl_Moved.j0 k a1 true a0_0 a0_1 l0_2 a2_0 a2_1 l2_2)) = some (r1, r2, r3) := by rw [if_pos rfl] at H; exact H
    clear H
    have H := H1
    clear H1
    by_cases c11 : a0_0 = a2_0
    ·rw [if_pos c11] at H
     have c11b0 : (a0_0 == a2_0) = true := beq_iff_eq.mpr c11
     have c11b1 : (a0_0 != a2_0) = false := bne_eq_false_iff_eq.mpr c11
     clear c11
     (first | rw [c11b0] | (simp only [i64_w, i32_w]; rw [c11b0]) | skip)
     have H' := Aside0.mk H
     clear H
     have hnb12 := NB351_352.out
     have hnc12 := NB352_351.out
     have hcz13_0 : w6.cell? ⟨gb351, 0, none⟩ = some (.int .i64 a0_0) := (blk_cell BK351.out 0).trans rfl
     have hcz13_1 : w6.cell? ⟨gb351, 1, none⟩ = some (.int .i64 a0_1) := (blk_cell BK351.out 1).trans rfl
     have hcz13_2 : w6.cell? ⟨gb351, 2, none⟩ = some (.slice A0_2 l0_2.length c0_2) := (blk_cell BK351.out 2).trans rfl
     have hfz13_0 := blk_frozen BK351.out 0
     have hfz13_1 := blk_frozen BK351.out 1
     have hfz13_2 := blk_frozen BK351.out 2
     go_wp2_with (first | ((with_reducible refine gate_callee (f := 36) rfl ?_); refine goesL_ (some 18) rfl rfl Try.func36 (by kernel_rfl) rfl #[.agg #[.int .i64 a0_0, .int .i64 a0_1, .slice A0_2 l0_2.length c0_2]] rfl (by (try simp only [List.map_toArray, List.map_cons, List.map_nil]); first | done | rfl | (simp only [List.length_drop, List.length_take]; rfl)) ?_; (with_reducible refine (impl_BoxOk.calls k a0_0 a0_1 _ _ l0_2 true _ ?side1 ?side2 A7.out).mono ?_); (case side1 => repeat (first | exact (Kd.C_below HR0_2.out HB.out) | (with_reducible refine Kd.C_alloc ?_ _) | (with_reducible refine Kd.C_drewN ?_ _) | (with_reducible refine Kd.C_drew ?_))); (case side2 => exact HC0_2.out); rintro e w14 ⟨rfl, hb⟩; refine ⟨_, rfl, ?_⟩; have n0_ := Aside0.mk (blk_below (g := gb351) (o := .cells #[.int .i64 a0_0, .int .i64 a0_1, .slice A0_2 l0_2.length c0_2] 27 (0, 0)) (by (with_reducible repeat (first | refine blk_drewN ?_ _ | refine blk_drew ?_ | refine blk_alloc ?_ _)); exact BK351.out) hb); have n1_ := Aside0.mk (blk_below (g := gb352) (o := .cells #[.int .i64 a2_0, .int .i64 a2_1, .slice A2_2 l2_2.length c2_2] 27 (0, 0)) (by (with_reducible repeat (first | refine blk_drewN ?_ _ | refine blk_drew ?_ | refine blk_alloc ?_ _)); exact BK352.out) hb); have n2_ := Aside0.mk (below_step (by repeat (first | (with_reducible first | exact HB.out | apply below_alloc | apply pw_below_drewN | apply below_drew1 | refine below_set ?_ GE351.out | refine below_set ?_ GE352.out) | exact HB.out)) hb); clear BK351; clear BK352; clear HB; have BK351 := n0_; have BK352 := n1_; have HB := n2_; clear n0_ n1_ n2_; (try clear hb); (try clear hb2); (try clear hk); (try clear hi); have hcz15_0 : w14.cell? ⟨gb352, 0, none⟩ = some (.int .i64 a2_0) := (blk_cell BK352.out 0).trans rfl; have hcz15_1 : w14.cell? ⟨gb352, 1, none⟩ = some (.int .i64 a2_1) := (blk_cell BK352.out 1).trans rfl; have hcz15_2 : w14.cell? ⟨gb352, 2, none⟩ = some (.slice A2_2 l2_2.length c2_2) := (blk_cell BK352.out 2).trans rfl; have hfz15_0 := blk_frozen BK352.out 0; have hfz15_1 := blk_frozen BK352.out 1; have hfz15_2 := blk_frozen BK352.out 2) | (go_at_call 36; (with_reducible refine (impl_BoxOk.calls k a2_0 a2_1 _ _ l2_2 true _ ?side1 ?side2 A9.out).mono ?_); (case side1 => repeat (first | exact (Kd.C_below HR2_2.out HB.out) | (with_reducible refine Kd.C_alloc ?_ _) | (with_reducible refine Kd.C_drewN ?_ _) | (with_reducible refine Kd.C_drew ?_))); (case side2 => exact HC2_2.out); rintro e w16 ⟨rfl, hb⟩; have n0_ := Aside0.mk (blk_below (g := gb351) (o := .cells #[.int .i64 a0_0, .int .i64 a0_1, .slice A0_2 l0_2.length c0_2] 27 (0, 0)) (by (with_reducible repeat (first | refine blk_drewN ?_ _ | refine blk_drew ?_ | refine blk_alloc ?_ _)); exact BK351.out) hb); have n1_ := Aside0.mk (blk_below (g := gb352) (o := .cells #[.int .i64 a2_0, .int .i64 a2_1, .slice A2_2 l2_2.length c2_2] 27 (0, 0)) (by (with_reducible repeat (first | refine blk_drewN ?_ _ | refine blk_drew ?_ | refine blk_alloc ?_ _)); exact BK352.out) hb); have n2_ := Aside0.mk (below_step (by repeat (first | (with_reducible first | exact HB.out | apply below_alloc | apply pw_below_drewN | apply below_drew1 | refine below_set ?_ GE351.out | refine below_set ?_ GE352.out) | exact HB.out)) hb); clear BK351; clear BK352; clear HB; have BK351 := n0_; have BK352 := n1_; have HB := n2_; clear n0_ n1_ n2_; (try clear hb); (try clear hb2); (try clear hk); (try clear hi); have hcz17_0 : w16.cell? ⟨gb351, 0, none⟩ = some (.int .i64 a0_0) := (blk_cell BK351.out 0).trans rfl; have hcz17_1 : w16.cell? ⟨gb351, 1, none⟩ = some (.int .i64 a0_1) := (blk_cell BK351.out 1).trans rfl; have hcz17_2 : w16.cell? ⟨gb351, 2, none⟩ = some (.slice A0_2 l0_2.length c0_2) := (blk_cell BK351.out 2).trans rfl; have hfz17_0 := blk_frozen BK351.out 0; have hfz17_1 := blk_frozen BK351.out 1; have hfz17_2 := blk_frozen BK351.out 2; have hcz18_0 : w16.cell? ⟨gb352, 0, none⟩ = some (.int .i64 a2_0) := (blk_cell BK352.out 0).trans rfl; have hcz18_1 : w16.cell? ⟨gb352, 1, none⟩ = some (.int .i64 a2_1) := (blk_cell BK352.out 1).trans rfl; have hcz18_2 : w16.cell? ⟨gb352, 2, none⟩ = some (.slice A2_2 l2_2.length c2_2) := (blk_cell BK352.out 2).trans rfl; have hfz18_0 := blk_frozen BK352.out 0; have hfz18_1 := blk_frozen BK352.out 1; have hfz18_2 := blk_frozen BK352.out 2))
     go_meet
     case rel => exact ⟨_, ((a0_1 != a2_1)), (by first | rfl | (simp; done) | (simp [*]; done)), H', ⟨by first | omega | exact Nat.le_refl _⟩, ⟨by (with_reducible repeat (first | refine blk_drewN ?_ _ | refine blk_drew ?_ | refine blk_alloc ?_ _)); exact BK351.out⟩, ⟨by (with_reducible repeat (first | refine blk_drewN ?_ _ | refine blk_drew ?_ | refine blk_alloc ?_ _)); exact BK352.out⟩, ⟨by repeat (first | (with_reducible first | exact HB.out | apply below_alloc | apply pw_below_drewN | apply below_drew1 | refine below_set ?_ GE351.out | refine below_set ?_ GE352.out) | exact HB.out)⟩⟩
    ·rw [if_neg c11] at H
     have c11b0 : (a0_0 == a2_0) = false := beq_eq_false_iff_ne.mpr c11
     have c11b1 : (a0_0 != a2_0) = true := bne_iff_ne.mpr c11
     (first | rw [c11b0] | (simp only [i64_w, i32_w]; rw [c11b0]) | skip)
     have H' := Aside0.mk H
     clear H
     have hnb19 := NB351_352.out
     have hnc19 := NB352_351.out
     have hcz20_0 : w6.cell? ⟨gb351, 0, none⟩ = some (.int .i64 a0_0) := (blk_cell BK351.out 0).trans rfl
     have hcz20_1 : w6.cell? ⟨gb351, 1, none⟩ = some (.int .i64 a0_1) := (blk_cell BK351.out 1).trans rfl
     have hcz20_2 : w6.cell? ⟨gb351, 2, none⟩ = some (.slice A0_2 l0_2.length c0_2) := (blk_cell BK351.out 2).trans rfl
     have hfz20_0 := blk_frozen BK351.out 0
     have hfz20_1 := blk_frozen BK351.out 1
     have hfz20_2 := blk_frozen BK351.out 2
     go_wp2_with (first | ((with_reducible refine gate_callee (f := 36) rfl ?_); refine goesL_ (some 18) rfl rfl Try.func36 (by kernel_rfl) rfl #[.agg #[.int .i64 a0_0, .int .i64 a0_1, .slice A0_2 l0_2.length c0_2]] rfl (by (try simp only [List.map_toArray, List.map_cons, List.map_nil]); first | done | rfl | (simp only [List.length_drop, List.length_take]; rfl)) ?_; (with_reducible refine (impl_BoxOk.calls k a0_0 a0_1 _ _ l0_2 true _ ?side1 ?side2 A7.out).mono ?_); (case side1 => repeat (first | exact (Kd.C_below HR0_2.out HB.out) | (with_reducible refine Kd.C_alloc ?_ _) | (with_reducible refine Kd.C_drewN ?_ _) | (with_reducible refine Kd.C_drew ?_))); (case side2 => exact HC0_2.out); rintro e w21 ⟨rfl, hb⟩; refine ⟨_, rfl, ?_⟩; have n0_ := Aside0.mk (blk_below (g := gb351) (o := .cells #[.int .i64 a0_0, .int .i64 a0_1, .slice A0_2 l0_2.length c0_2] 27 (0, 0)) (by (with_reducible repeat (first | refine blk_drewN ?_ _ | refine blk_drew ?_ | refine blk_alloc ?_ _)); exact BK351.out) hb); have n1_ := Aside0.mk (blk_below (g := gb352) (o := .cells #[.int .i64 a2_0, .int .i64 a2_1, .slice A2_2 l2_2.length c2_2] 27 (0, 0)) (by (with_reducible repeat (first | refine blk_drewN ?_ _ | refine blk_drew ?_ | refine blk_alloc ?_ _)); exact BK352.out) hb); have n2_ := Aside0.mk (below_step (by repeat (first | (with_reducible first | exact HB.out | apply below_alloc | apply pw_below_drewN | apply below_drew1 | refine below_set ?_ GE351.out | refine below_set ?_ GE352.out) | exact HB.out)) hb); clear BK351; clear BK352; clear HB; have BK351 := n0_; have BK352 := n1_; have HB := n2_; clear n0_ n1_ n2_; (try clear hb); (try clear hb2); (try clear hk); (try clear hi); have hcz22_0 : w21.cell? ⟨gb352, 0, none⟩ = some (.int .i64 a2_0) := (blk_cell BK352.out 0).trans rfl; have hcz22_1 : w21.cell? ⟨gb352, 1, none⟩ = some (.int .i64 a2_1) := (blk_cell BK352.out 1).trans rfl; have hcz22_2 : w21.cell? ⟨gb352, 2, none⟩ = some (.slice A2_2 l2_2.length c2_2) := (blk_cell BK352.out 2).trans rfl; have hfz22_0 := blk_frozen BK352.out 0; have hfz22_1 := blk_frozen BK352.out 1; have hfz22_2 := blk_frozen BK352.out 2) | (go_at_call 36; (with_reducible refine (impl_BoxOk.calls k a2_0 a2_1 _ _ l2_2 true _ ?side1 ?side2 A9.out).mono ?_); (case side1 => repeat (first | exact (Kd.C_below HR2_2.out HB.out) | (with_reducible refine Kd.C_alloc ?_ _) | (with_reducible refine Kd.C_drewN ?_ _) | (with_reducible refine Kd.C_drew ?_))); (case side2 => exact HC2_2.out); rintro e w23 ⟨rfl, hb⟩; have n0_ := Aside0.mk (blk_below (g := gb351) (o := .cells #[.int .i64 a0_0, .int .i64 a0_1, .slice A0_2 l0_2.length c0_2] 27 (0, 0)) (by (with_reducible repeat (first | refine blk_drewN ?_ _ | refine blk_drew ?_ | refine blk_alloc ?_ _)); exact BK351.out) hb); have n1_ := Aside0.mk (blk_below (g := gb352) (o := .cells #[.int .i64 a2_0, .int .i64 a2_1, .slice A2_2 l2_2.length c2_2] 27 (0, 0)) (by (with_reducible repeat (first | refine blk_drewN ?_ _ | refine blk_drew ?_ | refine blk_alloc ?_ _)); exact BK352.out) hb); have n2_ := Aside0.mk (below_step (by repeat (first | (with_reducible first | exact HB.out | apply below_alloc | apply pw_below_drewN | apply below_drew1 | refine below_set ?_ GE351.out | refine below_set ?_ GE352.out) | exact HB.out)) hb); clear BK351; clear BK352; clear HB; have BK351 := n0_; have BK352 := n1_; have HB := n2_; clear n0_ n1_ n2_; (try clear hb); (try clear hb2); (try clear hk); (try clear hi); have hcz24_0 : w23.cell? ⟨gb351, 0, none⟩ = some (.int .i64 a0_0) := (blk_cell BK351.out 0).trans rfl; have hcz24_1 : w23.cell? ⟨gb351, 1, none⟩ = some (.int .i64 a0_1) := (blk_cell BK351.out 1).trans rfl; have hcz24_2 : w23.cell? ⟨gb351, 2, none⟩ = some (.slice A0_2 l0_2.length c0_2) := (blk_cell BK351.out 2).trans rfl; have hfz24_0 := blk_frozen BK351.out 0; have hfz24_1 := blk_frozen BK351.out 1; have hfz24_2 := blk_frozen BK351.out 2; have hcz25_0 : w23.cell? ⟨gb352, 0, none⟩ = some (.int .i64 a2_0) := (blk_cell BK352.out 0).trans rfl; have hcz25_1 : w23.cell? ⟨gb352, 1, none⟩ = some (.int .i64 a2_1) := (blk_cell BK352.out 1).trans rfl; have hcz25_2 : w23.cell? ⟨gb352, 2, none⟩ = some (.slice A2_2 l2_2.length c2_2) := (blk_cell BK352.out 2).trans rfl; have hfz25_0 := blk_frozen BK352.out 0; have hfz25_1 := blk_frozen BK352.out 1; have hfz25_2 := blk_frozen BK352.out 2))
     go_meet
     case rel => exact ⟨_, (true), (by first | rfl | (simp; done) | (simp [*]; done)), H', ⟨by first | omega | exact Nat.le_refl _⟩, ⟨by (with_reducible repeat (first | refine blk_drewN ?_ _ | refine blk_drew ?_ | refine blk_alloc ?_ _)); exact BK351.out⟩, ⟨by (with_reducible repeat (first | refine blk_drewN ?_ _ | refine blk_drew ?_ | refine blk_alloc ?_ _)); exact BK352.out⟩, ⟨by repeat (first | (with_reducible first | exact HB.out | apply below_alloc | apply pw_below_drewN | apply below_drew1 | refine below_set ?_ GE351.out | refine below_set ?_ GE352.out) | exact HB.out)⟩⟩
   ·replace c10 := Bool.eq_false_iff.mpr c10
    subst c10
    have H1 : (impl_Moved.j0 k a1 true a0_0 a0_1 l0_2 a2_0 a2_1 l2_2) = some (r1, r2, r3) := by rw [if_neg (show ¬ (false = true) by decide)] at H; exact H
    clear H
    have H := H1
    clear H1
    have H' := Aside0.mk H
    clear H
    have hnb26 := NB351_352.out
    have hnc26 := NB352_351.out
    have hcz27_0 : w6.cell? ⟨gb351, 0, none⟩ = some (.int .i64 a0_0) := (blk_cell BK351.out 0).trans rfl
    have hcz27_1 : w6.cell? ⟨gb351, 1, none⟩ = some (.int .i64 a0_1) := (blk_cell BK351.out 1).trans rfl
    have hcz27_2 : w6.cell? ⟨gb351, 2, none⟩ = some (.slice A0_2 l0_2.length c0_2) := (blk_cell BK351.out 2).trans rfl
    have hfz27_0 := blk_frozen BK351.out 0
    have hfz27_1 := blk_frozen BK351.out 1
    have hfz27_2 := blk_frozen BK351.out 2
    go_wp2_with (first | ((with_reducible refine gate_callee (f := 36) rfl ?_); refine goesL_ (some 18) rfl rfl Try.func36 (by kernel_rfl) rfl #[.agg #[.int .i64 a0_0, .int .i64 a0_1, .slice A0_2 l0_2.length c0_2]] rfl (by (try simp only [List.map_toArray, List.map_cons, List.map_nil]); first | done | rfl | (simp only [List.length_drop, List.length_take]; rfl)) ?_; (with_reducible refine (impl_BoxOk.calls k a0_0 a0_1 _ _ l0_2 true _ ?side1 ?side2 A7.out).mono ?_); (case side1 => repeat (first | exact (Kd.C_below HR0_2.out HB.out) | (with_reducible refine Kd.C_alloc ?_ _) | (with_reducible refine Kd.C_drewN ?_ _) | (with_reducible refine Kd.C_drew ?_))); (case side2 => exact HC0_2.out); rintro e w28 ⟨rfl, hb⟩; refine ⟨_, rfl, ?_⟩; have n0_ := Aside0.mk (blk_below (g := gb351) (o := .cells #[.int .i64 a0_0, .int .i64 a0_1, .slice A0_2 l0_2.length c0_2] 27 (0, 0)) (by (with_reducible repeat (first | refine blk_drewN ?_ _ | refine blk_drew ?_ | refine blk_alloc ?_ _)); exact BK351.out) hb); have n1_ := Aside0.mk (blk_below (g := gb352) (o := .cells #[.int .i64 a2_0, .int .i64 a2_1, .slice A2_2 l2_2.length c2_2] 27 (0, 0)) (by (with_reducible repeat (first | refine blk_drewN ?_ _ | refine blk_drew ?_ | refine blk_alloc ?_ _)); exact BK352.out) hb); have n2_ := Aside0.mk (below_step (by repeat (first | (with_reducible first | exact HB.out | apply below_alloc | apply pw_below_drewN | apply below_drew1 | refine below_set ?_ GE351.out | refine below_set ?_ GE352.out) | exact HB.out)) hb); clear BK351; clear BK352; clear HB; have BK351 := n0_; have BK352 := n1_; have HB := n2_; clear n0_ n1_ n2_; (try clear hb); (try clear hb2); (try clear hk); (try clear hi); have hcz29_0 : w28.cell? ⟨gb352, 0, none⟩ = some (.int .i64 a2_0) := (blk_cell BK352.out 0).trans rfl; have hcz29_1 : w28.cell? ⟨gb352, 1, none⟩ = some (.int .i64 a2_1) := (blk_cell BK352.out 1).trans rfl; have hcz29_2 : w28.cell? ⟨gb352, 2, none⟩ = some (.slice A2_2 l2_2.length c2_2) := (blk_cell BK352.out 2).trans rfl; have hfz29_0 := blk_frozen BK352.out 0; have hfz29_1 := blk_frozen BK352.out 1; have hfz29_2 := blk_frozen BK352.out 2) | (go_at_call 36; (with_reducible refine (impl_BoxOk.calls k a2_0 a2_1 _ _ l2_2 false _ ?side1 ?side2 A9.out).mono ?_); (case side1 => repeat (first | exact (Kd.C_below HR2_2.out HB.out) | (with_reducible refine Kd.C_alloc ?_ _) | (with_reducible refine Kd.C_drewN ?_ _) | (with_reducible refine Kd.C_drew ?_))); (case side2 => exact HC2_2.out); rintro e w30 ⟨rfl, hb⟩; have n0_ := Aside0.mk (blk_below (g := gb351) (o := .cells #[.int .i64 a0_0, .int .i64 a0_1, .slice A0_2 l0_2.length c0_2] 27 (0, 0)) (by (with_reducible repeat (first | refine blk_drewN ?_ _ | refine blk_drew ?_ | refine blk_alloc ?_ _)); exact BK351.out) hb); have n1_ := Aside0.mk (blk_below (g := gb352) (o := .cells #[.int .i64 a2_0, .int .i64 a2_1, .slice A2_2 l2_2.length c2_2] 27 (0, 0)) (by (with_reducible repeat (first | refine blk_drewN ?_ _ | refine blk_drew ?_ | refine blk_alloc ?_ _)); exact BK352.out) hb); have n2_ := Aside0.mk (below_step (by repeat (first | (with_reducible first | exact HB.out | apply below_alloc | apply pw_below_drewN | apply below_drew1 | refine below_set ?_ GE351.out | refine below_set ?_ GE352.out) | exact HB.out)) hb); clear BK351; clear BK352; clear HB; have BK351 := n0_; have BK352 := n1_; have HB := n2_; clear n0_ n1_ n2_; (try clear hb); (try clear hb2); (try clear hk); (try clear hi)))
    go_meet
    case rel => exact ⟨_, (true), (by first | rfl | (simp; done) | (simp [*]; done)), H', ⟨by first | omega | exact Nat.le_refl _⟩, ⟨by (with_reducible repeat (first | refine blk_drewN ?_ _ | refine blk_drew ?_ | refine blk_alloc ?_ _)); exact BK351.out⟩, ⟨by (with_reducible repeat (first | refine blk_drewN ?_ _ | refine blk_drew ?_ | refine blk_alloc ?_ _)); exact BK352.out⟩, ⟨by repeat (first | (with_reducible first | exact HB.out | apply below_alloc | apply pw_below_drewN | apply below_drew1 | refine below_set ?_ GE351.out | refine below_set ?_ GE352.out) | exact HB.out)⟩⟩
  ·replace c8 := Bool.eq_false_iff.mpr c8
   subst c8
   have H1 : (impl_Moved.j0 k a1 true a0_0 a0_1 l0_2 a2_0 a2_1 l2_2) = some (r1, r2, r3) := by rw [if_neg (show ¬ (false = true) by decide)] at H; exact H
   clear H
   have H := H1
   clear H1
   have H' := Aside0.mk H
   clear H
   have hnb31 := NB351_352.out
   have hnc31 := NB352_351.out
   have hcz32_0 : w6.cell? ⟨gb351, 0, none⟩ = some (.int .i64 a0_0) := (blk_cell BK351.out 0).trans rfl
   have hcz32_1 : w6.cell? ⟨gb351, 1, none⟩ = some (.int .i64 a0_1) := (blk_cell BK351.out 1).trans rfl
   have hcz32_2 : w6.cell? ⟨gb351, 2, none⟩ = some (.slice A0_2 l0_2.length c0_2) := (blk_cell BK351.out 2).trans rfl
   have hfz32_0 := blk_frozen BK351.out 0
   have hfz32_1 := blk_frozen BK351.out 1
   have hfz32_2 := blk_frozen BK351.out 2
   go_wp2_with (first | ((with_reducible refine gate_callee (f := 36) rfl ?_); refine goesL_ (some 18) rfl rfl Try.func36 (by kernel_rfl) rfl #[.agg #[.int .i64 a0_0, .int .i64 a0_1, .slice A0_2 l0_2.length c0_2]] rfl (by (try simp only [List.map_toArray, List.map_cons, List.map_nil]); first | done | rfl | (simp only [List.length_drop, List.length_take]; rfl)) ?_; (with_reducible refine (impl_BoxOk.calls k a0_0 a0_1 _ _ l0_2 false _ ?side1 ?side2 A7.out).mono ?_); (case side1 => repeat (first | exact (Kd.C_below HR0_2.out HB.out) | (with_reducible refine Kd.C_alloc ?_ _) | (with_reducible refine Kd.C_drewN ?_ _) | (with_reducible refine Kd.C_drew ?_))); (case side2 => exact HC0_2.out); rintro e w33 ⟨rfl, hb⟩; refine ⟨_, rfl, ?_⟩; have n0_ := Aside0.mk (blk_below (g := gb351) (o := .cells #[.int .i64 a0_0, .int .i64 a0_1, .slice A0_2 l0_2.length c0_2] 27 (0, 0)) (by (with_reducible repeat (first | refine blk_drewN ?_ _ | refine blk_drew ?_ | refine blk_alloc ?_ _)); exact BK351.out) hb); have n1_ := Aside0.mk (blk_below (g := gb352) (o := .cells #[.int .i64 a2_0, .int .i64 a2_1, .slice A2_2 l2_2.length c2_2] 27 (0, 0)) (by (with_reducible repeat (first | refine blk_drewN ?_ _ | refine blk_drew ?_ | refine blk_alloc ?_ _)); exact BK352.out) hb); have n2_ := Aside0.mk (below_step (by repeat (first | (with_reducible first | exact HB.out | apply below_alloc | apply pw_below_drewN | apply below_drew1 | refine below_set ?_ GE351.out | refine below_set ?_ GE352.out) | exact HB.out)) hb); clear BK351; clear BK352; clear HB; have BK351 := n0_; have BK352 := n1_; have HB := n2_; clear n0_ n1_ n2_; (try clear hb); (try clear hb2); (try clear hk); (try clear hi)))
   go_meet
   case rel => exact ⟨_, (true), (by first | rfl | (simp; done) | (simp [*]; done)), H', ⟨by first | omega | exact Nat.le_refl _⟩, ⟨by (with_reducible repeat (first | refine blk_drewN ?_ _ | refine blk_drew ?_ | refine blk_alloc ?_ _)); exact BK351.out⟩, ⟨by (with_reducible repeat (first | refine blk_drewN ?_ _ | refine blk_drew ?_ | refine blk_alloc ?_ _)); exact BK352.out⟩, ⟨by repeat (first | (with_reducible first | exact HB.out | apply below_alloc | apply pw_below_drewN | apply below_drew1 | refine below_set ?_ GE351.out | refine below_set ?_ GE352.out) | exact HB.out)⟩⟩
 case rest =>
  clear HC4
  try clear c1
  try clear c2
  try clear p2
  try clear c3
  try clear c8
  try clear c10
  try clear c11
  try clear c11b0
  try clear c11b1
  try clear c12
  try clear c19
  try clear c26
  try clear c31
  try clear hcz13_0
  try clear hcz13_1
  try clear hcz13_2
  try clear hcz15_0
  try clear hcz15_1
  try clear hcz15_2
  try clear hcz17_0
  try clear hcz17_1
  try clear hcz17_2
  try clear hcz18_0
  try clear hcz18_1
  try clear hcz18_2
  try clear hcz20_0
  try clear hcz20_1
  try clear hcz20_2
  try clear hcz22_0
  try clear hcz22_1
  try clear hcz22_2
  try clear hcz24_0
  try clear hcz24_1
  try clear hcz24_2
  try clear hcz25_0
  try clear hcz25_1
  try clear hcz25_2
  try clear hcz27_0
  try clear hcz27_1
  try clear hcz27_2
  try clear hcz29_0
  try clear hcz29_1
  try clear hcz29_2
  try clear hcz32_0
  try clear hcz32_1
  try clear hcz32_2
  try clear hfz13_0
  try clear hfz13_1
  try clear hfz13_2
  try clear hfz15_0
  try clear hfz15_1
  try clear hfz15_2
  try clear hfz17_0
  try clear hfz17_1
  try clear hfz17_2
  try clear hfz18_0
  try clear hfz18_1
  try clear hfz18_2
  try clear hfz20_0
  try clear hfz20_1
  try clear hfz20_2
  try clear hfz22_0
  try clear hfz22_1
  try clear hfz22_2
  try clear hfz24_0
  try clear hfz24_1
  try clear hfz24_2
  try clear hfz25_0
  try clear hfz25_1
  try clear hfz25_2
  try clear hfz27_0
  try clear hfz27_1
  try clear hfz27_2
  try clear hfz29_0
  try clear hfz29_1
  try clear hfz29_2
  try clear hfz32_0
  try clear hfz32_1
  try clear hfz32_2
  obtain ⟨kq, x38_3, rfl, HA, HJ3, BK351, BK352, HB⟩ := hcut
  cases kq with
  | zero => exact absurd HA.out (by simp [impl_Moved.j0])
  | succ kj3 =>
   have H := HA.out
   clear HA
   simp only [impl_Moved.j0] at H
   by_cases c34 : x38_3 = true
   ·subst c34
    have H1 : (some (0, 0, false)) = some (r1, r2, r3) := by rw [if_pos rfl] at H; exact H
    clear H
    have H := H1
    clear H1
    simp only [Option.some.injEq, Prod.mk.injEq] at H
    obtain ⟨rfl, rfl, rfl⟩ := H
    go_wp2
    go_ret3
    exact ⟨by first | rfl | (simp [errW_none, errW_some] <;> rfl) | (simp [*, errW_none, errW_some] <;> rfl), by repeat (first | (with_reducible first | exact HB.out | apply below_alloc | apply pw_below_drewN | apply below_drew1 | refine below_set ?_ GE351.out | refine below_set ?_ GE352.out) | exact HB.out)⟩
   ·replace c34 := Bool.eq_false_iff.mpr c34
    subst c34
    have H1 : (impl_Moved.l0 kj3 a1 (-1) 0 0 (-3) a0_0 a0_1 l0_2 a2_0 a2_1 l2_2) = some (r1, r2, r3) := by rw [if_neg (show ¬ (false = true) by decide)] at H; exact H
    clear H
    have H := H1
    clear H1
    have H' := Aside0.mk H
    clear H
    go_wp2
    go_loopg [9, 10, 11, 12] kj3 (fun kq v9 v10 v11 v12 w' => ∃ (x9_2 : Int) (x10_2 : Int) (x11_2 : Int) (x12_2 : Int), v9 = .int .i64 x9_2 ∧ v10 = .int .i64 x10_2 ∧ v11 = .int .i64 x11_2 ∧ v12 = .int .i64 x12_2 ∧ Aside0 (impl_Moved.l0 kq a1 x9_2 x10_2 x11_2 x12_2 a0_0 a0_1 l0_2 a2_0 a2_1 l2_2 = some (r1, r2, r3)) ∧ Aside0 (kq ≤ kj3) ∧ Aside0 (w'.heap[gb351]? = some (.cells #[.int .i64 a0_0, .int .i64 a0_1, (.slice A0_2 l0_2.length c0_2)] 27 (0, 0))) ∧ Aside0 (w'.heap[gb352]? = some (.cells #[.int .i64 a2_0, .int .i64 a2_1, (.slice A2_2 l2_2.length c2_2)] 27 (0, 0))) ∧ Aside0 (Below w.heap.size w w'))
    case atStart => exact ⟨((-1)), (0), (0), ((-3)), (by first | rfl | (simp; done) | (simp [*]; done)), (by first | rfl | (simp; done) | (simp [*]; done)), (by first | rfl | (simp; done) | (simp [*]; done)), (by first | rfl | (simp; done) | (simp [*]; done)), H', ⟨Nat.le_refl _⟩, ⟨by (with_reducible repeat (first | refine blk_drewN ?_ _ | refine blk_drew ?_ | refine blk_alloc ?_ _)); exact BK351.out⟩, ⟨by (with_reducible repeat (first | refine blk_drewN ?_ _ | refine blk_drew ?_ | refine blk_alloc ?_ _)); exact BK352.out⟩, ⟨by repeat (first | (with_reducible first | exact HB.out | apply below_alloc | apply pw_below_drewN | apply below_drew1 | refine below_set ?_ GE351.out | refine below_set ?_ GE352.out) | exact HB.out)⟩⟩
    case round =>
     clear H'
     try clear c1
     try clear c2
     try clear p2
     try clear c3
     try clear c8
     try clear c10
     try clear c11
     try clear c11b0
     try clear c11b1
     try clear c12
     try clear c19
     try clear c26
     try clear c31
     try clear c34
     try clear hcz13_0
     try clear hcz13_1
     try clear hcz13_2
     try clear hcz15_0
     try clear hcz15_1
     try clear hcz15_2
     try clear hcz17_0
     try clear hcz17_1
     try clear hcz17_2
     try clear hcz18_0
     try clear hcz18_1
     try clear hcz18_2
     try clear hcz20_0
     try clear hcz20_1
     try clear hcz20_2
     try clear hcz22_0
     try clear hcz22_1
     try clear hcz22_2
     try clear hcz24_0
     try clear hcz24_1
     try clear hcz24_2
     try clear hcz25_0
     try clear hcz25_1
     try clear hcz25_2
     try clear hcz27_0
     try clear hcz27_1
     try clear hcz27_2
     try clear hcz29_0
     try clear hcz29_1
     try clear hcz29_2
     try clear hcz32_0
     try clear hcz32_1
     try clear hcz32_2
     try clear hfz13_0
     try clear hfz13_1
     try clear hfz13_2
     try clear hfz15_0
     try clear hfz15_1
     try clear hfz15_2
     try clear hfz17_0
     try clear hfz17_1
     try clear hfz17_2
     try clear hfz18_0
     try clear hfz18_1
     try clear hfz18_2
     try clear hfz20_0
     try clear hfz20_1
     try clear hfz20_2
     try clear hfz22_0
     try clear hfz22_1
     try clear hfz22_2
     try clear hfz24_0
     try clear hfz24_1
     try clear hfz24_2
     try clear hfz25_0
     try clear hfz25_1
     try clear hfz25_2
     try clear hfz27_0
     try clear hfz27_1
     try clear hfz27_2
     try clear hfz29_0
     try clear hfz29_1
     try clear hfz29_2
     try clear hfz32_0
     try clear hfz32_1
     try clear hfz32_2
     try clear p2
     obtain ⟨x9_2, x10_2, x11_2, x12_2, rfl, rfl, rfl, rfl, HA, HK2, BK351, BK352, HB⟩ := hrel
     cases gk with
     | zero => exact absurd HA.out (by simp [impl_Moved.l0])
     | succ k2 =>
      have H := HA.out
      clear HA
      simp only [impl_Moved.l0] at H
      by_cases c35 : x12_2 ≤ 3
      ·rw [if_pos c35] at H
       have c35b0 : decide (x12_2 ≤ 3) = true := decide_eq_true c35
       clear c35
       have H' := Aside0.mk H
       clear H
       go_wp2
       go_loopg [9, 10, 11, 13] k2 (fun kq v9 v10 v11 v13 w' => ∃ (x9_3 : Int) (x10_3 : Int) (x11_3 : Int) (x13_3 : Int), v9 = .int .i64 x9_3 ∧ v10 = .int .i64 x10_3 ∧ v11 = .int .i64 x11_3 ∧ v13 = .int .i64 x13_3 ∧ Aside0 (impl_Moved.l1 kq a1 x9_3 x10_3 x11_3 x12_2 x13_3 a0_0 a0_1 l0_2 a2_0 a2_1 l2_2 = some (r1, r2, r3)) ∧ Aside0 (kq ≤ k2) ∧ Aside0 (w'.heap[gb351]? = some (.cells #[.int .i64 a0_0, .int .i64 a0_1, (.slice A0_2 l0_2.length c0_2)] 27 (0, 0))) ∧ Aside0 (w'.heap[gb352]? = some (.cells #[.int .i64 a2_0, .int .i64 a2_1, (.slice A2_2 l2_2.length c2_2)] 27 (0, 0))) ∧ Aside0 (Below w.heap.size w w'))
       case atStart => exact ⟨(x9_2), (x10_2), (x11_2), ((-3)), (by first | rfl | (simp; done) | (simp [*]; done)), (by first | rfl | (simp; done) | (simp [*]; done)), (by first | rfl | (simp; done) | (simp [*]; done)), (by first | rfl | (simp; done) | (simp [*]; done)), H', ⟨Nat.le_refl _⟩, ⟨by (with_reducible repeat (first | refine blk_drewN ?_ _ | refine blk_drew ?_ | refine blk_alloc ?_ _)); exact BK351.out⟩, ⟨by (with_reducible repeat (first | refine blk_drewN ?_ _ | refine blk_drew ?_ | refine blk_alloc ?_ _)); exact BK352.out⟩, ⟨by repeat (first | (with_reducible first | exact HB.out | apply below_alloc | apply pw_below_drewN | apply below_drew1 | refine below_set ?_ GE351.out | refine below_set ?_ GE352.out) | exact HB.out)⟩⟩
       case round =>
        clear H'
        try clear c1
        try clear c2
        try clear p2
        try clear c3
        try clear c8
        try clear c10
        try clear c11
        try clear c11b0
        try clear c11b1
        try clear c12
        try clear c19
        try clear c26
        try clear c31
        try clear c34
        try clear c35
        try clear c35b0
        try clear hcz13_0
        try clear hcz13_1
        try clear hcz13_2
        try clear hcz15_0
        try clear hcz15_1
        try clear hcz15_2
        try clear hcz17_0
        try clear hcz17_1
        try clear hcz17_2
        try clear hcz18_0
        try clear hcz18_1
        try clear hcz18_2
        try clear hcz20_0
        try clear hcz20_1
        try clear hcz20_2
        try clear hcz22_0
        try clear hcz22_1
        try clear hcz22_2
        try clear hcz24_0
        try clear hcz24_1
        try clear hcz24_2
        try clear hcz25_0
        try clear hcz25_1
        try clear hcz25_2
        try clear hcz27_0
        try clear hcz27_1
        try clear hcz27_2
        try clear hcz29_0
        try clear hcz29_1
        try clear hcz29_2
        try clear hcz32_0
        try clear hcz32_1
        try clear hcz32_2
        try clear hfz13_0
        try clear hfz13_1
        try clear hfz13_2
        try clear hfz15_0
        try clear hfz15_1
        try clear hfz15_2
        try clear hfz17_0
        try clear hfz17_1
        try clear hfz17_2
        try clear hfz18_0
        try clear hfz18_1
        try clear hfz18_2
        try clear hfz20_0
        try clear hfz20_1
        try clear hfz20_2
        try clear hfz22_0
        try clear hfz22_1
        try clear hfz22_2
        try clear hfz24_0
        try clear hfz24_1
        try clear hfz24_2
        try clear hfz25_0
        try clear hfz25_1
        try clear hfz25_2
        try clear hfz27_0
        try clear hfz27_1
        try clear hfz27_2
        try clear hfz29_0
        try clear hfz29_1
        try clear hfz29_2
        try clear hfz32_0
        try clear hfz32_1
        try clear hfz32_2
        try clear p2
        obtain ⟨x9_3, x10_3, x11_3, x13_3, rfl, rfl, rfl, rfl, HA, HK3, BK351, BK352, HB⟩ := hrel
        cases gk with
        | zero => exact absurd HA.out (by simp [impl_Moved.l1])
        | succ k3 =>
         have H := HA.out
         clear HA
         simp only [impl_Moved.l1] at H
         by_cases c36 : x13_3 ≤ 3
         ·rw [if_pos c36] at H
          have c36b0 : decide (x13_3 ≤ 3) = true := decide_eq_true c36
          clear c36
          have H' := Aside0.mk H
          clear H
          go_wp2
          go_loopg [14, 15] k3 (fun kq v14 v15 w' => ∃ (x14_4 : Int) (x15_4 : Int), v14 = .int .i64 x14_4 ∧ v15 = .int .i64 x15_4 ∧ Aside0 (impl_Moved.l2 kq a1 x9_3 x10_3 x11_3 x12_2 x13_3 x14_4 x15_4 a0_0 a0_1 l0_2 a2_0 a2_1 l2_2 = some (r1, r2, r3)) ∧ Aside0 (kq ≤ k3) ∧ Aside0 (w'.heap[gb351]? = some (.cells #[.int .i64 a0_0, .int .i64 a0_1, (.slice A0_2 l0_2.length c0_2)] 27 (0, 0))) ∧ Aside0 (w'.heap[gb352]? = some (.cells #[.int .i64 a2_0, .int .i64 a2_1, (.slice A2_2 l2_2.length c2_2)] 27 (0, 0))) ∧ Aside0 (Below w.heap.size w w'))
          case atStart => exact ⟨(0), (0), (by first | rfl | (simp; done) | (simp [*]; done)), (by first | rfl | (simp; done) | (simp [*]; done)), H', ⟨Nat.le_refl _⟩, ⟨by (with_reducible repeat (first | refine blk_drewN ?_ _ | refine blk_drew ?_ | refine blk_alloc ?_ _)); exact BK351.out⟩, ⟨by (with_reducible repeat (first | refine blk_drewN ?_ _ | refine blk_drew ?_ | refine blk_alloc ?_ _)); exact BK352.out⟩, ⟨by repeat (first | (with_reducible first | exact HB.out | apply below_alloc | apply pw_below_drewN | apply below_drew1 | refine below_set ?_ GE351.out | refine below_set ?_ GE352.out) | exact HB.out)⟩⟩
          case round =>
           clear H'
           try clear c1
           try clear c2
           try clear p2
           try clear c3
           try clear c8
           try clear c10
           try clear c11
           try clear c11b0
           try clear c11b1
           try clear c12
           try clear c19
           try clear c26
           try clear c31
           try clear c34
           try clear c35
           try clear c35b0
           try clear c36
           try clear c36b0
           try clear hcz13_0
           try clear hcz13_1
           try clear hcz13_2
           try clear hcz15_0
           try clear hcz15_1
           try clear hcz15_2
           try clear hcz17_0
           try clear hcz17_1
           try clear hcz17_2
           try clear hcz18_0
           try clear hcz18_1
           try clear hcz18_2
           try clear hcz20_0
           try clear hcz20_1
           try clear hcz20_2
           try clear hcz22_0
           try clear hcz22_1
           try clear hcz22_2
           try clear hcz24_0
           try clear hcz24_1
           try clear hcz24_2
           try clear hcz25_0
           try clear hcz25_1
           try clear hcz25_2
           try clear hcz27_0
           try clear hcz27_1
           try clear hcz27_2
           try clear hcz29_0
           try clear hcz29_1
           try clear hcz29_2
           try clear hcz32_0
           try clear hcz32_1
           try clear hcz32_2
           try clear hfz13_0
           try clear hfz13_1
           try clear hfz13_2
           try clear hfz15_0
           try clear hfz15_1
           try clear hfz15_2
           try clear hfz17_0
           try clear hfz17_1
           try clear hfz17_2
           try clear hfz18_0
           try clear hfz18_1
           try clear hfz18_2
           try clear hfz20_0
           try clear hfz20_1
           try clear hfz20_2
           try clear hfz22_0
           try clear hfz22_1
           try clear hfz22_2
           try clear hfz24_0
           try clear hfz24_1
           try clear hfz24_2
           try clear hfz25_0
           try clear hfz25_1
           try clear hfz25_2
           try clear hfz27_0
           try clear hfz27_1
           try clear hfz27_2
           try clear hfz29_0
           try clear hfz29_1
           try clear hfz29_2
           try clear hfz32_0
           try clear hfz32_1
           try clear hfz32_2
           try clear p2
           obtain ⟨x14_4, x15_4, rfl, rfl, HA, HK4, BK351, BK352, HB⟩ := hrel
           cases gk with
           | zero => exact absurd HA.out (by simp [impl_Moved.l2])
           | succ k4 =>
            have H := HA.out
            clear HA
            simp only [impl_Moved.l2] at H
            by_cases c37 : x15_4 < a0_0
            ·rw [if_pos c37] at H
             have c37b0 : decide (x15_4 < a0_0) = true := decide_eq_true c37
             clear c37
             have H' := Aside0.mk H
             clear H
             have hnb38 := NB351_352.out
             have hnc38 := NB352_351.out
             have hcz39_0 : wr.cell? ⟨gb351, 0, none⟩ = some (.int .i64 a0_0) := (blk_cell BK351.out 0).trans rfl
             have hcz39_1 : wr.cell? ⟨gb351, 1, none⟩ = some (.int .i64 a0_1) := (blk_cell BK351.out 1).trans rfl
             have hcz39_2 : wr.cell? ⟨gb351, 2, none⟩ = some (.slice A0_2 l0_2.length c0_2) := (blk_cell BK351.out 2).trans rfl
             have hfz39_0 := blk_frozen BK351.out 0
             have hfz39_1 := blk_frozen BK351.out 1
             have hfz39_2 := blk_frozen BK351.out 2
             go_wp2
             go_loopg [14, 16] k4 (fun kq v14 v16 w' => ∃ (x14_5 : Int) (x16_5 : Int), v14 = .int .i64 x14_5 ∧ v16 = .int .i64 x16_5 ∧ Aside0 (impl_Moved.l3 kq a1 x9_3 x10_3 x11_3 x12_2 x13_3 x14_5 x15_4 x16_5 a0_0 a0_1 l0_2 a2_0 a2_1 l2_2 = some (r1, r2, r3)) ∧ Aside0 (kq ≤ k4) ∧ Aside0 (w'.heap[gb351]? = some (.cells #[.int .i64 a0_0, .int .i64 a0_1, (.slice A0_2 l0_2.length c0_2)] 27 (0, 0))) ∧ Aside0 (w'.heap[gb352]? = some (.cells #[.int .i64 a2_0, .int .i64 a2_1, (.slice A2_2 l2_2.length c2_2)] 27 (0, 0))) ∧ Aside0 (Below w.heap.size w w'))
             case atStart => exact ⟨(x14_4), (0), (by first | rfl | (simp; done) | (simp [*]; done)), (by first | rfl | (simp; done) | (simp [*]; done)), H', ⟨Nat.le_refl _⟩, ⟨by (with_reducible repeat (first | refine blk_drewN ?_ _ | refine blk_drew ?_ | refine blk_alloc ?_ _)); exact BK351.out⟩, ⟨by (with_reducible repeat (first | refine blk_drewN ?_ _ | refine blk_drew ?_ | refine blk_alloc ?_ _)); exact BK352.out⟩, ⟨by repeat (first | (with_reducible first | exact HB.out | apply below_alloc | apply pw_below_drewN | apply below_drew1 | refine below_set ?_ GE351.out | refine below_set ?_ GE352.out) | exact HB.out)⟩⟩
             case round =>
              clear H'
              try clear c1
              try clear c2
              try clear p2
              try clear c3
              try clear c8
              try clear c10
              try clear c11
              try clear c11b0
              try clear c11b1
              try clear c12
              try clear c19
              try clear c26
              try clear c31
              try clear c34
              try clear c35
              try clear c35b0
              try clear c36
              try clear c36b0
              try clear c37
              try clear c37b0
              try clear c38
              try clear hcz13_0
              try clear hcz13_1
              try clear hcz13_2
              try clear hcz15_0
              try clear hcz15_1
              try clear hcz15_2
              try clear hcz17_0
              try clear hcz17_1
              try clear hcz17_2
              try clear hcz18_0
              try clear hcz18_1
              try clear hcz18_2
              try clear hcz20_0
              try clear hcz20_1
              try clear hcz20_2
              try clear hcz22_0
              try clear hcz22_1
              try clear hcz22_2
              try clear hcz24_0
              try clear hcz24_1
              try clear hcz24_2
              try clear hcz25_0
              try clear hcz25_1
              try clear hcz25_2
              try clear hcz27_0
              try clear hcz27_1
              try clear hcz27_2
              try clear hcz29_0
              try clear hcz29_1
              try clear hcz29_2
              try clear hcz32_0
              try clear hcz32_1
              try clear hcz32_2
              try clear hcz39_0
              try clear hcz39_1
              try clear hcz39_2
              try clear hfz13_0
              try clear hfz13_1
              try clear hfz13_2
              try clear hfz15_0
              try clear hfz15_1
              try clear hfz15_2
              try clear hfz17_0
              try clear hfz17_1
              try clear hfz17_2
              try clear hfz18_0
              try clear hfz18_1
              try clear hfz18_2
              try clear hfz20_0
              try clear hfz20_1
              try clear hfz20_2
              try clear hfz22_0
              try clear hfz22_1
              try clear hfz22_2
              try clear hfz24_0
              try clear hfz24_1
              try clear hfz24_2
              try clear hfz25_0
              try clear hfz25_1
              try clear hfz25_2
              try clear hfz27_0
              try clear hfz27_1
              try clear hfz27_2
              try clear hfz29_0
              try clear hfz29_1
              try clear hfz29_2
              try clear hfz32_0
              try clear hfz32_1
              try clear hfz32_2
              try clear hfz39_0
              try clear hfz39_1
              try clear hfz39_2
              try clear p2
              obtain ⟨x14_5, x16_5, rfl, rfl, HA, HK5, BK351, BK352, HB⟩ := hrel
              cases gk with
              | zero => exact absurd HA.out (by simp [impl_Moved.l3])
              | succ k5 =>
               have H := HA.out
               clear HA
               simp only [impl_Moved.l3] at H
               by_cases c40 : x16_5 < a0_1
               ·rw [if_pos c40] at H
                have c40b0 : decide (x16_5 < a0_1) = true := decide_eq_true c40
                clear c40
                replace H := Option.bind_eq_some_iff.mp H
                obtain ⟨t355, A410, H⟩ := H
                replace H : (if t355 = true then ((impl_Box_high.f a2_0 a2_1 l2_2 (wrap64 (x15_4 + x12_2)) (wrap64 (x16_5 + x13_3)) a1).bind fun t356 => (if t356 = true then (impl_Moved.l3 k5 a1 x9_3 x10_3 x11_3 x12_2 x13_3 (wrap64 (x14_5 + 1)) x15_4 (wrap64 (x16_5 + 1)) a0_0 a0_1 l0_2 a2_0 a2_1 l2_2) else (impl_Moved.l3 k5 a1 x9_3 x10_3 x11_3 x12_2 x13_3 x14_5 x15_4 (wrap64 (x16_5 + 1)) a0_0 a0_1 l0_2 a2_0 a2_1 l2_2))) else (impl_Moved.l3 k5 a1 x9_3 x10_3 x11_3 x12_2 x13_3 x14_5 x15_4 (wrap64 (x16_5 + 1)) a0_0 a0_1 l0_2 a2_0 a2_1 l2_2)) = some (r1, r2, r3) := H
                have A41 := Aside0.mk A410
                clear A410
                by_cases c42 : t355 = true
                ·subst c42
                 have H1 : ((impl_Box_high.f a2_0 a2_1 l2_2 (wrap64 (x15_4 + x12_2)) (wrap64 (x16_5 + x13_3)) a1).bind fun t356 => (if t356 = true then (impl_Moved.l3 k5 a1 x9_3 x10_3 x11_3 x12_2 x13_3 (wrap64 (x14_5 + 1)) x15_4 (wrap64 (x16_5 + 1)) a0_0 a0_1 l0_2 a2_0 a2_1 l2_2) else (impl_Moved.l3 k5 a1 x9_3 x10_3 x11_3 x12_2 x13_3 x14_5 x15_4 (wrap64 (x16_5 + 1)) a0_0 a0_1 l0_2 a2_0 a2_1 l2_2))) = some (r1, r2, r3) := by rw [if_pos rfl] at H; exact H
                 clear H
                 have H := H1
                 clear H1
                 replace H := Option.bind_eq_some_iff.mp H
                 obtain ⟨t356, A430, H⟩ := H
                 replace H : (if t356 = true then (impl_Moved.l3 k5 a1 x9_3 x10_3 x11_3 x12_2 x13_3 (wrap64 (x14_5 + 1)) x15_4 (wrap64 (x16_5 + 1)) a0_0 a0_1 l0_2 a2_0 a2_1 l2_2) else (impl_Moved.l3 k5 a1 x9_3 x10_3 x11_3 x12_2 x13_3 x14_5 x15_4 (wrap64 (x16_5 + 1)) a0_0 a0_1 l0_2 a2_0 a2_1 l2_2)) = some (r1, r2, r3) := H
                 have A43 := Aside0.mk A430
                 clear A430
                 by_cases c44 : t356 = true
                 ·subst c44
                  have H1 : (impl_Moved.l3 k5 a1 x9_3 x10_3 x11_3 x12_2 x13_3 (wrap64 (x14_5 + 1)) x15_4 (wrap64 (x16_5 + 1)) a0_0 a0_1 l0_2 a2_0 a2_1 l2_2) = some (r1, r2, r3) := by rw [if_pos rfl] at H; exact H
                  clear H
                  have H := H1
                  clear H1
                  have H' := Aside0.mk H
                  clear H
                  have hnb45 := NB351_352.out
                  have hnc45 := NB352_351.out
                  have hcz46_0 : wr.cell? ⟨gb351, 0, none⟩ = some (.int .i64 a0_0) := (blk_cell BK351.out 0).trans rfl
                  have hcz46_1 : wr.cell? ⟨gb351, 1, none⟩ = some (.int .i64 a0_1) := (blk_cell BK351.out 1).trans rfl
                  have hcz46_2 : wr.cell? ⟨gb351, 2, none⟩ = some (.slice A0_2 l0_2.length c0_2) := (blk_cell BK351.out 2).trans rfl
                  have hfz46_0 := blk_frozen BK351.out 0
                  have hfz46_1 := blk_frozen BK351.out 1
                  have hfz46_2 := blk_frozen BK351.out 2
                  go_wp2_with (first | ((with_reducible refine gate_callee (f := 37) rfl ?_); refine goesL_ (some 63) rfl rfl Try.func37 (by kernel_rfl) rfl #[.agg #[.int .i64 a0_0, .int .i64 a0_1, .slice A0_2 l0_2.length c0_2], .int .i64 x15_4, .int .i64 x16_5, .int .i64 a1] rfl (by (try simp only [List.map_toArray, List.map_cons, List.map_nil]); first | done | rfl | (simp only [List.length_drop, List.length_take]; rfl)) ?_; (with_reducible refine (impl_Box_high.calls a0_0 a0_1 _ _ l0_2 x15_4 x16_5 a1 true _ ?side1 ?side2 A41.out).mono ?_); (case side1 => repeat (first | exact (Kd.C_below HR0_2.out HB.out) | (with_reducible refine Kd.C_alloc ?_ _) | (with_reducible refine Kd.C_drewN ?_ _) | (with_reducible refine Kd.C_drew ?_))); (case side2 => exact HC0_2.out); rintro e w47 ⟨rfl, hb⟩; refine ⟨_, rfl, ?_⟩; have n0_ := Aside0.mk (blk_below (g := gb351) (o := .cells #[.int .i64 a0_0, .int .i64 a0_1, .slice A0_2 l0_2.length c0_2] 27 (0, 0)) (by (with_reducible repeat (first | refine blk_drewN ?_ _ | refine blk_drew ?_ | refine blk_alloc ?_ _)); exact BK351.out) hb); have n1_ := Aside0.mk (blk_below (g := gb352) (o := .cells #[.int .i64 a2_0, .int .i64 a2_1, .slice A2_2 l2_2.length c2_2] 27 (0, 0)) (by (with_reducible repeat (first | refine blk_drewN ?_ _ | refine blk_drew ?_ | refine blk_alloc ?_ _)); exact BK352.out) hb); have n2_ := Aside0.mk (below_step (by repeat (first | (with_reducible first | exact HB.out | apply below_alloc | apply pw_below_drewN | apply below_drew1 | refine below_set ?_ GE351.out | refine below_set ?_ GE352.out) | exact HB.out)) hb); clear BK351; clear BK352; clear HB; have BK351 := n0_; have BK352 := n1_; have HB := n2_; clear n0_ n1_ n2_; (try clear hb); (try clear hb2); (try clear hk); (try clear hi); have hcz48_0 : w47.cell? ⟨gb352, 0, none⟩ = some (.int .i64 a2_0) := (blk_cell BK352.out 0).trans rfl; have hcz48_1 : w47.cell? ⟨gb352, 1, none⟩ = some (.int .i64 a2_1) := (blk_cell BK352.out 1).trans rfl; have hcz48_2 : w47.cell? ⟨gb352, 2, none⟩ = some (.slice A2_2 l2_2.length c2_2) := (blk_cell BK352.out 2).trans rfl; have hfz48_0 := blk_frozen BK352.out 0; have hfz48_1 := blk_frozen BK352.out 1; have hfz48_2 := blk_frozen BK352.out 2) | (go_at_call 37; (with_reducible refine (impl_Box_high.calls a2_0 a2_1 _ _ l2_2 (wrap64 (x15_4 + x12_2)) (wrap64 (x16_5 + x13_3)) a1 true _ ?side1 ?side2 A43.out).mono ?_); (case side1 => repeat (first | exact (Kd.C_below HR2_2.out HB.out) | (with_reducible refine Kd.C_alloc ?_ _) | (with_reducible refine Kd.C_drewN ?_ _) | (with_reducible refine Kd.C_drew ?_))); (case side2 => exact HC2_2.out); rintro e w49 ⟨rfl, hb⟩; have n0_ := Aside0.mk (blk_below (g := gb351) (o := .cells #[.int .i64 a0_0, .int .i64 a0_1, .slice A0_2 l0_2.length c0_2] 27 (0, 0)) (by (with_reducible repeat (first | refine blk_drewN ?_ _ | refine blk_drew ?_ | refine blk_alloc ?_ _)); exact BK351.out) hb); have n1_ := Aside0.mk (blk_below (g := gb352) (o := .cells #[.int .i64 a2_0, .int .i64 a2_1, .slice A2_2 l2_2.length c2_2] 27 (0, 0)) (by (with_reducible repeat (first | refine blk_drewN ?_ _ | refine blk_drew ?_ | refine blk_alloc ?_ _)); exact BK352.out) hb); have n2_ := Aside0.mk (below_step (by repeat (first | (with_reducible first | exact HB.out | apply below_alloc | apply pw_below_drewN | apply below_drew1 | refine below_set ?_ GE351.out | refine below_set ?_ GE352.out) | exact HB.out)) hb); clear BK351; clear BK352; clear HB; have BK351 := n0_; have BK352 := n1_; have HB := n2_; clear n0_ n1_ n2_; (try clear hb); (try clear hb2); (try clear hk); (try clear hi)))
                  go_roundg k5
                  case measure => have := HJ3.out; have := HK2.out; have := HK3.out; have := HK4.out; have := HK5.out; omega
                  case rel => exact ⟨(wrap64 (x14_5 + 1)), (wrap64 (x16_5 + 1)), (by first | rfl | (simp; done) | (simp [*]; done)), (by first | rfl | (simp; done) | (simp [*]; done)), H', ⟨by have := HJ3.out; have := HK2.out; have := HK3.out; have := HK4.out; have := HK5.out; omega⟩, ⟨by (with_reducible repeat (first | refine blk_drewN ?_ _ | refine blk_drew ?_ | refine blk_alloc ?_ _)); exact BK351.out⟩, ⟨by (with_reducible repeat (first | refine blk_drewN ?_ _ | refine blk_drew ?_ | refine blk_alloc ?_ _)); exact BK352.out⟩, ⟨by repeat (first | (with_reducible first | exact HB.out | apply below_alloc | apply pw_below_drewN | apply below_drew1 | refine below_set ?_ GE351.out | refine below_set ?_ GE352.out) | exact HB.out)⟩⟩
                 ·replace c44 := Bool.eq_false_iff.mpr c44
                  subst c44
                  have H1 : (impl_Moved.l3 k5 a1 x9_3 x10_3 x11_3 x12_2 x13_3 x14_5 x15_4 (wrap64 (x16_5 + 1)) a0_0 a0_1 l0_2 a2_0 a2_1 l2_2) = some (r1, r2, r3) := by rw [if_neg (show ¬ (false = true) by decide)] at H; exact H
                  clear H
                  have H := H1
                  clear H1
                  have H' := Aside0.mk H
                  clear H
                  have hnb50 := NB351_352.out
                  have hnc50 := NB352_351.out
                  have hcz51_0 : wr.cell? ⟨gb351, 0, none⟩ = some (.int .i64 a0_0) := (blk_cell BK351.out 0).trans rfl
                  have hcz51_1 : wr.cell? ⟨gb351, 1, none⟩ = some (.int .i64 a0_1) := (blk_cell BK351.out 1).trans rfl
                  have hcz51_2 : wr.cell? ⟨gb351, 2, none⟩ = some (.slice A0_2 l0_2.length c0_2) := (blk_cell BK351.out 2).trans rfl
                  have hfz51_0 := blk_frozen BK351.out 0
                  have hfz51_1 := blk_frozen BK351.out 1
                  have hfz51_2 := blk_frozen BK351.out 2
                  go_wp2_with (first | ((with_reducible refine gate_callee (f := 37) rfl ?_); refine goesL_ (some 63) rfl rfl Try.func37 (by kernel_rfl) rfl #[.agg #[.int .i64 a0_0, .int .i64 a0_1, .slice A0_2 l0_2.length c0_2], .int .i64 x15_4, .int .i64 x16_5, .int .i64 a1] rfl (by (try simp only [List.map_toArray, List.map_cons, List.map_nil]); first | done | rfl | (simp only [List.length_drop, List.length_take]; rfl)) ?_; (with_reducible refine (impl_Box_high.calls a0_0 a0_1 _ _ l0_2 x15_4 x16_5 a1 true _ ?side1 ?side2 A41.out).mono ?_); (case side1 => repeat (first | exact (Kd.C_below HR0_2.out HB.out) | (with_reducible refine Kd.C_alloc ?_ _) | (with_reducible refine Kd.C_drewN ?_ _) | (with_reducible refine Kd.C_drew ?_))); (case side2 => exact HC0_2.out); rintro e w52 ⟨rfl, hb⟩; refine ⟨_, rfl, ?_⟩; have n0_ := Aside0.mk (blk_below (g := gb351) (o := .cells #[.int .i64 a0_0, .int .i64 a0_1, .slice A0_2 l0_2.length c0_2] 27 (0, 0)) (by (with_reducible repeat (first | refine blk_drewN ?_ _ | refine blk_drew ?_ | refine blk_alloc ?_ _)); exact BK351.out) hb); have n1_ := Aside0.mk (blk_below (g := gb352) (o := .cells #[.int .i64 a2_0, .int .i64 a2_1, .slice A2_2 l2_2.length c2_2] 27 (0, 0)) (by (with_reducible repeat (first | refine blk_drewN ?_ _ | refine blk_drew ?_ | refine blk_alloc ?_ _)); exact BK352.out) hb); have n2_ := Aside0.mk (below_step (by repeat (first | (with_reducible first | exact HB.out | apply below_alloc | apply pw_below_drewN | apply below_drew1 | refine below_set ?_ GE351.out | refine below_set ?_ GE352.out) | exact HB.out)) hb); clear BK351; clear BK352; clear HB; have BK351 := n0_; have BK352 := n1_; have HB := n2_; clear n0_ n1_ n2_; (try clear hb); (try clear hb2); (try clear hk); (try clear hi); have hcz53_0 : w52.cell? ⟨gb352, 0, none⟩ = some (.int .i64 a2_0) := (blk_cell BK352.out 0).trans rfl; have hcz53_1 : w52.cell? ⟨gb352, 1, none⟩ = some (.int .i64 a2_1) := (blk_cell BK352.out 1).trans rfl; have hcz53_2 : w52.cell? ⟨gb352, 2, none⟩ = some (.slice A2_2 l2_2.length c2_2) := (blk_cell BK352.out 2).trans rfl; have hfz53_0 := blk_frozen BK352.out 0; have hfz53_1 := blk_frozen BK352.out 1; have hfz53_2 := blk_frozen BK352.out 2) | (go_at_call 37; (with_reducible refine (impl_Box_high.calls a2_0 a2_1 _ _ l2_2 (wrap64 (x15_4 + x12_2)) (wrap64 (x16_5 + x13_3)) a1 false _ ?side1 ?side2 A43.out).mono ?_); (case side1 => repeat (first | exact (Kd.C_below HR2_2.out HB.out) | (with_reducible refine Kd.C_alloc ?_ _) | (with_reducible refine Kd.C_drewN ?_ _) | (with_reducible refine Kd.C_drew ?_))); (case side2 => exact HC2_2.out); rintro e w54 ⟨rfl, hb⟩; have n0_ := Aside0.mk (blk_below (g := gb351) (o := .cells #[.int .i64 a0_0, .int .i64 a0_1, .slice A0_2 l0_2.length c0_2] 27 (0, 0)) (by (with_reducible repeat (first | refine blk_drewN ?_ _ | refine blk_drew ?_ | refine blk_alloc ?_ _)); exact BK351.out) hb); have n1_ := Aside0.mk (blk_below (g := gb352) (o := .cells #[.int .i64 a2_0, .int .i64 a2_1, .slice A2_2 l2_2.length c2_2] 27 (0, 0)) (by (with_reducible repeat (first | refine blk_drewN ?_ _ | refine blk_drew ?_ | refine blk_alloc ?_ _)); exact BK352.out) hb); have n2_ := Aside0.mk (below_step (by repeat (first | (with_reducible first | exact HB.out | apply below_alloc | apply pw_below_drewN | apply below_drew1 | refine below_set ?_ GE351.out | refine below_set ?_ GE352.out) | exact HB.out)) hb); clear BK351; clear BK352; clear HB; have BK351 := n0_; have BK352 := n1_; have HB := n2_; clear n0_ n1_ n2_; (try clear hb); (try clear hb2); (try clear hk); (try clear hi)))
                  go_roundg k5
                  case measure => have := HJ3.out; have := HK2.out; have := HK3.out; have := HK4.out; have := HK5.out; omega
                  case rel => exact ⟨(x14_5), (wrap64 (x16_5 + 1)), (by first | rfl | (simp; done) | (simp [*]; done)), (by first | rfl | (simp; done) | (simp [*]; done)), H', ⟨by have := HJ3.out; have := HK2.out; have := HK3.out; have := HK4.out; have := HK5.out; omega⟩, ⟨by (with_reducible repeat (first | refine blk_drewN ?_ _ | refine blk_drew ?_ | refine blk_alloc ?_ _)); exact BK351.out⟩, ⟨by (with_reducible repeat (first | refine blk_drewN ?_ _ | refine blk_drew ?_ | refine blk_alloc ?_ _)); exact BK352.out⟩, ⟨by repeat (first | (with_reducible first | exact HB.out | apply below_alloc | apply pw_below_drewN | apply below_drew1 | refine below_set ?_ GE351.out | refine below_set ?_ GE352.out) | exact HB.out)⟩⟩
                ·replace c42 := Bool.eq_false_iff.mpr c42
                 subst c42
                 have H1 : (impl_Moved.l3 k5 a1 x9_3 x10_3 x11_3 x12_2 x13_3 x14_5 x15_4 (wrap64 (x16_5 + 1)) a0_0 a0_1 l0_2 a2_0 a2_1 l2_2) = some (r1, r2, r3) := by rw [if_neg (show ¬ (false = true) by decide)] at H; exact H
                 clear H
                 have H := H1
                 clear H1
                 have H' := Aside0.mk H
                 clear H
                 have hnb55 := NB351_352.out
                 have hnc55 := NB352_351.out
                 have hcz56_0 : wr.cell? ⟨gb351, 0, none⟩ = some (.int .i64 a0_0) := (blk_cell BK351.out 0).trans rfl
                 have hcz56_1 : wr.cell? ⟨gb351, 1, none⟩ = some (.int .i64 a0_1) := (blk_cell BK351.out 1).trans rfl
                 have hcz56_2 : wr.cell? ⟨gb351, 2, none⟩ = some (.slice A0_2 l0_2.length c0_2) := (blk_cell BK351.out 2).trans rfl
                 have hfz56_0 := blk_frozen BK351.out 0
                 have hfz56_1 := blk_frozen BK351.out 1
                 have hfz56_2 := blk_frozen BK351.out 2
                 go_wp2_with (first | ((with_reducible refine gate_callee (f := 37) rfl ?_); refine goesL_ (some 63) rfl rfl Try.func37 (by kernel_rfl) rfl #[.agg #[.int .i64 a0_0, .int .i64 a0_1, .slice A0_2 l0_2.length c0_2], .int .i64 x15_4, .int .i64 x16_5, .int .i64 a1] rfl (by (try simp only [List.map_toArray, List.map_cons, List.map_nil]); first | done | rfl | (simp only [List.length_drop, List.length_take]; rfl)) ?_; (with_reducible refine (impl_Box_high.calls a0_0 a0_1 _ _ l0_2 x15_4 x16_5 a1 false _ ?side1 ?side2 A41.out).mono ?_); (case side1 => repeat (first | exact (Kd.C_below HR0_2.out HB.out) | (with_reducible refine Kd.C_alloc ?_ _) | (with_reducible refine Kd.C_drewN ?_ _) | (with_reducible refine Kd.C_drew ?_))); (case side2 => exact HC0_2.out); rintro e w57 ⟨rfl, hb⟩; refine ⟨_, rfl, ?_⟩; have n0_ := Aside0.mk (blk_below (g := gb351) (o := .cells #[.int .i64 a0_0, .int .i64 a0_1, .slice A0_2 l0_2.length c0_2] 27 (0, 0)) (by (with_reducible repeat (first | refine blk_drewN ?_ _ | refine blk_drew ?_ | refine blk_alloc ?_ _)); exact BK351.out) hb); have n1_ := Aside0.mk (blk_below (g := gb352) (o := .cells #[.int .i64 a2_0, .int .i64 a2_1, .slice A2_2 l2_2.length c2_2] 27 (0, 0)) (by (with_reducible repeat (first | refine blk_drewN ?_ _ | refine blk_drew ?_ | refine blk_alloc ?_ _)); exact BK352.out) hb); have n2_ := Aside0.mk (below_step (by repeat (first | (with_reducible first | exact HB.out | apply below_alloc | apply pw_below_drewN | apply below_drew1 | refine below_set ?_ GE351.out | refine below_set ?_ GE352.out) | exact HB.out)) hb); clear BK351; clear BK352; clear HB; have BK351 := n0_; have BK352 := n1_; have HB := n2_; clear n0_ n1_ n2_; (try clear hb); (try clear hb2); (try clear hk); (try clear hi)))
                 go_roundg k5
                 case measure => have := HJ3.out; have := HK2.out; have := HK3.out; have := HK4.out; have := HK5.out; omega
                 case rel => exact ⟨(x14_5), (wrap64 (x16_5 + 1)), (by first | rfl | (simp; done) | (simp [*]; done)), (by first | rfl | (simp; done) | (simp [*]; done)), H', ⟨by have := HJ3.out; have := HK2.out; have := HK3.out; have := HK4.out; have := HK5.out; omega⟩, ⟨by (with_reducible repeat (first | refine blk_drewN ?_ _ | refine blk_drew ?_ | refine blk_alloc ?_ _)); exact BK351.out⟩, ⟨by (with_reducible repeat (first | refine blk_drewN ?_ _ | refine blk_drew ?_ | refine blk_alloc ?_ _)); exact BK352.out⟩, ⟨by repeat (first | (with_reducible first | exact HB.out | apply below_alloc | apply pw_below_drewN | apply below_drew1 | refine below_set ?_ GE351.out | refine below_set ?_ GE352.out) | exact HB.out)⟩⟩
               ·rw [if_neg c40] at H
                have c40b0 : decide (x16_5 < a0_1) = false := decide_eq_false c40
                clear c40
                have H' := Aside0.mk H
                clear H
                have hnb58 := NB351_352.out
                have hnc58 := NB352_351.out
                have hcz59_0 : wr.cell? ⟨gb351, 0, none⟩ = some (.int .i64 a0_0) := (blk_cell BK351.out 0).trans rfl
                have hcz59_1 : wr.cell? ⟨gb351, 1, none⟩ = some (.int .i64 a0_1) := (blk_cell BK351.out 1).trans rfl
                have hcz59_2 : wr.cell? ⟨gb351, 2, none⟩ = some (.slice A0_2 l0_2.length c0_2) := (blk_cell BK351.out 2).trans rfl
                have hfz59_0 := blk_frozen BK351.out 0
                have hfz59_1 := blk_frozen BK351.out 1
                have hfz59_2 := blk_frozen BK351.out 2
                go_wp2
                go_roundg k5
                case measure => have := HJ3.out; have := HK2.out; have := HK3.out; have := HK4.out; have := HK5.out; omega
                case rel => exact ⟨(x14_5), (wrap64 (x15_4 + 1)), (by first | rfl | (simp; done) | (simp [*]; done)), (by first | rfl | (simp; done) | (simp [*]; done)), H', ⟨by have := HJ3.out; have := HK2.out; have := HK3.out; have := HK4.out; have := HK5.out; omega⟩, ⟨by (with_reducible repeat (first | refine blk_drewN ?_ _ | refine blk_drew ?_ | refine blk_alloc ?_ _)); exact BK351.out⟩, ⟨by (with_reducible repeat (first | refine blk_drewN ?_ _ | refine blk_drew ?_ | refine blk_alloc ?_ _)); exact BK352.out⟩, ⟨by repeat (first | (with_reducible first | exact HB.out | apply below_alloc | apply pw_below_drewN | apply below_drew1 | refine below_set ?_ GE351.out | refine below_set ?_ GE352.out) | exact HB.out)⟩⟩
            ·rw [if_neg c37] at H
             have c37b0 : decide (x15_4 < a0_0) = false := decide_eq_false c37
             clear c37
             by_cases c60 : x14_4 > x9_3
             ·rw [if_pos c60] at H
              have c60b0 : decide (x9_3 < x14_4) = true := decide_eq_true c60
              clear c60
              have H' := Aside0.mk H
              clear H
              have hnb61 := NB351_352.out
              have hnc61 := NB352_351.out
              have hcz62_0 : wr.cell? ⟨gb351, 0, none⟩ = some (.int .i64 a0_0) := (blk_cell BK351.out 0).trans rfl
              have hcz62_1 : wr.cell? ⟨gb351, 1, none⟩ = some (.int .i64 a0_1) := (blk_cell BK351.out 1).trans rfl
              have hcz62_2 : wr.cell? ⟨gb351, 2, none⟩ = some (.slice A0_2 l0_2.length c0_2) := (blk_cell BK351.out 2).trans rfl
              have hfz62_0 := blk_frozen BK351.out 0
              have hfz62_1 := blk_frozen BK351.out 1
              have hfz62_2 := blk_frozen BK351.out 2
              go_wp2
              go_roundg k4
              case measure => have := HJ3.out; have := HK2.out; have := HK3.out; have := HK4.out; omega
              case rel => exact ⟨(x14_4), (x12_2), (x13_3), (wrap64 (x13_3 + 1)), (by first | rfl | (simp; done) | (simp [*]; done)), (by first | rfl | (simp; done) | (simp [*]; done)), (by first | rfl | (simp; done) | (simp [*]; done)), (by first | rfl | (simp; done) | (simp [*]; done)), H', ⟨by have := HJ3.out; have := HK2.out; have := HK3.out; have := HK4.out; omega⟩, ⟨by (with_reducible repeat (first | refine blk_drewN ?_ _ | refine blk_drew ?_ | refine blk_alloc ?_ _)); exact BK351.out⟩, ⟨by (with_reducible repeat (first | refine blk_drewN ?_ _ | refine blk_drew ?_ | refine blk_alloc ?_ _)); exact BK352.out⟩, ⟨by repeat (first | (with_reducible first | exact HB.out | apply below_alloc | apply pw_below_drewN | apply below_drew1 | refine below_set ?_ GE351.out | refine below_set ?_ GE352.out) | exact HB.out)⟩⟩
             ·rw [if_neg c60] at H
              have c60b0 : decide (x9_3 < x14_4) = false := decide_eq_false c60
              clear c60
              by_cases c63 : x14_4 = x9_3
              ·rw [if_pos c63] at H
               have c63b0 : (x14_4 == x9_3) = true := beq_iff_eq.mpr c63
               have c63b1 : (x14_4 != x9_3) = false := bne_eq_false_iff_eq.mpr c63
               clear c63
               by_cases c64 : (wrap64 ((wrap64 (x12_2 * x12_2)) + (wrap64 (x13_3 * x13_3)))) < (wrap64 ((wrap64 (x10_3 * x10_3)) + (wrap64 (x11_3 * x11_3))))
               ·rw [if_pos c64] at H
                have c64b0 : decide ((wrap64 ((wrap64 (x12_2 * x12_2)) + (wrap64 (x13_3 * x13_3)))) < (wrap64 ((wrap64 (x10_3 * x10_3)) + (wrap64 (x11_3 * x11_3))))) = true := decide_eq_true c64
                clear c64
                have H' := Aside0.mk H
                clear H
                have hnb65 := NB351_352.out
                have hnc65 := NB352_351.out
                have hcz66_0 : wr.cell? ⟨gb351, 0, none⟩ = some (.int .i64 a0_0) := (blk_cell BK351.out 0).trans rfl
                have hcz66_1 : wr.cell? ⟨gb351, 1, none⟩ = some (.int .i64 a0_1) := (blk_cell BK351.out 1).trans rfl
                have hcz66_2 : wr.cell? ⟨gb351, 2, none⟩ = some (.slice A0_2 l0_2.length c0_2) := (blk_cell BK351.out 2).trans rfl
                have hfz66_0 := blk_frozen BK351.out 0
                have hfz66_1 := blk_frozen BK351.out 1
                have hfz66_2 := blk_frozen BK351.out 2
                go_wp2
                go_roundg k4
                case measure => have := HJ3.out; have := HK2.out; have := HK3.out; have := HK4.out; omega
                case rel => exact ⟨(x14_4), (x12_2), (x13_3), (wrap64 (x13_3 + 1)), (by first | rfl | (simp; done) | (simp [*]; done)), (by first | rfl | (simp; done) | (simp [*]; done)), (by first | rfl | (simp; done) | (simp [*]; done)), (by first | rfl | (simp; done) | (simp [*]; done)), H', ⟨by have := HJ3.out; have := HK2.out; have := HK3.out; have := HK4.out; omega⟩, ⟨by (with_reducible repeat (first | refine blk_drewN ?_ _ | refine blk_drew ?_ | refine blk_alloc ?_ _)); exact BK351.out⟩, ⟨by (with_reducible repeat (first | refine blk_drewN ?_ _ | refine blk_drew ?_ | refine blk_alloc ?_ _)); exact BK352.out⟩, ⟨by repeat (first | (with_reducible first | exact HB.out | apply below_alloc | apply pw_below_drewN | apply below_drew1 | refine below_set ?_ GE351.out | refine below_set ?_ GE352.out) | exact HB.out)⟩⟩
               ·rw [if_neg c64] at H
                have c64b0 : decide ((wrap64 ((wrap64 (x12_2 * x12_2)) + (wrap64 (x13_3 * x13_3)))) < (wrap64 ((wrap64 (x10_3 * x10_3)) + (wrap64 (x11_3 * x11_3))))) = false := decide_eq_false c64
                clear c64
                have H' := Aside0.mk H
                clear H
                have hnb67 := NB351_352.out
                have hnc67 := NB352_351.out
                have hcz68_0 : wr.cell? ⟨gb351, 0, none⟩ = some (.int .i64 a0_0) := (blk_cell BK351.out 0).trans rfl
                have hcz68_1 : wr.cell? ⟨gb351, 1, none⟩ = some (.int .i64 a0_1) := (blk_cell BK351.out 1).trans rfl
                have hcz68_2 : wr.cell? ⟨gb351, 2, none⟩ = some (.slice A0_2 l0_2.length c0_2) := (blk_cell BK351.out 2).trans rfl
                have hfz68_0 := blk_frozen BK351.out 0
                have hfz68_1 := blk_frozen BK351.out 1
                have hfz68_2 := blk_frozen BK351.out 2
                go_wp2
                go_roundg k4
                case measure => have := HJ3.out; have := HK2.out; have := HK3.out; have := HK4.out; omega
                case rel => exact ⟨(x9_3), (x10_3), (x11_3), (wrap64 (x13_3 + 1)), (by first | rfl | (simp; done) | (simp [*]; done)), (by first | rfl | (simp; done) | (simp [*]; done)), (by first | rfl | (simp; done) | (simp [*]; done)), (by first | rfl | (simp; done) | (simp [*]; done)), H', ⟨by have := HJ3.out; have := HK2.out; have := HK3.out; have := HK4.out; omega⟩, ⟨by (with_reducible repeat (first | refine blk_drewN ?_ _ | refine blk_drew ?_ | refine blk_alloc ?_ _)); exact BK351.out⟩, ⟨by (with_reducible repeat (first | refine blk_drewN ?_ _ | refine blk_drew ?_ | refine blk_alloc ?_ _)); exact BK352.out⟩, ⟨by repeat (first | (with_reducible first | exact HB.out | apply below_alloc | apply pw_below_drewN | apply below_drew1 | refine below_set ?_ GE351.out | refine below_set ?_ GE352.out) | exact HB.out)⟩⟩
              ·rw [if_neg c63] at H
               have c63b0 : (x14_4 == x9_3) = false := beq_eq_false_iff_ne.mpr c63
               have c63b1 : (x14_4 != x9_3) = true := bne_iff_ne.mpr c63
               have H' := Aside0.mk H
               clear H
               have hnb69 := NB351_352.out
               have hnc69 := NB352_351.out
               have hcz70_0 : wr.cell? ⟨gb351, 0, none⟩ = some (.int .i64 a0_0) := (blk_cell BK351.out 0).trans rfl
               have hcz70_1 : wr.cell? ⟨gb351, 1, none⟩ = some (.int .i64 a0_1) := (blk_cell BK351.out 1).trans rfl
               have hcz70_2 : wr.cell? ⟨gb351, 2, none⟩ = some (.slice A0_2 l0_2.length c0_2) := (blk_cell BK351.out 2).trans rfl
               have hfz70_0 := blk_frozen BK351.out 0
               have hfz70_1 := blk_frozen BK351.out 1
               have hfz70_2 := blk_frozen BK351.out 2
               go_wp2
               go_roundg k4
               case measure => have := HJ3.out; have := HK2.out; have := HK3.out; have := HK4.out; omega
               case rel => exact ⟨(x9_3), (x10_3), (x11_3), (wrap64 (x13_3 + 1)), (by first | rfl | (simp; done) | (simp [*]; done)), (by first | rfl | (simp; done) | (simp [*]; done)), (by first | rfl | (simp; done) | (simp [*]; done)), (by first | rfl | (simp; done) | (simp [*]; done)), H', ⟨by have := HJ3.out; have := HK2.out; have := HK3.out; have := HK4.out; omega⟩, ⟨by (with_reducible repeat (first | refine blk_drewN ?_ _ | refine blk_drew ?_ | refine blk_alloc ?_ _)); exact BK351.out⟩, ⟨by (with_reducible repeat (first | refine blk_drewN ?_ _ | refine blk_drew ?_ | refine blk_alloc ?_ _)); exact BK352.out⟩, ⟨by repeat (first | (with_reducible first | exact HB.out | apply below_alloc | apply pw_below_drewN | apply below_drew1 | refine below_set ?_ GE351.out | refine below_set ?_ GE352.out) | exact HB.out)⟩⟩
         ·rw [if_neg c36] at H
          have c36b0 : decide (x13_3 ≤ 3) = false := decide_eq_false c36
          clear c36
          have H' := Aside0.mk H
          clear H
          go_wp2
          go_roundg k3
          case measure => have := HJ3.out; have := HK2.out; have := HK3.out; omega
          case rel => exact ⟨(x9_3), (x10_3), (x11_3), (wrap64 (x12_2 + 1)), (by first | rfl | (simp; done) | (simp [*]; done)), (by first | rfl | (simp; done) | (simp [*]; done)), (by first | rfl | (simp; done) | (simp [*]; done)), (by first | rfl | (simp; done) | (simp [*]; done)), H', ⟨by have := HJ3.out; have := HK2.out; have := HK3.out; omega⟩, ⟨by (with_reducible repeat (first | refine blk_drewN ?_ _ | refine blk_drew ?_ | refine blk_alloc ?_ _)); exact BK351.out⟩, ⟨by (with_reducible repeat (first | refine blk_drewN ?_ _ | refine blk_drew ?_ | refine blk_alloc ?_ _)); exact BK352.out⟩, ⟨by repeat (first | (with_reducible first | exact HB.out | apply below_alloc | apply pw_below_drewN | apply below_drew1 | refine below_set ?_ GE351.out | refine below_set ?_ GE352.out) | exact HB.out)⟩⟩
      ·rw [if_neg c35] at H
       have c35b0 : decide (x12_2 ≤ 3) = false := decide_eq_false c35
       clear c35
       simp only [Option.some.injEq, Prod.mk.injEq] at H
       obtain ⟨rfl, rfl, rfl⟩ := H
       go_wp2
       go_ret3
       exact ⟨by first | rfl | (simp [errW_none, errW_some] <;> rfl) | (simp [*, errW_none, errW_some] <;> rfl), by repeat (first | (with_reducible first | exact HB.out | apply below_alloc | apply pw_below_drewN | apply below_drew1 | refine below_set ?_ GE351.out | refine below_set ?_ GE352.out) | exact HB.out)⟩

end Go.Proofs.Ytcdghhihfjojaab.Q
