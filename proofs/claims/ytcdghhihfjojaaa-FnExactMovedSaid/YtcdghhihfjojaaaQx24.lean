/- Plain Lean functions with the same answers as the Go functions of this seat, and a proof for each that the Go code comes to just these answers; no condition. Written by a program of this session (the kit's printer, turned). -/
import Derived.Test.YtcdghhihfjojaaaQx0
import Derived.Test.YtcdghhihfjojaaaQx22
import Derived.Test.YtcdghhihfjojaaaQx23
namespace Go.Proofs.Ytcdghhihfjojaaa.Q
open Go.RowKit Go.Proofs.YtcdghhihfjojaaaW.PrintWords Go.Proofs.YtcdghhihfjojaaaW.PrintLast Go.Proofs.YtcdghhihfjojaaaW.PrintMore
attribute [local go_sem] max2_int min2_int max_two min_two max_three min_three max_four min_four   -- for this text's walks alone
set_option linter.unusedVariables false
set_option linter.unusedSimpArgs false

/-! ### spec_Moved: function 26 -/
mutual
def spec_Moved.j0 : Nat → Int → Bool → Int → Int → List Int → Int → Int → List Int → Option (Int × Int × Bool)
  | 0, _, _, _, _, _, _, _, _ => none
  | k + 1, x1, x37, x392000, x392001, x392002, x393000, x393001, x393002 => if x37 = true then (some (0, 0, false)) else (spec_Moved.l0 k x1 0 0 (-1) 0 x392000 x392001 x392002 x393000 x393001 x393002)
def spec_Moved.l0 : Nat → Int → Int → Int → Int → Int → Int → Int → List Int → Int → Int → List Int → Option (Int × Int × Bool)
  | 0, _, _, _, _, _, _, _, _, _, _, _ => none
  | k + 1, x1, x9, x10, x11, x12, x392000, x392001, x392002, x393000, x393001, x393002 => if x12 ≤ 18 then (spec_Moved.l1 k x1 x9 x10 x11 x12 (-3) x392000 x392001 x392002 x393000 x393001 x393002) else (some (x9, x10, true))
def spec_Moved.l1 : Nat → Int → Int → Int → Int → Int → Int → Int → Int → List Int → Int → Int → List Int → Option (Int × Int × Bool)
  | 0, _, _, _, _, _, _, _, _, _, _, _, _ => none
  | k + 1, x1, x9, x10, x11, x12, x13, x392000, x392001, x392002, x393000, x393001, x393002 => if x13 ≤ 3 then (spec_Moved.l2 k x1 x9 x10 x11 x12 x13 (-3) x392000 x392001 x392002 x393000 x393001 x393002) else (spec_Moved.l0 k x1 x9 x10 x11 (wrap64 (x12 + 1)) x392000 x392001 x392002 x393000 x393001 x393002)
def spec_Moved.l2 : Nat → Int → Int → Int → Int → Int → Int → Int → Int → Int → List Int → Int → Int → List Int → Option (Int × Int × Bool)
  | 0, _, _, _, _, _, _, _, _, _, _, _, _, _ => none
  | k + 1, x1, x9, x10, x11, x12, x13, x14, x392000, x392001, x392002, x393000, x393001, x393002 => if x14 ≤ 3 then (if (wrap64 ((wrap64 (x13 * x13)) + (wrap64 (x14 * x14)))) = x12 then ((spec_l14Both.f k x392000 x392001 x392002 x1 x393000 x393001 x393002 x13 x14).bind fun t395 => (if t395 > x11 then (spec_Moved.l2 k x1 x13 x14 t395 x12 x13 (wrap64 (x14 + 1)) x392000 x392001 x392002 x393000 x393001 x393002) else (spec_Moved.l2 k x1 x9 x10 x11 x12 x13 (wrap64 (x14 + 1)) x392000 x392001 x392002 x393000 x393001 x393002))) else (spec_Moved.l2 k x1 x9 x10 x11 x12 x13 (wrap64 (x14 + 1)) x392000 x392001 x392002 x393000 x393001 x393002)) else (spec_Moved.l1 k x1 x9 x10 x11 x12 (wrap64 (x13 + 1)) x392000 x392001 x392002 x393000 x393001 x393002)
end
def spec_Moved.f (k : Nat) (a0_0 : Int) (a0_1 : Int) (l0_2 : List Int) (a1 : Int) (a2_0 : Int) (a2_1 : Int) (l2_2 : List Int) : Option (Int × Int × Bool) := (spec_BoxOk.f k a0_0 a0_1 l0_2).bind fun t393 => (if t393 = true then ((spec_BoxOk.f k a2_0 a2_1 l2_2).bind fun t394 => (if t394 = true then (if a0_0 = a2_0 then (spec_Moved.j0 k a1 (a0_1 != a2_1) a0_0 a0_1 l0_2 a2_0 a2_1 l2_2) else (spec_Moved.j0 k a1 true a0_0 a0_1 l0_2 a2_0 a2_1 l2_2)) else (spec_Moved.j0 k a1 true a0_0 a0_1 l0_2 a2_0 a2_1 l2_2))) else (spec_Moved.j0 k a1 true a0_0 a0_1 l0_2 a2_0 a2_1 l2_2))
theorem spec_Moved.mono_l : ∀ k, (∀ y0 y1 y2 y3 y4 y5 y6 y7, LeO (spec_Moved.j0 k y0 y1 y2 y3 y4 y5 y6 y7) (spec_Moved.j0 (k + 1) y0 y1 y2 y3 y4 y5 y6 y7)) ∧ (∀ y0 y1 y2 y3 y4 y5 y6 y7 y8 y9 y10, LeO (spec_Moved.l0 k y0 y1 y2 y3 y4 y5 y6 y7 y8 y9 y10) (spec_Moved.l0 (k + 1) y0 y1 y2 y3 y4 y5 y6 y7 y8 y9 y10)) ∧ (∀ y0 y1 y2 y3 y4 y5 y6 y7 y8 y9 y10 y11, LeO (spec_Moved.l1 k y0 y1 y2 y3 y4 y5 y6 y7 y8 y9 y10 y11) (spec_Moved.l1 (k + 1) y0 y1 y2 y3 y4 y5 y6 y7 y8 y9 y10 y11)) ∧ (∀ y0 y1 y2 y3 y4 y5 y6 y7 y8 y9 y10 y11 y12, LeO (spec_Moved.l2 k y0 y1 y2 y3 y4 y5 y6 y7 y8 y9 y10 y11 y12) (spec_Moved.l2 (k + 1) y0 y1 y2 y3 y4 y5 y6 y7 y8 y9 y10 y11 y12))
  | 0 => ⟨fun _ _ _ _ _ _ _ _ r h => by simp [spec_Moved.j0] at h, fun _ _ _ _ _ _ _ _ _ _ _ r h => by simp [spec_Moved.l0] at h, fun _ _ _ _ _ _ _ _ _ _ _ _ r h => by simp [spec_Moved.l1] at h, fun _ _ _ _ _ _ _ _ _ _ _ _ _ r h => by simp [spec_Moved.l2] at h⟩
  | k + 1 => by
    obtain ⟨ih0, ih1, ih2, ih3⟩ := spec_Moved.mono_l k
    refine ⟨?_, ?_, ?_, ?_⟩
    · intro y0 y1 y2 y3 y4 y5 y6 y7
      unfold spec_Moved.j0
      repeat' first
      | (with_reducible exact ih0 _ _ _ _ _ _ _ _)
      | (with_reducible exact ih1 _ _ _ _ _ _ _ _ _ _ _)
      | (with_reducible exact ih2 _ _ _ _ _ _ _ _ _ _ _ _)
      | (with_reducible exact ih3 _ _ _ _ _ _ _ _ _ _ _ _ _)
      | (with_reducible exact spec_BoxOk.mono _ _ _ _)
      | (with_reducible exact spec_l14Both.mono _ _ _ _ _ _ _ _ _ _)
      | (with_reducible exact LeO.refl _)
      | (with_reducible exact LeO.none _)
      | (with_reducible refine LeO.ite ?_ ?_)
      | (with_reducible refine LeO.bind ?_ (fun _ => ?_))
      | exact ih0 _ _ _ _ _ _ _ _
      | exact ih1 _ _ _ _ _ _ _ _ _ _ _
      | exact ih2 _ _ _ _ _ _ _ _ _ _ _ _
      | exact ih3 _ _ _ _ _ _ _ _ _ _ _ _ _
      | exact spec_BoxOk.mono _ _ _ _
      | exact spec_l14Both.mono _ _ _ _ _ _ _ _ _ _
      | exact LeO.none _
      | refine LeO.ite ?_ ?_
      | refine LeO.bind ?_ (fun _ => ?_)
    · intro y0 y1 y2 y3 y4 y5 y6 y7 y8 y9 y10
      unfold spec_Moved.l0
      repeat' first
      | (with_reducible exact ih0 _ _ _ _ _ _ _ _)
      | (with_reducible exact ih1 _ _ _ _ _ _ _ _ _ _ _)
      | (with_reducible exact ih2 _ _ _ _ _ _ _ _ _ _ _ _)
      | (with_reducible exact ih3 _ _ _ _ _ _ _ _ _ _ _ _ _)
      | (with_reducible exact spec_BoxOk.mono _ _ _ _)
      | (with_reducible exact spec_l14Both.mono _ _ _ _ _ _ _ _ _ _)
      | (with_reducible exact LeO.refl _)
      | (with_reducible exact LeO.none _)
      | (with_reducible refine LeO.ite ?_ ?_)
      | (with_reducible refine LeO.bind ?_ (fun _ => ?_))
      | exact ih0 _ _ _ _ _ _ _ _
      | exact ih1 _ _ _ _ _ _ _ _ _ _ _
      | exact ih2 _ _ _ _ _ _ _ _ _ _ _ _
      | exact ih3 _ _ _ _ _ _ _ _ _ _ _ _ _
      | exact spec_BoxOk.mono _ _ _ _
      | exact spec_l14Both.mono _ _ _ _ _ _ _ _ _ _
      | exact LeO.none _
      | refine LeO.ite ?_ ?_
      | refine LeO.bind ?_ (fun _ => ?_)
    · intro y0 y1 y2 y3 y4 y5 y6 y7 y8 y9 y10 y11
      unfold spec_Moved.l1
      repeat' first
      | (with_reducible exact ih0 _ _ _ _ _ _ _ _)
      | (with_reducible exact ih1 _ _ _ _ _ _ _ _ _ _ _)
      | (with_reducible exact ih2 _ _ _ _ _ _ _ _ _ _ _ _)
      | (with_reducible exact ih3 _ _ _ _ _ _ _ _ _ _ _ _ _)
      | (with_reducible exact spec_BoxOk.mono _ _ _ _)
      | (with_reducible exact spec_l14Both.mono _ _ _ _ _ _ _ _ _ _)
      | (with_reducible exact LeO.refl _)
      | (with_reducible exact LeO.none _)
      | (with_reducible refine LeO.ite ?_ ?_)
      | (with_reducible refine LeO.bind ?_ (fun _ => ?_))
      | exact ih0 _ _ _ _ _ _ _ _
      | exact ih1 _ _ _ _ _ _ _ _ _ _ _
      | exact ih2 _ _ _ _ _ _ _ _ _ _ _ _
      | exact ih3 _ _ _ _ _ _ _ _ _ _ _ _ _
      | exact spec_BoxOk.mono _ _ _ _
      | exact spec_l14Both.mono _ _ _ _ _ _ _ _ _ _
      | exact LeO.none _
      | refine LeO.ite ?_ ?_
      | refine LeO.bind ?_ (fun _ => ?_)
    · intro y0 y1 y2 y3 y4 y5 y6 y7 y8 y9 y10 y11 y12
      unfold spec_Moved.l2
      repeat' first
      | (with_reducible exact ih0 _ _ _ _ _ _ _ _)
      | (with_reducible exact ih1 _ _ _ _ _ _ _ _ _ _ _)
      | (with_reducible exact ih2 _ _ _ _ _ _ _ _ _ _ _ _)
      | (with_reducible exact ih3 _ _ _ _ _ _ _ _ _ _ _ _ _)
      | (with_reducible exact spec_BoxOk.mono _ _ _ _)
      | (with_reducible exact spec_l14Both.mono _ _ _ _ _ _ _ _ _ _)
      | (with_reducible exact LeO.refl _)
      | (with_reducible exact LeO.none _)
      | (with_reducible refine LeO.ite ?_ ?_)
      | (with_reducible refine LeO.bind ?_ (fun _ => ?_))
      | exact ih0 _ _ _ _ _ _ _ _
      | exact ih1 _ _ _ _ _ _ _ _ _ _ _
      | exact ih2 _ _ _ _ _ _ _ _ _ _ _ _
      | exact ih3 _ _ _ _ _ _ _ _ _ _ _ _ _
      | exact spec_BoxOk.mono _ _ _ _
      | exact spec_l14Both.mono _ _ _ _ _ _ _ _ _ _
      | exact LeO.none _
      | refine LeO.ite ?_ ?_
      | refine LeO.bind ?_ (fun _ => ?_)
theorem spec_Moved.mono : ∀ a0 a1 a2 a3 a4 a5 a6 k, LeO (spec_Moved.f k a0 a1 a2 a3 a4 a5 a6) (spec_Moved.f (k + 1) a0 a1 a2 a3 a4 a5 a6) := by
  intro a0 a1 a2 a3 a4 a5 a6 k
  obtain ⟨ih0, ih1, ih2, ih3⟩ := spec_Moved.mono_l k
  unfold spec_Moved.f
  repeat' first
      | (with_reducible exact ih0 _ _ _ _ _ _ _ _)
      | (with_reducible exact ih1 _ _ _ _ _ _ _ _ _ _ _)
      | (with_reducible exact ih2 _ _ _ _ _ _ _ _ _ _ _ _)
      | (with_reducible exact ih3 _ _ _ _ _ _ _ _ _ _ _ _ _)
      | (with_reducible exact spec_BoxOk.mono _ _ _ _)
      | (with_reducible exact spec_l14Both.mono _ _ _ _ _ _ _ _ _ _)
      | (with_reducible exact LeO.refl _)
      | (with_reducible exact LeO.none _)
      | (with_reducible refine LeO.ite ?_ ?_)
      | (with_reducible refine LeO.bind ?_ (fun _ => ?_))
      | exact ih0 _ _ _ _ _ _ _ _
      | exact ih1 _ _ _ _ _ _ _ _ _ _ _
      | exact ih2 _ _ _ _ _ _ _ _ _ _ _ _
      | exact ih3 _ _ _ _ _ _ _ _ _ _ _ _ _
      | exact spec_BoxOk.mono _ _ _ _
      | exact spec_l14Both.mono _ _ _ _ _ _ _ _ _ _
      | exact LeO.none _
      | refine LeO.ite ?_ ?_
      | refine LeO.bind ?_ (fun _ => ?_)
set_option maxHeartbeats 8000000 in
set_option maxRecDepth 100000 in
theorem spec_Moved.calls (k : Nat) (a0_0 : Int) (a0_1 : Int) (A0_2 : Option Addr) (c0_2 : Nat) (l0_2 : List Int) (a1 : Int) (a2_0 : Int) (a2_1 : Int) (A2_2 : Option Addr) (c2_2 : Nat) (l2_2 : List Int) (r1 : Int) (r2 : Int) (r3 : Bool) (w : World) (hr0_2 : Kd.C (Kd.int .i64) w A0_2 l0_2.length l0_2) (hc0_2 : l0_2.length ≤ c0_2) (hr2_2 : Kd.C (Kd.int .i64) w A2_2 l2_2.length l2_2) (hc2_2 : l2_2.length ≤ c2_2) (h : spec_Moved.f k a0_0 a0_1 l0_2 a1 a2_0 a2_1 l2_2 = some (r1, r2, r3)) :
    Calls Try.prog 26 #[.agg #[.int .i64 a0_0, .int .i64 a0_1, .slice A0_2 l0_2.length c0_2], .int .i64 a1, .agg #[.int .i64 a2_0, .int .i64 a2_1, .slice A2_2 l2_2.length c2_2]] w fun e w' => e = .returned (.tuple #[.int .i64 r1, .int .i64 r2, .bool r3]) ∧ Below w.heap.size w w' := by
  have hu55 := Try.underlying55
  have HR0_2 := Aside0.mk hr0_2
  have HC0_2 := Aside0.mk hc0_2
  clear hr0_2 hc0_2
  have HR2_2 := Aside0.mk hr2_2
  have HC2_2 := Aside0.mk hc2_2
  clear hr2_2 hc2_2
  have HB := Aside0.mk (Below.refl w.heap.size w)
  have H : ((spec_BoxOk.f k a0_0 a0_1 l0_2).bind fun t393 => (if t393 = true then ((spec_BoxOk.f k a2_0 a2_1 l2_2).bind fun t394 => (if t394 = true then (if a0_0 = a2_0 then (spec_Moved.j0 k a1 (a0_1 != a2_1) a0_0 a0_1 l0_2 a2_0 a2_1 l2_2) else (spec_Moved.j0 k a1 true a0_0 a0_1 l0_2 a2_0 a2_1 l2_2)) else (spec_Moved.j0 k a1 true a0_0 a0_1 l0_2 a2_0 a2_1 l2_2))) else (spec_Moved.j0 k a1 true a0_0 a0_1 l0_2 a2_0 a2_1 l2_2))) = some (r1, r2, r3) := h
  clear h
  have HC4 := Aside0.mk H
  clear H
  go_enter Try.func26, Try.ntmps26
  go_upto_region 1 with (first | ((with_reducible refine gate_dst (N := 3) rfl ?_); refine box_event ?hg (N := 3) ?hd (cs := #[.int .i64 a0_0, .int .i64 a0_1, .slice A0_2 l0_2.length c0_2]) (t := 55) ?hr ?_; (case hd => rfl); (case hg => rfl); (case hr => first | (go_simp; done) | (go_simp; rfl)); intro gb391 hg w5 hbox hb; have n0_ := Aside0.mk (below_step (by repeat (first | (with_reducible first | exact HB.out | apply below_alloc | apply pw_below_drewN | apply below_drew1) | exact HB.out)) hb); have n1_ := Aside0.mk (hbox); have n2_ := Aside0.mk ((by rw [hg]; exact (below_size (by repeat (first | (with_reducible first | exact HB.out | apply below_alloc | apply pw_below_drewN | apply below_drew1) | exact HB.out))) : w.heap.size ≤ gb391)); have n3_ := Aside0.mk ((by rw [hg]; exact (below_size (by repeat (first | (with_reducible first | exact HB.out | apply below_alloc | apply pw_below_drewN | apply below_drew1) | exact HB.out))) : w.heap.size ≤ gb391)); clear HB; have HB := n0_; have BK391 := n1_; have GW391 := n2_; have GE391 := n3_; clear n0_ n1_ n2_ n3_; clear hb hbox hg) | ((with_reducible refine gate_dst (N := 5) rfl ?_); refine box_event ?hg (N := 5) ?hd (cs := #[.int .i64 a2_0, .int .i64 a2_1, .slice A2_2 l2_2.length c2_2]) (t := 55) ?hr ?_; (case hd => rfl); (case hg => rfl); (case hr => first | (go_simp; done) | (go_simp; rfl)); intro gb392 hg w6 hbox hb; have n0_ := Aside0.mk (blk_below (g := gb391) (o := .cells #[.int .i64 a0_0, .int .i64 a0_1, .slice A0_2 l0_2.length c0_2] 55 (0, 0)) (by (with_reducible repeat (first | refine blk_drewN ?_ _ | refine blk_drew ?_ | refine blk_alloc ?_ _)); exact BK391.out) hb); have n1_ := Aside0.mk (below_step (by repeat (first | (with_reducible first | exact HB.out | apply below_alloc | apply pw_below_drewN | apply below_drew1 | refine below_set ?_ GE391.out) | exact HB.out)) hb); have n2_ := Aside0.mk (hbox); have n3_ := Aside0.mk ((by rw [hg]; exact (below_size (by repeat (first | (with_reducible first | exact HB.out | apply below_alloc | apply pw_below_drewN | apply below_drew1 | refine below_set ?_ GE391.out) | exact HB.out))) : w.heap.size ≤ gb392)); have n4_ := Aside0.mk ((by rw [hg]; exact (below_size (by repeat (first | (with_reducible first | exact HB.out | apply below_alloc | apply pw_below_drewN | apply below_drew1 | refine below_set ?_ GE391.out) | exact HB.out))) : w.heap.size ≤ gb392)); have n5_ := Aside0.mk ((by rw [hg]; exact Nat.ne_of_lt (blk_lt (g := gb391) (o := .cells #[.int .i64 a0_0, .int .i64 a0_1, .slice A0_2 l0_2.length c0_2] 55 (0, 0)) (by (with_reducible repeat (first | refine blk_drewN ?_ _ | refine blk_drew ?_ | refine blk_alloc ?_ _)); exact BK391.out)) : gb391 ≠ gb392)); have n6_ := Aside0.mk ((by rw [hg]; exact Nat.ne_of_gt (blk_lt (g := gb391) (o := .cells #[.int .i64 a0_0, .int .i64 a0_1, .slice A0_2 l0_2.length c0_2] 55 (0, 0)) (by (with_reducible repeat (first | refine blk_drewN ?_ _ | refine blk_drew ?_ | refine blk_alloc ?_ _)); exact BK391.out)) : gb392 ≠ gb391)); clear BK391; clear HB; have BK391 := n0_; have HB := n1_; have BK392 := n2_; have GW392 := n3_; have GE392 := n4_; have NB391_392 := n5_; have NB392_391 := n6_; clear n0_ n1_ n2_ n3_ n4_ n5_ n6_; clear hb hbox hg))
  (try simp only [Act.put, List.setIfInBounds_toArray, List.set_cons_zero, List.set_cons_succ])
  go_cut [37] (fun v37 wc => ∃ (kq : Nat) (x37_3 : Bool), v37 = .bool x37_3 ∧ Aside0 (spec_Moved.j0 kq a1 x37_3 a0_0 a0_1 l0_2 a2_0 a2_1 l2_2 = some (r1, r2, r3)) ∧ Aside0 (kq ≤ k) ∧ Aside0 (wc.heap[gb391]? = some (.cells #[.int .i64 a0_0, .int .i64 a0_1, (.slice A0_2 l0_2.length c0_2)] 55 (0, 0))) ∧ Aside0 (wc.heap[gb392]? = some (.cells #[.int .i64 a2_0, .int .i64 a2_1, (.slice A2_2 l2_2.length c2_2)] 55 (0, 0))) ∧ Aside0 (Below w.heap.size w wc))
  case first =>
    have H := HC4.out
    clear HC4
    replace H := Option.bind_eq_some_iff.mp H
    obtain ⟨t393, A70, H⟩ := H
    replace H : (if t393 = true then ((spec_BoxOk.f k a2_0 a2_1 l2_2).bind fun t394 => (if t394 = true then (if a0_0 = a2_0 then (spec_Moved.j0 k a1 (a0_1 != a2_1) a0_0 a0_1 l0_2 a2_0 a2_1 l2_2) else (spec_Moved.j0 k a1 true a0_0 a0_1 l0_2 a2_0 a2_1 l2_2)) else (spec_Moved.j0 k a1 true a0_0 a0_1 l0_2 a2_0 a2_1 l2_2))) else (spec_Moved.j0 k a1 true a0_0 a0_1 l0_2 a2_0 a2_1 l2_2)) = some (r1, r2, r3) := H
    have A7 := Aside0.mk A70
    clear A70
    by_cases c8 : t393 = true
    · subst c8
      have H1 : ((spec_BoxOk.f k a2_0 a2_1 l2_2).bind fun t394 => (if t394 = true then (if a0_0 = a2_0 then (spec_Moved.j0 k a1 (a0_1 != a2_1) a0_0 a0_1 l0_2 a2_0 a2_1 l2_2) else (spec_Moved.j0 k a1 true a0_0 a0_1 l0_2 a2_0 a2_1 l2_2)) else (spec_Moved.j0 k a1 true a0_0 a0_1 l0_2 a2_0 a2_1 l2_2))) = some (r1, r2, r3) := by rw [if_pos rfl] at H; exact H
      clear H
      have H := H1
      clear H1
      replace H := Option.bind_eq_some_iff.mp H
      obtain ⟨t394, A90, H⟩ := H
      replace H : (if t394 = true then (if a0_0 = a2_0 then (spec_Moved.j0 k a1 (a0_1 != a2_1) a0_0 a0_1 l0_2 a2_0 a2_1 l2_2) else (spec_Moved.j0 k a1 true a0_0 a0_1 l0_2 a2_0 a2_1 l2_2)) else (spec_Moved.j0 k a1 true a0_0 a0_1 l0_2 a2_0 a2_1 l2_2)) = some (r1, r2, r3) := H
      have A9 := Aside0.mk A90
      clear A90
      by_cases c10 : t394 = true
      · subst c10
        have H1 : (if a0_0 = a2_0 then (spec_Moved.j0 k a1 (a0_1 != a2_1) a0_0 a0_1 l0_2 a2_0 a2_1 l2_2) else (spec_Moved.j0 k a1 true a0_0 a0_1 l0_2 a2_0 a2_1 l2_2)) = some (r1, r2, r3) := by rw [if_pos rfl] at H; exact H
        clear H
        have H := H1
        clear H1
        by_cases c11 : a0_0 = a2_0
        · rw [if_pos c11] at H
          have c11b0 : (a0_0 == a2_0) = true := beq_iff_eq.mpr c11
          have c11b1 : (a0_0 != a2_0) = false := bne_eq_false_iff_eq.mpr c11
          clear c11
          (first | rw [c11b0] | (simp only [i64_w, i32_w]; rw [c11b0]) | skip)
          have H' := Aside0.mk H
          clear H
          have hnb12 := NB391_392.out
          have hnc12 := NB392_391.out
          have hcz13_0 : w6.cell? ⟨gb391, 0, none⟩ = some (.int .i64 a0_0) := (blk_cell BK391.out 0).trans rfl
          have hcz13_1 : w6.cell? ⟨gb391, 1, none⟩ = some (.int .i64 a0_1) := (blk_cell BK391.out 1).trans rfl
          have hcz13_2 : w6.cell? ⟨gb391, 2, none⟩ = some (.slice A0_2 l0_2.length c0_2) := (blk_cell BK391.out 2).trans rfl
          have hfz13_0 := blk_frozen BK391.out 0
          have hfz13_1 := blk_frozen BK391.out 1
          have hfz13_2 := blk_frozen BK391.out 2
          go_wp2_with (first | ((with_reducible refine gate_callee (f := 49) rfl ?_); refine goesL_ (some 17) rfl rfl Try.func49 (by kernel_rfl) rfl #[.agg #[.int .i64 a0_0, .int .i64 a0_1, .slice A0_2 l0_2.length c0_2]] rfl (by (try simp only [List.map_toArray, List.map_cons, List.map_nil]); first | done | rfl | (simp only [List.length_drop, List.length_take]; rfl)) ?_; (with_reducible refine (spec_BoxOk.calls k a0_0 a0_1 _ _ l0_2 true _ ?side1 ?side2 A7.out).mono ?_); (case side1 => repeat (first | exact (Kd.C_below HR0_2.out HB.out) | (with_reducible refine Kd.C_alloc ?_ _) | (with_reducible refine Kd.C_drewN ?_ _) | (with_reducible refine Kd.C_drew ?_))); (case side2 => exact HC0_2.out); rintro e w14 ⟨rfl, hb⟩; refine ⟨_, rfl, ?_⟩; have n0_ := Aside0.mk (blk_below (g := gb391) (o := .cells #[.int .i64 a0_0, .int .i64 a0_1, .slice A0_2 l0_2.length c0_2] 55 (0, 0)) (by (with_reducible repeat (first | refine blk_drewN ?_ _ | refine blk_drew ?_ | refine blk_alloc ?_ _)); exact BK391.out) hb); have n1_ := Aside0.mk (blk_below (g := gb392) (o := .cells #[.int .i64 a2_0, .int .i64 a2_1, .slice A2_2 l2_2.length c2_2] 55 (0, 0)) (by (with_reducible repeat (first | refine blk_drewN ?_ _ | refine blk_drew ?_ | refine blk_alloc ?_ _)); exact BK392.out) hb); have n2_ := Aside0.mk (below_step (by repeat (first | (with_reducible first | exact HB.out | apply below_alloc | apply pw_below_drewN | apply below_drew1 | refine below_set ?_ GE391.out | refine below_set ?_ GE392.out) | exact HB.out)) hb); clear BK391; clear BK392; clear HB; have BK391 := n0_; have BK392 := n1_; have HB := n2_; clear n0_ n1_ n2_; (try clear hb); (try clear hb2); (try clear hk); (try clear hi); have hcz15_0 : w14.cell? ⟨gb392, 0, none⟩ = some (.int .i64 a2_0) := (blk_cell BK392.out 0).trans rfl; have hcz15_1 : w14.cell? ⟨gb392, 1, none⟩ = some (.int .i64 a2_1) := (blk_cell BK392.out 1).trans rfl; have hcz15_2 : w14.cell? ⟨gb392, 2, none⟩ = some (.slice A2_2 l2_2.length c2_2) := (blk_cell BK392.out 2).trans rfl; have hfz15_0 := blk_frozen BK392.out 0; have hfz15_1 := blk_frozen BK392.out 1; have hfz15_2 := blk_frozen BK392.out 2) | (go_at_call 49; (with_reducible refine (spec_BoxOk.calls k a2_0 a2_1 _ _ l2_2 true _ ?side1 ?side2 A9.out).mono ?_); (case side1 => repeat (first | exact (Kd.C_below HR2_2.out HB.out) | (with_reducible refine Kd.C_alloc ?_ _) | (with_reducible refine Kd.C_drewN ?_ _) | (with_reducible refine Kd.C_drew ?_))); (case side2 => exact HC2_2.out); rintro e w16 ⟨rfl, hb⟩; have n0_ := Aside0.mk (blk_below (g := gb391) (o := .cells #[.int .i64 a0_0, .int .i64 a0_1, .slice A0_2 l0_2.length c0_2] 55 (0, 0)) (by (with_reducible repeat (first | refine blk_drewN ?_ _ | refine blk_drew ?_ | refine blk_alloc ?_ _)); exact BK391.out) hb); have n1_ := Aside0.mk (blk_below (g := gb392) (o := .cells #[.int .i64 a2_0, .int .i64 a2_1, .slice A2_2 l2_2.length c2_2] 55 (0, 0)) (by (with_reducible repeat (first | refine blk_drewN ?_ _ | refine blk_drew ?_ | refine blk_alloc ?_ _)); exact BK392.out) hb); have n2_ := Aside0.mk (below_step (by repeat (first | (with_reducible first | exact HB.out | apply below_alloc | apply pw_below_drewN | apply below_drew1 | refine below_set ?_ GE391.out | refine below_set ?_ GE392.out) | exact HB.out)) hb); clear BK391; clear BK392; clear HB; have BK391 := n0_; have BK392 := n1_; have HB := n2_; clear n0_ n1_ n2_; (try clear hb); (try clear hb2); (try clear hk); (try clear hi); have hcz17_0 : w16.cell? ⟨gb391, 0, none⟩ = some (.int .i64 a0_0) := (blk_cell BK391.out 0).trans rfl; have hcz17_1 : w16.cell? ⟨gb391, 1, none⟩ = some (.int .i64 a0_1) := (blk_cell BK391.out 1).trans rfl; have hcz17_2 : w16.cell? ⟨gb391, 2, none⟩ = some (.slice A0_2 l0_2.length c0_2) := (blk_cell BK391.out 2).trans rfl; have hfz17_0 := blk_frozen BK391.out 0; have hfz17_1 := blk_frozen BK391.out 1; have hfz17_2 := blk_frozen BK391.out 2; have hcz18_0 : w16.cell? ⟨gb392, 0, none⟩ = some (.int .i64 a2_0) := (blk_cell BK392.out 0).trans rfl; have hcz18_1 : w16.cell? ⟨gb392, 1, none⟩ = some (.int .i64 a2_1) := (blk_cell BK392.out 1).trans rfl; have hcz18_2 : w16.cell? ⟨gb392, 2, none⟩ = some (.slice A2_2 l2_2.length c2_2) := (blk_cell BK392.out 2).trans rfl; have hfz18_0 := blk_frozen BK392.out 0; have hfz18_1 := blk_frozen BK392.out 1; have hfz18_2 := blk_frozen BK392.out 2))
          go_meet
          case rel => exact ⟨_, ((a0_1 != a2_1)), (by first | rfl | (simp; done) | (simp [*]; done)), H', ⟨by first | omega | exact Nat.le_refl _⟩, ⟨by (with_reducible repeat (first | refine blk_drewN ?_ _ | refine blk_drew ?_ | refine blk_alloc ?_ _)); exact BK391.out⟩, ⟨by (with_reducible repeat (first | refine blk_drewN ?_ _ | refine blk_drew ?_ | refine blk_alloc ?_ _)); exact BK392.out⟩, ⟨by repeat (first | (with_reducible first | exact HB.out | apply below_alloc | apply pw_below_drewN | apply below_drew1 | refine below_set ?_ GE391.out | refine below_set ?_ GE392.out) | exact HB.out)⟩⟩
        · rw [if_neg c11] at H
          have c11b0 : (a0_0 == a2_0) = false := beq_eq_false_iff_ne.mpr c11
          have c11b1 : (a0_0 != a2_0) = true := bne_iff_ne.mpr c11
          (first | rw [c11b0] | (simp only [i64_w, i32_w]; rw [c11b0]) | skip)
          have H' := Aside0.mk H
          clear H
          have hnb19 := NB391_392.out
          have hnc19 := NB392_391.out
          have hcz20_0 : w6.cell? ⟨gb391, 0, none⟩ = some (.int .i64 a0_0) := (blk_cell BK391.out 0).trans rfl
          have hcz20_1 : w6.cell? ⟨gb391, 1, none⟩ = some (.int .i64 a0_1) := (blk_cell BK391.out 1).trans rfl
          have hcz20_2 : w6.cell? ⟨gb391, 2, none⟩ = some (.slice A0_2 l0_2.length c0_2) := (blk_cell BK391.out 2).trans rfl
          have hfz20_0 := blk_frozen BK391.out 0
          have hfz20_1 := blk_frozen BK391.out 1
          have hfz20_2 := blk_frozen BK391.out 2
          go_wp2_with (first | ((with_reducible refine gate_callee (f := 49) rfl ?_); refine goesL_ (some 17) rfl rfl Try.func49 (by kernel_rfl) rfl #[.agg #[.int .i64 a0_0, .int .i64 a0_1, .slice A0_2 l0_2.length c0_2]] rfl (by (try simp only [List.map_toArray, List.map_cons, List.map_nil]); first | done | rfl | (simp only [List.length_drop, List.length_take]; rfl)) ?_; (with_reducible refine (spec_BoxOk.calls k a0_0 a0_1 _ _ l0_2 true _ ?side1 ?side2 A7.out).mono ?_); (case side1 => repeat (first | exact (Kd.C_below HR0_2.out HB.out) | (with_reducible refine Kd.C_alloc ?_ _) | (with_reducible refine Kd.C_drewN ?_ _) | (with_reducible refine Kd.C_drew ?_))); (case side2 => exact HC0_2.out); rintro e w21 ⟨rfl, hb⟩; refine ⟨_, rfl, ?_⟩; have n0_ := Aside0.mk (blk_below (g := gb391) (o := .cells #[.int .i64 a0_0, .int .i64 a0_1, .slice A0_2 l0_2.length c0_2] 55 (0, 0)) (by (with_reducible repeat (first | refine blk_drewN ?_ _ | refine blk_drew ?_ | refine blk_alloc ?_ _)); exact BK391.out) hb); have n1_ := Aside0.mk (blk_below (g := gb392) (o := .cells #[.int .i64 a2_0, .int .i64 a2_1, .slice A2_2 l2_2.length c2_2] 55 (0, 0)) (by (with_reducible repeat (first | refine blk_drewN ?_ _ | refine blk_drew ?_ | refine blk_alloc ?_ _)); exact BK392.out) hb); have n2_ := Aside0.mk (below_step (by repeat (first | (with_reducible first | exact HB.out | apply below_alloc | apply pw_below_drewN | apply below_drew1 | refine below_set ?_ GE391.out | refine below_set ?_ GE392.out) | exact HB.out)) hb); clear BK391; clear BK392; clear HB; have BK391 := n0_; have BK392 := n1_; have HB := n2_; clear n0_ n1_ n2_; (try clear hb); (try clear hb2); (try clear hk); (try clear hi); have hcz22_0 : w21.cell? ⟨gb392, 0, none⟩ = some (.int .i64 a2_0) := (blk_cell BK392.out 0).trans rfl; have hcz22_1 : w21.cell? ⟨gb392, 1, none⟩ = some (.int .i64 a2_1) := (blk_cell BK392.out 1).trans rfl; have hcz22_2 : w21.cell? ⟨gb392, 2, none⟩ = some (.slice A2_2 l2_2.length c2_2) := (blk_cell BK392.out 2).trans rfl; have hfz22_0 := blk_frozen BK392.out 0; have hfz22_1 := blk_frozen BK392.out 1; have hfz22_2 := blk_frozen BK392.out 2) | (go_at_call 49; (with_reducible refine (spec_BoxOk.calls k a2_0 a2_1 _ _ l2_2 true _ ?side1 ?side2 A9.out).mono ?_); (case side1 => repeat (first | exact (Kd.C_below HR2_2.out HB.out) | (with_reducible refine Kd.C_alloc ?_ _) | (with_reducible refine Kd.C_drewN ?_ _) | (with_reducible refine Kd.C_drew ?_))); (case side2 => exact HC2_2.out); rintro e w23 ⟨rfl, hb⟩; have n0_ := Aside0.mk (blk_below (g := gb391) (o := .cells #[.int .i64 a0_0, .int .i64 a0_1, .slice A0_2 l0_2.length c0_2] 55 (0, 0)) (by (with_reducible repeat (first | refine blk_drewN ?_ _ | refine blk_drew ?_ | refine blk_alloc ?_ _)); exact BK391.out) hb); have n1_ := Aside0.mk (blk_below (g := gb392) (o := .cells #[.int .i64 a2_0, .int .i64 a2_1, .slice A2_2 l2_2.length c2_2] 55 (0, 0)) (by (with_reducible repeat (first | refine blk_drewN ?_ _ | refine blk_drew ?_ | refine blk_alloc ?_ _)); exact BK392.out) hb); have n2_ := Aside0.mk (below_step (by repeat (first | (with_reducible first | exact HB.out | apply below_alloc | apply pw_below_drewN | apply below_drew1 | refine below_set ?_ GE391.out | refine below_set ?_ GE392.out) | exact HB.out)) hb); clear BK391; clear BK392; clear HB; have BK391 := n0_; have BK392 := n1_; have HB := n2_; clear n0_ n1_ n2_; (try clear hb); (try clear hb2); (try clear hk); (try clear hi); have hcz24_0 : w23.cell? ⟨gb391, 0, none⟩ = some (.int .i64 a0_0) := (blk_cell BK391.out 0).trans rfl; have hcz24_1 : w23.cell? ⟨gb391, 1, none⟩ = some (.int .i64 a0_1) := (blk_cell BK391.out 1).trans rfl; have hcz24_2 : w23.cell? ⟨gb391, 2, none⟩ = some (.slice A0_2 l0_2.length c0_2) := (blk_cell BK391.out 2).trans rfl; have hfz24_0 := blk_frozen BK391.out 0; have hfz24_1 := blk_frozen BK391.out 1; have hfz24_2 := blk_frozen BK391.out 2; have hcz25_0 : w23.cell? ⟨gb392, 0, none⟩ = some (.int .i64 a2_0) := (blk_cell BK392.out 0).trans rfl; have hcz25_1 : w23.cell? ⟨gb392, 1, none⟩ = some (.int .i64 a2_1) := (blk_cell BK392.out 1).trans rfl; have hcz25_2 : w23.cell? ⟨gb392, 2, none⟩ = some (.slice A2_2 l2_2.length c2_2) := (blk_cell BK392.out 2).trans rfl; have hfz25_0 := blk_frozen BK392.out 0; have hfz25_1 := blk_frozen BK392.out 1; have hfz25_2 := blk_frozen BK392.out 2))
          go_meet
          case rel => exact ⟨_, (true), (by first | rfl | (simp; done) | (simp [*]; done)), H', ⟨by first | omega | exact Nat.le_refl _⟩, ⟨by (with_reducible repeat (first | refine blk_drewN ?_ _ | refine blk_drew ?_ | refine blk_alloc ?_ _)); exact BK391.out⟩, ⟨by (with_reducible repeat (first | refine blk_drewN ?_ _ | refine blk_drew ?_ | refine blk_alloc ?_ _)); exact BK392.out⟩, ⟨by repeat (first | (with_reducible first | exact HB.out | apply below_alloc | apply pw_below_drewN | apply below_drew1 | refine below_set ?_ GE391.out | refine below_set ?_ GE392.out) | exact HB.out)⟩⟩
      · replace c10 := Bool.eq_false_iff.mpr c10
        subst c10
        have H1 : (spec_Moved.j0 k a1 true a0_0 a0_1 l0_2 a2_0 a2_1 l2_2) = some (r1, r2, r3) := by rw [if_neg (show ¬ (false = true) by decide)] at H; exact H
        clear H
        have H := H1
        clear H1
        have H' := Aside0.mk H
        clear H
        have hnb26 := NB391_392.out
        have hnc26 := NB392_391.out
        have hcz27_0 : w6.cell? ⟨gb391, 0, none⟩ = some (.int .i64 a0_0) := (blk_cell BK391.out 0).trans rfl
        have hcz27_1 : w6.cell? ⟨gb391, 1, none⟩ = some (.int .i64 a0_1) := (blk_cell BK391.out 1).trans rfl
        have hcz27_2 : w6.cell? ⟨gb391, 2, none⟩ = some (.slice A0_2 l0_2.length c0_2) := (blk_cell BK391.out 2).trans rfl
        have hfz27_0 := blk_frozen BK391.out 0
        have hfz27_1 := blk_frozen BK391.out 1
        have hfz27_2 := blk_frozen BK391.out 2
        go_wp2_with (first | ((with_reducible refine gate_callee (f := 49) rfl ?_); refine goesL_ (some 17) rfl rfl Try.func49 (by kernel_rfl) rfl #[.agg #[.int .i64 a0_0, .int .i64 a0_1, .slice A0_2 l0_2.length c0_2]] rfl (by (try simp only [List.map_toArray, List.map_cons, List.map_nil]); first | done | rfl | (simp only [List.length_drop, List.length_take]; rfl)) ?_; (with_reducible refine (spec_BoxOk.calls k a0_0 a0_1 _ _ l0_2 true _ ?side1 ?side2 A7.out).mono ?_); (case side1 => repeat (first | exact (Kd.C_below HR0_2.out HB.out) | (with_reducible refine Kd.C_alloc ?_ _) | (with_reducible refine Kd.C_drewN ?_ _) | (with_reducible refine Kd.C_drew ?_))); (case side2 => exact HC0_2.out); rintro e w28 ⟨rfl, hb⟩; refine ⟨_, rfl, ?_⟩; have n0_ := Aside0.mk (blk_below (g := gb391) (o := .cells #[.int .i64 a0_0, .int .i64 a0_1, .slice A0_2 l0_2.length c0_2] 55 (0, 0)) (by (with_reducible repeat (first | refine blk_drewN ?_ _ | refine blk_drew ?_ | refine blk_alloc ?_ _)); exact BK391.out) hb); have n1_ := Aside0.mk (blk_below (g := gb392) (o := .cells #[.int .i64 a2_0, .int .i64 a2_1, .slice A2_2 l2_2.length c2_2] 55 (0, 0)) (by (with_reducible repeat (first | refine blk_drewN ?_ _ | refine blk_drew ?_ | refine blk_alloc ?_ _)); exact BK392.out) hb); have n2_ := Aside0.mk (below_step (by repeat (first | (with_reducible first | exact HB.out | apply below_alloc | apply pw_below_drewN | apply below_drew1 | refine below_set ?_ GE391.out | refine below_set ?_ GE392.out) | exact HB.out)) hb); clear BK391; clear BK392; clear HB; have BK391 := n0_; have BK392 := n1_; have HB := n2_; clear n0_ n1_ n2_; (try clear hb); (try clear hb2); (try clear hk); (try clear hi); have hcz29_0 : w28.cell? ⟨gb392, 0, none⟩ = some (.int .i64 a2_0) := (blk_cell BK392.out 0).trans rfl; have hcz29_1 : w28.cell? ⟨gb392, 1, none⟩ = some (.int .i64 a2_1) := (blk_cell BK392.out 1).trans rfl; have hcz29_2 : w28.cell? ⟨gb392, 2, none⟩ = some (.slice A2_2 l2_2.length c2_2) := (blk_cell BK392.out 2).trans rfl; have hfz29_0 := blk_frozen BK392.out 0; have hfz29_1 := blk_frozen BK392.out 1; have hfz29_2 := blk_frozen BK392.out 2) | (go_at_call 49; (with_reducible refine (spec_BoxOk.calls k a2_0 a2_1 _ _ l2_2 false _ ?side1 ?side2 A9.out).mono ?_); (case side1 => repeat (first | exact (Kd.C_below HR2_2.out HB.out) | (with_reducible refine Kd.C_alloc ?_ _) | (with_reducible refine Kd.C_drewN ?_ _) | (with_reducible refine Kd.C_drew ?_))); (case side2 => exact HC2_2.out); rintro e w30 ⟨rfl, hb⟩; have n0_ := Aside0.mk (blk_below (g := gb391) (o := .cells #[.int .i64 a0_0, .int .i64 a0_1, .slice A0_2 l0_2.length c0_2] 55 (0, 0)) (by (with_reducible repeat (first | refine blk_drewN ?_ _ | refine blk_drew ?_ | refine blk_alloc ?_ _)); exact BK391.out) hb); have n1_ := Aside0.mk (blk_below (g := gb392) (o := .cells #[.int .i64 a2_0, .int .i64 a2_1, .slice A2_2 l2_2.length c2_2] 55 (0, 0)) (by (with_reducible repeat (first | refine blk_drewN ?_ _ | refine blk_drew ?_ | refine blk_alloc ?_ _)); exact BK392.out) hb); have n2_ := Aside0.mk (below_step (by repeat (first | (with_reducible first | exact HB.out | apply below_alloc | apply pw_below_drewN | apply below_drew1 | refine below_set ?_ GE391.out | refine below_set ?_ GE392.out) | exact HB.out)) hb); clear BK391; clear BK392; clear HB; have BK391 := n0_; have BK392 := n1_; have HB := n2_; clear n0_ n1_ n2_; (try clear hb); (try clear hb2); (try clear hk); (try clear hi)))
        go_meet
        case rel => exact ⟨_, (true), (by first | rfl | (simp; done) | (simp [*]; done)), H', ⟨by first | omega | exact Nat.le_refl _⟩, ⟨by (with_reducible repeat (first | refine blk_drewN ?_ _ | refine blk_drew ?_ | refine blk_alloc ?_ _)); exact BK391.out⟩, ⟨by (with_reducible repeat (first | refine blk_drewN ?_ _ | refine blk_drew ?_ | refine blk_alloc ?_ _)); exact BK392.out⟩, ⟨by repeat (first | (with_reducible first | exact HB.out | apply below_alloc | apply pw_below_drewN | apply below_drew1 | refine below_set ?_ GE391.out | refine below_set ?_ GE392.out) | exact HB.out)⟩⟩
    · replace c8 := Bool.eq_false_iff.mpr c8
      subst c8
      have H1 : (spec_Moved.j0 k a1 true a0_0 a0_1 l0_2 a2_0 a2_1 l2_2) = some (r1, r2, r3) := by rw [if_neg (show ¬ (false = true) by decide)] at H; exact H
      clear H
      have H := H1
      clear H1
      have H' := Aside0.mk H
      clear H
      have hnb31 := NB391_392.out
      have hnc31 := NB392_391.out
      have hcz32_0 : w6.cell? ⟨gb391, 0, none⟩ = some (.int .i64 a0_0) := (blk_cell BK391.out 0).trans rfl
      have hcz32_1 : w6.cell? ⟨gb391, 1, none⟩ = some (.int .i64 a0_1) := (blk_cell BK391.out 1).trans rfl
      have hcz32_2 : w6.cell? ⟨gb391, 2, none⟩ = some (.slice A0_2 l0_2.length c0_2) := (blk_cell BK391.out 2).trans rfl
      have hfz32_0 := blk_frozen BK391.out 0
      have hfz32_1 := blk_frozen BK391.out 1
      have hfz32_2 := blk_frozen BK391.out 2
      go_wp2_with (first | ((with_reducible refine gate_callee (f := 49) rfl ?_); refine goesL_ (some 17) rfl rfl Try.func49 (by kernel_rfl) rfl #[.agg #[.int .i64 a0_0, .int .i64 a0_1, .slice A0_2 l0_2.length c0_2]] rfl (by (try simp only [List.map_toArray, List.map_cons, List.map_nil]); first | done | rfl | (simp only [List.length_drop, List.length_take]; rfl)) ?_; (with_reducible refine (spec_BoxOk.calls k a0_0 a0_1 _ _ l0_2 false _ ?side1 ?side2 A7.out).mono ?_); (case side1 => repeat (first | exact (Kd.C_below HR0_2.out HB.out) | (with_reducible refine Kd.C_alloc ?_ _) | (with_reducible refine Kd.C_drewN ?_ _) | (with_reducible refine Kd.C_drew ?_))); (case side2 => exact HC0_2.out); rintro e w33 ⟨rfl, hb⟩; refine ⟨_, rfl, ?_⟩; have n0_ := Aside0.mk (blk_below (g := gb391) (o := .cells #[.int .i64 a0_0, .int .i64 a0_1, .slice A0_2 l0_2.length c0_2] 55 (0, 0)) (by (with_reducible repeat (first | refine blk_drewN ?_ _ | refine blk_drew ?_ | refine blk_alloc ?_ _)); exact BK391.out) hb); have n1_ := Aside0.mk (blk_below (g := gb392) (o := .cells #[.int .i64 a2_0, .int .i64 a2_1, .slice A2_2 l2_2.length c2_2] 55 (0, 0)) (by (with_reducible repeat (first | refine blk_drewN ?_ _ | refine blk_drew ?_ | refine blk_alloc ?_ _)); exact BK392.out) hb); have n2_ := Aside0.mk (below_step (by repeat (first | (with_reducible first | exact HB.out | apply below_alloc | apply pw_below_drewN | apply below_drew1 | refine below_set ?_ GE391.out | refine below_set ?_ GE392.out) | exact HB.out)) hb); clear BK391; clear BK392; clear HB; have BK391 := n0_; have BK392 := n1_; have HB := n2_; clear n0_ n1_ n2_; (try clear hb); (try clear hb2); (try clear hk); (try clear hi)))
      go_meet
      case rel => exact ⟨_, (true), (by first | rfl | (simp; done) | (simp [*]; done)), H', ⟨by first | omega | exact Nat.le_refl _⟩, ⟨by (with_reducible repeat (first | refine blk_drewN ?_ _ | refine blk_drew ?_ | refine blk_alloc ?_ _)); exact BK391.out⟩, ⟨by (with_reducible repeat (first | refine blk_drewN ?_ _ | refine blk_drew ?_ | refine blk_alloc ?_ _)); exact BK392.out⟩, ⟨by repeat (first | (with_reducible first | exact HB.out | apply below_alloc | apply pw_below_drewN | apply below_drew1 | refine below_set ?_ GE391.out | refine below_set ?_ GE392.out) | exact HB.out)⟩⟩
  case rest =>
    clear HC4
    try clear c1
    try clear c2
    try clear p2
    try clear c3
    try clear c4
    try clear c8
    try clear c10
    try clear c11
    try clear c11b0
    try clear c11b1
    try clear c12
    try clear c19
    try clear c26
    try clear c31
    try clear hcz13_0
    try clear hcz13_1
    try clear hcz13_2
    try clear hcz15_0
    try clear hcz15_1
    try clear hcz15_2
    try clear hcz17_0
    try clear hcz17_1
    try clear hcz17_2
    try clear hcz18_0
    try clear hcz18_1
    try clear hcz18_2
    try clear hcz20_0
    try clear hcz20_1
    try clear hcz20_2
    try clear hcz22_0
    try clear hcz22_1
    try clear hcz22_2
    try clear hcz24_0
    try clear hcz24_1
    try clear hcz24_2
    try clear hcz25_0
    try clear hcz25_1
    try clear hcz25_2
    try clear hcz27_0
    try clear hcz27_1
    try clear hcz27_2
    try clear hcz29_0
    try clear hcz29_1
    try clear hcz29_2
    try clear hcz32_0
    try clear hcz32_1
    try clear hcz32_2
    try clear hfz13_0
    try clear hfz13_1
    try clear hfz13_2
    try clear hfz15_0
    try clear hfz15_1
    try clear hfz15_2
    try clear hfz17_0
    try clear hfz17_1
    try clear hfz17_2
    try clear hfz18_0
    try clear hfz18_1
    try clear hfz18_2
    try clear hfz20_0
    try clear hfz20_1
    try clear hfz20_2
    try clear hfz22_0
    try clear hfz22_1
    try clear hfz22_2
    try clear hfz24_0
    try clear hfz24_1
    try clear hfz24_2
    try clear hfz25_0
    try clear hfz25_1
    try clear hfz25_2
    try clear hfz27_0
    try clear hfz27_1
    try clear hfz27_2
    try clear hfz29_0
    try clear hfz29_1
    try clear hfz29_2
    try clear hfz32_0
    try clear hfz32_1
    try clear hfz32_2
    obtain ⟨kq, x37_3, rfl, HA, HJ3, BK391, BK392, HB⟩ := hcut
    cases kq with
    | zero => exact absurd HA.out (by simp [spec_Moved.j0])
    | succ kj3 =>
      have H := HA.out
      clear HA
      simp only [spec_Moved.j0] at H
      by_cases c34 : x37_3 = true
      · subst c34
        have H1 : (some (0, 0, false)) = some (r1, r2, r3) := by rw [if_pos rfl] at H; exact H
        clear H
        have H := H1
        clear H1
        simp only [Option.some.injEq, Prod.mk.injEq] at H
        obtain ⟨rfl, rfl, rfl⟩ := H
        go_wp2
        go_ret3
        exact ⟨by first | rfl | (simp [errW_none, errW_some] <;> rfl) | (simp [*, errW_none, errW_some] <;> rfl), by repeat (first | (with_reducible first | exact HB.out | apply below_alloc | apply pw_below_drewN | apply below_drew1 | refine below_set ?_ GE391.out | refine below_set ?_ GE392.out) | exact HB.out)⟩
      · replace c34 := Bool.eq_false_iff.mpr c34
        subst c34
        have H1 : (spec_Moved.l0 kj3 a1 0 0 (-1) 0 a0_0 a0_1 l0_2 a2_0 a2_1 l2_2) = some (r1, r2, r3) := by rw [if_neg (show ¬ (false = true) by decide)] at H; exact H
        clear H
        have H := H1
        clear H1
        have H' := Aside0.mk H
        clear H
        go_wp2
        go_loopg [9, 10, 11, 12] kj3 (fun kq v9 v10 v11 v12 w' => ∃ (x9_2 : Int) (x10_2 : Int) (x11_2 : Int) (x12_2 : Int), v9 = .int .i64 x9_2 ∧ v10 = .int .i64 x10_2 ∧ v11 = .int .i64 x11_2 ∧ v12 = .int .i64 x12_2 ∧ Aside0 (spec_Moved.l0 kq a1 x9_2 x10_2 x11_2 x12_2 a0_0 a0_1 l0_2 a2_0 a2_1 l2_2 = some (r1, r2, r3)) ∧ Aside0 (kq ≤ kj3) ∧ Aside0 (w'.heap[gb391]? = some (.cells #[.int .i64 a0_0, .int .i64 a0_1, (.slice A0_2 l0_2.length c0_2)] 55 (0, 0))) ∧ Aside0 (w'.heap[gb392]? = some (.cells #[.int .i64 a2_0, .int .i64 a2_1, (.slice A2_2 l2_2.length c2_2)] 55 (0, 0))) ∧ Aside0 (Below w.heap.size w w'))
        case atStart => exact ⟨(0), (0), ((-1)), (0), (by first | rfl | (simp; done) | (simp [*]; done)), (by first | rfl | (simp; done) | (simp [*]; done)), (by first | rfl | (simp; done) | (simp [*]; done)), (by first | rfl | (simp; done) | (simp [*]; done)), H', ⟨Nat.le_refl _⟩, ⟨by (with_reducible repeat (first | refine blk_drewN ?_ _ | refine blk_drew ?_ | refine blk_alloc ?_ _)); exact BK391.out⟩, ⟨by (with_reducible repeat (first | refine blk_drewN ?_ _ | refine blk_drew ?_ | refine blk_alloc ?_ _)); exact BK392.out⟩, ⟨by repeat (first | (with_reducible first | exact HB.out | apply below_alloc | apply pw_below_drewN | apply below_drew1 | refine below_set ?_ GE391.out | refine below_set ?_ GE392.out) | exact HB.out)⟩⟩
        case round =>
          clear H'
          try clear c1
          try clear c2
          try clear p2
          try clear c3
          try clear c4
          try clear c8
          try clear c10
          try clear c11
          try clear c11b0
          try clear c11b1
          try clear c12
          try clear c19
          try clear c26
          try clear c31
          try clear c34
          try clear hcz13_0
          try clear hcz13_1
          try clear hcz13_2
          try clear hcz15_0
          try clear hcz15_1
          try clear hcz15_2
          try clear hcz17_0
          try clear hcz17_1
          try clear hcz17_2
          try clear hcz18_0
          try clear hcz18_1
          try clear hcz18_2
          try clear hcz20_0
          try clear hcz20_1
          try clear hcz20_2
          try clear hcz22_0
          try clear hcz22_1
          try clear hcz22_2
          try clear hcz24_0
          try clear hcz24_1
          try clear hcz24_2
          try clear hcz25_0
          try clear hcz25_1
          try clear hcz25_2
          try clear hcz27_0
          try clear hcz27_1
          try clear hcz27_2
          try clear hcz29_0
          try clear hcz29_1
          try clear hcz29_2
          try clear hcz32_0
          try clear hcz32_1
          try clear hcz32_2
          try clear hfz13_0
          try clear hfz13_1
          try clear hfz13_2
          try clear hfz15_0
          try clear hfz15_1
          try clear hfz15_2
          try clear hfz17_0
          try clear hfz17_1
          try clear hfz17_2
          try clear hfz18_0
          try clear hfz18_1
          try clear hfz18_2
          try clear hfz20_0
          try clear hfz20_1
          try clear hfz20_2
          try clear hfz22_0
          try clear hfz22_1
          try clear hfz22_2
          try clear hfz24_0
          try clear hfz24_1
          try clear hfz24_2
          try clear hfz25_0
          try clear hfz25_1
          try clear hfz25_2
          try clear hfz27_0
          try clear hfz27_1
          try clear hfz27_2
          try clear hfz29_0
          try clear hfz29_1
          try clear hfz29_2
          try clear hfz32_0
          try clear hfz32_1
          try clear hfz32_2
          try clear p2
          obtain ⟨x9_2, x10_2, x11_2, x12_2, rfl, rfl, rfl, rfl, HA, HK2, BK391, BK392, HB⟩ := hrel
          cases gk with
          | zero => exact absurd HA.out (by simp [spec_Moved.l0])
          | succ k2 =>
            have H := HA.out
            clear HA
            simp only [spec_Moved.l0] at H
            by_cases c35 : x12_2 ≤ 18
            · rw [if_pos c35] at H
              have c35b0 : decide (x12_2 ≤ 18) = true := decide_eq_true c35
              clear c35
              have H' := Aside0.mk H
              clear H
              go_wp2
              go_loopg [9, 10, 11, 13] k2 (fun kq v9 v10 v11 v13 w' => ∃ (x9_3 : Int) (x10_3 : Int) (x11_3 : Int) (x13_3 : Int), v9 = .int .i64 x9_3 ∧ v10 = .int .i64 x10_3 ∧ v11 = .int .i64 x11_3 ∧ v13 = .int .i64 x13_3 ∧ Aside0 (spec_Moved.l1 kq a1 x9_3 x10_3 x11_3 x12_2 x13_3 a0_0 a0_1 l0_2 a2_0 a2_1 l2_2 = some (r1, r2, r3)) ∧ Aside0 (kq ≤ k2) ∧ Aside0 (w'.heap[gb391]? = some (.cells #[.int .i64 a0_0, .int .i64 a0_1, (.slice A0_2 l0_2.length c0_2)] 55 (0, 0))) ∧ Aside0 (w'.heap[gb392]? = some (.cells #[.int .i64 a2_0, .int .i64 a2_1, (.slice A2_2 l2_2.length c2_2)] 55 (0, 0))) ∧ Aside0 (Below w.heap.size w w'))
              case atStart => exact ⟨(x9_2), (x10_2), (x11_2), ((-3)), (by first | rfl | (simp; done) | (simp [*]; done)), (by first | rfl | (simp; done) | (simp [*]; done)), (by first | rfl | (simp; done) | (simp [*]; done)), (by first | rfl | (simp; done) | (simp [*]; done)), H', ⟨Nat.le_refl _⟩, ⟨by (with_reducible repeat (first | refine blk_drewN ?_ _ | refine blk_drew ?_ | refine blk_alloc ?_ _)); exact BK391.out⟩, ⟨by (with_reducible repeat (first | refine blk_drewN ?_ _ | refine blk_drew ?_ | refine blk_alloc ?_ _)); exact BK392.out⟩, ⟨by repeat (first | (with_reducible first | exact HB.out | apply below_alloc | apply pw_below_drewN | apply below_drew1 | refine below_set ?_ GE391.out | refine below_set ?_ GE392.out) | exact HB.out)⟩⟩
              case round =>
                clear H'
                try clear c1
                try clear c2
                try clear p2
                try clear c3
                try clear c4
                try clear c8
                try clear c10
                try clear c11
                try clear c11b0
                try clear c11b1
                try clear c12
                try clear c19
                try clear c26
                try clear c31
                try clear c34
                try clear c35
                try clear c35b0
                try clear hcz13_0
                try clear hcz13_1
                try clear hcz13_2
                try clear hcz15_0
                try clear hcz15_1
                try clear hcz15_2
                try clear hcz17_0
                try clear hcz17_1
                try clear hcz17_2
                try clear hcz18_0
                try clear hcz18_1
                try clear hcz18_2
                try clear hcz20_0
                try clear hcz20_1
                try clear hcz20_2
                try clear hcz22_0
                try clear hcz22_1
                try clear hcz22_2
                try clear hcz24_0
                try clear hcz24_1
                try clear hcz24_2
                try clear hcz25_0
                try clear hcz25_1
                try clear hcz25_2
                try clear hcz27_0
                try clear hcz27_1
                try clear hcz27_2
                try clear hcz29_0
                try clear hcz29_1
                try clear hcz29_2
                try clear hcz32_0
                try clear hcz32_1
                try clear hcz32_2
                try clear hfz13_0
                try clear hfz13_1
                try clear hfz13_2
                try clear hfz15_0
                try clear hfz15_1
                try clear hfz15_2
                try clear hfz17_0
                try clear hfz17_1
                try clear hfz17_2
                try clear hfz18_0
                try clear hfz18_1
                try clear hfz18_2
                try clear hfz20_0
                try clear hfz20_1
                try clear hfz20_2
                try clear hfz22_0
                try clear hfz22_1
                try clear hfz22_2
                try clear hfz24_0
                try clear hfz24_1
                try clear hfz24_2
                try clear hfz25_0
                try clear hfz25_1
                try clear hfz25_2
                try clear hfz27_0
                try clear hfz27_1
                try clear hfz27_2
                try clear hfz29_0
                try clear hfz29_1
                try clear hfz29_2
                try clear hfz32_0
                try clear hfz32_1
                try clear hfz32_2
                try clear p2
                obtain ⟨x9_3, x10_3, x11_3, x13_3, rfl, rfl, rfl, rfl, HA, HK3, BK391, BK392, HB⟩ := hrel
                cases gk with
                | zero => exact absurd HA.out (by simp [spec_Moved.l1])
                | succ k3 =>
                  have H := HA.out
                  clear HA
                  simp only [spec_Moved.l1] at H
                  by_cases c36 : x13_3 ≤ 3
                  · rw [if_pos c36] at H
                    have c36b0 : decide (x13_3 ≤ 3) = true := decide_eq_true c36
                    clear c36
                    have H' := Aside0.mk H
                    clear H
                    go_wp2
                    go_loopg [9, 10, 11, 14] k3 (fun kq v9 v10 v11 v14 w' => ∃ (x9_4 : Int) (x10_4 : Int) (x11_4 : Int) (x14_4 : Int), v9 = .int .i64 x9_4 ∧ v10 = .int .i64 x10_4 ∧ v11 = .int .i64 x11_4 ∧ v14 = .int .i64 x14_4 ∧ Aside0 (spec_Moved.l2 kq a1 x9_4 x10_4 x11_4 x12_2 x13_3 x14_4 a0_0 a0_1 l0_2 a2_0 a2_1 l2_2 = some (r1, r2, r3)) ∧ Aside0 (kq ≤ k3) ∧ Aside0 (w'.heap[gb391]? = some (.cells #[.int .i64 a0_0, .int .i64 a0_1, (.slice A0_2 l0_2.length c0_2)] 55 (0, 0))) ∧ Aside0 (w'.heap[gb392]? = some (.cells #[.int .i64 a2_0, .int .i64 a2_1, (.slice A2_2 l2_2.length c2_2)] 55 (0, 0))) ∧ Aside0 (Below w.heap.size w w'))
                    case atStart => exact ⟨(x9_3), (x10_3), (x11_3), ((-3)), (by first | rfl | (simp; done) | (simp [*]; done)), (by first | rfl | (simp; done) | (simp [*]; done)), (by first | rfl | (simp; done) | (simp [*]; done)), (by first | rfl | (simp; done) | (simp [*]; done)), H', ⟨Nat.le_refl _⟩, ⟨by (with_reducible repeat (first | refine blk_drewN ?_ _ | refine blk_drew ?_ | refine blk_alloc ?_ _)); exact BK391.out⟩, ⟨by (with_reducible repeat (first | refine blk_drewN ?_ _ | refine blk_drew ?_ | refine blk_alloc ?_ _)); exact BK392.out⟩, ⟨by repeat (first | (with_reducible first | exact HB.out | apply below_alloc | apply pw_below_drewN | apply below_drew1 | refine below_set ?_ GE391.out | refine below_set ?_ GE392.out) | exact HB.out)⟩⟩
                    case round =>
                      clear H'
                      try clear c1
                      try clear c2
                      try clear p2
                      try clear c3
                      try clear c4
                      try clear c8
                      try clear c10
                      try clear c11
                      try clear c11b0
                      try clear c11b1
                      try clear c12
                      try clear c19
                      try clear c26
                      try clear c31
                      try clear c34
                      try clear c35
                      try clear c35b0
                      try clear c36
                      try clear c36b0
                      try clear hcz13_0
                      try clear hcz13_1
                      try clear hcz13_2
                      try clear hcz15_0
                      try clear hcz15_1
                      try clear hcz15_2
                      try clear hcz17_0
                      try clear hcz17_1
                      try clear hcz17_2
                      try clear hcz18_0
                      try clear hcz18_1
                      try clear hcz18_2
                      try clear hcz20_0
                      try clear hcz20_1
                      try clear hcz20_2
                      try clear hcz22_0
                      try clear hcz22_1
                      try clear hcz22_2
                      try clear hcz24_0
                      try clear hcz24_1
                      try clear hcz24_2
                      try clear hcz25_0
                      try clear hcz25_1
                      try clear hcz25_2
                      try clear hcz27_0
                      try clear hcz27_1
                      try clear hcz27_2
                      try clear hcz29_0
                      try clear hcz29_1
                      try clear hcz29_2
                      try clear hcz32_0
                      try clear hcz32_1
                      try clear hcz32_2
                      try clear hfz13_0
                      try clear hfz13_1
                      try clear hfz13_2
                      try clear hfz15_0
                      try clear hfz15_1
                      try clear hfz15_2
                      try clear hfz17_0
                      try clear hfz17_1
                      try clear hfz17_2
                      try clear hfz18_0
                      try clear hfz18_1
                      try clear hfz18_2
                      try clear hfz20_0
                      try clear hfz20_1
                      try clear hfz20_2
                      try clear hfz22_0
                      try clear hfz22_1
                      try clear hfz22_2
                      try clear hfz24_0
                      try clear hfz24_1
                      try clear hfz24_2
                      try clear hfz25_0
                      try clear hfz25_1
                      try clear hfz25_2
                      try clear hfz27_0
                      try clear hfz27_1
                      try clear hfz27_2
                      try clear hfz29_0
                      try clear hfz29_1
                      try clear hfz29_2
                      try clear hfz32_0
                      try clear hfz32_1
                      try clear hfz32_2
                      try clear p2
                      obtain ⟨x9_4, x10_4, x11_4, x14_4, rfl, rfl, rfl, rfl, HA, HK4, BK391, BK392, HB⟩ := hrel
                      cases gk with
                      | zero => exact absurd HA.out (by simp [spec_Moved.l2])
                      | succ k4 =>
                        have H := HA.out
                        clear HA
                        simp only [spec_Moved.l2] at H
                        by_cases c37 : x14_4 ≤ 3
                        · rw [if_pos c37] at H
                          have c37b0 : decide (x14_4 ≤ 3) = true := decide_eq_true c37
                          clear c37
                          by_cases c38 : (wrap64 ((wrap64 (x13_3 * x13_3)) + (wrap64 (x14_4 * x14_4)))) = x12_2
                          · rw [if_pos c38] at H
                            have c38b0 : ((wrap64 ((wrap64 (x13_3 * x13_3)) + (wrap64 (x14_4 * x14_4)))) == x12_2) = true := beq_iff_eq.mpr c38
                            have c38b1 : ((wrap64 ((wrap64 (x13_3 * x13_3)) + (wrap64 (x14_4 * x14_4)))) != x12_2) = false := bne_eq_false_iff_eq.mpr c38
                            clear c38
                            replace H := Option.bind_eq_some_iff.mp H
                            obtain ⟨t395, A390, H⟩ := H
                            replace H : (if t395 > x11_4 then (spec_Moved.l2 k4 a1 x13_3 x14_4 t395 x12_2 x13_3 (wrap64 (x14_4 + 1)) a0_0 a0_1 l0_2 a2_0 a2_1 l2_2) else (spec_Moved.l2 k4 a1 x9_4 x10_4 x11_4 x12_2 x13_3 (wrap64 (x14_4 + 1)) a0_0 a0_1 l0_2 a2_0 a2_1 l2_2)) = some (r1, r2, r3) := H
                            have A39 := Aside0.mk A390
                            clear A390
                            by_cases c40 : t395 > x11_4
                            · rw [if_pos c40] at H
                              have c40b0 : decide (x11_4 < t395) = true := decide_eq_true c40
                              clear c40
                              have H' := Aside0.mk H
                              clear H
                              have hnb41 := NB391_392.out
                              have hnc41 := NB392_391.out
                              have hcz42_0 : wr.cell? ⟨gb391, 0, none⟩ = some (.int .i64 a0_0) := (blk_cell BK391.out 0).trans rfl
                              have hcz42_1 : wr.cell? ⟨gb391, 1, none⟩ = some (.int .i64 a0_1) := (blk_cell BK391.out 1).trans rfl
                              have hcz42_2 : wr.cell? ⟨gb391, 2, none⟩ = some (.slice A0_2 l0_2.length c0_2) := (blk_cell BK391.out 2).trans rfl
                              have hfz42_0 := blk_frozen BK391.out 0
                              have hfz42_1 := blk_frozen BK391.out 1
                              have hfz42_2 := blk_frozen BK391.out 2
                              have hcz43_0 : wr.cell? ⟨gb392, 0, none⟩ = some (.int .i64 a2_0) := (blk_cell BK392.out 0).trans rfl
                              have hcz43_1 : wr.cell? ⟨gb392, 1, none⟩ = some (.int .i64 a2_1) := (blk_cell BK392.out 1).trans rfl
                              have hcz43_2 : wr.cell? ⟨gb392, 2, none⟩ = some (.slice A2_2 l2_2.length c2_2) := (blk_cell BK392.out 2).trans rfl
                              have hfz43_0 := blk_frozen BK392.out 0
                              have hfz43_1 := blk_frozen BK392.out 1
                              have hfz43_2 := blk_frozen BK392.out 2
                              go_wp2_with (first | ((with_reducible refine gate_callee (f := 50) rfl ?_); refine goesL_ (some 64) rfl rfl Try.func50 (by kernel_rfl) rfl #[.agg #[.int .i64 a0_0, .int .i64 a0_1, .slice A0_2 l0_2.length c0_2], .int .i64 a1, .agg #[.int .i64 a2_0, .int .i64 a2_1, .slice A2_2 l2_2.length c2_2], .int .i64 x13_3, .int .i64 x14_4] rfl (by (try simp only [List.map_toArray, List.map_cons, List.map_nil]); first | done | rfl | (simp only [List.length_drop, List.length_take]; rfl)) ?_; (with_reducible refine (spec_l14Both.calls k4 a0_0 a0_1 _ _ l0_2 a1 a2_0 a2_1 _ _ l2_2 x13_3 x14_4 t395 _ ?side1 ?side2 ?side3 ?side4 A39.out).mono ?_); (case side1 => repeat (first | exact (Kd.C_below HR0_2.out HB.out) | (with_reducible refine Kd.C_alloc ?_ _) | (with_reducible refine Kd.C_drewN ?_ _) | (with_reducible refine Kd.C_drew ?_))); (case side2 => exact HC0_2.out); (case side3 => repeat (first | exact (Kd.C_below HR2_2.out HB.out) | (with_reducible refine Kd.C_alloc ?_ _) | (with_reducible refine Kd.C_drewN ?_ _) | (with_reducible refine Kd.C_drew ?_))); (case side4 => exact HC2_2.out); rintro e w44 ⟨rfl, hb⟩; refine ⟨_, rfl, ?_⟩; have n0_ := Aside0.mk (blk_below (g := gb391) (o := .cells #[.int .i64 a0_0, .int .i64 a0_1, .slice A0_2 l0_2.length c0_2] 55 (0, 0)) (by (with_reducible repeat (first | refine blk_drewN ?_ _ | refine blk_drew ?_ | refine blk_alloc ?_ _)); exact BK391.out) hb); have n1_ := Aside0.mk (blk_below (g := gb392) (o := .cells #[.int .i64 a2_0, .int .i64 a2_1, .slice A2_2 l2_2.length c2_2] 55 (0, 0)) (by (with_reducible repeat (first | refine blk_drewN ?_ _ | refine blk_drew ?_ | refine blk_alloc ?_ _)); exact BK392.out) hb); have n2_ := Aside0.mk (below_step (by repeat (first | (with_reducible first | exact HB.out | apply below_alloc | apply pw_below_drewN | apply below_drew1 | refine below_set ?_ GE391.out | refine below_set ?_ GE392.out) | exact HB.out)) hb); clear BK391; clear BK392; clear HB; have BK391 := n0_; have BK392 := n1_; have HB := n2_; clear n0_ n1_ n2_; (try clear hb); (try clear hb2); (try clear hk); (try clear hi)))
                              go_roundg k4
                              case measure => have := HJ3.out; have := HK2.out; have := HK3.out; have := HK4.out; omega
                              case rel => exact ⟨(x13_3), (x14_4), (t395), (wrap64 (x14_4 + 1)), (by first | rfl | (simp; done) | (simp [*]; done)), (by first | rfl | (simp; done) | (simp [*]; done)), (by first | rfl | (simp; done) | (simp [*]; done)), (by first | rfl | (simp; done) | (simp [*]; done)), H', ⟨by have := HJ3.out; have := HK2.out; have := HK3.out; have := HK4.out; omega⟩, ⟨by (with_reducible repeat (first | refine blk_drewN ?_ _ | refine blk_drew ?_ | refine blk_alloc ?_ _)); exact BK391.out⟩, ⟨by (with_reducible repeat (first | refine blk_drewN ?_ _ | refine blk_drew ?_ | refine blk_alloc ?_ _)); exact BK392.out⟩, ⟨by repeat (first | (with_reducible first | exact HB.out | apply below_alloc | apply pw_below_drewN | apply below_drew1 | refine below_set ?_ GE391.out | refine below_set ?_ GE392.out) | exact HB.out)⟩⟩
                            · rw [if_neg c40] at H
                              have c40b0 : decide (x11_4 < t395) = false := decide_eq_false c40
                              clear c40
                              have H' := Aside0.mk H
                              clear H
                              have hnb45 := NB391_392.out
                              have hnc45 := NB392_391.out
                              have hcz46_0 : wr.cell? ⟨gb391, 0, none⟩ = some (.int .i64 a0_0) := (blk_cell BK391.out 0).trans rfl
                              have hcz46_1 : wr.cell? ⟨gb391, 1, none⟩ = some (.int .i64 a0_1) := (blk_cell BK391.out 1).trans rfl
                              have hcz46_2 : wr.cell? ⟨gb391, 2, none⟩ = some (.slice A0_2 l0_2.length c0_2) := (blk_cell BK391.out 2).trans rfl
                              have hfz46_0 := blk_frozen BK391.out 0
                              have hfz46_1 := blk_frozen BK391.out 1
                              have hfz46_2 := blk_frozen BK391.out 2
                              have hcz47_0 : wr.cell? ⟨gb392, 0, none⟩ = some (.int .i64 a2_0) := (blk_cell BK392.out 0).trans rfl
                              have hcz47_1 : wr.cell? ⟨gb392, 1, none⟩ = some (.int .i64 a2_1) := (blk_cell BK392.out 1).trans rfl
                              have hcz47_2 : wr.cell? ⟨gb392, 2, none⟩ = some (.slice A2_2 l2_2.length c2_2) := (blk_cell BK392.out 2).trans rfl
                              have hfz47_0 := blk_frozen BK392.out 0
                              have hfz47_1 := blk_frozen BK392.out 1
                              have hfz47_2 := blk_frozen BK392.out 2
                              go_wp2_with (first | ((with_reducible refine gate_callee (f := 50) rfl ?_); refine goesL_ (some 64) rfl rfl Try.func50 (by kernel_rfl) rfl #[.agg #[.int .i64 a0_0, .int .i64 a0_1, .slice A0_2 l0_2.length c0_2], .int .i64 a1, .agg #[.int .i64 a2_0, .int .i64 a2_1, .slice A2_2 l2_2.length c2_2], .int .i64 x13_3, .int .i64 x14_4] rfl (by (try simp only [List.map_toArray, List.map_cons, List.map_nil]); first | done | rfl | (simp only [List.length_drop, List.length_take]; rfl)) ?_; (with_reducible refine (spec_l14Both.calls k4 a0_0 a0_1 _ _ l0_2 a1 a2_0 a2_1 _ _ l2_2 x13_3 x14_4 t395 _ ?side1 ?side2 ?side3 ?side4 A39.out).mono ?_); (case side1 => repeat (first | exact (Kd.C_below HR0_2.out HB.out) | (with_reducible refine Kd.C_alloc ?_ _) | (with_reducible refine Kd.C_drewN ?_ _) | (with_reducible refine Kd.C_drew ?_))); (case side2 => exact HC0_2.out); (case side3 => repeat (first | exact (Kd.C_below HR2_2.out HB.out) | (with_reducible refine Kd.C_alloc ?_ _) | (with_reducible refine Kd.C_drewN ?_ _) | (with_reducible refine Kd.C_drew ?_))); (case side4 => exact HC2_2.out); rintro e w48 ⟨rfl, hb⟩; refine ⟨_, rfl, ?_⟩; have n0_ := Aside0.mk (blk_below (g := gb391) (o := .cells #[.int .i64 a0_0, .int .i64 a0_1, .slice A0_2 l0_2.length c0_2] 55 (0, 0)) (by (with_reducible repeat (first | refine blk_drewN ?_ _ | refine blk_drew ?_ | refine blk_alloc ?_ _)); exact BK391.out) hb); have n1_ := Aside0.mk (blk_below (g := gb392) (o := .cells #[.int .i64 a2_0, .int .i64 a2_1, .slice A2_2 l2_2.length c2_2] 55 (0, 0)) (by (with_reducible repeat (first | refine blk_drewN ?_ _ | refine blk_drew ?_ | refine blk_alloc ?_ _)); exact BK392.out) hb); have n2_ := Aside0.mk (below_step (by repeat (first | (with_reducible first | exact HB.out | apply below_alloc | apply pw_below_drewN | apply below_drew1 | refine below_set ?_ GE391.out | refine below_set ?_ GE392.out) | exact HB.out)) hb); clear BK391; clear BK392; clear HB; have BK391 := n0_; have BK392 := n1_; have HB := n2_; clear n0_ n1_ n2_; (try clear hb); (try clear hb2); (try clear hk); (try clear hi)))
                              go_roundg k4
                              case measure => have := HJ3.out; have := HK2.out; have := HK3.out; have := HK4.out; omega
                              case rel => exact ⟨(x9_4), (x10_4), (x11_4), (wrap64 (x14_4 + 1)), (by first | rfl | (simp; done) | (simp [*]; done)), (by first | rfl | (simp; done) | (simp [*]; done)), (by first | rfl | (simp; done) | (simp [*]; done)), (by first | rfl | (simp; done) | (simp [*]; done)), H', ⟨by have := HJ3.out; have := HK2.out; have := HK3.out; have := HK4.out; omega⟩, ⟨by (with_reducible repeat (first | refine blk_drewN ?_ _ | refine blk_drew ?_ | refine blk_alloc ?_ _)); exact BK391.out⟩, ⟨by (with_reducible repeat (first | refine blk_drewN ?_ _ | refine blk_drew ?_ | refine blk_alloc ?_ _)); exact BK392.out⟩, ⟨by repeat (first | (with_reducible first | exact HB.out | apply below_alloc | apply pw_below_drewN | apply below_drew1 | refine below_set ?_ GE391.out | refine below_set ?_ GE392.out) | exact HB.out)⟩⟩
                          · rw [if_neg c38] at H
                            have c38b0 : ((wrap64 ((wrap64 (x13_3 * x13_3)) + (wrap64 (x14_4 * x14_4)))) == x12_2) = false := beq_eq_false_iff_ne.mpr c38
                            have c38b1 : ((wrap64 ((wrap64 (x13_3 * x13_3)) + (wrap64 (x14_4 * x14_4)))) != x12_2) = true := bne_iff_ne.mpr c38
                            have H' := Aside0.mk H
                            clear H
                            go_wp2
                            go_roundg k4
                            case measure => have := HJ3.out; have := HK2.out; have := HK3.out; have := HK4.out; omega
                            case rel => exact ⟨(x9_4), (x10_4), (x11_4), (wrap64 (x14_4 + 1)), (by first | rfl | (simp; done) | (simp [*]; done)), (by first | rfl | (simp; done) | (simp [*]; done)), (by first | rfl | (simp; done) | (simp [*]; done)), (by first | rfl | (simp; done) | (simp [*]; done)), H', ⟨by have := HJ3.out; have := HK2.out; have := HK3.out; have := HK4.out; omega⟩, ⟨by (with_reducible repeat (first | refine blk_drewN ?_ _ | refine blk_drew ?_ | refine blk_alloc ?_ _)); exact BK391.out⟩, ⟨by (with_reducible repeat (first | refine blk_drewN ?_ _ | refine blk_drew ?_ | refine blk_alloc ?_ _)); exact BK392.out⟩, ⟨by repeat (first | (with_reducible first | exact HB.out | apply below_alloc | apply pw_below_drewN | apply below_drew1 | refine below_set ?_ GE391.out | refine below_set ?_ GE392.out) | exact HB.out)⟩⟩
                        · rw [if_neg c37] at H
                          have c37b0 : decide (x14_4 ≤ 3) = false := decide_eq_false c37
                          clear c37
                          have H' := Aside0.mk H
                          clear H
                          go_wp2
                          go_roundg k4
                          case measure => have := HJ3.out; have := HK2.out; have := HK3.out; have := HK4.out; omega
                          case rel => exact ⟨(x9_4), (x10_4), (x11_4), (wrap64 (x13_3 + 1)), (by first | rfl | (simp; done) | (simp [*]; done)), (by first | rfl | (simp; done) | (simp [*]; done)), (by first | rfl | (simp; done) | (simp [*]; done)), (by first | rfl | (simp; done) | (simp [*]; done)), H', ⟨by have := HJ3.out; have := HK2.out; have := HK3.out; have := HK4.out; omega⟩, ⟨by (with_reducible repeat (first | refine blk_drewN ?_ _ | refine blk_drew ?_ | refine blk_alloc ?_ _)); exact BK391.out⟩, ⟨by (with_reducible repeat (first | refine blk_drewN ?_ _ | refine blk_drew ?_ | refine blk_alloc ?_ _)); exact BK392.out⟩, ⟨by repeat (first | (with_reducible first | exact HB.out | apply below_alloc | apply pw_below_drewN | apply below_drew1 | refine below_set ?_ GE391.out | refine below_set ?_ GE392.out) | exact HB.out)⟩⟩
                  · rw [if_neg c36] at H
                    have c36b0 : decide (x13_3 ≤ 3) = false := decide_eq_false c36
                    clear c36
                    have H' := Aside0.mk H
                    clear H
                    go_wp2
                    go_roundg k3
                    case measure => have := HJ3.out; have := HK2.out; have := HK3.out; omega
                    case rel => exact ⟨(x9_3), (x10_3), (x11_3), (wrap64 (x12_2 + 1)), (by first | rfl | (simp; done) | (simp [*]; done)), (by first | rfl | (simp; done) | (simp [*]; done)), (by first | rfl | (simp; done) | (simp [*]; done)), (by first | rfl | (simp; done) | (simp [*]; done)), H', ⟨by have := HJ3.out; have := HK2.out; have := HK3.out; omega⟩, ⟨by (with_reducible repeat (first | refine blk_drewN ?_ _ | refine blk_drew ?_ | refine blk_alloc ?_ _)); exact BK391.out⟩, ⟨by (with_reducible repeat (first | refine blk_drewN ?_ _ | refine blk_drew ?_ | refine blk_alloc ?_ _)); exact BK392.out⟩, ⟨by repeat (first | (with_reducible first | exact HB.out | apply below_alloc | apply pw_below_drewN | apply below_drew1 | refine below_set ?_ GE391.out | refine below_set ?_ GE392.out) | exact HB.out)⟩⟩
            · rw [if_neg c35] at H
              have c35b0 : decide (x12_2 ≤ 18) = false := decide_eq_false c35
              clear c35
              simp only [Option.some.injEq, Prod.mk.injEq] at H
              obtain ⟨rfl, rfl, rfl⟩ := H
              go_wp2
              go_ret3
              exact ⟨by first | rfl | (simp [errW_none, errW_some] <;> rfl) | (simp [*, errW_none, errW_some] <;> rfl), by repeat (first | (with_reducible first | exact HB.out | apply below_alloc | apply pw_below_drewN | apply below_drew1 | refine below_set ?_ GE391.out | refine below_set ?_ GE392.out) | exact HB.out)⟩

end Go.Proofs.Ytcdghhihfjojaaa.Q
