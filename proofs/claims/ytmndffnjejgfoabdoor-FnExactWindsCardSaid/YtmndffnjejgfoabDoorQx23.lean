/- Plain Lean functions with the same answers as the Go functions of this seat, and a proof for each that the Go code comes to just these answers; no condition. Written by a program of this session (the kit's printer, turned). -/
import Derived.Test.YtmndffnjejgfoabDoorQx0
import Derived.Test.YtmndffnjejgfoabDoorQx6
namespace Go.Proofs.YtmndffnjejgfoabDoor.Q
open Go.RowKit Go.Proofs.YtmndffnjejgfoabDoorW.PrintWords Go.Proofs.YtmndffnjejgfoabDoorW.PrintLast Go.Proofs.YtmndffnjejgfoabDoorW.PrintMore
attribute [local go_sem] max2_int min2_int max_two min_two max_three min_three max_four min_four   -- for this text's walks alone
set_option linter.unusedVariables false
set_option linter.unusedSimpArgs false

/-! ### spec_Winds: function 13 -/
mutual
def spec_Winds.l0 : Nat → Int → Int → Int → List (S40) → Int → Option (Int)
 | 0, _, _, _, _, _ => none
 | k + 1, x1, x2, x7, x8, x9 => if x9 < (x8.length : Int) then (if 0 ≤ x9 then (if ((rd_T40 x8 x9).f2) = 1 then (if ((rd_T40 x8 x9).f0) > x2 then (spec_Winds.j1 k x1 x2 x7 x8 x9 (((rd_T40 x8 x9).f1) == x1)) else (spec_Winds.j1 k x1 x2 x7 x8 x9 false)) else (spec_Winds.j1 k x1 x2 x7 x8 x9 false)) else (none)) else (some x7)
def spec_Winds.j1 : Nat → Int → Int → Int → List (S40) → Int → Bool → Option (Int)
 | 0, _, _, _, _, _, _ => none
 | k + 1, x1, x2, x7, x8, x9, x41 => if x41 = true then (if 0 ≤ x9 then (if x9 < (x8.length : Int) then (if ((rd_T40 x8 x9).f2) = 3 then (if ((rd_T40 x8 x9).f0) > x2 then (if (wrap64 (((rd_T40 x8 x9).f1) - 1)) = x1 then (spec_Winds.l0 k x1 x2 (wrap64 ((wrap64 (x7 + 1)) - 1)) x8 (wrap64 (x9 + 1))) else (spec_Winds.l0 k x1 x2 (wrap64 (x7 + 1)) x8 (wrap64 (x9 + 1)))) else (spec_Winds.l0 k x1 x2 (wrap64 (x7 + 1)) x8 (wrap64 (x9 + 1)))) else (spec_Winds.l0 k x1 x2 (wrap64 (x7 + 1)) x8 (wrap64 (x9 + 1)))) else (none)) else (none)) else (if 0 ≤ x9 then (if x9 < (x8.length : Int) then (if ((rd_T40 x8 x9).f2) = 3 then (if ((rd_T40 x8 x9).f0) > x2 then (if (wrap64 (((rd_T40 x8 x9).f1) - 1)) = x1 then (spec_Winds.l0 k x1 x2 (wrap64 (x7 - 1)) x8 (wrap64 (x9 + 1))) else (spec_Winds.l0 k x1 x2 x7 x8 (wrap64 (x9 + 1)))) else (spec_Winds.l0 k x1 x2 x7 x8 (wrap64 (x9 + 1)))) else (spec_Winds.l0 k x1 x2 x7 x8 (wrap64 (x9 + 1)))) else (none)) else (none))
end
def spec_Winds.f (k : Nat) (a0_0 : Int) (a0_1 : Int) (l0_2 : List Int) (a1 : Int) (a2 : Int) : Option (Int) := (spec_l12Way.f k a0_0 a0_1 l0_2).bind fun t235 => (spec_Winds.l0 k a1 a2 0 t235 0)
theorem spec_Winds.mono_l : ∀ k, (∀ y0 y1 y2 y3 y4, LeO (spec_Winds.l0 k y0 y1 y2 y3 y4) (spec_Winds.l0 (k + 1) y0 y1 y2 y3 y4)) ∧ (∀ y0 y1 y2 y3 y4 y5, LeO (spec_Winds.j1 k y0 y1 y2 y3 y4 y5) (spec_Winds.j1 (k + 1) y0 y1 y2 y3 y4 y5))
 | 0 => ⟨fun _ _ _ _ _ r h => by simp [spec_Winds.l0] at h, fun _ _ _ _ _ _ r h => by simp [spec_Winds.j1] at h⟩
 | k + 1 => by
  obtain ⟨ih0, ih1⟩ := spec_Winds.mono_l k
  refine ⟨?_, ?_⟩
  ·intro y0 y1 y2 y3 y4
   unfold spec_Winds.l0
   repeat' first
   | (with_reducible exact ih0 _ _ _ _ _)
   | (with_reducible exact ih1 _ _ _ _ _ _)
   | (with_reducible exact spec_l12Way.mono _ _ _ _)
   | (with_reducible exact LeO.refl _)
   | (with_reducible exact LeO.none _)
   | (with_reducible refine LeO.ite ?_ ?_)
   | (with_reducible refine LeO.bind ?_ (fun _ => ?_))
   | exact ih0 _ _ _ _ _
   | exact ih1 _ _ _ _ _ _
   | exact spec_l12Way.mono _ _ _ _
   | exact LeO.none _
   | refine LeO.ite ?_ ?_
   | refine LeO.bind ?_ (fun _ => ?_)
  ·intro y0 y1 y2 y3 y4 y5
   unfold spec_Winds.j1
   repeat' first
   | (with_reducible exact ih0 _ _ _ _ _)
   | (with_reducible exact ih1 _ _ _ _ _ _)
   | (with_reducible exact spec_l12Way.mono _ _ _ _)
   | (with_reducible exact LeO.refl _)
   | (with_reducible exact LeO.none _)
   | (with_reducible refine LeO.ite ?_ ?_)
   | (with_reducible refine LeO.bind ?_ (fun _ => ?_))
   | exact ih0 _ _ _ _ _
   | exact ih1 _ _ _ _ _ _
   | exact spec_l12Way.mono _ _ _ _
   | exact LeO.none _
   | refine LeO.ite ?_ ?_
   | refine LeO.bind ?_ (fun _ => ?_)
theorem spec_Winds.mono : ∀ a0 a1 a2 a3 a4 k, LeO (spec_Winds.f k a0 a1 a2 a3 a4) (spec_Winds.f (k + 1) a0 a1 a2 a3 a4) := by
 intro a0 a1 a2 a3 a4 k
 obtain ⟨ih0, ih1⟩ := spec_Winds.mono_l k
 unfold spec_Winds.f
 repeat' first
   | (with_reducible exact ih0 _ _ _ _ _)
   | (with_reducible exact ih1 _ _ _ _ _ _)
   | (with_reducible exact spec_l12Way.mono _ _ _ _)
   | (with_reducible exact LeO.refl _)
   | (with_reducible exact LeO.none _)
   | (with_reducible refine LeO.ite ?_ ?_)
   | (with_reducible refine LeO.bind ?_ (fun _ => ?_))
   | exact ih0 _ _ _ _ _
   | exact ih1 _ _ _ _ _ _
   | exact spec_l12Way.mono _ _ _ _
   | exact LeO.none _
   | refine LeO.ite ?_ ?_
   | refine LeO.bind ?_ (fun _ => ?_)
set_option maxHeartbeats 8000000 in
set_option maxRecDepth 100000 in
theorem spec_Winds.calls (k : Nat) (a0_0 : Int) (a0_1 : Int) (A0_2 : Option Addr) (c0_2 : Nat) (l0_2 : List Int) (a1 : Int) (a2 : Int) (r : Int) (w : World) (hr0_2 : Kd.C (Kd.int .i64) w A0_2 l0_2.length l0_2) (hc0_2 : l0_2.length ≤ c0_2) (h : spec_Winds.f k a0_0 a0_1 l0_2 a1 a2 = some r) :
  Calls Tryd.prog 13 #[.agg #[.int .i64 a0_0, .int .i64 a0_1, .slice A0_2 l0_2.length c0_2], .int .i64 a1, .int .i64 a2] w fun e w' => e = .returned (.int .i64 r) ∧ Below w.heap.size w w' := by
 have hu27 := Tryd.underlying27
 have HR0_2 := Aside0.mk hr0_2
 have HC0_2 := Aside0.mk hc0_2
 clear hr0_2 hc0_2
 have HB := Aside0.mk (Below.refl w.heap.size w)
 have H : ((spec_l12Way.f k a0_0 a0_1 l0_2).bind fun t235 => (spec_Winds.l0 k a1 a2 0 t235 0)) = some r := h
 clear h
 replace H := Option.bind_eq_some_iff.mp H
 obtain ⟨t235, A40, H⟩ := H
 replace H : (spec_Winds.l0 k a1 a2 0 t235 0) = some r := H
 have A4 := Aside0.mk A40
 clear A40
 have H' := Aside0.mk H
 clear H
 go_enter Tryd.func13, Tryd.ntmps13
 go_wp2_with (first | ((with_reducible refine gate_dst (N := 3) rfl ?_); refine box_event ?hg (N := 3) ?hd (cs := #[.int .i64 a0_0, .int .i64 a0_1, .slice A0_2 l0_2.length c0_2]) (t := 27) ?hr ?_; (case hd => rfl); (case hg => rfl); (case hr => first | (go_simp; done) | (go_simp; rfl)); intro gb234 hg w5 hbox hb; have n0_ := Aside0.mk (below_step (by repeat (first | (with_reducible first | exact HB.out | apply below_alloc | apply pw_below_drewN | apply below_drew1) | exact HB.out)) hb); have n1_ := Aside0.mk (hbox); have n2_ := Aside0.mk ((by rw [hg]; exact (below_size (by repeat (first | (with_reducible first | exact HB.out | apply below_alloc | apply pw_below_drewN | apply below_drew1) | exact HB.out))) : w.heap.size ≤ gb234)); have n3_ := Aside0.mk ((by rw [hg]; exact (below_size (by repeat (first | (with_reducible first | exact HB.out | apply below_alloc | apply pw_below_drewN | apply below_drew1) | exact HB.out))) : w.heap.size ≤ gb234)); clear HB; have HB := n0_; have BK234 := n1_; have GW234 := n2_; have GE234 := n3_; clear n0_ n1_ n2_ n3_; clear hb hbox hg; have hcz6_0 : w5.cell? ⟨gb234, 0, none⟩ = some (.int .i64 a0_0) := (blk_cell BK234.out 0).trans rfl; have hcz6_1 : w5.cell? ⟨gb234, 1, none⟩ = some (.int .i64 a0_1) := (blk_cell BK234.out 1).trans rfl; have hcz6_2 : w5.cell? ⟨gb234, 2, none⟩ = some (.slice A0_2 l0_2.length c0_2) := (blk_cell BK234.out 2).trans rfl; have hfz6_0 := blk_frozen BK234.out 0; have hfz6_1 := blk_frozen BK234.out 1; have hfz6_2 := blk_frozen BK234.out 2) | ((with_reducible refine gate_callee (f := 16) rfl ?_); refine goesL_ (some 11) rfl rfl Tryd.func16 (by kernel_rfl) rfl #[.agg #[.int .i64 a0_0, .int .i64 a0_1, .slice A0_2 l0_2.length c0_2]] rfl (by (try simp only [List.map_toArray, List.map_cons, List.map_nil]); first | done | rfl | (simp only [List.length_drop, List.length_take]; rfl)) ?_; (with_reducible refine (spec_l12Way.calls k a0_0 a0_1 _ _ l0_2 t235 _ ?side1 ?side2 A4.out).mono ?_); (case side1 => repeat (first | exact (Kd.C_below HR0_2.out HB.out) | (with_reducible refine Kd.C_alloc ?_ _) | (with_reducible refine Kd.C_drewN ?_ _) | (with_reducible refine Kd.C_drew ?_))); (case side2 => exact HC0_2.out); rintro e w7 ⟨v236, rfl, ho0, hb⟩; refine ⟨_, rfl, ?_⟩; have n0_ := Aside0.mk (Kd.R_lower ho0 (below_size (by repeat (first | (with_reducible first | exact HB.out | apply below_alloc | apply pw_below_drewN | apply below_drew1 | refine below_set ?_ GE234.out) | exact HB.out)))); have n1_ := Aside0.mk (blk_below (g := gb234) (o := .cells #[.int .i64 a0_0, .int .i64 a0_1, .slice A0_2 l0_2.length c0_2] 27 (0, 0)) (by (with_reducible repeat (first | refine blk_drewN ?_ _ | refine blk_drew ?_ | refine blk_alloc ?_ _)); exact BK234.out) hb); have n2_ := Aside0.mk (below_step (by repeat (first | (with_reducible first | exact HB.out | apply below_alloc | apply pw_below_drewN | apply below_drew1 | refine below_set ?_ GE234.out) | exact HB.out)) hb); clear BK234; clear HB; have HO237 := n0_; have BK234 := n1_; have HB := n2_; clear n0_ n1_ n2_; (try clear hb); (try clear hb2); (try clear hk); (try clear hi); (try clear ho0)))
 go_loopg [7, 9] k (fun kq v7 v9 w' => ∃ (x7_1 : Int) (x9_1 : Int), v7 = .int .i64 x7_1 ∧ v9 = .int .i64 x9_1 ∧ Aside0 (spec_Winds.l0 kq a1 a2 x7_1 t235 x9_1 = some r) ∧ Aside0 (kq ≤ k) ∧ Aside0 (Kd.R k40 40 w' w.heap.size (fun _ => True) v236 t235) ∧ Aside0 (w'.heap[gb234]? = some (.cells #[.int .i64 a0_0, .int .i64 a0_1, (.slice A0_2 l0_2.length c0_2)] 27 (0, 0))) ∧ Aside0 (Below w.heap.size w w'))
 case atStart => exact ⟨(0), (0), (by first | rfl | (simp; done) | (simp [*]; done)), (by first | rfl | (simp; done) | (simp [*]; done)), H', ⟨Nat.le_refl _⟩, ⟨by (with_reducible repeat (first | apply Kd.R_alloc | apply Kd.R_drewN | apply Kd.R_drew)); exact HO237.out⟩, ⟨by (with_reducible repeat (first | refine blk_drewN ?_ _ | refine blk_drew ?_ | refine blk_alloc ?_ _)); exact BK234.out⟩, ⟨by repeat (first | (with_reducible first | exact HB.out | apply below_alloc | apply pw_below_drewN | apply below_drew1 | refine below_set ?_ GE234.out) | exact HB.out)⟩⟩
 case round =>
  clear H'
  try clear c1
  try clear p2
  try clear hcz6_0
  try clear hcz6_1
  try clear hcz6_2
  try clear hfz6_0
  try clear hfz6_1
  try clear hfz6_2
  obtain ⟨x7_1, x9_1, rfl, rfl, HA, HK1, HO_8, BK234, HB⟩ := hrel
  cases gk with
  | zero => exact absurd HA.out (by simp [spec_Winds.l0])
  | succ k1 =>
   have H := HA.out
   clear HA
   simp only [spec_Winds.l0] at H
   by_cases c8 : x9_1 < (t235.length : Int)
   ·rw [if_pos c8] at H
    have c8b0 : decide (x9_1 < (t235.length : Int)) = true := decide_eq_true c8
    clear c8
    have HC9 := Aside0.mk H
    clear H
    obtain ⟨Ao10, co10, eo10⟩ := Kd.R_slice HO_8.out
    subst eo10
    go_upto_region 6 with (fail)
    go_cut [41] (fun v41 wc => ∃ (kq : Nat) (x41_8 : Bool), v41 = .bool x41_8 ∧ Aside0 (spec_Winds.j1 kq a1 a2 x7_1 t235 x9_1 x41_8 = some r) ∧ Aside0 (kq ≤ k1) ∧ Aside0 (Kd.R k40 40 wc w.heap.size (fun _ => True) (.slice Ao10 t235.length co10) t235) ∧ Aside0 (wc.heap[gb234]? = some (.cells #[.int .i64 a0_0, .int .i64 a0_1, (.slice A0_2 l0_2.length c0_2)] 27 (0, 0))) ∧ Aside0 (Below w.heap.size w wc))
    case first =>
     have H := HC9.out
     clear HC9
     by_cases c11 : 0 ≤ x9_1
     ·rw [if_pos c11] at H
      have c11b0 : decide (0 ≤ x9_1) = true := decide_eq_true c11
      clear c11
      (first | rw [c11b0] | (simp only [i64_w, i32_w]; rw [c11b0]) | skip)
      by_cases c12 : ((rd_T40 t235 x9_1).f2) = 1
      ·rw [if_pos c12] at H
       have c12b0 : (((rd_T40 t235 x9_1).f2) == 1) = true := beq_iff_eq.mpr c12
       have c12b1 : (((rd_T40 t235 x9_1).f2) != 1) = false := bne_eq_false_iff_eq.mpr c12
       clear c12
       by_cases c13 : ((rd_T40 t235 x9_1).f0) > a2
       ·rw [if_pos c13] at H
        have c13b0 : decide (a2 < ((rd_T40 t235 x9_1).f0)) = true := decide_eq_true c13
        clear c13
        have H' := Aside0.mk H
        clear H
        have p238 : 0 ≤ (x9_1 : Int) := of_decide_eq_true (by first | (with_reducible assumption) | assumption)
        have q238 : x9_1 < (t235.length : Int) := of_decide_eq_true (by first | (with_reducible assumption) | assumption)
        obtain ⟨ad238, e238, hx238_0, hx238_1, hx238_2⟩ := at_T40 (Kd.R_reads' HO_8.out).2.2 x9_1 p238 q238
        cases e238
        replace p238 := eq_true p238
        replace q238 := eq_true q238
        have p239 : 0 ≤ (x9_1 : Int) := of_decide_eq_true (by first | (with_reducible assumption) | assumption)
        have q239 : x9_1 < (t235.length : Int) := of_decide_eq_true (by first | (with_reducible assumption) | assumption)
        obtain ⟨ad239, e239, hx239_0, hx239_1, hx239_2⟩ := at_T40 (Kd.R_reads' HO_8.out).2.2 x9_1 p239 q239
        obtain rfl : ad238 = ad239 := (by injection e239)
        replace p239 := eq_true p239
        replace q239 := eq_true q239
        have p240 : 0 ≤ (x9_1 : Int) := of_decide_eq_true (by first | (with_reducible assumption) | assumption)
        have q240 : x9_1 < (t235.length : Int) := of_decide_eq_true (by first | (with_reducible assumption) | assumption)
        obtain ⟨ad240, e240, hx240_0, hx240_1, hx240_2⟩ := at_T40 (Kd.R_reads' HO_8.out).2.2 x9_1 p240 q240
        obtain rfl : ad238 = ad240 := (by injection e240)
        replace p240 := eq_true p240
        replace q240 := eq_true q240
        go_wp2
        go_meet
        case rel => exact ⟨_, ((((rd_T40 t235 x9_1).f1) == a1)), (by first | rfl | (simp; done) | (simp [*]; done)), H', ⟨by have := HK1.out; first | omega | exact Nat.le_refl _⟩, ⟨by (with_reducible repeat (first | apply Kd.R_alloc | apply Kd.R_drewN | apply Kd.R_drew)); exact HO_8.out⟩, ⟨by (with_reducible repeat (first | refine blk_drewN ?_ _ | refine blk_drew ?_ | refine blk_alloc ?_ _)); exact BK234.out⟩, ⟨by repeat (first | (with_reducible first | exact HB.out | apply below_alloc | apply pw_below_drewN | apply below_drew1 | refine below_set ?_ GE234.out) | exact HB.out)⟩⟩
       ·rw [if_neg c13] at H
        have c13b0 : decide (a2 < ((rd_T40 t235 x9_1).f0)) = false := decide_eq_false c13
        clear c13
        have H' := Aside0.mk H
        clear H
        have p238 : 0 ≤ (x9_1 : Int) := of_decide_eq_true (by first | (with_reducible assumption) | assumption)
        have q238 : x9_1 < (t235.length : Int) := of_decide_eq_true (by first | (with_reducible assumption) | assumption)
        obtain ⟨ad238, e238, hx238_0, hx238_1, hx238_2⟩ := at_T40 (Kd.R_reads' HO_8.out).2.2 x9_1 p238 q238
        cases e238
        replace p238 := eq_true p238
        replace q238 := eq_true q238
        have p239 : 0 ≤ (x9_1 : Int) := of_decide_eq_true (by first | (with_reducible assumption) | assumption)
        have q239 : x9_1 < (t235.length : Int) := of_decide_eq_true (by first | (with_reducible assumption) | assumption)
        obtain ⟨ad239, e239, hx239_0, hx239_1, hx239_2⟩ := at_T40 (Kd.R_reads' HO_8.out).2.2 x9_1 p239 q239
        obtain rfl : ad238 = ad239 := (by injection e239)
        replace p239 := eq_true p239
        replace q239 := eq_true q239
        go_wp2
        go_meet
        case rel => exact ⟨_, (false), (by first | rfl | (simp; done) | (simp [*]; done)), H', ⟨by have := HK1.out; first | omega | exact Nat.le_refl _⟩, ⟨by (with_reducible repeat (first | apply Kd.R_alloc | apply Kd.R_drewN | apply Kd.R_drew)); exact HO_8.out⟩, ⟨by (with_reducible repeat (first | refine blk_drewN ?_ _ | refine blk_drew ?_ | refine blk_alloc ?_ _)); exact BK234.out⟩, ⟨by repeat (first | (with_reducible first | exact HB.out | apply below_alloc | apply pw_below_drewN | apply below_drew1 | refine below_set ?_ GE234.out) | exact HB.out)⟩⟩
      ·rw [if_neg c12] at H
       have c12b0 : (((rd_T40 t235 x9_1).f2) == 1) = false := beq_eq_false_iff_ne.mpr c12
       have c12b1 : (((rd_T40 t235 x9_1).f2) != 1) = true := bne_iff_ne.mpr c12
       have H' := Aside0.mk H
       clear H
       have p238 : 0 ≤ (x9_1 : Int) := of_decide_eq_true (by first | (with_reducible assumption) | assumption)
       have q238 : x9_1 < (t235.length : Int) := of_decide_eq_true (by first | (with_reducible assumption) | assumption)
       obtain ⟨ad238, e238, hx238_0, hx238_1, hx238_2⟩ := at_T40 (Kd.R_reads' HO_8.out).2.2 x9_1 p238 q238
       cases e238
       replace p238 := eq_true p238
       replace q238 := eq_true q238
       go_wp2
       go_meet
       case rel => exact ⟨_, (false), (by first | rfl | (simp; done) | (simp [*]; done)), H', ⟨by have := HK1.out; first | omega | exact Nat.le_refl _⟩, ⟨by (with_reducible repeat (first | apply Kd.R_alloc | apply Kd.R_drewN | apply Kd.R_drew)); exact HO_8.out⟩, ⟨by (with_reducible repeat (first | refine blk_drewN ?_ _ | refine blk_drew ?_ | refine blk_alloc ?_ _)); exact BK234.out⟩, ⟨by repeat (first | (with_reducible first | exact HB.out | apply below_alloc | apply pw_below_drewN | apply below_drew1 | refine below_set ?_ GE234.out) | exact HB.out)⟩⟩
     ·rw [if_neg c11] at H
      exact absurd H (by simp)
    case rest =>
     clear HC9
     try clear c1
     try clear p2
     try clear q2
     try clear hx2
     try clear c8
     try clear c8b0
     try clear c11
     try clear c11b0
     try clear c12
     try clear c12b0
     try clear c12b1
     try clear c13
     try clear c13b0
     try clear hcz6_0
     try clear hcz6_1
     try clear hcz6_2
     try clear hfz6_0
     try clear hfz6_1
     try clear hfz6_2
     try clear hx238_0
     try clear hx238_1
     try clear hx238_2
     try clear hx239_0
     try clear hx239_1
     try clear hx239_2
     try clear hx240_0
     try clear hx240_1
     try clear hx240_2
     try clear p2
     try clear p238
     try clear p239
     try clear p240
     try clear q238
     try clear q239
     try clear q240
     obtain ⟨kq, x41_8, rfl, HA, HJ8, HO_8, BK234, HB⟩ := hcut
     cases kq with
     | zero => exact absurd HA.out (by simp [spec_Winds.j1])
     | succ kj8 =>
      have H := HA.out
      clear HA
      simp only [spec_Winds.j1] at H
      by_cases c14 : x41_8 = true
      ·subst c14
       have H1 : (if 0 ≤ x9_1 then (if x9_1 < (t235.length : Int) then (if ((rd_T40 t235 x9_1).f2) = 3 then (if ((rd_T40 t235 x9_1).f0) > a2 then (if (wrap64 (((rd_T40 t235 x9_1).f1) - 1)) = a1 then (spec_Winds.l0 kj8 a1 a2 (wrap64 ((wrap64 (x7_1 + 1)) - 1)) t235 (wrap64 (x9_1 + 1))) else (spec_Winds.l0 kj8 a1 a2 (wrap64 (x7_1 + 1)) t235 (wrap64 (x9_1 + 1)))) else (spec_Winds.l0 kj8 a1 a2 (wrap64 (x7_1 + 1)) t235 (wrap64 (x9_1 + 1)))) else (spec_Winds.l0 kj8 a1 a2 (wrap64 (x7_1 + 1)) t235 (wrap64 (x9_1 + 1)))) else (none)) else (none)) = some r := by rw [if_pos rfl] at H; exact H
       clear H
       have H := H1
       clear H1
       by_cases c15 : 0 ≤ x9_1
       ·rw [if_pos c15] at H
        have c15b0 : decide (0 ≤ x9_1) = true := decide_eq_true c15
        clear c15
        by_cases c16 : x9_1 < (t235.length : Int)
        ·rw [if_pos c16] at H
         have c16b0 : decide (x9_1 < (t235.length : Int)) = true := decide_eq_true c16
         clear c16
         by_cases c17 : ((rd_T40 t235 x9_1).f2) = 3
         ·rw [if_pos c17] at H
          have c17b0 : (((rd_T40 t235 x9_1).f2) == 3) = true := beq_iff_eq.mpr c17
          have c17b1 : (((rd_T40 t235 x9_1).f2) != 3) = false := bne_eq_false_iff_eq.mpr c17
          clear c17
          by_cases c18 : ((rd_T40 t235 x9_1).f0) > a2
          ·rw [if_pos c18] at H
           have c18b0 : decide (a2 < ((rd_T40 t235 x9_1).f0)) = true := decide_eq_true c18
           clear c18
           by_cases c19 : (wrap64 (((rd_T40 t235 x9_1).f1) - 1)) = a1
           ·rw [if_pos c19] at H
            have c19b0 : ((wrap64 (((rd_T40 t235 x9_1).f1) - 1)) == a1) = true := beq_iff_eq.mpr c19
            have c19b1 : ((wrap64 (((rd_T40 t235 x9_1).f1) - 1)) != a1) = false := bne_eq_false_iff_eq.mpr c19
            clear c19
            have H' := Aside0.mk H
            clear H
            have p241 : 0 ≤ (x9_1 : Int) := of_decide_eq_true (by first | (with_reducible assumption) | assumption)
            have q241 : x9_1 < (t235.length : Int) := of_decide_eq_true (by first | (with_reducible assumption) | assumption)
            obtain ⟨ad241, e241, hx241_0, hx241_1, hx241_2⟩ := at_T40 (Kd.R_reads' HO_8.out).2.2 x9_1 p241 q241
            cases e241
            replace p241 := eq_true p241
            replace q241 := eq_true q241
            have p242 : 0 ≤ (x9_1 : Int) := of_decide_eq_true (by first | (with_reducible assumption) | assumption)
            have q242 : x9_1 < (t235.length : Int) := of_decide_eq_true (by first | (with_reducible assumption) | assumption)
            obtain ⟨ad242, e242, hx242_0, hx242_1, hx242_2⟩ := at_T40 (Kd.R_reads' HO_8.out).2.2 x9_1 p242 q242
            obtain rfl : ad241 = ad242 := (by injection e242)
            replace p242 := eq_true p242
            replace q242 := eq_true q242
            have p243 : 0 ≤ (x9_1 : Int) := of_decide_eq_true (by first | (with_reducible assumption) | assumption)
            have q243 : x9_1 < (t235.length : Int) := of_decide_eq_true (by first | (with_reducible assumption) | assumption)
            obtain ⟨ad243, e243, hx243_0, hx243_1, hx243_2⟩ := at_T40 (Kd.R_reads' HO_8.out).2.2 x9_1 p243 q243
            obtain rfl : ad241 = ad243 := (by injection e243)
            replace p243 := eq_true p243
            replace q243 := eq_true q243
            go_wp2
            go_roundg kj8
            case measure => have := HK1.out; have := HJ8.out; omega
            case rel => exact ⟨(wrap64 ((wrap64 (x7_1 + 1)) - 1)), (wrap64 (x9_1 + 1)), (by first | rfl | (simp; done) | (simp [*]; done)), (by first | rfl | (simp; done) | (simp [*]; done)), H', ⟨by have := HK1.out; have := HJ8.out; omega⟩, ⟨by (with_reducible repeat (first | apply Kd.R_alloc | apply Kd.R_drewN | apply Kd.R_drew)); exact HO_8.out⟩, ⟨by (with_reducible repeat (first | refine blk_drewN ?_ _ | refine blk_drew ?_ | refine blk_alloc ?_ _)); exact BK234.out⟩, ⟨by repeat (first | (with_reducible first | exact HB.out | apply below_alloc | apply pw_below_drewN | apply below_drew1 | refine below_set ?_ GE234.out) | exact HB.out)⟩⟩
           ·rw [if_neg c19] at H
            have c19b0 : ((wrap64 (((rd_T40 t235 x9_1).f1) - 1)) == a1) = false := beq_eq_false_iff_ne.mpr c19
            have c19b1 : ((wrap64 (((rd_T40 t235 x9_1).f1) - 1)) != a1) = true := bne_iff_ne.mpr c19
            have H' := Aside0.mk H
            clear H
            have p241 : 0 ≤ (x9_1 : Int) := of_decide_eq_true (by first | (with_reducible assumption) | assumption)
            have q241 : x9_1 < (t235.length : Int) := of_decide_eq_true (by first | (with_reducible assumption) | assumption)
            obtain ⟨ad241, e241, hx241_0, hx241_1, hx241_2⟩ := at_T40 (Kd.R_reads' HO_8.out).2.2 x9_1 p241 q241
            cases e241
            replace p241 := eq_true p241
            replace q241 := eq_true q241
            have p242 : 0 ≤ (x9_1 : Int) := of_decide_eq_true (by first | (with_reducible assumption) | assumption)
            have q242 : x9_1 < (t235.length : Int) := of_decide_eq_true (by first | (with_reducible assumption) | assumption)
            obtain ⟨ad242, e242, hx242_0, hx242_1, hx242_2⟩ := at_T40 (Kd.R_reads' HO_8.out).2.2 x9_1 p242 q242
            obtain rfl : ad241 = ad242 := (by injection e242)
            replace p242 := eq_true p242
            replace q242 := eq_true q242
            have p243 : 0 ≤ (x9_1 : Int) := of_decide_eq_true (by first | (with_reducible assumption) | assumption)
            have q243 : x9_1 < (t235.length : Int) := of_decide_eq_true (by first | (with_reducible assumption) | assumption)
            obtain ⟨ad243, e243, hx243_0, hx243_1, hx243_2⟩ := at_T40 (Kd.R_reads' HO_8.out).2.2 x9_1 p243 q243
            obtain rfl : ad241 = ad243 := (by injection e243)
            replace p243 := eq_true p243
            replace q243 := eq_true q243
            go_wp2
            go_roundg kj8
            case measure => have := HK1.out; have := HJ8.out; omega
            case rel => exact ⟨(wrap64 (x7_1 + 1)), (wrap64 (x9_1 + 1)), (by first | rfl | (simp; done) | (simp [*]; done)), (by first | rfl | (simp; done) | (simp [*]; done)), H', ⟨by have := HK1.out; have := HJ8.out; omega⟩, ⟨by (with_reducible repeat (first | apply Kd.R_alloc | apply Kd.R_drewN | apply Kd.R_drew)); exact HO_8.out⟩, ⟨by (with_reducible repeat (first | refine blk_drewN ?_ _ | refine blk_drew ?_ | refine blk_alloc ?_ _)); exact BK234.out⟩, ⟨by repeat (first | (with_reducible first | exact HB.out | apply below_alloc | apply pw_below_drewN | apply below_drew1 | refine below_set ?_ GE234.out) | exact HB.out)⟩⟩
          ·rw [if_neg c18] at H
           have c18b0 : decide (a2 < ((rd_T40 t235 x9_1).f0)) = false := decide_eq_false c18
           clear c18
           have H' := Aside0.mk H
           clear H
           have p241 : 0 ≤ (x9_1 : Int) := of_decide_eq_true (by first | (with_reducible assumption) | assumption)
           have q241 : x9_1 < (t235.length : Int) := of_decide_eq_true (by first | (with_reducible assumption) | assumption)
           obtain ⟨ad241, e241, hx241_0, hx241_1, hx241_2⟩ := at_T40 (Kd.R_reads' HO_8.out).2.2 x9_1 p241 q241
           cases e241
           replace p241 := eq_true p241
           replace q241 := eq_true q241
           have p242 : 0 ≤ (x9_1 : Int) := of_decide_eq_true (by first | (with_reducible assumption) | assumption)
           have q242 : x9_1 < (t235.length : Int) := of_decide_eq_true (by first | (with_reducible assumption) | assumption)
           obtain ⟨ad242, e242, hx242_0, hx242_1, hx242_2⟩ := at_T40 (Kd.R_reads' HO_8.out).2.2 x9_1 p242 q242
           obtain rfl : ad241 = ad242 := (by injection e242)
           replace p242 := eq_true p242
           replace q242 := eq_true q242
           go_wp2
           go_roundg kj8
           case measure => have := HK1.out; have := HJ8.out; omega
           case rel => exact ⟨(wrap64 (x7_1 + 1)), (wrap64 (x9_1 + 1)), (by first | rfl | (simp; done) | (simp [*]; done)), (by first | rfl | (simp; done) | (simp [*]; done)), H', ⟨by have := HK1.out; have := HJ8.out; omega⟩, ⟨by (with_reducible repeat (first | apply Kd.R_alloc | apply Kd.R_drewN | apply Kd.R_drew)); exact HO_8.out⟩, ⟨by (with_reducible repeat (first | refine blk_drewN ?_ _ | refine blk_drew ?_ | refine blk_alloc ?_ _)); exact BK234.out⟩, ⟨by repeat (first | (with_reducible first | exact HB.out | apply below_alloc | apply pw_below_drewN | apply below_drew1 | refine below_set ?_ GE234.out) | exact HB.out)⟩⟩
         ·rw [if_neg c17] at H
          have c17b0 : (((rd_T40 t235 x9_1).f2) == 3) = false := beq_eq_false_iff_ne.mpr c17
          have c17b1 : (((rd_T40 t235 x9_1).f2) != 3) = true := bne_iff_ne.mpr c17
          have H' := Aside0.mk H
          clear H
          have p241 : 0 ≤ (x9_1 : Int) := of_decide_eq_true (by first | (with_reducible assumption) | assumption)
          have q241 : x9_1 < (t235.length : Int) := of_decide_eq_true (by first | (with_reducible assumption) | assumption)
          obtain ⟨ad241, e241, hx241_0, hx241_1, hx241_2⟩ := at_T40 (Kd.R_reads' HO_8.out).2.2 x9_1 p241 q241
          cases e241
          replace p241 := eq_true p241
          replace q241 := eq_true q241
          go_wp2
          go_roundg kj8
          case measure => have := HK1.out; have := HJ8.out; omega
          case rel => exact ⟨(wrap64 (x7_1 + 1)), (wrap64 (x9_1 + 1)), (by first | rfl | (simp; done) | (simp [*]; done)), (by first | rfl | (simp; done) | (simp [*]; done)), H', ⟨by have := HK1.out; have := HJ8.out; omega⟩, ⟨by (with_reducible repeat (first | apply Kd.R_alloc | apply Kd.R_drewN | apply Kd.R_drew)); exact HO_8.out⟩, ⟨by (with_reducible repeat (first | refine blk_drewN ?_ _ | refine blk_drew ?_ | refine blk_alloc ?_ _)); exact BK234.out⟩, ⟨by repeat (first | (with_reducible first | exact HB.out | apply below_alloc | apply pw_below_drewN | apply below_drew1 | refine below_set ?_ GE234.out) | exact HB.out)⟩⟩
        ·rw [if_neg c16] at H
         exact absurd H (by simp)
       ·rw [if_neg c15] at H
        exact absurd H (by simp)
      ·replace c14 := Bool.eq_false_iff.mpr c14
       subst c14
       have H1 : (if 0 ≤ x9_1 then (if x9_1 < (t235.length : Int) then (if ((rd_T40 t235 x9_1).f2) = 3 then (if ((rd_T40 t235 x9_1).f0) > a2 then (if (wrap64 (((rd_T40 t235 x9_1).f1) - 1)) = a1 then (spec_Winds.l0 kj8 a1 a2 (wrap64 (x7_1 - 1)) t235 (wrap64 (x9_1 + 1))) else (spec_Winds.l0 kj8 a1 a2 x7_1 t235 (wrap64 (x9_1 + 1)))) else (spec_Winds.l0 kj8 a1 a2 x7_1 t235 (wrap64 (x9_1 + 1)))) else (spec_Winds.l0 kj8 a1 a2 x7_1 t235 (wrap64 (x9_1 + 1)))) else (none)) else (none)) = some r := by rw [if_neg (show ¬ (false = true) by decide)] at H; exact H
       clear H
       have H := H1
       clear H1
       by_cases c20 : 0 ≤ x9_1
       ·rw [if_pos c20] at H
        have c20b0 : decide (0 ≤ x9_1) = true := decide_eq_true c20
        clear c20
        by_cases c21 : x9_1 < (t235.length : Int)
        ·rw [if_pos c21] at H
         have c21b0 : decide (x9_1 < (t235.length : Int)) = true := decide_eq_true c21
         clear c21
         by_cases c22 : ((rd_T40 t235 x9_1).f2) = 3
         ·rw [if_pos c22] at H
          have c22b0 : (((rd_T40 t235 x9_1).f2) == 3) = true := beq_iff_eq.mpr c22
          have c22b1 : (((rd_T40 t235 x9_1).f2) != 3) = false := bne_eq_false_iff_eq.mpr c22
          clear c22
          by_cases c23 : ((rd_T40 t235 x9_1).f0) > a2
          ·rw [if_pos c23] at H
           have c23b0 : decide (a2 < ((rd_T40 t235 x9_1).f0)) = true := decide_eq_true c23
           clear c23
           by_cases c24 : (wrap64 (((rd_T40 t235 x9_1).f1) - 1)) = a1
           ·rw [if_pos c24] at H
            have c24b0 : ((wrap64 (((rd_T40 t235 x9_1).f1) - 1)) == a1) = true := beq_iff_eq.mpr c24
            have c24b1 : ((wrap64 (((rd_T40 t235 x9_1).f1) - 1)) != a1) = false := bne_eq_false_iff_eq.mpr c24
            clear c24
            have H' := Aside0.mk H
            clear H
            have p244 : 0 ≤ (x9_1 : Int) := of_decide_eq_true (by first | (with_reducible assumption) | assumption)
            have q244 : x9_1 < (t235.length : Int) := of_decide_eq_true (by first | (with_reducible assumption) | assumption)
            obtain ⟨ad244, e244, hx244_0, hx244_1, hx244_2⟩ := at_T40 (Kd.R_reads' HO_8.out).2.2 x9_1 p244 q244
            cases e244
            replace p244 := eq_true p244
            replace q244 := eq_true q244
            have p245 : 0 ≤ (x9_1 : Int) := of_decide_eq_true (by first | (with_reducible assumption) | assumption)
            have q245 : x9_1 < (t235.length : Int) := of_decide_eq_true (by first | (with_reducible assumption) | assumption)
            obtain ⟨ad245, e245, hx245_0, hx245_1, hx245_2⟩ := at_T40 (Kd.R_reads' HO_8.out).2.2 x9_1 p245 q245
            obtain rfl : ad244 = ad245 := (by injection e245)
            replace p245 := eq_true p245
            replace q245 := eq_true q245
            have p246 : 0 ≤ (x9_1 : Int) := of_decide_eq_true (by first | (with_reducible assumption) | assumption)
            have q246 : x9_1 < (t235.length : Int) := of_decide_eq_true (by first | (with_reducible assumption) | assumption)
            obtain ⟨ad246, e246, hx246_0, hx246_1, hx246_2⟩ := at_T40 (Kd.R_reads' HO_8.out).2.2 x9_1 p246 q246
            obtain rfl : ad244 = ad246 := (by injection e246)
            replace p246 := eq_true p246
            replace q246 := eq_true q246
            go_wp2
            go_roundg kj8
            case measure => have := HK1.out; have := HJ8.out; omega
            case rel => exact ⟨(wrap64 (x7_1 - 1)), (wrap64 (x9_1 + 1)), (by first | rfl | (simp; done) | (simp [*]; done)), (by first | rfl | (simp; done) | (simp [*]; done)), H', ⟨by have := HK1.out; have := HJ8.out; omega⟩, ⟨by (with_reducible repeat (first | apply Kd.R_alloc | apply Kd.R_drewN | apply Kd.R_drew)); exact HO_8.out⟩, ⟨by (with_reducible repeat (first | refine blk_drewN ?_ _ | refine blk_drew ?_ | refine blk_alloc ?_ _)); exact BK234.out⟩, ⟨by repeat (first | (with_reducible first | exact HB.out | apply below_alloc | apply pw_below_drewN | apply below_drew1 | refine below_set ?_ GE234.out) | exact HB.out)⟩⟩
           ·rw [if_neg c24] at H
            have c24b0 : ((wrap64 (((rd_T40 t235 x9_1).f1) - 1)) == a1) = false := beq_eq_false_iff_ne.mpr c24
            have c24b1 : ((wrap64 (((rd_T40 t235 x9_1).f1) - 1)) != a1) = true := bne_iff_ne.mpr c24
            have H' := Aside0.mk H
            clear H
            have p244 : 0 ≤ (x9_1 : Int) := of_decide_eq_true (by first | (with_reducible assumption) | assumption)
            have q244 : x9_1 < (t235.length : Int) := of_decide_eq_true (by first | (with_reducible assumption) | assumption)
            obtain ⟨ad244, e244, hx244_0, hx244_1, hx244_2⟩ := at_T40 (Kd.R_reads' HO_8.out).2.2 x9_1 p244 q244
            cases e244
            replace p244 := eq_true p244
            replace q244 := eq_true q244
            have p245 : 0 ≤ (x9_1 : Int) := of_decide_eq_true (by first | (with_reducible assumption) | assumption)
            have q245 : x9_1 < (t235.length : Int) := of_decide_eq_true (by first | (with_reducible assumption) | assumption)
            obtain ⟨ad245, e245, hx245_0, hx245_1, hx245_2⟩ := at_T40 (Kd.R_reads' HO_8.out).2.2 x9_1 p245 q245
            obtain rfl : ad244 = ad245 := (by injection e245)
            replace p245 := eq_true p245
            replace q245 := eq_true q245
            have p246 : 0 ≤ (x9_1 : Int) := of_decide_eq_true (by first | (with_reducible assumption) | assumption)
            have q246 : x9_1 < (t235.length : Int) := of_decide_eq_true (by first | (with_reducible assumption) | assumption)
            obtain ⟨ad246, e246, hx246_0, hx246_1, hx246_2⟩ := at_T40 (Kd.R_reads' HO_8.out).2.2 x9_1 p246 q246
            obtain rfl : ad244 = ad246 := (by injection e246)
            replace p246 := eq_true p246
            replace q246 := eq_true q246
            go_wp2
            go_roundg kj8
            case measure => have := HK1.out; have := HJ8.out; omega
            case rel => exact ⟨(x7_1), (wrap64 (x9_1 + 1)), (by first | rfl | (simp; done) | (simp [*]; done)), (by first | rfl | (simp; done) | (simp [*]; done)), H', ⟨by have := HK1.out; have := HJ8.out; omega⟩, ⟨by (with_reducible repeat (first | apply Kd.R_alloc | apply Kd.R_drewN | apply Kd.R_drew)); exact HO_8.out⟩, ⟨by (with_reducible repeat (first | refine blk_drewN ?_ _ | refine blk_drew ?_ | refine blk_alloc ?_ _)); exact BK234.out⟩, ⟨by repeat (first | (with_reducible first | exact HB.out | apply below_alloc | apply pw_below_drewN | apply below_drew1 | refine below_set ?_ GE234.out) | exact HB.out)⟩⟩
          ·rw [if_neg c23] at H
           have c23b0 : decide (a2 < ((rd_T40 t235 x9_1).f0)) = false := decide_eq_false c23
           clear c23
           have H' := Aside0.mk H
           clear H
           have p244 : 0 ≤ (x9_1 : Int) := of_decide_eq_true (by first | (with_reducible assumption) | assumption)
           have q244 : x9_1 < (t235.length : Int) := of_decide_eq_true (by first | (with_reducible assumption) | assumption)
           obtain ⟨ad244, e244, hx244_0, hx244_1, hx244_2⟩ := at_T40 (Kd.R_reads' HO_8.out).2.2 x9_1 p244 q244
           cases e244
           replace p244 := eq_true p244
           replace q244 := eq_true q244
           have p245 : 0 ≤ (x9_1 : Int) := of_decide_eq_true (by first | (with_reducible assumption) | assumption)
           have q245 : x9_1 < (t235.length : Int) := of_decide_eq_true (by first | (with_reducible assumption) | assumption)
           obtain ⟨ad245, e245, hx245_0, hx245_1, hx245_2⟩ := at_T40 (Kd.R_reads' HO_8.out).2.2 x9_1 p245 q245
           obtain rfl : ad244 = ad245 := (by injection e245)
           replace p245 := eq_true p245
           replace q245 := eq_true q245
           go_wp2
           go_roundg kj8
           case measure => have := HK1.out; have := HJ8.out; omega
           case rel => exact ⟨(x7_1), (wrap64 (x9_1 + 1)), (by first | rfl | (simp; done) | (simp [*]; done)), (by first | rfl | (simp; done) | (simp [*]; done)), H', ⟨by have := HK1.out; have := HJ8.out; omega⟩, ⟨by (with_reducible repeat (first | apply Kd.R_alloc | apply Kd.R_drewN | apply Kd.R_drew)); exact HO_8.out⟩, ⟨by (with_reducible repeat (first | refine blk_drewN ?_ _ | refine blk_drew ?_ | refine blk_alloc ?_ _)); exact BK234.out⟩, ⟨by repeat (first | (with_reducible first | exact HB.out | apply below_alloc | apply pw_below_drewN | apply below_drew1 | refine below_set ?_ GE234.out) | exact HB.out)⟩⟩
         ·rw [if_neg c22] at H
          have c22b0 : (((rd_T40 t235 x9_1).f2) == 3) = false := beq_eq_false_iff_ne.mpr c22
          have c22b1 : (((rd_T40 t235 x9_1).f2) != 3) = true := bne_iff_ne.mpr c22
          have H' := Aside0.mk H
          clear H
          have p244 : 0 ≤ (x9_1 : Int) := of_decide_eq_true (by first | (with_reducible assumption) | assumption)
          have q244 : x9_1 < (t235.length : Int) := of_decide_eq_true (by first | (with_reducible assumption) | assumption)
          obtain ⟨ad244, e244, hx244_0, hx244_1, hx244_2⟩ := at_T40 (Kd.R_reads' HO_8.out).2.2 x9_1 p244 q244
          cases e244
          replace p244 := eq_true p244
          replace q244 := eq_true q244
          go_wp2
          go_roundg kj8
          case measure => have := HK1.out; have := HJ8.out; omega
          case rel => exact ⟨(x7_1), (wrap64 (x9_1 + 1)), (by first | rfl | (simp; done) | (simp [*]; done)), (by first | rfl | (simp; done) | (simp [*]; done)), H', ⟨by have := HK1.out; have := HJ8.out; omega⟩, ⟨by (with_reducible repeat (first | apply Kd.R_alloc | apply Kd.R_drewN | apply Kd.R_drew)); exact HO_8.out⟩, ⟨by (with_reducible repeat (first | refine blk_drewN ?_ _ | refine blk_drew ?_ | refine blk_alloc ?_ _)); exact BK234.out⟩, ⟨by repeat (first | (with_reducible first | exact HB.out | apply below_alloc | apply pw_below_drewN | apply below_drew1 | refine below_set ?_ GE234.out) | exact HB.out)⟩⟩
        ·rw [if_neg c21] at H
         exact absurd H (by simp)
       ·rw [if_neg c20] at H
        exact absurd H (by simp)
   ·rw [if_neg c8] at H
    have c8b0 : decide (x9_1 < (t235.length : Int)) = false := decide_eq_false c8
    clear c8
    obtain rfl := Option.some.inj H
    obtain ⟨Ao25, co25, eo25⟩ := Kd.R_slice HO_8.out
    subst eo25
    go_wp2
    go_ret
    exact ⟨by first | rfl | (simp [errW_none, errW_some] <;> rfl) | (simp [*, errW_none, errW_some] <;> rfl), by repeat (first | (with_reducible first | exact HB.out | apply below_alloc | apply pw_below_drewN | apply below_drew1 | refine below_set ?_ GE234.out) | exact HB.out)⟩

end Go.Proofs.YtmndffnjejgfoabDoor.Q
