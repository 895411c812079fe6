/- Plain Lean functions with the same answers as the Go functions of this seat, and a proof for each that the Go code comes to just these answers; no condition. Written by a program of this session (the kit's printer, turned). -/
import Derived.Test.YtmndffnjejgfoabDoorQx0
import Derived.Test.YtmndffnjejgfoabDoorQx6
namespace Go.Proofs.YtmndffnjejgfoabDoor.Q
open Go.RowKit Go.Proofs.YtmndffnjejgfoabDoorW.PrintWords Go.Proofs.YtmndffnjejgfoabDoorW.PrintLast Go.Proofs.YtmndffnjejgfoabDoorW.PrintMore
attribute [local go_sem] max2_int min2_int max_two min_two max_three min_three max_four min_four   -- for this text's walks alone
set_option linter.unusedVariables false
set_option linter.unusedSimpArgs false

/-! ### spec_Area: function 11 -/
def spec_Area.l0 : Nat → Int → List (S40) → Int → Option (Int)
 | 0, _, _, _ => none
 | k + 1, x3, x4, x5 => if x5 < (x4.length : Int) then (if 0 ≤ x5 then (if ((rd_T40 x4 x5).f2) = 1 then (if ((rd_T40 x4 x5).f2) = 3 then (spec_Area.l0 k (wrap64 ((wrap64 (x3 + ((rd_T40 x4 x5).f0))) - ((rd_T40 x4 x5).f0))) x4 (wrap64 (x5 + 1))) else (spec_Area.l0 k (wrap64 (x3 + ((rd_T40 x4 x5).f0))) x4 (wrap64 (x5 + 1)))) else (if ((rd_T40 x4 x5).f2) = 3 then (spec_Area.l0 k (wrap64 (x3 - ((rd_T40 x4 x5).f0))) x4 (wrap64 (x5 + 1))) else (spec_Area.l0 k x3 x4 (wrap64 (x5 + 1))))) else (none)) else (some x3)
def spec_Area.f (k : Nat) (a0_0 : Int) (a0_1 : Int) (l0_2 : List Int) : Option (Int) := (spec_l12Way.f k a0_0 a0_1 l0_2).bind fun t188 => (spec_Area.l0 k 0 t188 0)
theorem spec_Area.mono_l : ∀ k, (∀ y0 y1 y2, LeO (spec_Area.l0 k y0 y1 y2) (spec_Area.l0 (k + 1) y0 y1 y2))
 | 0 => fun _ _ _ r h => by simp [spec_Area.l0] at h
 | k + 1 => by
  have ih0 := spec_Area.mono_l k
  ·intro y0 y1 y2
   unfold spec_Area.l0
   repeat' first
   | (with_reducible exact ih0 _ _ _)
   | (with_reducible exact spec_l12Way.mono _ _ _ _)
   | (with_reducible exact LeO.refl _)
   | (with_reducible exact LeO.none _)
   | (with_reducible refine LeO.ite ?_ ?_)
   | (with_reducible refine LeO.bind ?_ (fun _ => ?_))
   | exact ih0 _ _ _
   | exact spec_l12Way.mono _ _ _ _
   | exact LeO.none _
   | refine LeO.ite ?_ ?_
   | refine LeO.bind ?_ (fun _ => ?_)
theorem spec_Area.mono : ∀ a0 a1 a2 k, LeO (spec_Area.f k a0 a1 a2) (spec_Area.f (k + 1) a0 a1 a2) := by
 intro a0 a1 a2 k
 have ih0 := spec_Area.mono_l k
 unfold spec_Area.f
 repeat' first
   | (with_reducible exact ih0 _ _ _)
   | (with_reducible exact spec_l12Way.mono _ _ _ _)
   | (with_reducible exact LeO.refl _)
   | (with_reducible exact LeO.none _)
   | (with_reducible refine LeO.ite ?_ ?_)
   | (with_reducible refine LeO.bind ?_ (fun _ => ?_))
   | exact ih0 _ _ _
   | exact spec_l12Way.mono _ _ _ _
   | exact LeO.none _
   | refine LeO.ite ?_ ?_
   | refine LeO.bind ?_ (fun _ => ?_)
set_option maxHeartbeats 8000000 in
set_option maxRecDepth 100000 in
theorem spec_Area.calls (k : Nat) (a0_0 : Int) (a0_1 : Int) (A0_2 : Option Addr) (c0_2 : Nat) (l0_2 : List Int) (r : Int) (w : World) (hr0_2 : Kd.C (Kd.int .i64) w A0_2 l0_2.length l0_2) (hc0_2 : l0_2.length ≤ c0_2) (h : spec_Area.f k a0_0 a0_1 l0_2 = some r) :
  Calls Tryd.prog 11 #[.agg #[.int .i64 a0_0, .int .i64 a0_1, .slice A0_2 l0_2.length c0_2]] w fun e w' => e = .returned (.int .i64 r) ∧ Below w.heap.size w w' := by
 have hu27 := Tryd.underlying27
 have HR0_2 := Aside0.mk hr0_2
 have HC0_2 := Aside0.mk hc0_2
 clear hr0_2 hc0_2
 have HB := Aside0.mk (Below.refl w.heap.size w)
 have H : ((spec_l12Way.f k a0_0 a0_1 l0_2).bind fun t188 => (spec_Area.l0 k 0 t188 0)) = some r := h
 clear h
 replace H := Option.bind_eq_some_iff.mp H
 obtain ⟨t188, A20, H⟩ := H
 replace H : (spec_Area.l0 k 0 t188 0) = some r := H
 have A2 := Aside0.mk A20
 clear A20
 have H' := Aside0.mk H
 clear H
 go_enter Tryd.func11, Tryd.ntmps11
 go_wp2_with (first | ((with_reducible refine gate_dst (N := 1) rfl ?_); refine box_event ?hg (N := 1) ?hd (cs := #[.int .i64 a0_0, .int .i64 a0_1, .slice A0_2 l0_2.length c0_2]) (t := 27) ?hr ?_; (case hd => rfl); (case hg => rfl); (case hr => first | (go_simp; done) | (go_simp; rfl)); intro gb187 hg w3 hbox hb; have n0_ := Aside0.mk (below_step (by repeat (first | (with_reducible first | exact HB.out | apply below_alloc | apply pw_below_drewN | apply below_drew1) | exact HB.out)) hb); have n1_ := Aside0.mk (hbox); have n2_ := Aside0.mk ((by rw [hg]; exact (below_size (by repeat (first | (with_reducible first | exact HB.out | apply below_alloc | apply pw_below_drewN | apply below_drew1) | exact HB.out))) : w.heap.size ≤ gb187)); have n3_ := Aside0.mk ((by rw [hg]; exact (below_size (by repeat (first | (with_reducible first | exact HB.out | apply below_alloc | apply pw_below_drewN | apply below_drew1) | exact HB.out))) : w.heap.size ≤ gb187)); clear HB; have HB := n0_; have BK187 := n1_; have GW187 := n2_; have GE187 := n3_; clear n0_ n1_ n2_ n3_; clear hb hbox hg; have hcz4_0 : w3.cell? ⟨gb187, 0, none⟩ = some (.int .i64 a0_0) := (blk_cell BK187.out 0).trans rfl; have hcz4_1 : w3.cell? ⟨gb187, 1, none⟩ = some (.int .i64 a0_1) := (blk_cell BK187.out 1).trans rfl; have hcz4_2 : w3.cell? ⟨gb187, 2, none⟩ = some (.slice A0_2 l0_2.length c0_2) := (blk_cell BK187.out 2).trans rfl; have hfz4_0 := blk_frozen BK187.out 0; have hfz4_1 := blk_frozen BK187.out 1; have hfz4_2 := blk_frozen BK187.out 2) | ((with_reducible refine gate_callee (f := 16) rfl ?_); refine goesL_ (some 7) rfl rfl Tryd.func16 (by kernel_rfl) rfl #[.agg #[.int .i64 a0_0, .int .i64 a0_1, .slice A0_2 l0_2.length c0_2]] rfl (by (try simp only [List.map_toArray, List.map_cons, List.map_nil]); first | done | rfl | (simp only [List.length_drop, List.length_take]; rfl)) ?_; (with_reducible refine (spec_l12Way.calls k a0_0 a0_1 _ _ l0_2 t188 _ ?side1 ?side2 A2.out).mono ?_); (case side1 => repeat (first | exact (Kd.C_below HR0_2.out HB.out) | (with_reducible refine Kd.C_alloc ?_ _) | (with_reducible refine Kd.C_drewN ?_ _) | (with_reducible refine Kd.C_drew ?_))); (case side2 => exact HC0_2.out); rintro e w5 ⟨v189, rfl, ho0, hb⟩; refine ⟨_, rfl, ?_⟩; have n0_ := Aside0.mk (Kd.R_lower ho0 (below_size (by repeat (first | (with_reducible first | exact HB.out | apply below_alloc | apply pw_below_drewN | apply below_drew1 | refine below_set ?_ GE187.out) | exact HB.out)))); have n1_ := Aside0.mk (blk_below (g := gb187) (o := .cells #[.int .i64 a0_0, .int .i64 a0_1, .slice A0_2 l0_2.length c0_2] 27 (0, 0)) (by (with_reducible repeat (first | refine blk_drewN ?_ _ | refine blk_drew ?_ | refine blk_alloc ?_ _)); exact BK187.out) hb); have n2_ := Aside0.mk (below_step (by repeat (first | (with_reducible first | exact HB.out | apply below_alloc | apply pw_below_drewN | apply below_drew1 | refine below_set ?_ GE187.out) | exact HB.out)) hb); clear BK187; clear HB; have HO190 := n0_; have BK187 := n1_; have HB := n2_; clear n0_ n1_ n2_; (try clear hb); (try clear hb2); (try clear hk); (try clear hi); (try clear ho0)))
 go_loopg [3, 5] k (fun kq v3 v5 w' => ∃ (x3_1 : Int) (x5_1 : Int), v3 = .int .i64 x3_1 ∧ v5 = .int .i64 x5_1 ∧ Aside0 (spec_Area.l0 kq x3_1 t188 x5_1 = some r) ∧ Aside0 (kq ≤ k) ∧ Aside0 (Kd.R k40 40 w' w.heap.size (fun _ => True) v189 t188) ∧ Aside0 (w'.heap[gb187]? = some (.cells #[.int .i64 a0_0, .int .i64 a0_1, (.slice A0_2 l0_2.length c0_2)] 27 (0, 0))) ∧ Aside0 (Below w.heap.size w w'))
 case atStart => exact ⟨(0), (0), (by first | rfl | (simp; done) | (simp [*]; done)), (by first | rfl | (simp; done) | (simp [*]; done)), H', ⟨Nat.le_refl _⟩, ⟨by (with_reducible repeat (first | apply Kd.R_alloc | apply Kd.R_drewN | apply Kd.R_drew)); exact HO190.out⟩, ⟨by (with_reducible repeat (first | refine blk_drewN ?_ _ | refine blk_drew ?_ | refine blk_alloc ?_ _)); exact BK187.out⟩, ⟨by repeat (first | (with_reducible first | exact HB.out | apply below_alloc | apply pw_below_drewN | apply below_drew1 | refine below_set ?_ GE187.out) | exact HB.out)⟩⟩
 case round =>
  clear H'
  try clear c1
  try clear p2
  try clear hcz4_0
  try clear hcz4_1
  try clear hcz4_2
  try clear hfz4_0
  try clear hfz4_1
  try clear hfz4_2
  obtain ⟨x3_1, x5_1, rfl, rfl, HA, HK1, HO_4, BK187, HB⟩ := hrel
  cases gk with
  | zero => exact absurd HA.out (by simp [spec_Area.l0])
  | succ k1 =>
   have H := HA.out
   clear HA
   simp only [spec_Area.l0] at H
   by_cases c6 : x5_1 < (t188.length : Int)
   ·rw [if_pos c6] at H
    have c6b0 : decide (x5_1 < (t188.length : Int)) = true := decide_eq_true c6
    clear c6
    by_cases c7 : 0 ≤ x5_1
    ·rw [if_pos c7] at H
     have c7b0 : decide (0 ≤ x5_1) = true := decide_eq_true c7
     clear c7
     by_cases c8 : ((rd_T40 t188 x5_1).f2) = 1
     ·rw [if_pos c8] at H
      have c8b0 : (((rd_T40 t188 x5_1).f2) == 1) = true := beq_iff_eq.mpr c8
      have c8b1 : (((rd_T40 t188 x5_1).f2) != 1) = false := bne_eq_false_iff_eq.mpr c8
      clear c8
      by_cases c9 : ((rd_T40 t188 x5_1).f2) = 3
      ·rw [if_pos c9] at H
       have c9b0 : (((rd_T40 t188 x5_1).f2) == 3) = true := beq_iff_eq.mpr c9
       have c9b1 : (((rd_T40 t188 x5_1).f2) != 3) = false := bne_eq_false_iff_eq.mpr c9
       clear c9
       have H' := Aside0.mk H
       clear H
       obtain ⟨Ao10, co10, eo10⟩ := Kd.R_slice HO_4.out
       subst eo10
       have p191 : 0 ≤ (x5_1 : Int) := of_decide_eq_true (by first | (with_reducible assumption) | assumption)
       have q191 : x5_1 < (t188.length : Int) := of_decide_eq_true (by first | (with_reducible assumption) | assumption)
       obtain ⟨ad191, e191, hx191_0, hx191_1, hx191_2⟩ := at_T40 (Kd.R_reads' HO_4.out).2.2 x5_1 p191 q191
       cases e191
       replace p191 := eq_true p191
       replace q191 := eq_true q191
       have p192 : 0 ≤ (x5_1 : Int) := of_decide_eq_true (by first | (with_reducible assumption) | assumption)
       have q192 : x5_1 < (t188.length : Int) := of_decide_eq_true (by first | (with_reducible assumption) | assumption)
       obtain ⟨ad192, e192, hx192_0, hx192_1, hx192_2⟩ := at_T40 (Kd.R_reads' HO_4.out).2.2 x5_1 p192 q192
       obtain rfl : ad191 = ad192 := (by injection e192)
       replace p192 := eq_true p192
       replace q192 := eq_true q192
       have p193 : 0 ≤ (x5_1 : Int) := of_decide_eq_true (by first | (with_reducible assumption) | assumption)
       have q193 : x5_1 < (t188.length : Int) := of_decide_eq_true (by first | (with_reducible assumption) | assumption)
       obtain ⟨ad193, e193, hx193_0, hx193_1, hx193_2⟩ := at_T40 (Kd.R_reads' HO_4.out).2.2 x5_1 p193 q193
       obtain rfl : ad191 = ad193 := (by injection e193)
       replace p193 := eq_true p193
       replace q193 := eq_true q193
       have p194 : 0 ≤ (x5_1 : Int) := of_decide_eq_true (by first | (with_reducible assumption) | assumption)
       have q194 : x5_1 < (t188.length : Int) := of_decide_eq_true (by first | (with_reducible assumption) | assumption)
       obtain ⟨ad194, e194, hx194_0, hx194_1, hx194_2⟩ := at_T40 (Kd.R_reads' HO_4.out).2.2 x5_1 p194 q194
       obtain rfl : ad191 = ad194 := (by injection e194)
       replace p194 := eq_true p194
       replace q194 := eq_true q194
       go_wp2
       go_roundg k1
       case measure => have := HK1.out; omega
       case rel => exact ⟨(wrap64 ((wrap64 (x3_1 + ((rd_T40 t188 x5_1).f0))) - ((rd_T40 t188 x5_1).f0))), (wrap64 (x5_1 + 1)), (by first | rfl | (simp; done) | (simp [*]; done)), (by first | rfl | (simp; done) | (simp [*]; done)), H', ⟨by have := HK1.out; omega⟩, ⟨by (with_reducible repeat (first | apply Kd.R_alloc | apply Kd.R_drewN | apply Kd.R_drew)); exact HO_4.out⟩, ⟨by (with_reducible repeat (first | refine blk_drewN ?_ _ | refine blk_drew ?_ | refine blk_alloc ?_ _)); exact BK187.out⟩, ⟨by repeat (first | (with_reducible first | exact HB.out | apply below_alloc | apply pw_below_drewN | apply below_drew1 | refine below_set ?_ GE187.out) | exact HB.out)⟩⟩
      ·rw [if_neg c9] at H
       have c9b0 : (((rd_T40 t188 x5_1).f2) == 3) = false := beq_eq_false_iff_ne.mpr c9
       have c9b1 : (((rd_T40 t188 x5_1).f2) != 3) = true := bne_iff_ne.mpr c9
       have H' := Aside0.mk H
       clear H
       obtain ⟨Ao11, co11, eo11⟩ := Kd.R_slice HO_4.out
       subst eo11
       have p191 : 0 ≤ (x5_1 : Int) := of_decide_eq_true (by first | (with_reducible assumption) | assumption)
       have q191 : x5_1 < (t188.length : Int) := of_decide_eq_true (by first | (with_reducible assumption) | assumption)
       obtain ⟨ad191, e191, hx191_0, hx191_1, hx191_2⟩ := at_T40 (Kd.R_reads' HO_4.out).2.2 x5_1 p191 q191
       cases e191
       replace p191 := eq_true p191
       replace q191 := eq_true q191
       have p192 : 0 ≤ (x5_1 : Int) := of_decide_eq_true (by first | (with_reducible assumption) | assumption)
       have q192 : x5_1 < (t188.length : Int) := of_decide_eq_true (by first | (with_reducible assumption) | assumption)
       obtain ⟨ad192, e192, hx192_0, hx192_1, hx192_2⟩ := at_T40 (Kd.R_reads' HO_4.out).2.2 x5_1 p192 q192
       obtain rfl : ad191 = ad192 := (by injection e192)
       replace p192 := eq_true p192
       replace q192 := eq_true q192
       have p193 : 0 ≤ (x5_1 : Int) := of_decide_eq_true (by first | (with_reducible assumption) | assumption)
       have q193 : x5_1 < (t188.length : Int) := of_decide_eq_true (by first | (with_reducible assumption) | assumption)
       obtain ⟨ad193, e193, hx193_0, hx193_1, hx193_2⟩ := at_T40 (Kd.R_reads' HO_4.out).2.2 x5_1 p193 q193
       obtain rfl : ad191 = ad193 := (by injection e193)
       replace p193 := eq_true p193
       replace q193 := eq_true q193
       go_wp2
       go_roundg k1
       case measure => have := HK1.out; omega
       case rel => exact ⟨(wrap64 (x3_1 + ((rd_T40 t188 x5_1).f0))), (wrap64 (x5_1 + 1)), (by first | rfl | (simp; done) | (simp [*]; done)), (by first | rfl | (simp; done) | (simp [*]; done)), H', ⟨by have := HK1.out; omega⟩, ⟨by (with_reducible repeat (first | apply Kd.R_alloc | apply Kd.R_drewN | apply Kd.R_drew)); exact HO_4.out⟩, ⟨by (with_reducible repeat (first | refine blk_drewN ?_ _ | refine blk_drew ?_ | refine blk_alloc ?_ _)); exact BK187.out⟩, ⟨by repeat (first | (with_reducible first | exact HB.out | apply below_alloc | apply pw_below_drewN | apply below_drew1 | refine below_set ?_ GE187.out) | exact HB.out)⟩⟩
     ·rw [if_neg c8] at H
      have c8b0 : (((rd_T40 t188 x5_1).f2) == 1) = false := beq_eq_false_iff_ne.mpr c8
      have c8b1 : (((rd_T40 t188 x5_1).f2) != 1) = true := bne_iff_ne.mpr c8
      by_cases c12 : ((rd_T40 t188 x5_1).f2) = 3
      ·rw [if_pos c12] at H
       have c12b0 : (((rd_T40 t188 x5_1).f2) == 3) = true := beq_iff_eq.mpr c12
       have c12b1 : (((rd_T40 t188 x5_1).f2) != 3) = false := bne_eq_false_iff_eq.mpr c12
       clear c12
       have H' := Aside0.mk H
       clear H
       obtain ⟨Ao13, co13, eo13⟩ := Kd.R_slice HO_4.out
       subst eo13
       have p191 : 0 ≤ (x5_1 : Int) := of_decide_eq_true (by first | (with_reducible assumption) | assumption)
       have q191 : x5_1 < (t188.length : Int) := of_decide_eq_true (by first | (with_reducible assumption) | assumption)
       obtain ⟨ad191, e191, hx191_0, hx191_1, hx191_2⟩ := at_T40 (Kd.R_reads' HO_4.out).2.2 x5_1 p191 q191
       cases e191
       replace p191 := eq_true p191
       replace q191 := eq_true q191
       have p195 : 0 ≤ (x5_1 : Int) := of_decide_eq_true (by first | (with_reducible assumption) | assumption)
       have q195 : x5_1 < (t188.length : Int) := of_decide_eq_true (by first | (with_reducible assumption) | assumption)
       obtain ⟨ad195, e195, hx195_0, hx195_1, hx195_2⟩ := at_T40 (Kd.R_reads' HO_4.out).2.2 x5_1 p195 q195
       obtain rfl : ad191 = ad195 := (by injection e195)
       replace p195 := eq_true p195
       replace q195 := eq_true q195
       have p196 : 0 ≤ (x5_1 : Int) := of_decide_eq_true (by first | (with_reducible assumption) | assumption)
       have q196 : x5_1 < (t188.length : Int) := of_decide_eq_true (by first | (with_reducible assumption) | assumption)
       obtain ⟨ad196, e196, hx196_0, hx196_1, hx196_2⟩ := at_T40 (Kd.R_reads' HO_4.out).2.2 x5_1 p196 q196
       obtain rfl : ad191 = ad196 := (by injection e196)
       replace p196 := eq_true p196
       replace q196 := eq_true q196
       go_wp2
       go_roundg k1
       case measure => have := HK1.out; omega
       case rel => exact ⟨(wrap64 (x3_1 - ((rd_T40 t188 x5_1).f0))), (wrap64 (x5_1 + 1)), (by first | rfl | (simp; done) | (simp [*]; done)), (by first | rfl | (simp; done) | (simp [*]; done)), H', ⟨by have := HK1.out; omega⟩, ⟨by (with_reducible repeat (first | apply Kd.R_alloc | apply Kd.R_drewN | apply Kd.R_drew)); exact HO_4.out⟩, ⟨by (with_reducible repeat (first | refine blk_drewN ?_ _ | refine blk_drew ?_ | refine blk_alloc ?_ _)); exact BK187.out⟩, ⟨by repeat (first | (with_reducible first | exact HB.out | apply below_alloc | apply pw_below_drewN | apply below_drew1 | refine below_set ?_ GE187.out) | exact HB.out)⟩⟩
      ·rw [if_neg c12] at H
       have c12b0 : (((rd_T40 t188 x5_1).f2) == 3) = false := beq_eq_false_iff_ne.mpr c12
       have c12b1 : (((rd_T40 t188 x5_1).f2) != 3) = true := bne_iff_ne.mpr c12
       have H' := Aside0.mk H
       clear H
       obtain ⟨Ao14, co14, eo14⟩ := Kd.R_slice HO_4.out
       subst eo14
       have p191 : 0 ≤ (x5_1 : Int) := of_decide_eq_true (by first | (with_reducible assumption) | assumption)
       have q191 : x5_1 < (t188.length : Int) := of_decide_eq_true (by first | (with_reducible assumption) | assumption)
       obtain ⟨ad191, e191, hx191_0, hx191_1, hx191_2⟩ := at_T40 (Kd.R_reads' HO_4.out).2.2 x5_1 p191 q191
       cases e191
       replace p191 := eq_true p191
       replace q191 := eq_true q191
       have p195 : 0 ≤ (x5_1 : Int) := of_decide_eq_true (by first | (with_reducible assumption) | assumption)
       have q195 : x5_1 < (t188.length : Int) := of_decide_eq_true (by first | (with_reducible assumption) | assumption)
       obtain ⟨ad195, e195, hx195_0, hx195_1, hx195_2⟩ := at_T40 (Kd.R_reads' HO_4.out).2.2 x5_1 p195 q195
       obtain rfl : ad191 = ad195 := (by injection e195)
       replace p195 := eq_true p195
       replace q195 := eq_true q195
       go_wp2
       go_roundg k1
       case measure => have := HK1.out; omega
       case rel => exact ⟨(x3_1), (wrap64 (x5_1 + 1)), (by first | rfl | (simp; done) | (simp [*]; done)), (by first | rfl | (simp; done) | (simp [*]; done)), H', ⟨by have := HK1.out; omega⟩, ⟨by (with_reducible repeat (first | apply Kd.R_alloc | apply Kd.R_drewN | apply Kd.R_drew)); exact HO_4.out⟩, ⟨by (with_reducible repeat (first | refine blk_drewN ?_ _ | refine blk_drew ?_ | refine blk_alloc ?_ _)); exact BK187.out⟩, ⟨by repeat (first | (with_reducible first | exact HB.out | apply below_alloc | apply pw_below_drewN | apply below_drew1 | refine below_set ?_ GE187.out) | exact HB.out)⟩⟩
    ·rw [if_neg c7] at H
     exact absurd H (by simp)
   ·rw [if_neg c6] at H
    have c6b0 : decide (x5_1 < (t188.length : Int)) = false := decide_eq_false c6
    clear c6
    obtain rfl := Option.some.inj H
    obtain ⟨Ao15, co15, eo15⟩ := Kd.R_slice HO_4.out
    subst eo15
    go_wp2
    go_ret
    exact ⟨by first | rfl | (simp [errW_none, errW_some] <;> rfl) | (simp [*, errW_none, errW_some] <;> rfl), by repeat (first | (with_reducible first | exact HB.out | apply below_alloc | apply pw_below_drewN | apply below_drew1 | refine below_set ?_ GE187.out) | exact HB.out)⟩

end Go.Proofs.YtmndffnjejgfoabDoor.Q
