/- Plain Lean functions with the same answers as the Go functions of this seat, and a proof for each that the Go code comes to just these answers; no condition. Written by a program of this session (the kit's printer, turned). -/
import Derived.Test.YteobnbichpadjaaQx0
import Derived.Test.YteobnbichpadjaaQx11
namespace Go.Proofs.Yteobnbichpadjaa.Q
open Go.RowKit Go.Proofs.YteobnbichpadjaaW.PrintWords Go.Proofs.YteobnbichpadjaaW.PrintLast Go.Proofs.YteobnbichpadjaaW.PrintMore Go.Proofs.YteobnbichpadjaaW.PrintFlt
attribute [local go_sem] cmp_lss cmp_leq cmp_gtr cmp_geq cmp_eql cmp_neq flt_l flt_r fgt_l fgt_r feq_l feq_r fne_l fne_r ord_lt ord_gt ord_eq ord_ne conv_int foi_fold run_store_flt
attribute [local go_sem] max2_int min2_int max_two min_two max_three min_three max_four min_four   -- for this text's walks alone
set_option linter.unusedVariables false
set_option linter.unusedSimpArgs false

/-! ### impl_Table: function 13 -/
mutual
def impl_Table.l0 : Nat → Int → List (S34) → Int → Int → Int → Int → Int → Int → Option (Int × Int × Int × Int)
 | 0, _, _, _, _, _, _, _, _ => none
 | k + 1, x1, x13, x14, x15, x181000, x181001, x181002, x181003 => if x15 < x14 then (if 0 ≤ x15 then (if x15 < (x13.length : Int) then (if ((rd_T34 x13 x15).f0) ≥ x1 then (impl_Table.j1 k x1 x13 x14 x15 ((rd_T34 x13 x15).f1) x181000 x181001 x181002 x181003 ((rd_T34 x13 x15).f0) ((rd_T34 x13 x15).f1)) else (impl_Table.j1 k x1 x13 x14 x15 false x181000 x181001 x181002 x181003 ((rd_T34 x13 x15).f0) ((rd_T34 x13 x15).f1))) else (none)) else (none)) else (some (x181000, x181001, x181002, x181003))
def impl_Table.j1 : Nat → Int → List (S34) → Int → Int → Bool → Int → Int → Int → Int → Int → Bool → Option (Int × Int × Int × Int)
 | 0, _, _, _, _, _, _, _, _, _, _, _ => none
 | k + 1, x1, x13, x14, x15, x23, x181000, x181001, x181002, x181003, x184000, x184001 => if x23 = true then (impl_Table.l0 k x1 x13 x14 (wrap64 (x15 + 1)) (wrap64 (x181000 + 1)) x181001 x181002 x181003) else (if x184001 = true then (impl_Table.l0 k x1 x13 x14 (wrap64 (x15 + 1)) x181000 (wrap64 (x181001 + 1)) x181002 x181003) else (if x184000 ≥ x1 then (impl_Table.l0 k x1 x13 x14 (wrap64 (x15 + 1)) x181000 x181001 (wrap64 (x181002 + 1)) x181003) else (impl_Table.l0 k x1 x13 x14 (wrap64 (x15 + 1)) x181000 x181001 x181002 (wrap64 (x181003 + 1)))))
end
def impl_Table.f (k : Nat) (l0 : List (S34)) (a1 : Int) : Option (Int × Int × Int × Int) := (impl_probsOk.f k l0).bind fun t181 => (if t181 = true then (impl_Table.l0 k a1 l0 (l0.length : Int) 0 0 0 0 0) else (some (0, 0, 0, 0)))
theorem impl_Table.mono_l : ∀ k, (∀ y0 y1 y2 y3 y4 y5 y6 y7, LeO (impl_Table.l0 k y0 y1 y2 y3 y4 y5 y6 y7) (impl_Table.l0 (k + 1) y0 y1 y2 y3 y4 y5 y6 y7)) ∧ (∀ y0 y1 y2 y3 y4 y5 y6 y7 y8 y9 y10, LeO (impl_Table.j1 k y0 y1 y2 y3 y4 y5 y6 y7 y8 y9 y10) (impl_Table.j1 (k + 1) y0 y1 y2 y3 y4 y5 y6 y7 y8 y9 y10))
 | 0 => ⟨fun _ _ _ _ _ _ _ _ r h => by simp [impl_Table.l0] at h, fun _ _ _ _ _ _ _ _ _ _ _ r h => by simp [impl_Table.j1] at h⟩
 | k + 1 => by
  obtain ⟨ih0, ih1⟩ := impl_Table.mono_l k
  refine ⟨?_, ?_⟩
  ·intro y0 y1 y2 y3 y4 y5 y6 y7
   unfold impl_Table.l0
   repeat' first
   | (with_reducible exact ih0 _ _ _ _ _ _ _ _)
   | (with_reducible exact ih1 _ _ _ _ _ _ _ _ _ _ _)
   | (with_reducible exact impl_probsOk.mono _ _)
   | (with_reducible exact LeO.refl _)
   | (with_reducible exact LeO.none _)
   | (with_reducible refine LeO.ite ?_ ?_)
   | (with_reducible refine LeO.bind ?_ (fun _ => ?_))
   | exact ih0 _ _ _ _ _ _ _ _
   | exact ih1 _ _ _ _ _ _ _ _ _ _ _
   | exact impl_probsOk.mono _ _
   | exact LeO.none _
   | refine LeO.ite ?_ ?_
   | refine LeO.bind ?_ (fun _ => ?_)
  ·intro y0 y1 y2 y3 y4 y5 y6 y7 y8 y9 y10
   unfold impl_Table.j1
   repeat' first
   | (with_reducible exact ih0 _ _ _ _ _ _ _ _)
   | (with_reducible exact ih1 _ _ _ _ _ _ _ _ _ _ _)
   | (with_reducible exact impl_probsOk.mono _ _)
   | (with_reducible exact LeO.refl _)
   | (with_reducible exact LeO.none _)
   | (with_reducible refine LeO.ite ?_ ?_)
   | (with_reducible refine LeO.bind ?_ (fun _ => ?_))
   | exact ih0 _ _ _ _ _ _ _ _
   | exact ih1 _ _ _ _ _ _ _ _ _ _ _
   | exact impl_probsOk.mono _ _
   | exact LeO.none _
   | refine LeO.ite ?_ ?_
   | refine LeO.bind ?_ (fun _ => ?_)
theorem impl_Table.mono : ∀ a0 a1 k, LeO (impl_Table.f k a0 a1) (impl_Table.f (k + 1) a0 a1) := by
 intro a0 a1 k
 obtain ⟨ih0, ih1⟩ := impl_Table.mono_l k
 unfold impl_Table.f
 repeat' first
   | (with_reducible exact ih0 _ _ _ _ _ _ _ _)
   | (with_reducible exact ih1 _ _ _ _ _ _ _ _ _ _ _)
   | (with_reducible exact impl_probsOk.mono _ _)
   | (with_reducible exact LeO.refl _)
   | (with_reducible exact LeO.none _)
   | (with_reducible refine LeO.ite ?_ ?_)
   | (with_reducible refine LeO.bind ?_ (fun _ => ?_))
   | exact ih0 _ _ _ _ _ _ _ _
   | exact ih1 _ _ _ _ _ _ _ _ _ _ _
   | exact impl_probsOk.mono _ _
   | exact LeO.none _
   | refine LeO.ite ?_ ?_
   | refine LeO.bind ?_ (fun _ => ?_)
set_option maxHeartbeats 8000000 in
set_option maxRecDepth 100000 in
theorem impl_Table.calls (k : Nat) (A0 : Option Addr) (c0 : Nat) (l0 : List (S34)) (a1 : Int) (r1 : Int) (r2 : Int) (r3 : Int) (r4 : Int) (w : World) (hr0 : Kd.C k34 w A0 l0.length l0) (hc0 : l0.length ≤ c0) (h : impl_Table.f k l0 a1 = some (r1, r2, r3, r4)) :
  Calls Try.prog 13 #[.slice A0 l0.length c0, .int .i64 a1] w fun e w' => e = .returned (.agg #[.int .i64 r1, .int .i64 r2, .int .i64 r3, .int .i64 r4]) ∧ Below w.heap.size w w' := by
 have hu30 := Try.underlying30
 have hu34 := Try.underlying34
 have HR0 := Aside0.mk hr0
 have HC0 := Aside0.mk hc0
 clear hr0 hc0
 have HB := Aside0.mk (Below.refl w.heap.size w)
 have H : ((impl_probsOk.f k l0).bind fun t181 => (if t181 = true then (impl_Table.l0 k a1 l0 (l0.length : Int) 0 0 0 0 0) else (some (0, 0, 0, 0)))) = some (r1, r2, r3, r4) := h
 clear h
 replace H := Option.bind_eq_some_iff.mp H
 obtain ⟨t181, A30, H⟩ := H
 replace H : (if t181 = true then (impl_Table.l0 k a1 l0 (l0.length : Int) 0 0 0 0 0) else (some (0, 0, 0, 0))) = some (r1, r2, r3, r4) := H
 have A3 := Aside0.mk A30
 clear A30
 by_cases c4 : t181 = true
 ·subst c4
  have H1 : (impl_Table.l0 k a1 l0 (l0.length : Int) 0 0 0 0 0) = some (r1, r2, r3, r4) := by rw [if_pos rfl] at H; exact H
  clear H
  have H := H1
  clear H1
  have H' := Aside0.mk H
  clear H
  go_enter Try.func13, Try.ntmps13
  go_wp2_with (first | ((with_reducible refine gate_dst (N := 4) rfl ?_); refine box_event ?hg (N := 4) ?hd (cs := #[.int .i64 0, .int .i64 0, .int .i64 0, .int .i64 0]) (t := 30) ?hr ?_; (case hd => rfl); (case hg => rfl); (case hr => first | (go_simp; done) | (go_simp; rfl)); intro gb179 hg w5 hbox hb; have n0_ := Aside0.mk (below_step (by repeat (first | (with_reducible first | exact HB.out | apply below_alloc | apply pw_below_drewN | apply below_drew1) | exact HB.out)) hb); have n1_ := Aside0.mk (hbox); have n2_ := Aside0.mk ((by rw [hg]; exact (below_size (by repeat (first | (with_reducible first | exact HB.out | apply below_alloc | apply pw_below_drewN | apply below_drew1) | exact HB.out))) : w.heap.size ≤ gb179)); have n3_ := Aside0.mk ((by rw [hg]; exact (below_size (by repeat (first | (with_reducible first | exact HB.out | apply below_alloc | apply pw_below_drewN | apply below_drew1) | exact HB.out))) : w.heap.size ≤ gb179)); clear HB; have HB := n0_; have BK179 := n1_; have GW179 := n2_; have GE179 := n3_; clear n0_ n1_ n2_ n3_; clear hb hbox hg) | ((with_reducible refine gate_dst (N := 5) rfl ?_); refine box_event ?hg (N := 5) ?hd (cs := #[.int .i64 0, .int .i64 0, .int .i64 0, .int .i64 0]) (t := 30) ?hr ?_; (case hd => rfl); (case hg => rfl); (case hr => first | (go_simp; done) | (go_simp; rfl)); intro gb180 hg w6 hbox hb; have n0_ := Aside0.mk (blk_below (g := gb179) (o := .cells #[.int .i64 0, .int .i64 0, .int .i64 0, .int .i64 0] 30 (0, 0)) (by (with_reducible repeat (first | refine blk_drewN ?_ _ | refine blk_drew ?_ | refine blk_alloc ?_ _)); exact BK179.out) hb); have n1_ := Aside0.mk (below_step (by repeat (first | (with_reducible first | exact HB.out | apply below_alloc | apply pw_below_drewN | apply below_drew1 | refine below_set ?_ GE179.out) | exact HB.out)) hb); have n2_ := Aside0.mk (hbox); have n3_ := Aside0.mk ((by rw [hg]; exact (below_size (by repeat (first | (with_reducible first | exact HB.out | apply below_alloc | apply pw_below_drewN | apply below_drew1 | refine below_set ?_ GE179.out) | exact HB.out))) : w.heap.size ≤ gb180)); have n4_ := Aside0.mk ((by rw [hg]; exact (below_size (by repeat (first | (with_reducible first | exact HB.out | apply below_alloc | apply pw_below_drewN | apply below_drew1 | refine below_set ?_ GE179.out) | exact HB.out))) : w.heap.size ≤ gb180)); have n5_ := Aside0.mk ((by rw [hg]; exact Nat.ne_of_lt (blk_lt (g := gb179) (o := .cells #[.int .i64 0, .int .i64 0, .int .i64 0, .int .i64 0] 30 (0, 0)) (by (with_reducible repeat (first | refine blk_drewN ?_ _ | refine blk_drew ?_ | refine blk_alloc ?_ _)); exact BK179.out)) : gb179 ≠ gb180)); have n6_ := Aside0.mk ((by rw [hg]; exact Nat.ne_of_gt (blk_lt (g := gb179) (o := .cells #[.int .i64 0, .int .i64 0, .int .i64 0, .int .i64 0] 30 (0, 0)) (by (with_reducible repeat (first | refine blk_drewN ?_ _ | refine blk_drew ?_ | refine blk_alloc ?_ _)); exact BK179.out)) : gb180 ≠ gb179)); clear BK179; clear HB; have BK179 := n0_; have HB := n1_; have BK180 := n2_; have GW180 := n3_; have GE180 := n4_; have NB179_180 := n5_; have NB180_179 := n6_; clear n0_ n1_ n2_ n3_ n4_ n5_ n6_; clear hb hbox hg; have hnb7 := NB180_179.out; have hnc7 := NB179_180.out; have hcz8_0 : w6.cell? ⟨gb180, 0, none⟩ = some (.int .i64 0) := (blk_cell BK180.out 0).trans rfl; have hcz8_1 : w6.cell? ⟨gb180, 1, none⟩ = some (.int .i64 0) := (blk_cell BK180.out 1).trans rfl; have hcz8_2 : w6.cell? ⟨gb180, 2, none⟩ = some (.int .i64 0) := (blk_cell BK180.out 2).trans rfl; have hcz8_3 : w6.cell? ⟨gb180, 3, none⟩ = some (.int .i64 0) := (blk_cell BK180.out 3).trans rfl; have hfz8_0 := blk_frozen BK180.out 0; have hfz8_1 := blk_frozen BK180.out 1; have hfz8_2 := blk_frozen BK180.out 2; have hfz8_3 := blk_frozen BK180.out 3) | ((with_reducible refine gate_callee (f := 42) rfl ?_); refine goesL_ (some 10) rfl rfl Try.func42 (by kernel_rfl) rfl #[.slice A0 l0.length c0] rfl (by (try simp only [List.map_toArray, List.map_cons, List.map_nil]); first | done | rfl | (simp only [List.length_drop, List.length_take]; rfl)) ?_; (with_reducible refine (impl_probsOk.calls k _ _ l0 true _ ?side1 ?side2 A3.out).mono ?_); (case side1 => exact Kd.C_below HR0.out (by repeat (first | (with_reducible first | exact HB.out | apply below_alloc | apply pw_below_drewN | apply below_drew1 | refine below_set ?_ GE179.out | refine below_set ?_ GE180.out) | exact HB.out))); (case side2 => exact HC0.out); rintro e w9 ⟨rfl, hb⟩; refine ⟨_, rfl, ?_⟩; have n0_ := Aside0.mk (blk_below (g := gb179) (o := .cells #[.int .i64 0, .int .i64 0, .int .i64 0, .int .i64 0] 30 (0, 0)) (by (with_reducible repeat (first | refine blk_drewN ?_ _ | refine blk_drew ?_ | refine blk_alloc ?_ _)); refine blk_far ?_ NB179_180.out _; (with_reducible repeat (first | refine blk_drewN ?_ _ | refine blk_drew ?_ | refine blk_alloc ?_ _)); refine blk_far ?_ NB179_180.out _; (with_reducible repeat (first | refine blk_drewN ?_ _ | refine blk_drew ?_ | refine blk_alloc ?_ _)); refine blk_far ?_ NB179_180.out _; (with_reducible repeat (first | refine blk_drewN ?_ _ | refine blk_drew ?_ | refine blk_alloc ?_ _)); refine blk_far ?_ NB179_180.out _; (with_reducible repeat (first | refine blk_drewN ?_ _ | refine blk_drew ?_ | refine blk_alloc ?_ _)); exact BK179.out) hb); have n1_ := Aside0.mk (blk_below (g := gb180) (o := .cells #[.int .i64 0, .int .i64 0, .int .i64 0, .int .i64 0] 30 (0, 0)) (by (with_reducible repeat (first | refine blk_drewN ?_ _ | refine blk_drew ?_ | refine blk_alloc ?_ _)); refine blk_put (cs := #[.int .i64 0, .int .i64 0, .int .i64 0, .int .i64 0]) ?_ 3 _ rfl; (with_reducible repeat (first | refine blk_drewN ?_ _ | refine blk_drew ?_ | refine blk_alloc ?_ _)); refine blk_put (cs := #[.int .i64 0, .int .i64 0, .int .i64 0, .int .i64 0]) ?_ 2 _ rfl; (with_reducible repeat (first | refine blk_drewN ?_ _ | refine blk_drew ?_ | refine blk_alloc ?_ _)); refine blk_put (cs := #[.int .i64 0, .int .i64 0, .int .i64 0, .int .i64 0]) ?_ 1 _ rfl; (with_reducible repeat (first | refine blk_drewN ?_ _ | refine blk_drew ?_ | refine blk_alloc ?_ _)); refine blk_put (cs := #[.int .i64 0, .int .i64 0, .int .i64 0, .int .i64 0]) ?_ 0 _ rfl; (with_reducible repeat (first | refine blk_drewN ?_ _ | refine blk_drew ?_ | refine blk_alloc ?_ _)); exact BK180.out) hb); have n2_ := Aside0.mk (below_step (by repeat (first | (with_reducible first | exact HB.out | apply below_alloc | apply pw_below_drewN | apply below_drew1 | refine below_set ?_ GE179.out | refine below_set ?_ GE180.out) | exact HB.out)) hb); clear BK179; clear BK180; clear HB; have BK179 := n0_; have BK180 := n1_; have HB := n2_; clear n0_ n1_ n2_; (try clear hb); (try clear hb2); (try clear hk); (try clear hi)))
  go_loopg [15] k (fun kq v15 w' => ∃ (x15_1 : Int) (x181000_1 : Int) (x181001_1 : Int) (x181002_1 : Int) (x181003_1 : Int), v15 = .int .i64 x15_1 ∧ Aside0 (impl_Table.l0 kq a1 l0 (l0.length : Int) x15_1 x181000_1 x181001_1 x181002_1 x181003_1 = some (r1, r2, r3, r4)) ∧ Aside0 (kq ≤ k) ∧ Aside0 (w'.heap[gb179]? = some (.cells #[.int .i64 0, .int .i64 0, .int .i64 0, .int .i64 0] 30 (0, 0))) ∧ Aside0 (w'.heap[gb180]? = some (.cells #[.int .i64 x181000_1, .int .i64 x181001_1, .int .i64 x181002_1, .int .i64 x181003_1] 30 (0, 0))) ∧ Aside0 (Below w.heap.size w w'))
  case atStart => exact ⟨(0), (0), (0), (0), (0), (by first | rfl | (simp; done) | (simp [*]; done)), H', ⟨Nat.le_refl _⟩, ⟨by (with_reducible repeat (first | refine blk_drewN ?_ _ | refine blk_drew ?_ | refine blk_alloc ?_ _)); exact BK179.out⟩, ⟨by (with_reducible repeat (first | refine blk_drewN ?_ _ | refine blk_drew ?_ | refine blk_alloc ?_ _)); exact BK180.out⟩, ⟨by repeat (first | (with_reducible first | exact HB.out | apply below_alloc | apply pw_below_drewN | apply below_drew1 | refine below_set ?_ GE179.out | refine below_set ?_ GE180.out) | exact HB.out)⟩⟩
  case round =>
   clear H'
   try clear c1
   try clear p2
   try clear c4
   try clear c7
   try clear hcz8_0
   try clear hcz8_1
   try clear hcz8_2
   try clear hcz8_3
   try clear hfz8_0
   try clear hfz8_1
   try clear hfz8_2
   try clear hfz8_3
   obtain ⟨x15_1, x181000_1, x181001_1, x181002_1, x181003_1, rfl, HA, HK1, BK179, BK180, HB⟩ := hrel
   cases gk with
   | zero => exact absurd HA.out (by simp [impl_Table.l0])
   | succ k1 =>
    have H := HA.out
    clear HA
    simp only [impl_Table.l0] at H
    by_cases c10 : x15_1 < (l0.length : Int)
    ·rw [if_pos c10] at H
     have c10b0 : decide (x15_1 < (l0.length : Int)) = true := decide_eq_true c10
     clear c10
     by_cases c11 : 0 ≤ x15_1
     ·rw [if_pos c11] at H
      have c11b0 : decide (0 ≤ x15_1) = true := decide_eq_true c11
      clear c11
      by_cases c12 : x15_1 < (l0.length : Int)
      ·rw [if_pos c12] at H
       have c12b0 : decide (x15_1 < (l0.length : Int)) = true := decide_eq_true c12
       clear c12
       have HC13 := Aside0.mk H
       clear H
       have p182 : 0 ≤ (x15_1 : Int) := of_decide_eq_true (by first | (with_reducible assumption) | assumption)
       have q182 : x15_1 < (l0.length : Int) := of_decide_eq_true (by first | (with_reducible assumption) | assumption)
       obtain ⟨ad182, e182, hx182_0, hx182_1⟩ := at_T34 HR0.out x15_1 p182 q182
       cases e182
       replace hx182_0 := (HB.out.cell (World.block_lt_of_cell? w _ hx182_0)).trans hx182_0
       replace hx182_1 := (HB.out.cell (World.block_lt_of_cell? w _ hx182_1)).trans hx182_1
       replace p182 := eq_true p182
       replace q182 := eq_true q182
       go_upto_region 8 with (first | ((with_reducible refine gate_dst (N := 7) rfl ?_); refine box_event ?hg (N := 7) ?hd (cs := #[.int .i64 0, .bool false]) (t := 34) ?hr ?_; (case hd => rfl); (case hg => rfl); (case hr => first | (go_simp; done) | (go_simp; rfl)); intro gb183 hg w14 hbox hb; have n0_ := Aside0.mk (blk_below (g := gb179) (o := .cells #[.int .i64 0, .int .i64 0, .int .i64 0, .int .i64 0] 30 (0, 0)) (by (with_reducible repeat (first | refine blk_drewN ?_ _ | refine blk_drew ?_ | refine blk_alloc ?_ _)); exact BK179.out) hb); have n1_ := Aside0.mk (blk_below (g := gb180) (o := .cells #[.int .i64 x181000_1, .int .i64 x181001_1, .int .i64 x181002_1, .int .i64 x181003_1] 30 (0, 0)) (by (with_reducible repeat (first | refine blk_drewN ?_ _ | refine blk_drew ?_ | refine blk_alloc ?_ _)); exact BK180.out) hb); have n2_ := Aside0.mk (below_step (by repeat (first | (with_reducible first | exact HB.out | apply below_alloc | apply pw_below_drewN | apply below_drew1 | refine below_set ?_ GE179.out | refine below_set ?_ GE180.out) | exact HB.out)) hb); have n3_ := Aside0.mk (hbox); have n4_ := Aside0.mk ((by rw [hg]; exact (below_size (by repeat (first | (with_reducible first | exact HB.out | apply below_alloc | apply pw_below_drewN | apply below_drew1 | refine below_set ?_ GE179.out | refine below_set ?_ GE180.out) | exact HB.out))) : w.heap.size ≤ gb183)); have n5_ := Aside0.mk ((by rw [hg]; exact (below_size (by repeat (first | (with_reducible first | exact HB.out | apply below_alloc | apply pw_below_drewN | apply below_drew1 | refine below_set ?_ GE179.out | refine below_set ?_ GE180.out) | exact HB.out))) : w.heap.size ≤ gb183)); have n6_ := Aside0.mk ((by rw [hg]; exact Nat.ne_of_lt (blk_lt (g := gb179) (o := .cells #[.int .i64 0, .int .i64 0, .int .i64 0, .int .i64 0] 30 (0, 0)) (by (with_reducible repeat (first | refine blk_drewN ?_ _ | refine blk_drew ?_ | refine blk_alloc ?_ _)); exact BK179.out)) : gb179 ≠ gb183)); have n7_ := Aside0.mk ((by rw [hg]; exact Nat.ne_of_gt (blk_lt (g := gb179) (o := .cells #[.int .i64 0, .int .i64 0, .int .i64 0, .int .i64 0] 30 (0, 0)) (by (with_reducible repeat (first | refine blk_drewN ?_ _ | refine blk_drew ?_ | refine blk_alloc ?_ _)); exact BK179.out)) : gb183 ≠ gb179)); have n8_ := Aside0.mk ((by rw [hg]; exact Nat.ne_of_lt (blk_lt (g := gb180) (o := .cells #[.int .i64 x181000_1, .int .i64 x181001_1, .int .i64 x181002_1, .int .i64 x181003_1] 30 (0, 0)) (by (with_reducible repeat (first | refine blk_drewN ?_ _ | refine blk_drew ?_ | refine blk_alloc ?_ _)); exact BK180.out)) : gb180 ≠ gb183)); have n9_ := Aside0.mk ((by rw [hg]; exact Nat.ne_of_gt (blk_lt (g := gb180) (o := .cells #[.int .i64 x181000_1, .int .i64 x181001_1, .int .i64 x181002_1, .int .i64 x181003_1] 30 (0, 0)) (by (with_reducible repeat (first | refine blk_drewN ?_ _ | refine blk_drew ?_ | refine blk_alloc ?_ _)); exact BK180.out)) : gb183 ≠ gb180)); clear BK179; clear BK180; clear HB; have BK179 := n0_; have BK180 := n1_; have HB := n2_; have BK183 := n3_; have GW183 := n4_; have GE183 := n5_; have NB179_183 := n6_; have NB183_179 := n7_; have NB180_183 := n8_; have NB183_180 := n9_; clear n0_ n1_ n2_ n3_ n4_ n5_ n6_ n7_ n8_ n9_; clear hb hbox hg; have hnb15 := NB183_179.out; have hnc15 := NB179_183.out; have hnb16 := NB183_180.out; have hnc16 := NB180_183.out; have hcz17_0 : w14.cell? ⟨gb183, 0, none⟩ = some (.int .i64 0) := (blk_cell BK183.out 0).trans rfl; have hcz17_1 : w14.cell? ⟨gb183, 1, none⟩ = some (.bool false) := (blk_cell BK183.out 1).trans rfl; have hfz17_0 := blk_frozen BK183.out 0; have hfz17_1 := blk_frozen BK183.out 1))
       (try simp only [Act.put, sqA, sqZ, sqS])
       go_cut [23] (fun v23 wc => ∃ (kq : Nat) (x23_12 : Bool), v23 = .bool x23_12 ∧ Aside0 (impl_Table.j1 kq a1 l0 (l0.length : Int) x15_1 x23_12 x181000_1 x181001_1 x181002_1 x181003_1 ((rd_T34 l0 x15_1).f0) ((rd_T34 l0 x15_1).f1) = some (r1, r2, r3, r4)) ∧ Aside0 (kq ≤ k1) ∧ Aside0 (wc.heap[gb179]? = some (.cells #[.int .i64 0, .int .i64 0, .int .i64 0, .int .i64 0] 30 (0, 0))) ∧ Aside0 (wc.heap[gb180]? = some (.cells #[.int .i64 x181000_1, .int .i64 x181001_1, .int .i64 x181002_1, .int .i64 x181003_1] 30 (0, 0))) ∧ Aside0 (wc.heap[gb183]? = some (.cells #[.int .i64 ((rd_T34 l0 x15_1).f0), .bool ((rd_T34 l0 x15_1).f1)] 34 (0, 0))) ∧ Aside0 (Below w.heap.size w wc))
       case first =>
        have H := HC13.out
        clear HC13
        by_cases c18 : ((rd_T34 l0 x15_1).f0) ≥ a1
        ·rw [if_pos c18] at H
         have c18b0 : decide (a1 ≤ ((rd_T34 l0 x15_1).f0)) = true := decide_eq_true c18
         clear c18
         (first | rw [c18b0] | (simp only [i64_w, i32_w]; rw [c18b0]) | skip)
         have H' := Aside0.mk H
         clear H
         have hnb19 := NB183_179.out
         have hnc19 := NB179_183.out
         have hnb20 := NB183_180.out
         have hnc20 := NB180_183.out
         have hcz21_0 : w14.cell? ⟨gb183, 0, none⟩ = some (.int .i64 0) := (blk_cell BK183.out 0).trans rfl
         have hcz21_1 : w14.cell? ⟨gb183, 1, none⟩ = some (.bool false) := (blk_cell BK183.out 1).trans rfl
         have hfz21_0 := blk_frozen BK183.out 0
         have hfz21_1 := blk_frozen BK183.out 1
         go_wp2
         go_meet
         case rel => exact ⟨_, ((rd_T34 l0 x15_1).f1), (by first | rfl | (simp; done) | (simp [*]; done)), H', ⟨by have := HK1.out; first | omega | exact Nat.le_refl _⟩, ⟨by (with_reducible repeat (first | refine blk_drewN ?_ _ | refine blk_drew ?_ | refine blk_alloc ?_ _)); refine blk_far ?_ NB179_183.out _; (with_reducible repeat (first | refine blk_drewN ?_ _ | refine blk_drew ?_ | refine blk_alloc ?_ _)); refine blk_far ?_ NB179_183.out _; (with_reducible repeat (first | refine blk_drewN ?_ _ | refine blk_drew ?_ | refine blk_alloc ?_ _)); exact BK179.out⟩, ⟨by (with_reducible repeat (first | refine blk_drewN ?_ _ | refine blk_drew ?_ | refine blk_alloc ?_ _)); refine blk_far ?_ NB180_183.out _; (with_reducible repeat (first | refine blk_drewN ?_ _ | refine blk_drew ?_ | refine blk_alloc ?_ _)); refine blk_far ?_ NB180_183.out _; (with_reducible repeat (first | refine blk_drewN ?_ _ | refine blk_drew ?_ | refine blk_alloc ?_ _)); exact BK180.out⟩, ⟨by (with_reducible repeat (first | refine blk_drewN ?_ _ | refine blk_drew ?_ | refine blk_alloc ?_ _)); refine blk_put (cs := #[.int .i64 ((rd_T34 l0 x15_1).f0), .bool false]) ?_ 1 _ rfl; (with_reducible repeat (first | refine blk_drewN ?_ _ | refine blk_drew ?_ | refine blk_alloc ?_ _)); refine blk_put (cs := #[.int .i64 0, .bool false]) ?_ 0 _ rfl; (with_reducible repeat (first | refine blk_drewN ?_ _ | refine blk_drew ?_ | refine blk_alloc ?_ _)); exact BK183.out⟩, ⟨by repeat (first | (with_reducible first | exact HB.out | apply below_alloc | apply pw_below_drewN | apply below_drew1 | refine below_set ?_ GE179.out | refine below_set ?_ GE180.out | refine below_set ?_ GE183.out) | exact HB.out)⟩⟩
        ·rw [if_neg c18] at H
         have c18b0 : decide (a1 ≤ ((rd_T34 l0 x15_1).f0)) = false := decide_eq_false c18
         clear c18
         (first | rw [c18b0] | (simp only [i64_w, i32_w]; rw [c18b0]) | skip)
         have H' := Aside0.mk H
         clear H
         have hnb22 := NB183_179.out
         have hnc22 := NB179_183.out
         have hnb23 := NB183_180.out
         have hnc23 := NB180_183.out
         have hcz24_0 : w14.cell? ⟨gb183, 0, none⟩ = some (.int .i64 0) := (blk_cell BK183.out 0).trans rfl
         have hcz24_1 : w14.cell? ⟨gb183, 1, none⟩ = some (.bool false) := (blk_cell BK183.out 1).trans rfl
         have hfz24_0 := blk_frozen BK183.out 0
         have hfz24_1 := blk_frozen BK183.out 1
         go_wp2
         go_meet
         case rel => exact ⟨_, (false), (by first | rfl | (simp; done) | (simp [*]; done)), H', ⟨by have := HK1.out; first | omega | exact Nat.le_refl _⟩, ⟨by (with_reducible repeat (first | refine blk_drewN ?_ _ | refine blk_drew ?_ | refine blk_alloc ?_ _)); refine blk_far ?_ NB179_183.out _; (with_reducible repeat (first | refine blk_drewN ?_ _ | refine blk_drew ?_ | refine blk_alloc ?_ _)); refine blk_far ?_ NB179_183.out _; (with_reducible repeat (first | refine blk_drewN ?_ _ | refine blk_drew ?_ | refine blk_alloc ?_ _)); exact BK179.out⟩, ⟨by (with_reducible repeat (first | refine blk_drewN ?_ _ | refine blk_drew ?_ | refine blk_alloc ?_ _)); refine blk_far ?_ NB180_183.out _; (with_reducible repeat (first | refine blk_drewN ?_ _ | refine blk_drew ?_ | refine blk_alloc ?_ _)); refine blk_far ?_ NB180_183.out _; (with_reducible repeat (first | refine blk_drewN ?_ _ | refine blk_drew ?_ | refine blk_alloc ?_ _)); exact BK180.out⟩, ⟨by (with_reducible repeat (first | refine blk_drewN ?_ _ | refine blk_drew ?_ | refine blk_alloc ?_ _)); refine blk_put (cs := #[.int .i64 ((rd_T34 l0 x15_1).f0), .bool false]) ?_ 1 _ rfl; (with_reducible repeat (first | refine blk_drewN ?_ _ | refine blk_drew ?_ | refine blk_alloc ?_ _)); refine blk_put (cs := #[.int .i64 0, .bool false]) ?_ 0 _ rfl; (with_reducible repeat (first | refine blk_drewN ?_ _ | refine blk_drew ?_ | refine blk_alloc ?_ _)); exact BK183.out⟩, ⟨by repeat (first | (with_reducible first | exact HB.out | apply below_alloc | apply pw_below_drewN | apply below_drew1 | refine below_set ?_ GE179.out | refine below_set ?_ GE180.out | refine below_set ?_ GE183.out) | exact HB.out)⟩⟩
       case rest =>
        clear HC13
        try clear c1
        try clear p1
        try clear q1
        try clear hx1
        try clear c2
        try clear p2
        try clear c4
        try clear c7
        try clear c10
        try clear c10b0
        try clear c11
        try clear c11b0
        try clear c12
        try clear c12b0
        try clear c13
        try clear c15
        try clear c16
        try clear c18
        try clear c18b0
        try clear p18
        try clear q18
        try clear hx18
        try clear c19
        try clear c20
        try clear c22
        try clear c23
        try clear hcz17_0
        try clear hcz17_1
        try clear hcz21_0
        try clear hcz21_1
        try clear hcz24_0
        try clear hcz24_1
        try clear hcz8_0
        try clear hcz8_1
        try clear hcz8_2
        try clear hcz8_3
        try clear hfz17_0
        try clear hfz17_1
        try clear hfz21_0
        try clear hfz21_1
        try clear hfz24_0
        try clear hfz24_1
        try clear hfz8_0
        try clear hfz8_1
        try clear hfz8_2
        try clear hfz8_3
        try clear hx182_0
        try clear hx182_1
        try clear p182
        try clear p2
        try clear q182
        obtain ⟨kq, x23_12, rfl, HA, HJ12, BK179, BK180, BK183, HB⟩ := hcut
        cases kq with
        | zero => exact absurd HA.out (by simp [impl_Table.j1])
        | succ kj12 =>
         have H := HA.out
         clear HA
         simp only [impl_Table.j1] at H
         by_cases c25 : x23_12 = true
         ·subst c25
          have H1 : (impl_Table.l0 kj12 a1 l0 (l0.length : Int) (wrap64 (x15_1 + 1)) (wrap64 (x181000_1 + 1)) x181001_1 x181002_1 x181003_1) = some (r1, r2, r3, r4) := by rw [if_pos rfl] at H; exact H
          clear H
          have H := H1
          clear H1
          have H' := Aside0.mk H
          clear H
          have hnb26 := NB180_179.out
          have hnc26 := NB179_180.out
          have hnb27 := NB180_183.out
          have hnc27 := NB183_180.out
          have hcz28_0 : wc.cell? ⟨gb180, 0, none⟩ = some (.int .i64 x181000_1) := (blk_cell BK180.out 0).trans rfl
          have hcz28_1 : wc.cell? ⟨gb180, 1, none⟩ = some (.int .i64 x181001_1) := (blk_cell BK180.out 1).trans rfl
          have hcz28_2 : wc.cell? ⟨gb180, 2, none⟩ = some (.int .i64 x181002_1) := (blk_cell BK180.out 2).trans rfl
          have hcz28_3 : wc.cell? ⟨gb180, 3, none⟩ = some (.int .i64 x181003_1) := (blk_cell BK180.out 3).trans rfl
          have hfz28_0 := blk_frozen BK180.out 0
          have hfz28_1 := blk_frozen BK180.out 1
          have hfz28_2 := blk_frozen BK180.out 2
          have hfz28_3 := blk_frozen BK180.out 3
          go_wp2
          go_roundg kj12
          case measure => have := HK1.out; have := HJ12.out; omega
          case rel => exact ⟨(wrap64 (x15_1 + 1)), (wrap64 (x181000_1 + 1)), (x181001_1), (x181002_1), (x181003_1), (by first | rfl | (simp; done) | (simp [*]; done)), H', ⟨by have := HK1.out; have := HJ12.out; omega⟩, ⟨by (with_reducible repeat (first | refine blk_drewN ?_ _ | refine blk_drew ?_ | refine blk_alloc ?_ _)); refine blk_far ?_ NB179_180.out _; (with_reducible repeat (first | refine blk_drewN ?_ _ | refine blk_drew ?_ | refine blk_alloc ?_ _)); exact BK179.out⟩, ⟨by (with_reducible repeat (first | refine blk_drewN ?_ _ | refine blk_drew ?_ | refine blk_alloc ?_ _)); refine blk_put (cs := #[.int .i64 x181000_1, .int .i64 x181001_1, .int .i64 x181002_1, .int .i64 x181003_1]) ?_ 0 _ rfl; (with_reducible repeat (first | refine blk_drewN ?_ _ | refine blk_drew ?_ | refine blk_alloc ?_ _)); exact BK180.out⟩, ⟨by repeat (first | (with_reducible first | exact HB.out | apply below_alloc | apply pw_below_drewN | apply below_drew1 | refine below_set ?_ GE179.out | refine below_set ?_ GE180.out | refine below_set ?_ GE183.out) | exact HB.out)⟩⟩
         ·replace c25 := Bool.eq_false_iff.mpr c25
          subst c25
          have H1 : (if ((rd_T34 l0 x15_1).f1) = true then (impl_Table.l0 kj12 a1 l0 (l0.length : Int) (wrap64 (x15_1 + 1)) x181000_1 (wrap64 (x181001_1 + 1)) x181002_1 x181003_1) else (if ((rd_T34 l0 x15_1).f0) ≥ a1 then (impl_Table.l0 kj12 a1 l0 (l0.length : Int) (wrap64 (x15_1 + 1)) x181000_1 x181001_1 (wrap64 (x181002_1 + 1)) x181003_1) else (impl_Table.l0 kj12 a1 l0 (l0.length : Int) (wrap64 (x15_1 + 1)) x181000_1 x181001_1 x181002_1 (wrap64 (x181003_1 + 1))))) = some (r1, r2, r3, r4) := by rw [if_neg (show ¬ (false = true) by decide)] at H; exact H
          clear H
          have H := H1
          clear H1
          by_cases c29 : ((rd_T34 l0 x15_1).f1) = true
          ·rw [if_pos c29] at H
           have c29b0 : ((rd_T34 l0 x15_1).f1) = true := c29
           clear c29
           have H' := Aside0.mk H
           clear H
           have hnb30 := NB183_179.out
           have hnc30 := NB179_183.out
           have hnb31 := NB183_180.out
           have hnc31 := NB180_183.out
           have hcz32_0 : wc.cell? ⟨gb183, 0, none⟩ = some (.int .i64 ((rd_T34 l0 x15_1).f0)) := (blk_cell BK183.out 0).trans rfl
           have hcz32_1 : wc.cell? ⟨gb183, 1, none⟩ = some (.bool ((rd_T34 l0 x15_1).f1)) := (blk_cell BK183.out 1).trans rfl
           have hfz32_0 := blk_frozen BK183.out 0
           have hfz32_1 := blk_frozen BK183.out 1
           have hnb33 := NB180_179.out
           have hnc33 := NB179_180.out
           have hcz34_0 : wc.cell? ⟨gb180, 0, none⟩ = some (.int .i64 x181000_1) := (blk_cell BK180.out 0).trans rfl
           have hcz34_1 : wc.cell? ⟨gb180, 1, none⟩ = some (.int .i64 x181001_1) := (blk_cell BK180.out 1).trans rfl
           have hcz34_2 : wc.cell? ⟨gb180, 2, none⟩ = some (.int .i64 x181002_1) := (blk_cell BK180.out 2).trans rfl
           have hcz34_3 : wc.cell? ⟨gb180, 3, none⟩ = some (.int .i64 x181003_1) := (blk_cell BK180.out 3).trans rfl
           have hfz34_0 := blk_frozen BK180.out 0
           have hfz34_1 := blk_frozen BK180.out 1
           have hfz34_2 := blk_frozen BK180.out 2
           have hfz34_3 := blk_frozen BK180.out 3
           go_wp2
           go_roundg kj12
           case measure => have := HK1.out; have := HJ12.out; omega
           case rel => exact ⟨(wrap64 (x15_1 + 1)), (x181000_1), (wrap64 (x181001_1 + 1)), (x181002_1), (x181003_1), (by first | rfl | (simp; done) | (simp [*]; done)), H', ⟨by have := HK1.out; have := HJ12.out; omega⟩, ⟨by (with_reducible repeat (first | refine blk_drewN ?_ _ | refine blk_drew ?_ | refine blk_alloc ?_ _)); refine blk_far ?_ NB179_180.out _; (with_reducible repeat (first | refine blk_drewN ?_ _ | refine blk_drew ?_ | refine blk_alloc ?_ _)); exact BK179.out⟩, ⟨by (with_reducible repeat (first | refine blk_drewN ?_ _ | refine blk_drew ?_ | refine blk_alloc ?_ _)); refine blk_put (cs := #[.int .i64 x181000_1, .int .i64 x181001_1, .int .i64 x181002_1, .int .i64 x181003_1]) ?_ 1 _ rfl; (with_reducible repeat (first | refine blk_drewN ?_ _ | refine blk_drew ?_ | refine blk_alloc ?_ _)); exact BK180.out⟩, ⟨by repeat (first | (with_reducible first | exact HB.out | apply below_alloc | apply pw_below_drewN | apply below_drew1 | refine below_set ?_ GE179.out | refine below_set ?_ GE180.out | refine below_set ?_ GE183.out) | exact HB.out)⟩⟩
          ·rw [if_neg c29] at H
           have c29b0 : ((rd_T34 l0 x15_1).f1) = false := by simpa using c29
           clear c29
           by_cases c35 : ((rd_T34 l0 x15_1).f0) ≥ a1
           ·rw [if_pos c35] at H
            have c35b0 : decide (a1 ≤ ((rd_T34 l0 x15_1).f0)) = true := decide_eq_true c35
            clear c35
            have H' := Aside0.mk H
            clear H
            have hnb36 := NB183_179.out
            have hnc36 := NB179_183.out
            have hnb37 := NB183_180.out
            have hnc37 := NB180_183.out
            have hcz38_0 : wc.cell? ⟨gb183, 0, none⟩ = some (.int .i64 ((rd_T34 l0 x15_1).f0)) := (blk_cell BK183.out 0).trans rfl
            have hcz38_1 : wc.cell? ⟨gb183, 1, none⟩ = some (.bool ((rd_T34 l0 x15_1).f1)) := (blk_cell BK183.out 1).trans rfl
            have hfz38_0 := blk_frozen BK183.out 0
            have hfz38_1 := blk_frozen BK183.out 1
            have hnb39 := NB180_179.out
            have hnc39 := NB179_180.out
            have hcz40_0 : wc.cell? ⟨gb180, 0, none⟩ = some (.int .i64 x181000_1) := (blk_cell BK180.out 0).trans rfl
            have hcz40_1 : wc.cell? ⟨gb180, 1, none⟩ = some (.int .i64 x181001_1) := (blk_cell BK180.out 1).trans rfl
            have hcz40_2 : wc.cell? ⟨gb180, 2, none⟩ = some (.int .i64 x181002_1) := (blk_cell BK180.out 2).trans rfl
            have hcz40_3 : wc.cell? ⟨gb180, 3, none⟩ = some (.int .i64 x181003_1) := (blk_cell BK180.out 3).trans rfl
            have hfz40_0 := blk_frozen BK180.out 0
            have hfz40_1 := blk_frozen BK180.out 1
            have hfz40_2 := blk_frozen BK180.out 2
            have hfz40_3 := blk_frozen BK180.out 3
            go_wp2
            go_roundg kj12
            case measure => have := HK1.out; have := HJ12.out; omega
            case rel => exact ⟨(wrap64 (x15_1 + 1)), (x181000_1), (x181001_1), (wrap64 (x181002_1 + 1)), (x181003_1), (by first | rfl | (simp; done) | (simp [*]; done)), H', ⟨by have := HK1.out; have := HJ12.out; omega⟩, ⟨by (with_reducible repeat (first | refine blk_drewN ?_ _ | refine blk_drew ?_ | refine blk_alloc ?_ _)); refine blk_far ?_ NB179_180.out _; (with_reducible repeat (first | refine blk_drewN ?_ _ | refine blk_drew ?_ | refine blk_alloc ?_ _)); exact BK179.out⟩, ⟨by (with_reducible repeat (first | refine blk_drewN ?_ _ | refine blk_drew ?_ | refine blk_alloc ?_ _)); refine blk_put (cs := #[.int .i64 x181000_1, .int .i64 x181001_1, .int .i64 x181002_1, .int .i64 x181003_1]) ?_ 2 _ rfl; (with_reducible repeat (first | refine blk_drewN ?_ _ | refine blk_drew ?_ | refine blk_alloc ?_ _)); exact BK180.out⟩, ⟨by repeat (first | (with_reducible first | exact HB.out | apply below_alloc | apply pw_below_drewN | apply below_drew1 | refine below_set ?_ GE179.out | refine below_set ?_ GE180.out | refine below_set ?_ GE183.out) | exact HB.out)⟩⟩
           ·rw [if_neg c35] at H
            have c35b0 : decide (a1 ≤ ((rd_T34 l0 x15_1).f0)) = false := decide_eq_false c35
            clear c35
            have H' := Aside0.mk H
            clear H
            have hnb41 := NB183_179.out
            have hnc41 := NB179_183.out
            have hnb42 := NB183_180.out
            have hnc42 := NB180_183.out
            have hcz43_0 : wc.cell? ⟨gb183, 0, none⟩ = some (.int .i64 ((rd_T34 l0 x15_1).f0)) := (blk_cell BK183.out 0).trans rfl
            have hcz43_1 : wc.cell? ⟨gb183, 1, none⟩ = some (.bool ((rd_T34 l0 x15_1).f1)) := (blk_cell BK183.out 1).trans rfl
            have hfz43_0 := blk_frozen BK183.out 0
            have hfz43_1 := blk_frozen BK183.out 1
            have hnb44 := NB180_179.out
            have hnc44 := NB179_180.out
            have hcz45_0 : wc.cell? ⟨gb180, 0, none⟩ = some (.int .i64 x181000_1) := (blk_cell BK180.out 0).trans rfl
            have hcz45_1 : wc.cell? ⟨gb180, 1, none⟩ = some (.int .i64 x181001_1) := (blk_cell BK180.out 1).trans rfl
            have hcz45_2 : wc.cell? ⟨gb180, 2, none⟩ = some (.int .i64 x181002_1) := (blk_cell BK180.out 2).trans rfl
            have hcz45_3 : wc.cell? ⟨gb180, 3, none⟩ = some (.int .i64 x181003_1) := (blk_cell BK180.out 3).trans rfl
            have hfz45_0 := blk_frozen BK180.out 0
            have hfz45_1 := blk_frozen BK180.out 1
            have hfz45_2 := blk_frozen BK180.out 2
            have hfz45_3 := blk_frozen BK180.out 3
            go_wp2
            go_roundg kj12
            case measure => have := HK1.out; have := HJ12.out; omega
            case rel => exact ⟨(wrap64 (x15_1 + 1)), (x181000_1), (x181001_1), (x181002_1), (wrap64 (x181003_1 + 1)), (by first | rfl | (simp; done) | (simp [*]; done)), H', ⟨by have := HK1.out; have := HJ12.out; omega⟩, ⟨by (with_reducible repeat (first | refine blk_drewN ?_ _ | refine blk_drew ?_ | refine blk_alloc ?_ _)); refine blk_far ?_ NB179_180.out _; (with_reducible repeat (first | refine blk_drewN ?_ _ | refine blk_drew ?_ | refine blk_alloc ?_ _)); exact BK179.out⟩, ⟨by (with_reducible repeat (first | refine blk_drewN ?_ _ | refine blk_drew ?_ | refine blk_alloc ?_ _)); refine blk_put (cs := #[.int .i64 x181000_1, .int .i64 x181001_1, .int .i64 x181002_1, .int .i64 x181003_1]) ?_ 3 _ rfl; (with_reducible repeat (first | refine blk_drewN ?_ _ | refine blk_drew ?_ | refine blk_alloc ?_ _)); exact BK180.out⟩, ⟨by repeat (first | (with_reducible first | exact HB.out | apply below_alloc | apply pw_below_drewN | apply below_drew1 | refine below_set ?_ GE179.out | refine below_set ?_ GE180.out | refine below_set ?_ GE183.out) | exact HB.out)⟩⟩
      ·rw [if_neg c12] at H
       exact absurd H (by simp)
     ·rw [if_neg c11] at H
      exact absurd H (by simp)
    ·rw [if_neg c10] at H
     have c10b0 : decide (x15_1 < (l0.length : Int)) = false := decide_eq_false c10
     clear c10
     simp only [Option.some.injEq, Prod.mk.injEq] at H
     obtain ⟨rfl, rfl, rfl, rfl⟩ := H
     have hnb46 := NB180_179.out
     have hnc46 := NB179_180.out
     have hcz47_0 : wr.cell? ⟨gb180, 0, none⟩ = some (.int .i64 x181000_1) := (blk_cell BK180.out 0).trans rfl
     have hcz47_1 : wr.cell? ⟨gb180, 1, none⟩ = some (.int .i64 x181001_1) := (blk_cell BK180.out 1).trans rfl
     have hcz47_2 : wr.cell? ⟨gb180, 2, none⟩ = some (.int .i64 x181002_1) := (blk_cell BK180.out 2).trans rfl
     have hcz47_3 : wr.cell? ⟨gb180, 3, none⟩ = some (.int .i64 x181003_1) := (blk_cell BK180.out 3).trans rfl
     have hfz47_0 := blk_frozen BK180.out 0
     have hfz47_1 := blk_frozen BK180.out 1
     have hfz47_2 := blk_frozen BK180.out 2
     have hfz47_3 := blk_frozen BK180.out 3
     have hcz48_0 : wr.cell? ⟨gb179, 0, none⟩ = some (.int .i64 0) := (blk_cell BK179.out 0).trans rfl
     have hcz48_1 : wr.cell? ⟨gb179, 1, none⟩ = some (.int .i64 0) := (blk_cell BK179.out 1).trans rfl
     have hcz48_2 : wr.cell? ⟨gb179, 2, none⟩ = some (.int .i64 0) := (blk_cell BK179.out 2).trans rfl
     have hcz48_3 : wr.cell? ⟨gb179, 3, none⟩ = some (.int .i64 0) := (blk_cell BK179.out 3).trans rfl
     have hfz48_0 := blk_frozen BK179.out 0
     have hfz48_1 := blk_frozen BK179.out 1
     have hfz48_2 := blk_frozen BK179.out 2
     have hfz48_3 := blk_frozen BK179.out 3
     go_wp2
     refine bodyPost_ret (results_cell_row rfl _ _ gb179 30 #[.int .i64 x181000_1, .int .i64 x181001_1, .int .i64 x181002_1, .int .i64 x181003_1] (0, 0) _ rfl (by (with_reducible repeat (first | refine blk_drewN ?_ _ | refine blk_drew ?_ | refine blk_alloc ?_ _)); refine blk_put (cs := #[.int .i64 x181000_1, .int .i64 x181001_1, .int .i64 x181002_1, .int .i64 0]) ?_ 3 _ rfl; (with_reducible repeat (first | refine blk_drewN ?_ _ | refine blk_drew ?_ | refine blk_alloc ?_ _)); refine blk_put (cs := #[.int .i64 x181000_1, .int .i64 x181001_1, .int .i64 0, .int .i64 0]) ?_ 2 _ rfl; (with_reducible repeat (first | refine blk_drewN ?_ _ | refine blk_drew ?_ | refine blk_alloc ?_ _)); refine blk_put (cs := #[.int .i64 x181000_1, .int .i64 0, .int .i64 0, .int .i64 0]) ?_ 1 _ rfl; (with_reducible repeat (first | refine blk_drewN ?_ _ | refine blk_drew ?_ | refine blk_alloc ?_ _)); refine blk_put (cs := #[.int .i64 0, .int .i64 0, .int .i64 0, .int .i64 0]) ?_ 0 _ rfl; (with_reducible repeat (first | refine blk_drewN ?_ _ | refine blk_drew ?_ | refine blk_alloc ?_ _)); exact BK179.out) Try.underlying30 rfl (by kernel_rfl)) rfl ?_
     exact ⟨by first | rfl | (simp [errW_none, errW_some] <;> rfl) | (simp [*, errW_none, errW_some] <;> rfl), by repeat (first | (with_reducible first | exact HB.out | apply below_alloc | apply pw_below_drewN | apply below_drew1 | refine below_set ?_ GE179.out | refine below_set ?_ GE180.out) | exact HB.out)⟩
 ·replace c4 := Bool.eq_false_iff.mpr c4
  subst c4
  have H1 : (some (0, 0, 0, 0)) = some (r1, r2, r3, r4) := by rw [if_neg (show ¬ (false = true) by decide)] at H; exact H
  clear H
  have H := H1
  clear H1
  simp only [Option.some.injEq, Prod.mk.injEq] at H
  obtain ⟨rfl, rfl, rfl, rfl⟩ := H
  go_enter Try.func13, Try.ntmps13
  go_wp2_with (first | ((with_reducible refine gate_dst (N := 4) rfl ?_); refine box_event ?hg (N := 4) ?hd (cs := #[.int .i64 0, .int .i64 0, .int .i64 0, .int .i64 0]) (t := 30) ?hr ?_; (case hd => rfl); (case hg => rfl); (case hr => first | (go_simp; done) | (go_simp; rfl)); intro gb179 hg w49 hbox hb; have n0_ := Aside0.mk (below_step (by repeat (first | (with_reducible first | exact HB.out | apply below_alloc | apply pw_below_drewN | apply below_drew1) | exact HB.out)) hb); have n1_ := Aside0.mk (hbox); have n2_ := Aside0.mk ((by rw [hg]; exact (below_size (by repeat (first | (with_reducible first | exact HB.out | apply below_alloc | apply pw_below_drewN | apply below_drew1) | exact HB.out))) : w.heap.size ≤ gb179)); have n3_ := Aside0.mk ((by rw [hg]; exact (below_size (by repeat (first | (with_reducible first | exact HB.out | apply below_alloc | apply pw_below_drewN | apply below_drew1) | exact HB.out))) : w.heap.size ≤ gb179)); clear HB; have HB := n0_; have BK179 := n1_; have GW179 := n2_; have GE179 := n3_; clear n0_ n1_ n2_ n3_; clear hb hbox hg) | ((with_reducible refine gate_dst (N := 5) rfl ?_); refine box_event ?hg (N := 5) ?hd (cs := #[.int .i64 0, .int .i64 0, .int .i64 0, .int .i64 0]) (t := 30) ?hr ?_; (case hd => rfl); (case hg => rfl); (case hr => first | (go_simp; done) | (go_simp; rfl)); intro gb180 hg w50 hbox hb; have n0_ := Aside0.mk (blk_below (g := gb179) (o := .cells #[.int .i64 0, .int .i64 0, .int .i64 0, .int .i64 0] 30 (0, 0)) (by (with_reducible repeat (first | refine blk_drewN ?_ _ | refine blk_drew ?_ | refine blk_alloc ?_ _)); exact BK179.out) hb); have n1_ := Aside0.mk (below_step (by repeat (first | (with_reducible first | exact HB.out | apply below_alloc | apply pw_below_drewN | apply below_drew1 | refine below_set ?_ GE179.out) | exact HB.out)) hb); have n2_ := Aside0.mk (hbox); have n3_ := Aside0.mk ((by rw [hg]; exact (below_size (by repeat (first | (with_reducible first | exact HB.out | apply below_alloc | apply pw_below_drewN | apply below_drew1 | refine below_set ?_ GE179.out) | exact HB.out))) : w.heap.size ≤ gb180)); have n4_ := Aside0.mk ((by rw [hg]; exact (below_size (by repeat (first | (with_reducible first | exact HB.out | apply below_alloc | apply pw_below_drewN | apply below_drew1 | refine below_set ?_ GE179.out) | exact HB.out))) : w.heap.size ≤ gb180)); have n5_ := Aside0.mk ((by rw [hg]; exact Nat.ne_of_lt (blk_lt (g := gb179) (o := .cells #[.int .i64 0, .int .i64 0, .int .i64 0, .int .i64 0] 30 (0, 0)) (by (with_reducible repeat (first | refine blk_drewN ?_ _ | refine blk_drew ?_ | refine blk_alloc ?_ _)); exact BK179.out)) : gb179 ≠ gb180)); have n6_ := Aside0.mk ((by rw [hg]; exact Nat.ne_of_gt (blk_lt (g := gb179) (o := .cells #[.int .i64 0, .int .i64 0, .int .i64 0, .int .i64 0] 30 (0, 0)) (by (with_reducible repeat (first | refine blk_drewN ?_ _ | refine blk_drew ?_ | refine blk_alloc ?_ _)); exact BK179.out)) : gb180 ≠ gb179)); clear BK179; clear HB; have BK179 := n0_; have HB := n1_; have BK180 := n2_; have GW180 := n3_; have GE180 := n4_; have NB179_180 := n5_; have NB180_179 := n6_; clear n0_ n1_ n2_ n3_ n4_ n5_ n6_; clear hb hbox hg; have hnb51 := NB180_179.out; have hnc51 := NB179_180.out; have hcz52_0 : w50.cell? ⟨gb180, 0, none⟩ = some (.int .i64 0) := (blk_cell BK180.out 0).trans rfl; have hcz52_1 : w50.cell? ⟨gb180, 1, none⟩ = some (.int .i64 0) := (blk_cell BK180.out 1).trans rfl; have hcz52_2 : w50.cell? ⟨gb180, 2, none⟩ = some (.int .i64 0) := (blk_cell BK180.out 2).trans rfl; have hcz52_3 : w50.cell? ⟨gb180, 3, none⟩ = some (.int .i64 0) := (blk_cell BK180.out 3).trans rfl; have hfz52_0 := blk_frozen BK180.out 0; have hfz52_1 := blk_frozen BK180.out 1; have hfz52_2 := blk_frozen BK180.out 2; have hfz52_3 := blk_frozen BK180.out 3) | ((with_reducible refine gate_callee (f := 42) rfl ?_); refine goesL_ (some 10) rfl rfl Try.func42 (by kernel_rfl) rfl #[.slice A0 l0.length c0] rfl (by (try simp only [List.map_toArray, List.map_cons, List.map_nil]); first | done | rfl | (simp only [List.length_drop, List.length_take]; rfl)) ?_; (with_reducible refine (impl_probsOk.calls k _ _ l0 false _ ?side1 ?side2 A3.out).mono ?_); (case side1 => exact Kd.C_below HR0.out (by repeat (first | (with_reducible first | exact HB.out | apply below_alloc | apply pw_below_drewN | apply below_drew1 | refine below_set ?_ GE179.out | refine below_set ?_ GE180.out) | exact HB.out))); (case side2 => exact HC0.out); rintro e w53 ⟨rfl, hb⟩; refine ⟨_, rfl, ?_⟩; have n0_ := Aside0.mk (blk_below (g := gb179) (o := .cells #[.int .i64 0, .int .i64 0, .int .i64 0, .int .i64 0] 30 (0, 0)) (by (with_reducible repeat (first | refine blk_drewN ?_ _ | refine blk_drew ?_ | refine blk_alloc ?_ _)); refine blk_far ?_ NB179_180.out _; (with_reducible repeat (first | refine blk_drewN ?_ _ | refine blk_drew ?_ | refine blk_alloc ?_ _)); refine blk_far ?_ NB179_180.out _; (with_reducible repeat (first | refine blk_drewN ?_ _ | refine blk_drew ?_ | refine blk_alloc ?_ _)); refine blk_far ?_ NB179_180.out _; (with_reducible repeat (first | refine blk_drewN ?_ _ | refine blk_drew ?_ | refine blk_alloc ?_ _)); refine blk_far ?_ NB179_180.out _; (with_reducible repeat (first | refine blk_drewN ?_ _ | refine blk_drew ?_ | refine blk_alloc ?_ _)); exact BK179.out) hb); have n1_ := Aside0.mk (blk_below (g := gb180) (o := .cells #[.int .i64 0, .int .i64 0, .int .i64 0, .int .i64 0] 30 (0, 0)) (by (with_reducible repeat (first | refine blk_drewN ?_ _ | refine blk_drew ?_ | refine blk_alloc ?_ _)); refine blk_put (cs := #[.int .i64 0, .int .i64 0, .int .i64 0, .int .i64 0]) ?_ 3 _ rfl; (with_reducible repeat (first | refine blk_drewN ?_ _ | refine blk_drew ?_ | refine blk_alloc ?_ _)); refine blk_put (cs := #[.int .i64 0, .int .i64 0, .int .i64 0, .int .i64 0]) ?_ 2 _ rfl; (with_reducible repeat (first | refine blk_drewN ?_ _ | refine blk_drew ?_ | refine blk_alloc ?_ _)); refine blk_put (cs := #[.int .i64 0, .int .i64 0, .int .i64 0, .int .i64 0]) ?_ 1 _ rfl; (with_reducible repeat (first | refine blk_drewN ?_ _ | refine blk_drew ?_ | refine blk_alloc ?_ _)); refine blk_put (cs := #[.int .i64 0, .int .i64 0, .int .i64 0, .int .i64 0]) ?_ 0 _ rfl; (with_reducible repeat (first | refine blk_drewN ?_ _ | refine blk_drew ?_ | refine blk_alloc ?_ _)); exact BK180.out) hb); have n2_ := Aside0.mk (below_step (by repeat (first | (with_reducible first | exact HB.out | apply below_alloc | apply pw_below_drewN | apply below_drew1 | refine below_set ?_ GE179.out | refine below_set ?_ GE180.out) | exact HB.out)) hb); clear BK179; clear BK180; clear HB; have BK179 := n0_; have BK180 := n1_; have HB := n2_; clear n0_ n1_ n2_; (try clear hb); (try clear hb2); (try clear hk); (try clear hi); have hcz54_0 : w53.cell? ⟨gb180, 0, none⟩ = some (.int .i64 0) := (blk_cell BK180.out 0).trans rfl; have hcz54_1 : w53.cell? ⟨gb180, 1, none⟩ = some (.int .i64 0) := (blk_cell BK180.out 1).trans rfl; have hcz54_2 : w53.cell? ⟨gb180, 2, none⟩ = some (.int .i64 0) := (blk_cell BK180.out 2).trans rfl; have hcz54_3 : w53.cell? ⟨gb180, 3, none⟩ = some (.int .i64 0) := (blk_cell BK180.out 3).trans rfl; have hfz54_0 := blk_frozen BK180.out 0; have hfz54_1 := blk_frozen BK180.out 1; have hfz54_2 := blk_frozen BK180.out 2; have hfz54_3 := blk_frozen BK180.out 3; have hcz55_0 : w53.cell? ⟨gb179, 0, none⟩ = some (.int .i64 0) := (blk_cell BK179.out 0).trans rfl; have hcz55_1 : w53.cell? ⟨gb179, 1, none⟩ = some (.int .i64 0) := (blk_cell BK179.out 1).trans rfl; have hcz55_2 : w53.cell? ⟨gb179, 2, none⟩ = some (.int .i64 0) := (blk_cell BK179.out 2).trans rfl; have hcz55_3 : w53.cell? ⟨gb179, 3, none⟩ = some (.int .i64 0) := (blk_cell BK179.out 3).trans rfl; have hfz55_0 := blk_frozen BK179.out 0; have hfz55_1 := blk_frozen BK179.out 1; have hfz55_2 := blk_frozen BK179.out 2; have hfz55_3 := blk_frozen BK179.out 3))
  refine bodyPost_ret (results_cell_row rfl _ _ gb179 30 #[.int .i64 0, .int .i64 0, .int .i64 0, .int .i64 0] (0, 0) _ rfl (by (with_reducible repeat (first | refine blk_drewN ?_ _ | refine blk_drew ?_ | refine blk_alloc ?_ _)); refine blk_put (cs := #[.int .i64 0, .int .i64 0, .int .i64 0, .int .i64 0]) ?_ 3 _ rfl; (with_reducible repeat (first | refine blk_drewN ?_ _ | refine blk_drew ?_ | refine blk_alloc ?_ _)); refine blk_put (cs := #[.int .i64 0, .int .i64 0, .int .i64 0, .int .i64 0]) ?_ 2 _ rfl; (with_reducible repeat (first | refine blk_drewN ?_ _ | refine blk_drew ?_ | refine blk_alloc ?_ _)); refine blk_put (cs := #[.int .i64 0, .int .i64 0, .int .i64 0, .int .i64 0]) ?_ 1 _ rfl; (with_reducible repeat (first | refine blk_drewN ?_ _ | refine blk_drew ?_ | refine blk_alloc ?_ _)); refine blk_put (cs := #[.int .i64 0, .int .i64 0, .int .i64 0, .int .i64 0]) ?_ 0 _ rfl; (with_reducible repeat (first | refine blk_drewN ?_ _ | refine blk_drew ?_ | refine blk_alloc ?_ _)); exact BK179.out) Try.underlying30 rfl (by kernel_rfl)) rfl ?_
  exact ⟨by first | rfl | (simp [errW_none, errW_some] <;> rfl) | (simp [*, errW_none, errW_some] <;> rfl), by repeat (first | (with_reducible first | exact HB.out | apply below_alloc | apply pw_below_drewN | apply below_drew1 | refine below_set ?_ GE179.out | refine below_set ?_ GE180.out) | exact HB.out)⟩

end Go.Proofs.Yteobnbichpadjaa.Q
