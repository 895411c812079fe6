/- Plain Lean functions with the same answers as the Go functions of this seat, and a proof for each that the Go code comes to just these answers; no condition. Written by a program of this session (the kit's printer, turned). -/
import Derived.Test.YtmndffnjejgfoaaQx0
namespace Go.Proofs.Ytmndffnjejgfoaa.Q
open Go.RowKit Go.Proofs.YtmndffnjejgfoaaW.PrintWords Go.Proofs.YtmndffnjejgfoaaW.PrintLast Go.Proofs.YtmndffnjejgfoaaW.PrintMore Go.Proofs.YtmndffnjejgfoaaW.PrintFlt
attribute [local go_sem] cmp_lss cmp_leq cmp_gtr cmp_geq cmp_eql cmp_neq flt_l flt_r fgt_l fgt_r feq_l feq_r fne_l fne_r ord_lt ord_gt ord_eq ord_ne conv_int foi_fold run_store_flt
attribute [local go_sem] max2_int min2_int max_two min_two max_three min_three max_four min_four   -- for this text's walks alone
set_option linter.unusedVariables false
set_option linter.unusedSimpArgs false

/-! ### impl_Longest: function 12 -/
mutual
def impl_Longest.j0 : Nat → List (S54) → Bool → Option (Int)
 | 0, _, _ => none
 | k + 1, x0, x13 => if x13 = true then (some 0) else (if 0 < (x0.length : Int) then (impl_Longest.l0 k x0 (x0.length : Int) 0 ((rd_T54 x0 0).f0) ((rd_T54 x0 0).f1) ((rd_T54 x0 0).f2) ((rd_T54 x0 0).f3) ((rd_T54 x0 0).f4)) else (none))
def impl_Longest.l0 : Nat → List (S54) → Int → Int → Int → Int → List Int → Int → Int → Option (Int)
 | 0, _, _, _, _, _, _, _, _ => none
 | k + 1, x17, x18, x19, x133000, x133001, x133002, x133003, x133004 => if x19 < x18 then (if 0 ≤ x19 then (if x19 < (x17.length : Int) then (if (((rd_T54 x17 x19).f2).length : Int) > (x133002.length : Int) then (impl_Longest.l0 k x17 x18 (wrap64 (x19 + 1)) ((rd_T54 x17 x19).f0) ((rd_T54 x17 x19).f1) ((rd_T54 x17 x19).f2) ((rd_T54 x17 x19).f3) ((rd_T54 x17 x19).f4)) else (impl_Longest.l0 k x17 x18 (wrap64 (x19 + 1)) x133000 x133001 x133002 x133003 x133004)) else (none)) else (none)) else (some x133000)
end
def impl_Longest.f (k : Nat) (l0 : List (S54)) : Option (Int) := if (l0.length : Int) = 0 then (impl_Longest.j0 k l0 true) else (impl_Longest.j0 k l0 (decide ((l0.length : Int) > 1200)))
theorem impl_Longest.mono_l : ∀ k, (∀ y0 y1, LeO (impl_Longest.j0 k y0 y1) (impl_Longest.j0 (k + 1) y0 y1)) ∧ (∀ y0 y1 y2 y3 y4 y5 y6 y7, LeO (impl_Longest.l0 k y0 y1 y2 y3 y4 y5 y6 y7) (impl_Longest.l0 (k + 1) y0 y1 y2 y3 y4 y5 y6 y7))
 | 0 => ⟨fun _ _ r h => by simp [impl_Longest.j0] at h, fun _ _ _ _ _ _ _ _ r h => by simp [impl_Longest.l0] at h⟩
 | k + 1 => by
  obtain ⟨ih0, ih1⟩ := impl_Longest.mono_l k
  refine ⟨?_, ?_⟩
  ·intro y0 y1
   unfold impl_Longest.j0
   repeat' first
   | (with_reducible exact ih0 _ _)
   | (with_reducible exact ih1 _ _ _ _ _ _ _ _)
   | (with_reducible exact LeO.refl _)
   | (with_reducible exact LeO.none _)
   | (with_reducible refine LeO.ite ?_ ?_)
   | (with_reducible refine LeO.bind ?_ (fun _ => ?_))
   | exact ih0 _ _
   | exact ih1 _ _ _ _ _ _ _ _
   | exact LeO.none _
   | refine LeO.ite ?_ ?_
   | refine LeO.bind ?_ (fun _ => ?_)
  ·intro y0 y1 y2 y3 y4 y5 y6 y7
   unfold impl_Longest.l0
   repeat' first
   | (with_reducible exact ih0 _ _)
   | (with_reducible exact ih1 _ _ _ _ _ _ _ _)
   | (with_reducible exact LeO.refl _)
   | (with_reducible exact LeO.none _)
   | (with_reducible refine LeO.ite ?_ ?_)
   | (with_reducible refine LeO.bind ?_ (fun _ => ?_))
   | exact ih0 _ _
   | exact ih1 _ _ _ _ _ _ _ _
   | exact LeO.none _
   | refine LeO.ite ?_ ?_
   | refine LeO.bind ?_ (fun _ => ?_)
theorem impl_Longest.mono : ∀ a0 k, LeO (impl_Longest.f k a0) (impl_Longest.f (k + 1) a0) := by
 intro a0 k
 obtain ⟨ih0, ih1⟩ := impl_Longest.mono_l k
 unfold impl_Longest.f
 repeat' first
   | (with_reducible exact ih0 _ _)
   | (with_reducible exact ih1 _ _ _ _ _ _ _ _)
   | (with_reducible exact LeO.refl _)
   | (with_reducible exact LeO.none _)
   | (with_reducible refine LeO.ite ?_ ?_)
   | (with_reducible refine LeO.bind ?_ (fun _ => ?_))
   | exact ih0 _ _
   | exact ih1 _ _ _ _ _ _ _ _
   | exact LeO.none _
   | refine LeO.ite ?_ ?_
   | refine LeO.bind ?_ (fun _ => ?_)
set_option maxHeartbeats 8000000 in
set_option maxRecDepth 100000 in
theorem impl_Longest.calls (k : Nat) (A0 : Option Addr) (c0 : Nat) (l0 : List (S54)) (r : Int) (w : World) (hr0 : Kd.C k54 w A0 l0.length l0) (hc0 : l0.length ≤ c0) (h : impl_Longest.f k l0 = some r) :
  Calls Try.prog 12 #[.slice A0 l0.length c0] w fun e w' => e = .returned (.int .i64 r) ∧ Below w.heap.size w w' := by
 have hu54 := Try.underlying54
 have HR0 := Aside0.mk hr0
 have HC0 := Aside0.mk hc0
 clear hr0 hc0
 have HB := Aside0.mk (Below.refl w.heap.size w)
 have H : (if (l0.length : Int) = 0 then (impl_Longest.j0 k l0 true) else (impl_Longest.j0 k l0 (decide ((l0.length : Int) > 1200)))) = some r := h
 clear h
 have HC2 := Aside0.mk H
 clear H
 go_enter Try.func12, Try.ntmps12
 go_upto_region 1 with (fail)
 go_cut [13] (fun v13 wc => ∃ (kq : Nat) (x13_1 : Bool), v13 = .bool x13_1 ∧ Aside0 (impl_Longest.j0 kq l0 x13_1 = some r) ∧ Aside0 (kq ≤ k) ∧ Aside0 (Below w.heap.size w wc))
 case first =>
  have H := HC2.out
  clear HC2
  by_cases c3 : (l0.length : Int) = 0
  ·rw [if_pos c3] at H
   have c3b0 : ((l0.length : Int) == 0) = true := beq_iff_eq.mpr c3
   have c3b1 : ((l0.length : Int) != 0) = false := bne_eq_false_iff_eq.mpr c3
   clear c3
   (first | rw [c3b0] | (simp only [i64_w, i32_w]; rw [c3b0]) | skip)
   have H' := Aside0.mk H
   clear H
   go_wp2
   go_meet
   case rel => exact ⟨_, (true), (by first | rfl | (simp; done) | (simp [*]; done)), H', ⟨by first | omega | exact Nat.le_refl _⟩, ⟨by repeat (first | (with_reducible first | exact HB.out | apply below_alloc | apply pw_below_drewN | apply below_drew1) | exact HB.out)⟩⟩
  ·rw [if_neg c3] at H
   have c3b0 : ((l0.length : Int) == 0) = false := beq_eq_false_iff_ne.mpr c3
   have c3b1 : ((l0.length : Int) != 0) = true := bne_iff_ne.mpr c3
   have c3b2 : ¬ (l0 = []) := fun h_ => c3 (by rw [h_]; rfl)
   (first | rw [c3b0] | (simp only [i64_w, i32_w]; rw [c3b0]) | skip)
   have H' := Aside0.mk H
   clear H
   go_wp2
   go_meet
   case rel => exact ⟨_, (decide ((l0.length : Int) > 1200)), (by first | rfl | (simp; done) | (simp [*]; done)), H', ⟨by first | omega | exact Nat.le_refl _⟩, ⟨by repeat (first | (with_reducible first | exact HB.out | apply below_alloc | apply pw_below_drewN | apply below_drew1) | exact HB.out)⟩⟩
 case rest =>
  clear HC2
  try clear c1
  try clear p2
  try clear c3
  try clear c3b0
  try clear c3b1
  try clear c3b2
  obtain ⟨kq, x13_1, rfl, HA, HJ1, HB⟩ := hcut
  cases kq with
  | zero => exact absurd HA.out (by simp [impl_Longest.j0])
  | succ kj1 =>
   have H := HA.out
   clear HA
   simp only [impl_Longest.j0] at H
   by_cases c4 : x13_1 = true
   ·subst c4
    have H1 : (some 0) = some r := by rw [if_pos rfl] at H; exact H
    clear H
    have H := H1
    clear H1
    obtain rfl := Option.some.inj H
    go_wp2
    go_ret
    exact ⟨by first | rfl | (simp [errW_none, errW_some] <;> rfl) | (simp [*, errW_none, errW_some] <;> rfl), by repeat (first | (with_reducible first | exact HB.out | apply below_alloc | apply pw_below_drewN | apply below_drew1) | exact HB.out)⟩
   ·replace c4 := Bool.eq_false_iff.mpr c4
    subst c4
    have H1 : (if 0 < (l0.length : Int) then (impl_Longest.l0 kj1 l0 (l0.length : Int) 0 ((rd_T54 l0 0).f0) ((rd_T54 l0 0).f1) ((rd_T54 l0 0).f2) ((rd_T54 l0 0).f3) ((rd_T54 l0 0).f4)) else (none)) = some r := by rw [if_neg (show ¬ (false = true) by decide)] at H; exact H
    clear H
    have H := H1
    clear H1
    by_cases c5 : 0 < (l0.length : Int)
    ·rw [if_pos c5] at H
     have c5b0 : decide (0 < (l0.length : Int)) = true := decide_eq_true c5
     have c5b1 : decide (0 < l0.length) = true := decide_eq_true (by omega)
     clear c5
     have H' := Aside0.mk H
     clear H
     have p131 : 0 ≤ (0 : Int) := (by omega)
     have q131 : 0 < (l0.length : Int) := of_decide_eq_true (by first | (with_reducible assumption) | assumption)
     obtain ⟨ad131, A131_2, c131_2, e131, hx131_0, hx131_1, hx131_2, hx131_3, hx131_4, hl131_2, hi131_2⟩ := at_T54 HR0.out 0 p131 q131
     cases e131
     have qi131 : (0 < l0.length) = True := eq_true (by omega)
     (try rw [show ((0 : Int)).toNat = 0 from rfl] at hx131_0)
     (try rw [show 0 * 5 = 0 from rfl] at hx131_0)
     (try rw [Addr.add_zero'] at hx131_0)
     (try rw [show ((0 : Int)).toNat = 0 from rfl] at hx131_1)
     (try rw [show 0 * 5 = 0 from rfl] at hx131_1)
     (try rw [Addr.add_zero'] at hx131_1)
     (try rw [show ((0 : Int)).toNat = 0 from rfl] at hx131_2)
     (try rw [show 0 * 5 = 0 from rfl] at hx131_2)
     (try rw [Addr.add_zero'] at hx131_2)
     (try rw [show ((0 : Int)).toNat = 0 from rfl] at hx131_3)
     (try rw [show 0 * 5 = 0 from rfl] at hx131_3)
     (try rw [Addr.add_zero'] at hx131_3)
     (try rw [show ((0 : Int)).toNat = 0 from rfl] at hx131_4)
     (try rw [show 0 * 5 = 0 from rfl] at hx131_4)
     (try rw [Addr.add_zero'] at hx131_4)
     replace hx131_0 := (HB.out.cell (World.block_lt_of_cell? w _ hx131_0)).trans hx131_0
     replace hx131_1 := (HB.out.cell (World.block_lt_of_cell? w _ hx131_1)).trans hx131_1
     replace hx131_2 := (HB.out.cell (World.block_lt_of_cell? w _ hx131_2)).trans hx131_2
     replace hx131_3 := (HB.out.cell (World.block_lt_of_cell? w _ hx131_3)).trans hx131_3
     replace hx131_4 := (HB.out.cell (World.block_lt_of_cell? w _ hx131_4)).trans hx131_4
     have HR131_2 := Aside0.mk hi131_2
     have HC131_2 := Aside0.mk hl131_2
     clear hi131_2 hl131_2
     replace p131 := eq_true p131
     replace q131 := eq_true q131
     go_wp2_with (first | ((with_reducible refine gate_dst (N := 3) rfl ?_); (try (refine gate_guard (by rfl) ?_; dsimp only)); refine box_event ?hg (N := 3) ?hd (cs := #[.int .i64 0, .int .i64 0, .slice none 0 0, .int .i64 0, .int .i64 0]) (t := 54) ?hr ?_; (case hd => rfl); (case hg => rfl); (case hr => first | (go_simp; done) | (go_simp; rfl)); intro gb132 hg w6 hbox hb; have n0_ := Aside0.mk (below_step (by repeat (first | (with_reducible first | exact HB.out | apply below_alloc | apply pw_below_drewN | apply below_drew1) | exact HB.out)) hb); have n1_ := Aside0.mk (hbox); have n2_ := Aside0.mk ((by rw [hg]; exact (below_size (by repeat (first | (with_reducible first | exact HB.out | apply below_alloc | apply pw_below_drewN | apply below_drew1) | exact HB.out))) : w.heap.size ≤ gb132)); have n3_ := Aside0.mk ((by rw [hg]; exact (below_size (by repeat (first | (with_reducible first | exact HB.out | apply below_alloc | apply pw_below_drewN | apply below_drew1) | exact HB.out))) : w.heap.size ≤ gb132)); clear HB; have HB := n0_; have BK132 := n1_; have GW132 := n2_; have GE132 := n3_; clear n0_ n1_ n2_ n3_; clear hb hbox hg; have hcz7_0 : w6.cell? ⟨gb132, 0, none⟩ = some (.int .i64 0) := (blk_cell BK132.out 0).trans rfl; have hcz7_1 : w6.cell? ⟨gb132, 1, none⟩ = some (.int .i64 0) := (blk_cell BK132.out 1).trans rfl; have hcz7_2 : w6.cell? ⟨gb132, 2, none⟩ = some (.slice none 0 0) := (blk_cell BK132.out 2).trans rfl; have hcz7_3 : w6.cell? ⟨gb132, 3, none⟩ = some (.int .i64 0) := (blk_cell BK132.out 3).trans rfl; have hcz7_4 : w6.cell? ⟨gb132, 4, none⟩ = some (.int .i64 0) := (blk_cell BK132.out 4).trans rfl; have hfz7_0 := blk_frozen BK132.out 0; have hfz7_1 := blk_frozen BK132.out 1; have hfz7_2 := blk_frozen BK132.out 2; have hfz7_3 := blk_frozen BK132.out 3; have hfz7_4 := blk_frozen BK132.out 4))
     go_loopg [19] kj1 (fun kq v19 w' => ∃ (x19_2 : Int) (x133000_2 : Int) (x133001_2 : Int) (x133002_2 : List Int) (x133003_2 : Int) (x133004_2 : Int) (AL133002_2 : Option Addr) (cL133002_2 : Nat), v19 = .int .i64 x19_2 ∧ Aside0 (impl_Longest.l0 kq l0 (l0.length : Int) x19_2 x133000_2 x133001_2 x133002_2 x133003_2 x133004_2 = some r) ∧ Aside0 (kq ≤ kj1) ∧ Aside0 (Kd.C (Kd.int .i64) w AL133002_2 x133002_2.length x133002_2) ∧ Aside0 (x133002_2.length ≤ cL133002_2) ∧ Aside0 (w'.heap[gb132]? = some (.cells #[.int .i64 x133000_2, .int .i64 x133001_2, .slice AL133002_2 x133002_2.length cL133002_2, .int .i64 x133003_2, .int .i64 x133004_2] 54 (0, 0))) ∧ Aside0 (Below w.heap.size w w'))
     case atStart => exact ⟨(0), ((rd_T54 l0 0).f0), ((rd_T54 l0 0).f1), ((rd_T54 l0 0).f2), ((rd_T54 l0 0).f3), ((rd_T54 l0 0).f4), (A131_2), (c131_2), (by first | rfl | (simp; done) | (simp [*]; done)), H', ⟨Nat.le_refl _⟩, ⟨HR131_2.out⟩, ⟨HC131_2.out⟩, ⟨by (with_reducible repeat (first | refine blk_drewN ?_ _ | refine blk_drew ?_ | refine blk_alloc ?_ _)); refine blk_put (cs := #[.int .i64 ((rd_T54 l0 0).f0), .int .i64 ((rd_T54 l0 0).f1), .slice A131_2 ((rd_T54 l0 0).f2).length c131_2, .int .i64 ((rd_T54 l0 0).f3), .int .i64 0]) ?_ 4 _ rfl; (with_reducible repeat (first | refine blk_drewN ?_ _ | refine blk_drew ?_ | refine blk_alloc ?_ _)); refine blk_put (cs := #[.int .i64 ((rd_T54 l0 0).f0), .int .i64 ((rd_T54 l0 0).f1), .slice A131_2 ((rd_T54 l0 0).f2).length c131_2, .int .i64 0, .int .i64 0]) ?_ 3 _ rfl; (with_reducible repeat (first | refine blk_drewN ?_ _ | refine blk_drew ?_ | refine blk_alloc ?_ _)); refine blk_put (cs := #[.int .i64 ((rd_T54 l0 0).f0), .int .i64 ((rd_T54 l0 0).f1), .slice none 0 0, .int .i64 0, .int .i64 0]) ?_ 2 _ rfl; (with_reducible repeat (first | refine blk_drewN ?_ _ | refine blk_drew ?_ | refine blk_alloc ?_ _)); refine blk_put (cs := #[.int .i64 ((rd_T54 l0 0).f0), .int .i64 0, .slice none 0 0, .int .i64 0, .int .i64 0]) ?_ 1 _ rfl; (with_reducible repeat (first | refine blk_drewN ?_ _ | refine blk_drew ?_ | refine blk_alloc ?_ _)); refine blk_put (cs := #[.int .i64 0, .int .i64 0, .slice none 0 0, .int .i64 0, .int .i64 0]) ?_ 0 _ rfl; (with_reducible repeat (first | refine blk_drewN ?_ _ | refine blk_drew ?_ | refine blk_alloc ?_ _)); exact BK132.out⟩, ⟨by repeat (first | (with_reducible first | exact HB.out | apply below_alloc | apply pw_below_drewN | apply below_drew1 | refine below_set ?_ GE132.out) | exact HB.out)⟩⟩
     case round =>
      clear H'
      try clear c1
      try clear p1
      try clear q1
      try clear hx1
      try clear qi1
      try clear p2
      try clear c3
      try clear c3b0
      try clear c3b1
      try clear c3b2
      try clear c4
      try clear c5
      try clear c5b0
      try clear c5b1
      try clear hcz7_0
      try clear hcz7_1
      try clear hcz7_2
      try clear hcz7_3
      try clear hcz7_4
      try clear hfz7_0
      try clear hfz7_1
      try clear hfz7_2
      try clear hfz7_3
      try clear hfz7_4
      try clear hx131_0
      try clear hx131_1
      try clear hx131_2
      try clear hx131_3
      try clear hx131_4
      try clear p131
      try clear p2
      try clear q131
      obtain ⟨x19_2, x133000_2, x133001_2, x133002_2, x133003_2, x133004_2, AL133002_2, cL133002_2, rfl, HA, HK2, HRL133002, HCL133002, BK132, HB⟩ := hrel
      cases gk with
      | zero => exact absurd HA.out (by simp [impl_Longest.l0])
      | succ k2 =>
       have H := HA.out
       clear HA
       simp only [impl_Longest.l0] at H
       by_cases c8 : x19_2 < (l0.length : Int)
       ·rw [if_pos c8] at H
        have c8b0 : decide (x19_2 < (l0.length : Int)) = true := decide_eq_true c8
        clear c8
        by_cases c9 : 0 ≤ x19_2
        ·rw [if_pos c9] at H
         have c9b0 : decide (0 ≤ x19_2) = true := decide_eq_true c9
         clear c9
         by_cases c10 : x19_2 < (l0.length : Int)
         ·rw [if_pos c10] at H
          have c10b0 : decide (x19_2 < (l0.length : Int)) = true := decide_eq_true c10
          clear c10
          by_cases c11 : (((rd_T54 l0 x19_2).f2).length : Int) > (x133002_2.length : Int)
          ·rw [if_pos c11] at H
           have c11b0 : decide ((x133002_2.length : Int) < (((rd_T54 l0 x19_2).f2).length : Int)) = true := decide_eq_true c11
           have c11b1 : decide (x133002_2.length < ((rd_T54 l0 x19_2).f2).length) = true := decide_eq_true (Int.ofNat_lt.mp c11)
           clear c11
           have H' := Aside0.mk H
           clear H
           have p133 : 0 ≤ (x19_2 : Int) := of_decide_eq_true (by first | (with_reducible assumption) | assumption)
           have q133 : x19_2 < (l0.length : Int) := of_decide_eq_true (by first | (with_reducible assumption) | assumption)
           obtain ⟨ad133, A133_2, c133_2, e133, hx133_0, hx133_1, hx133_2, hx133_3, hx133_4, hl133_2, hi133_2⟩ := at_T54 HR0.out x19_2 p133 q133
           obtain rfl : ad131 = ad133 := (by injection e133)
           replace hx133_0 := (HB.out.cell (World.block_lt_of_cell? w _ hx133_0)).trans hx133_0
           replace hx133_1 := (HB.out.cell (World.block_lt_of_cell? w _ hx133_1)).trans hx133_1
           replace hx133_2 := (HB.out.cell (World.block_lt_of_cell? w _ hx133_2)).trans hx133_2
           replace hx133_3 := (HB.out.cell (World.block_lt_of_cell? w _ hx133_3)).trans hx133_3
           replace hx133_4 := (HB.out.cell (World.block_lt_of_cell? w _ hx133_4)).trans hx133_4
           have HR133_2 := Aside0.mk hi133_2
           have HC133_2 := Aside0.mk hl133_2
           clear hi133_2 hl133_2
           replace p133 := eq_true p133
           replace q133 := eq_true q133
           go_wp2_with (first | ((with_reducible refine gate_dst (N := 5) rfl ?_); (try (refine gate_guard (by rfl) ?_; dsimp only)); refine box_event ?hg (N := 5) ?hd (cs := #[.int .i64 0, .int .i64 0, .slice none 0 0, .int .i64 0, .int .i64 0]) (t := 54) ?hr ?_; (case hd => rfl); (case hg => rfl); (case hr => first | (go_simp; done) | (go_simp; rfl)); intro gb134 hg w12 hbox hb; have n0_ := Aside0.mk (blk_below (g := gb132) (o := .cells #[.int .i64 x133000_2, .int .i64 x133001_2, .slice AL133002_2 x133002_2.length cL133002_2, .int .i64 x133003_2, .int .i64 x133004_2] 54 (0, 0)) (by (with_reducible repeat (first | refine blk_drewN ?_ _ | refine blk_drew ?_ | refine blk_alloc ?_ _)); exact BK132.out) hb); have n1_ := Aside0.mk (below_step (by repeat (first | (with_reducible first | exact HB.out | apply below_alloc | apply pw_below_drewN | apply below_drew1 | refine below_set ?_ GE132.out) | exact HB.out)) hb); have n2_ := Aside0.mk (hbox); have n3_ := Aside0.mk ((by rw [hg]; exact (below_size (by repeat (first | (with_reducible first | exact HB.out | apply below_alloc | apply pw_below_drewN | apply below_drew1 | refine below_set ?_ GE132.out) | exact HB.out))) : w.heap.size ≤ gb134)); have n4_ := Aside0.mk ((by rw [hg]; exact (below_size (by repeat (first | (with_reducible first | exact HB.out | apply below_alloc | apply pw_below_drewN | apply below_drew1 | refine below_set ?_ GE132.out) | exact HB.out))) : w.heap.size ≤ gb134)); have n5_ := Aside0.mk ((by rw [hg]; exact Nat.ne_of_lt (blk_lt (g := gb132) (o := .cells #[.int .i64 x133000_2, .int .i64 x133001_2, .slice AL133002_2 x133002_2.length cL133002_2, .int .i64 x133003_2, .int .i64 x133004_2] 54 (0, 0)) (by (with_reducible repeat (first | refine blk_drewN ?_ _ | refine blk_drew ?_ | refine blk_alloc ?_ _)); exact BK132.out)) : gb132 ≠ gb134)); have n6_ := Aside0.mk ((by rw [hg]; exact Nat.ne_of_gt (blk_lt (g := gb132) (o := .cells #[.int .i64 x133000_2, .int .i64 x133001_2, .slice AL133002_2 x133002_2.length cL133002_2, .int .i64 x133003_2, .int .i64 x133004_2] 54 (0, 0)) (by (with_reducible repeat (first | refine blk_drewN ?_ _ | refine blk_drew ?_ | refine blk_alloc ?_ _)); exact BK132.out)) : gb134 ≠ gb132)); clear BK132; clear HB; have BK132 := n0_; have HB := n1_; have BK134 := n2_; have GW134 := n3_; have GE134 := n4_; have NB132_134 := n5_; have NB134_132 := n6_; clear n0_ n1_ n2_ n3_ n4_ n5_ n6_; clear hb hbox hg; have hnb13 := NB134_132.out; have hnc13 := NB132_134.out; have hcz14_0 : w12.cell? ⟨gb134, 0, none⟩ = some (.int .i64 0) := (blk_cell BK134.out 0).trans rfl; have hcz14_1 : w12.cell? ⟨gb134, 1, none⟩ = some (.int .i64 0) := (blk_cell BK134.out 1).trans rfl; have hcz14_2 : w12.cell? ⟨gb134, 2, none⟩ = some (.slice none 0 0) := (blk_cell BK134.out 2).trans rfl; have hcz14_3 : w12.cell? ⟨gb134, 3, none⟩ = some (.int .i64 0) := (blk_cell BK134.out 3).trans rfl; have hcz14_4 : w12.cell? ⟨gb134, 4, none⟩ = some (.int .i64 0) := (blk_cell BK134.out 4).trans rfl; have hfz14_0 := blk_frozen BK134.out 0; have hfz14_1 := blk_frozen BK134.out 1; have hfz14_2 := blk_frozen BK134.out 2; have hfz14_3 := blk_frozen BK134.out 3; have hfz14_4 := blk_frozen BK134.out 4; have hcz15_0 : w12.cell? ⟨gb132, 0, none⟩ = some (.int .i64 x133000_2) := (blk_cell BK132.out 0).trans rfl; have hcz15_1 : w12.cell? ⟨gb132, 1, none⟩ = some (.int .i64 x133001_2) := (blk_cell BK132.out 1).trans rfl; have hcz15_2 : w12.cell? ⟨gb132, 2, none⟩ = some (.slice AL133002_2 x133002_2.length cL133002_2) := (blk_cell BK132.out 2).trans rfl; have hcz15_3 : w12.cell? ⟨gb132, 3, none⟩ = some (.int .i64 x133003_2) := (blk_cell BK132.out 3).trans rfl; have hcz15_4 : w12.cell? ⟨gb132, 4, none⟩ = some (.int .i64 x133004_2) := (blk_cell BK132.out 4).trans rfl; have hfz15_0 := blk_frozen BK132.out 0; have hfz15_1 := blk_frozen BK132.out 1; have hfz15_2 := blk_frozen BK132.out 2; have hfz15_3 := blk_frozen BK132.out 3; have hfz15_4 := blk_frozen BK132.out 4))
           go_roundg k2
           case measure => have := HJ1.out; have := HK2.out; omega
           case rel => exact ⟨(wrap64 (x19_2 + 1)), ((rd_T54 l0 x19_2).f0), ((rd_T54 l0 x19_2).f1), ((rd_T54 l0 x19_2).f2), ((rd_T54 l0 x19_2).f3), ((rd_T54 l0 x19_2).f4), (A133_2), (c133_2), (by first | rfl | (simp; done) | (simp [*]; done)), H', ⟨by have := HJ1.out; have := HK2.out; omega⟩, ⟨HR133_2.out⟩, ⟨HC133_2.out⟩, ⟨by (with_reducible repeat (first | refine blk_drewN ?_ _ | refine blk_drew ?_ | refine blk_alloc ?_ _)); refine blk_put (cs := #[.int .i64 ((rd_T54 l0 x19_2).f0), .int .i64 ((rd_T54 l0 x19_2).f1), .slice A133_2 ((rd_T54 l0 x19_2).f2).length c133_2, .int .i64 ((rd_T54 l0 x19_2).f3), .int .i64 x133004_2]) ?_ 4 _ rfl; (with_reducible repeat (first | refine blk_drewN ?_ _ | refine blk_drew ?_ | refine blk_alloc ?_ _)); refine blk_put (cs := #[.int .i64 ((rd_T54 l0 x19_2).f0), .int .i64 ((rd_T54 l0 x19_2).f1), .slice A133_2 ((rd_T54 l0 x19_2).f2).length c133_2, .int .i64 x133003_2, .int .i64 x133004_2]) ?_ 3 _ rfl; (with_reducible repeat (first | refine blk_drewN ?_ _ | refine blk_drew ?_ | refine blk_alloc ?_ _)); refine blk_put (cs := #[.int .i64 ((rd_T54 l0 x19_2).f0), .int .i64 ((rd_T54 l0 x19_2).f1), .slice AL133002_2 x133002_2.length cL133002_2, .int .i64 x133003_2, .int .i64 x133004_2]) ?_ 2 _ rfl; (with_reducible repeat (first | refine blk_drewN ?_ _ | refine blk_drew ?_ | refine blk_alloc ?_ _)); refine blk_put (cs := #[.int .i64 ((rd_T54 l0 x19_2).f0), .int .i64 x133001_2, .slice AL133002_2 x133002_2.length cL133002_2, .int .i64 x133003_2, .int .i64 x133004_2]) ?_ 1 _ rfl; (with_reducible repeat (first | refine blk_drewN ?_ _ | refine blk_drew ?_ | refine blk_alloc ?_ _)); refine blk_put (cs := #[.int .i64 x133000_2, .int .i64 x133001_2, .slice AL133002_2 x133002_2.length cL133002_2, .int .i64 x133003_2, .int .i64 x133004_2]) ?_ 0 _ rfl; (with_reducible repeat (first | refine blk_drewN ?_ _ | refine blk_drew ?_ | refine blk_alloc ?_ _)); refine blk_far ?_ NB132_134.out _; (with_reducible repeat (first | refine blk_drewN ?_ _ | refine blk_drew ?_ | refine blk_alloc ?_ _)); refine blk_far ?_ NB132_134.out _; (with_reducible repeat (first | refine blk_drewN ?_ _ | refine blk_drew ?_ | refine blk_alloc ?_ _)); refine blk_far ?_ NB132_134.out _; (with_reducible repeat (first | refine blk_drewN ?_ _ | refine blk_drew ?_ | refine blk_alloc ?_ _)); refine blk_far ?_ NB132_134.out _; (with_reducible repeat (first | refine blk_drewN ?_ _ | refine blk_drew ?_ | refine blk_alloc ?_ _)); refine blk_far ?_ NB132_134.out _; (with_reducible repeat (first | refine blk_drewN ?_ _ | refine blk_drew ?_ | refine blk_alloc ?_ _)); exact BK132.out⟩, ⟨by repeat (first | (with_reducible first | exact HB.out | apply below_alloc | apply pw_below_drewN | apply below_drew1 | refine below_set ?_ GE132.out | refine below_set ?_ GE134.out) | exact HB.out)⟩⟩
          ·rw [if_neg c11] at H
           have c11b0 : decide ((x133002_2.length : Int) < (((rd_T54 l0 x19_2).f2).length : Int)) = false := decide_eq_false c11
           have c11b1 : decide (x133002_2.length < ((rd_T54 l0 x19_2).f2).length) = false := decide_eq_false (fun h => c11 (Int.ofNat_lt.mpr h))
           clear c11
           have H' := Aside0.mk H
           clear H
           have p133 : 0 ≤ (x19_2 : Int) := of_decide_eq_true (by first | (with_reducible assumption) | assumption)
           have q133 : x19_2 < (l0.length : Int) := of_decide_eq_true (by first | (with_reducible assumption) | assumption)
           obtain ⟨ad133, A133_2, c133_2, e133, hx133_0, hx133_1, hx133_2, hx133_3, hx133_4, hl133_2, hi133_2⟩ := at_T54 HR0.out x19_2 p133 q133
           obtain rfl : ad131 = ad133 := (by injection e133)
           replace hx133_0 := (HB.out.cell (World.block_lt_of_cell? w _ hx133_0)).trans hx133_0
           replace hx133_1 := (HB.out.cell (World.block_lt_of_cell? w _ hx133_1)).trans hx133_1
           replace hx133_2 := (HB.out.cell (World.block_lt_of_cell? w _ hx133_2)).trans hx133_2
           replace hx133_3 := (HB.out.cell (World.block_lt_of_cell? w _ hx133_3)).trans hx133_3
           replace hx133_4 := (HB.out.cell (World.block_lt_of_cell? w _ hx133_4)).trans hx133_4
           have HR133_2 := Aside0.mk hi133_2
           have HC133_2 := Aside0.mk hl133_2
           clear hi133_2 hl133_2
           replace p133 := eq_true p133
           replace q133 := eq_true q133
           go_wp2_with (first | ((with_reducible refine gate_dst (N := 5) rfl ?_); (try (refine gate_guard (by rfl) ?_; dsimp only)); refine box_event ?hg (N := 5) ?hd (cs := #[.int .i64 0, .int .i64 0, .slice none 0 0, .int .i64 0, .int .i64 0]) (t := 54) ?hr ?_; (case hd => rfl); (case hg => rfl); (case hr => first | (go_simp; done) | (go_simp; rfl)); intro gb134 hg w16 hbox hb; have n0_ := Aside0.mk (blk_below (g := gb132) (o := .cells #[.int .i64 x133000_2, .int .i64 x133001_2, .slice AL133002_2 x133002_2.length cL133002_2, .int .i64 x133003_2, .int .i64 x133004_2] 54 (0, 0)) (by (with_reducible repeat (first | refine blk_drewN ?_ _ | refine blk_drew ?_ | refine blk_alloc ?_ _)); exact BK132.out) hb); have n1_ := Aside0.mk (below_step (by repeat (first | (with_reducible first | exact HB.out | apply below_alloc | apply pw_below_drewN | apply below_drew1 | refine below_set ?_ GE132.out) | exact HB.out)) hb); have n2_ := Aside0.mk (hbox); have n3_ := Aside0.mk ((by rw [hg]; exact (below_size (by repeat (first | (with_reducible first | exact HB.out | apply below_alloc | apply pw_below_drewN | apply below_drew1 | refine below_set ?_ GE132.out) | exact HB.out))) : w.heap.size ≤ gb134)); have n4_ := Aside0.mk ((by rw [hg]; exact (below_size (by repeat (first | (with_reducible first | exact HB.out | apply below_alloc | apply pw_below_drewN | apply below_drew1 | refine below_set ?_ GE132.out) | exact HB.out))) : w.heap.size ≤ gb134)); have n5_ := Aside0.mk ((by rw [hg]; exact Nat.ne_of_lt (blk_lt (g := gb132) (o := .cells #[.int .i64 x133000_2, .int .i64 x133001_2, .slice AL133002_2 x133002_2.length cL133002_2, .int .i64 x133003_2, .int .i64 x133004_2] 54 (0, 0)) (by (with_reducible repeat (first | refine blk_drewN ?_ _ | refine blk_drew ?_ | refine blk_alloc ?_ _)); exact BK132.out)) : gb132 ≠ gb134)); have n6_ := Aside0.mk ((by rw [hg]; exact Nat.ne_of_gt (blk_lt (g := gb132) (o := .cells #[.int .i64 x133000_2, .int .i64 x133001_2, .slice AL133002_2 x133002_2.length cL133002_2, .int .i64 x133003_2, .int .i64 x133004_2] 54 (0, 0)) (by (with_reducible repeat (first | refine blk_drewN ?_ _ | refine blk_drew ?_ | refine blk_alloc ?_ _)); exact BK132.out)) : gb134 ≠ gb132)); clear BK132; clear HB; have BK132 := n0_; have HB := n1_; have BK134 := n2_; have GW134 := n3_; have GE134 := n4_; have NB132_134 := n5_; have NB134_132 := n6_; clear n0_ n1_ n2_ n3_ n4_ n5_ n6_; clear hb hbox hg; have hnb17 := NB134_132.out; have hnc17 := NB132_134.out; have hcz18_0 : w16.cell? ⟨gb134, 0, none⟩ = some (.int .i64 0) := (blk_cell BK134.out 0).trans rfl; have hcz18_1 : w16.cell? ⟨gb134, 1, none⟩ = some (.int .i64 0) := (blk_cell BK134.out 1).trans rfl; have hcz18_2 : w16.cell? ⟨gb134, 2, none⟩ = some (.slice none 0 0) := (blk_cell BK134.out 2).trans rfl; have hcz18_3 : w16.cell? ⟨gb134, 3, none⟩ = some (.int .i64 0) := (blk_cell BK134.out 3).trans rfl; have hcz18_4 : w16.cell? ⟨gb134, 4, none⟩ = some (.int .i64 0) := (blk_cell BK134.out 4).trans rfl; have hfz18_0 := blk_frozen BK134.out 0; have hfz18_1 := blk_frozen BK134.out 1; have hfz18_2 := blk_frozen BK134.out 2; have hfz18_3 := blk_frozen BK134.out 3; have hfz18_4 := blk_frozen BK134.out 4; have hcz19_0 : w16.cell? ⟨gb132, 0, none⟩ = some (.int .i64 x133000_2) := (blk_cell BK132.out 0).trans rfl; have hcz19_1 : w16.cell? ⟨gb132, 1, none⟩ = some (.int .i64 x133001_2) := (blk_cell BK132.out 1).trans rfl; have hcz19_2 : w16.cell? ⟨gb132, 2, none⟩ = some (.slice AL133002_2 x133002_2.length cL133002_2) := (blk_cell BK132.out 2).trans rfl; have hcz19_3 : w16.cell? ⟨gb132, 3, none⟩ = some (.int .i64 x133003_2) := (blk_cell BK132.out 3).trans rfl; have hcz19_4 : w16.cell? ⟨gb132, 4, none⟩ = some (.int .i64 x133004_2) := (blk_cell BK132.out 4).trans rfl; have hfz19_0 := blk_frozen BK132.out 0; have hfz19_1 := blk_frozen BK132.out 1; have hfz19_2 := blk_frozen BK132.out 2; have hfz19_3 := blk_frozen BK132.out 3; have hfz19_4 := blk_frozen BK132.out 4))
           go_roundg k2
           case measure => have := HJ1.out; have := HK2.out; omega
           case rel => exact ⟨(wrap64 (x19_2 + 1)), (x133000_2), (x133001_2), (x133002_2), (x133003_2), (x133004_2), (AL133002_2), (cL133002_2), (by first | rfl | (simp; done) | (simp [*]; done)), H', ⟨by have := HJ1.out; have := HK2.out; omega⟩, ⟨HRL133002.out⟩, ⟨HCL133002.out⟩, ⟨by (with_reducible repeat (first | refine blk_drewN ?_ _ | refine blk_drew ?_ | refine blk_alloc ?_ _)); refine blk_far ?_ NB132_134.out _; (with_reducible repeat (first | refine blk_drewN ?_ _ | refine blk_drew ?_ | refine blk_alloc ?_ _)); refine blk_far ?_ NB132_134.out _; (with_reducible repeat (first | refine blk_drewN ?_ _ | refine blk_drew ?_ | refine blk_alloc ?_ _)); refine blk_far ?_ NB132_134.out _; (with_reducible repeat (first | refine blk_drewN ?_ _ | refine blk_drew ?_ | refine blk_alloc ?_ _)); refine blk_far ?_ NB132_134.out _; (with_reducible repeat (first | refine blk_drewN ?_ _ | refine blk_drew ?_ | refine blk_alloc ?_ _)); refine blk_far ?_ NB132_134.out _; (with_reducible repeat (first | refine blk_drewN ?_ _ | refine blk_drew ?_ | refine blk_alloc ?_ _)); exact BK132.out⟩, ⟨by repeat (first | (with_reducible first | exact HB.out | apply below_alloc | apply pw_below_drewN | apply below_drew1 | refine below_set ?_ GE132.out | refine below_set ?_ GE134.out) | exact HB.out)⟩⟩
         ·rw [if_neg c10] at H
          exact absurd H (by simp)
        ·rw [if_neg c9] at H
         exact absurd H (by simp)
       ·rw [if_neg c8] at H
        have c8b0 : decide (x19_2 < (l0.length : Int)) = false := decide_eq_false c8
        clear c8
        obtain rfl := Option.some.inj H
        have hcz20_0 : wr.cell? ⟨gb132, 0, none⟩ = some (.int .i64 x133000_2) := (blk_cell BK132.out 0).trans rfl
        have hcz20_1 : wr.cell? ⟨gb132, 1, none⟩ = some (.int .i64 x133001_2) := (blk_cell BK132.out 1).trans rfl
        have hcz20_2 : wr.cell? ⟨gb132, 2, none⟩ = some (.slice AL133002_2 x133002_2.length cL133002_2) := (blk_cell BK132.out 2).trans rfl
        have hcz20_3 : wr.cell? ⟨gb132, 3, none⟩ = some (.int .i64 x133003_2) := (blk_cell BK132.out 3).trans rfl
        have hcz20_4 : wr.cell? ⟨gb132, 4, none⟩ = some (.int .i64 x133004_2) := (blk_cell BK132.out 4).trans rfl
        have hfz20_0 := blk_frozen BK132.out 0
        have hfz20_1 := blk_frozen BK132.out 1
        have hfz20_2 := blk_frozen BK132.out 2
        have hfz20_3 := blk_frozen BK132.out 3
        have hfz20_4 := blk_frozen BK132.out 4
        go_wp2
        go_ret
        exact ⟨by first | rfl | (simp [errW_none, errW_some] <;> rfl) | (simp [*, errW_none, errW_some] <;> rfl), by repeat (first | (with_reducible first | exact HB.out | apply below_alloc | apply pw_below_drewN | apply below_drew1 | refine below_set ?_ GE132.out) | exact HB.out)⟩
    ·rw [if_neg c5] at H
     exact absurd H (by simp)

end Go.Proofs.Ytmndffnjejgfoaa.Q
