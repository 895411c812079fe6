/- Plain Lean functions with the same answers as the Go functions of this seat, and a proof for each that the Go code comes to just these answers; no condition. Written by a program of this session (the kit's printer, turned). -/
import Derived.Test.YtmndffnjejgfoaaQx0
import Derived.Test.YtmndffnjejgfoaaQx7
namespace Go.Proofs.Ytmndffnjejgfoaa.Q
open Go.RowKit Go.Proofs.YtmndffnjejgfoaaW.PrintWords Go.Proofs.YtmndffnjejgfoaaW.PrintLast Go.Proofs.YtmndffnjejgfoaaW.PrintMore
attribute [local go_sem] max2_int min2_int max_two min_two max_three min_three max_four min_four   -- for this text's walks alone
set_option linter.unusedVariables false
set_option linter.unusedSimpArgs false

/-! ### spec_Table: function 15 -/
mutual
def spec_Table.l0 : Nat → List (S59) → Int → Int → Int → Int → Int → Int → Option (Int × Int × Int × Int)
  | 0, _, _, _, _, _, _, _ => none
  | k + 1, x0, x1, x6, x155000, x155001, x155002, x155003 => if x6 < (x0.length : Int) then ((spec_l18ToldOk.f k x0).bind fun t155 => (spec_Table.j1 k x0 x1 x6 t155 x155000 x155001 x155002 x155003)) else (spec_Table.j1 k x0 x1 x6 false x155000 x155001 x155002 x155003)
def spec_Table.j1 : Nat → List (S59) → Int → Int → Bool → Int → Int → Int → Int → Option (Int × Int × Int × Int)
  | 0, _, _, _, _, _, _, _, _ => none
  | k + 1, x0, x1, x6, x16, x155000, x155001, x155002, x155003 => if x16 = true then (if 0 ≤ x6 then (if x6 < (x0.length : Int) then (if ((rd_T59 x0 x6).f0) ≥ x1 then (spec_Table.j2 k x0 x1 x6 (decide (((rd_T59 x0 x6).f0) ≥ x1)) ((rd_T59 x0 x6).f1) x155000 x155001 x155002 x155003) else (spec_Table.j2 k x0 x1 x6 (decide (((rd_T59 x0 x6).f0) ≥ x1)) false x155000 x155001 x155002 x155003)) else (none)) else (none)) else (some (x155000, x155001, x155002, x155003))
def spec_Table.j2 : Nat → List (S59) → Int → Int → Bool → Bool → Int → Int → Int → Int → Option (Int × Int × Int × Int)
  | 0, _, _, _, _, _, _, _, _, _ => none
  | k + 1, x0, x1, x6, x7, x30, x155000, x155001, x155002, x155003 => if x30 = true then (spec_Table.l0 k x0 x1 (wrap64 (x6 + 1)) (wrap64 (x155000 + 1)) x155001 x155002 x155003) else (if 0 ≤ x6 then (if x6 < (x0.length : Int) then (if (rd_T59 x0 x6).f1 = true then (spec_Table.l0 k x0 x1 (wrap64 (x6 + 1)) x155000 (wrap64 (x155001 + 1)) x155002 x155003) else (if x7 = true then (spec_Table.l0 k x0 x1 (wrap64 (x6 + 1)) x155000 x155001 (wrap64 (x155002 + 1)) x155003) else (spec_Table.l0 k x0 x1 (wrap64 (x6 + 1)) x155000 x155001 x155002 (wrap64 (x155003 + 1))))) else (none)) else (none))
end
def spec_Table.f (k : Nat) (l0 : List (S59)) (a1 : Int) : Option (Int × Int × Int × Int) := spec_Table.l0 k l0 a1 0 0 0 0 0
theorem spec_Table.mono_l : ∀ k, (∀ y0 y1 y2 y3 y4 y5 y6, LeO (spec_Table.l0 k y0 y1 y2 y3 y4 y5 y6) (spec_Table.l0 (k + 1) y0 y1 y2 y3 y4 y5 y6)) ∧ (∀ y0 y1 y2 y3 y4 y5 y6 y7, LeO (spec_Table.j1 k y0 y1 y2 y3 y4 y5 y6 y7) (spec_Table.j1 (k + 1) y0 y1 y2 y3 y4 y5 y6 y7)) ∧ (∀ y0 y1 y2 y3 y4 y5 y6 y7 y8, LeO (spec_Table.j2 k y0 y1 y2 y3 y4 y5 y6 y7 y8) (spec_Table.j2 (k + 1) y0 y1 y2 y3 y4 y5 y6 y7 y8))
  | 0 => ⟨fun _ _ _ _ _ _ _ r h => by simp [spec_Table.l0] at h, fun _ _ _ _ _ _ _ _ r h => by simp [spec_Table.j1] at h, fun _ _ _ _ _ _ _ _ _ r h => by simp [spec_Table.j2] at h⟩
  | k + 1 => by
    obtain ⟨ih0, ih1, ih2⟩ := spec_Table.mono_l k
    refine ⟨?_, ?_, ?_⟩
    · intro y0 y1 y2 y3 y4 y5 y6
      unfold spec_Table.l0
      repeat' first
      | (with_reducible exact ih0 _ _ _ _ _ _ _)
      | (with_reducible exact ih1 _ _ _ _ _ _ _ _)
      | (with_reducible exact ih2 _ _ _ _ _ _ _ _ _)
      | (with_reducible exact spec_l18ToldOk.mono _ _)
      | (with_reducible exact LeO.refl _)
      | (with_reducible exact LeO.none _)
      | (with_reducible refine LeO.ite ?_ ?_)
      | (with_reducible refine LeO.bind ?_ (fun _ => ?_))
      | exact ih0 _ _ _ _ _ _ _
      | exact ih1 _ _ _ _ _ _ _ _
      | exact ih2 _ _ _ _ _ _ _ _ _
      | exact spec_l18ToldOk.mono _ _
      | exact LeO.none _
      | refine LeO.ite ?_ ?_
      | refine LeO.bind ?_ (fun _ => ?_)
    · intro y0 y1 y2 y3 y4 y5 y6 y7
      unfold spec_Table.j1
      repeat' first
      | (with_reducible exact ih0 _ _ _ _ _ _ _)
      | (with_reducible exact ih1 _ _ _ _ _ _ _ _)
      | (with_reducible exact ih2 _ _ _ _ _ _ _ _ _)
      | (with_reducible exact spec_l18ToldOk.mono _ _)
      | (with_reducible exact LeO.refl _)
      | (with_reducible exact LeO.none _)
      | (with_reducible refine LeO.ite ?_ ?_)
      | (with_reducible refine LeO.bind ?_ (fun _ => ?_))
      | exact ih0 _ _ _ _ _ _ _
      | exact ih1 _ _ _ _ _ _ _ _
      | exact ih2 _ _ _ _ _ _ _ _ _
      | exact spec_l18ToldOk.mono _ _
      | exact LeO.none _
      | refine LeO.ite ?_ ?_
      | refine LeO.bind ?_ (fun _ => ?_)
    · intro y0 y1 y2 y3 y4 y5 y6 y7 y8
      unfold spec_Table.j2
      repeat' first
      | (with_reducible exact ih0 _ _ _ _ _ _ _)
      | (with_reducible exact ih1 _ _ _ _ _ _ _ _)
      | (with_reducible exact ih2 _ _ _ _ _ _ _ _ _)
      | (with_reducible exact spec_l18ToldOk.mono _ _)
      | (with_reducible exact LeO.refl _)
      | (with_reducible exact LeO.none _)
      | (with_reducible refine LeO.ite ?_ ?_)
      | (with_reducible refine LeO.bind ?_ (fun _ => ?_))
      | exact ih0 _ _ _ _ _ _ _
      | exact ih1 _ _ _ _ _ _ _ _
      | exact ih2 _ _ _ _ _ _ _ _ _
      | exact spec_l18ToldOk.mono _ _
      | exact LeO.none _
      | refine LeO.ite ?_ ?_
      | refine LeO.bind ?_ (fun _ => ?_)
theorem spec_Table.mono : ∀ a0 a1 k, LeO (spec_Table.f k a0 a1) (spec_Table.f (k + 1) a0 a1) := by
  intro a0 a1 k
  obtain ⟨ih0, ih1, ih2⟩ := spec_Table.mono_l k
  unfold spec_Table.f
  repeat' first
      | (with_reducible exact ih0 _ _ _ _ _ _ _)
      | (with_reducible exact ih1 _ _ _ _ _ _ _ _)
      | (with_reducible exact ih2 _ _ _ _ _ _ _ _ _)
      | (with_reducible exact spec_l18ToldOk.mono _ _)
      | (with_reducible exact LeO.refl _)
      | (with_reducible exact LeO.none _)
      | (with_reducible refine LeO.ite ?_ ?_)
      | (with_reducible refine LeO.bind ?_ (fun _ => ?_))
      | exact ih0 _ _ _ _ _ _ _
      | exact ih1 _ _ _ _ _ _ _ _
      | exact ih2 _ _ _ _ _ _ _ _ _
      | exact spec_l18ToldOk.mono _ _
      | exact LeO.none _
      | refine LeO.ite ?_ ?_
      | refine LeO.bind ?_ (fun _ => ?_)
set_option maxHeartbeats 8000000 in
set_option maxRecDepth 100000 in
theorem spec_Table.calls (k : Nat) (A0 : Option Addr) (c0 : Nat) (l0 : List (S59)) (a1 : Int) (r1 : Int) (r2 : Int) (r3 : Int) (r4 : Int) (w : World) (hr0 : Kd.C k59 w A0 l0.length l0) (hc0 : l0.length ≤ c0) (h : spec_Table.f k l0 a1 = some (r1, r2, r3, r4)) :
    Calls Try.prog 15 #[.slice A0 l0.length c0, .int .i64 a1] w fun e w' => e = .returned (.agg #[.int .i64 r1, .int .i64 r2, .int .i64 r3, .int .i64 r4]) ∧ Below w.heap.size w w' := by
  have hu32 := Try.underlying32
  have HR0 := Aside0.mk hr0
  have HC0 := Aside0.mk hc0
  clear hr0 hc0
  have HB := Aside0.mk (Below.refl w.heap.size w)
  have H : (spec_Table.l0 k l0 a1 0 0 0 0 0) = some (r1, r2, r3, r4) := h
  clear h
  have H' := Aside0.mk H
  clear H
  go_enter Try.func15, Try.ntmps15
  go_wp2_with (first | ((with_reducible refine gate_dst (N := 4) rfl ?_); refine box_event ?hg (N := 4) ?hd (cs := #[.int .i64 0, .int .i64 0, .int .i64 0, .int .i64 0]) (t := 32) ?hr ?_; (case hd => rfl); (case hg => rfl); (case hr => first | (go_simp; done) | (go_simp; rfl)); intro gb153 hg w3 hbox hb; have n0_ := Aside0.mk (below_step (by repeat (first | (with_reducible first | exact HB.out | apply below_alloc | apply pw_below_drewN | apply below_drew1) | exact HB.out)) hb); have n1_ := Aside0.mk (hbox); have n2_ := Aside0.mk ((by rw [hg]; exact (below_size (by repeat (first | (with_reducible first | exact HB.out | apply below_alloc | apply pw_below_drewN | apply below_drew1) | exact HB.out))) : w.heap.size ≤ gb153)); have n3_ := Aside0.mk ((by rw [hg]; exact (below_size (by repeat (first | (with_reducible first | exact HB.out | apply below_alloc | apply pw_below_drewN | apply below_drew1) | exact HB.out))) : w.heap.size ≤ gb153)); clear HB; have HB := n0_; have BK153 := n1_; have GW153 := n2_; have GE153 := n3_; clear n0_ n1_ n2_ n3_; clear hb hbox hg) | ((with_reducible refine gate_dst (N := 5) rfl ?_); refine box_event ?hg (N := 5) ?hd (cs := #[.int .i64 0, .int .i64 0, .int .i64 0, .int .i64 0]) (t := 32) ?hr ?_; (case hd => rfl); (case hg => rfl); (case hr => first | (go_simp; done) | (go_simp; rfl)); intro gb154 hg w4 hbox hb; have n0_ := Aside0.mk (blk_below (g := gb153) (o := .cells #[.int .i64 0, .int .i64 0, .int .i64 0, .int .i64 0] 32 (0, 0)) (by (with_reducible repeat (first | refine blk_drewN ?_ _ | refine blk_drew ?_ | refine blk_alloc ?_ _)); exact BK153.out) hb); have n1_ := Aside0.mk (below_step (by repeat (first | (with_reducible first | exact HB.out | apply below_alloc | apply pw_below_drewN | apply below_drew1 | refine below_set ?_ GE153.out) | exact HB.out)) hb); have n2_ := Aside0.mk (hbox); have n3_ := Aside0.mk ((by rw [hg]; exact (below_size (by repeat (first | (with_reducible first | exact HB.out | apply below_alloc | apply pw_below_drewN | apply below_drew1 | refine below_set ?_ GE153.out) | exact HB.out))) : w.heap.size ≤ gb154)); have n4_ := Aside0.mk ((by rw [hg]; exact (below_size (by repeat (first | (with_reducible first | exact HB.out | apply below_alloc | apply pw_below_drewN | apply below_drew1 | refine below_set ?_ GE153.out) | exact HB.out))) : w.heap.size ≤ gb154)); have n5_ := Aside0.mk ((by rw [hg]; exact Nat.ne_of_lt (blk_lt (g := gb153) (o := .cells #[.int .i64 0, .int .i64 0, .int .i64 0, .int .i64 0] 32 (0, 0)) (by (with_reducible repeat (first | refine blk_drewN ?_ _ | refine blk_drew ?_ | refine blk_alloc ?_ _)); exact BK153.out)) : gb153 ≠ gb154)); have n6_ := Aside0.mk ((by rw [hg]; exact Nat.ne_of_gt (blk_lt (g := gb153) (o := .cells #[.int .i64 0, .int .i64 0, .int .i64 0, .int .i64 0] 32 (0, 0)) (by (with_reducible repeat (first | refine blk_drewN ?_ _ | refine blk_drew ?_ | refine blk_alloc ?_ _)); exact BK153.out)) : gb154 ≠ gb153)); clear BK153; clear HB; have BK153 := n0_; have HB := n1_; have BK154 := n2_; have GW154 := n3_; have GE154 := n4_; have NB153_154 := n5_; have NB154_153 := n6_; clear n0_ n1_ n2_ n3_ n4_ n5_ n6_; clear hb hbox hg; have hnb5 := NB154_153.out; have hnc5 := NB153_154.out; have hcz6_0 : w4.cell? ⟨gb154, 0, none⟩ = some (.int .i64 0) := (blk_cell BK154.out 0).trans rfl; have hcz6_1 : w4.cell? ⟨gb154, 1, none⟩ = some (.int .i64 0) := (blk_cell BK154.out 1).trans rfl; have hcz6_2 : w4.cell? ⟨gb154, 2, none⟩ = some (.int .i64 0) := (blk_cell BK154.out 2).trans rfl; have hcz6_3 : w4.cell? ⟨gb154, 3, none⟩ = some (.int .i64 0) := (blk_cell BK154.out 3).trans rfl; have hfz6_0 := blk_frozen BK154.out 0; have hfz6_1 := blk_frozen BK154.out 1; have hfz6_2 := blk_frozen BK154.out 2; have hfz6_3 := blk_frozen BK154.out 3))
  go_loopg [6] k (fun kq v6 w' => ∃ (x6_1 : Int) (x155000_1 : Int) (x155001_1 : Int) (x155002_1 : Int) (x155003_1 : Int), v6 = .int .i64 x6_1 ∧ Aside0 (spec_Table.l0 kq l0 a1 x6_1 x155000_1 x155001_1 x155002_1 x155003_1 = some (r1, r2, r3, r4)) ∧ Aside0 (kq ≤ k) ∧ Aside0 (w'.heap[gb153]? = some (.cells #[.int .i64 0, .int .i64 0, .int .i64 0, .int .i64 0] 32 (0, 0))) ∧ Aside0 (w'.heap[gb154]? = some (.cells #[.int .i64 x155000_1, .int .i64 x155001_1, .int .i64 x155002_1, .int .i64 x155003_1] 32 (0, 0))) ∧ Aside0 (Below w.heap.size w w'))
  case atStart => exact ⟨(0), (0), (0), (0), (0), (by first | rfl | (simp; done) | (simp [*]; done)), H', ⟨Nat.le_refl _⟩, ⟨by (with_reducible repeat (first | refine blk_drewN ?_ _ | refine blk_drew ?_ | refine blk_alloc ?_ _)); refine blk_far ?_ NB153_154.out _; (with_reducible repeat (first | refine blk_drewN ?_ _ | refine blk_drew ?_ | refine blk_alloc ?_ _)); refine blk_far ?_ NB153_154.out _; (with_reducible repeat (first | refine blk_drewN ?_ _ | refine blk_drew ?_ | refine blk_alloc ?_ _)); refine blk_far ?_ NB153_154.out _; (with_reducible repeat (first | refine blk_drewN ?_ _ | refine blk_drew ?_ | refine blk_alloc ?_ _)); refine blk_far ?_ NB153_154.out _; (with_reducible repeat (first | refine blk_drewN ?_ _ | refine blk_drew ?_ | refine blk_alloc ?_ _)); exact BK153.out⟩, ⟨by (with_reducible repeat (first | refine blk_drewN ?_ _ | refine blk_drew ?_ | refine blk_alloc ?_ _)); refine blk_put (cs := #[.int .i64 0, .int .i64 0, .int .i64 0, .int .i64 0]) ?_ 3 _ rfl; (with_reducible repeat (first | refine blk_drewN ?_ _ | refine blk_drew ?_ | refine blk_alloc ?_ _)); refine blk_put (cs := #[.int .i64 0, .int .i64 0, .int .i64 0, .int .i64 0]) ?_ 2 _ rfl; (with_reducible repeat (first | refine blk_drewN ?_ _ | refine blk_drew ?_ | refine blk_alloc ?_ _)); refine blk_put (cs := #[.int .i64 0, .int .i64 0, .int .i64 0, .int .i64 0]) ?_ 1 _ rfl; (with_reducible repeat (first | refine blk_drewN ?_ _ | refine blk_drew ?_ | refine blk_alloc ?_ _)); refine blk_put (cs := #[.int .i64 0, .int .i64 0, .int .i64 0, .int .i64 0]) ?_ 0 _ rfl; (with_reducible repeat (first | refine blk_drewN ?_ _ | refine blk_drew ?_ | refine blk_alloc ?_ _)); exact BK154.out⟩, ⟨by repeat (first | (with_reducible first | exact HB.out | apply below_alloc | apply pw_below_drewN | apply below_drew1 | refine below_set ?_ GE153.out | refine below_set ?_ GE154.out) | exact HB.out)⟩⟩
  case round =>
    clear H'
    try clear c1
    try clear p2
    try clear c5
    try clear hcz6_0
    try clear hcz6_1
    try clear hcz6_2
    try clear hcz6_3
    try clear hfz6_0
    try clear hfz6_1
    try clear hfz6_2
    try clear hfz6_3
    obtain ⟨x6_1, x155000_1, x155001_1, x155002_1, x155003_1, rfl, HA, HK1, BK153, BK154, HB⟩ := hrel
    cases gk with
    | zero => exact absurd HA.out (by simp [spec_Table.l0])
    | succ k1 =>
      have H := HA.out
      clear HA
      simp only [spec_Table.l0] at H
      have HC7 := Aside0.mk H
      clear H
      go_upto_region 3 with (fail)
      go_cut [16] (fun v16 wc => ∃ (kq : Nat) (x16_6 : Bool), v16 = .bool x16_6 ∧ Aside0 (spec_Table.j1 kq l0 a1 x6_1 x16_6 x155000_1 x155001_1 x155002_1 x155003_1 = some (r1, r2, r3, r4)) ∧ Aside0 (kq ≤ k1) ∧ Aside0 (wc.heap[gb153]? = some (.cells #[.int .i64 0, .int .i64 0, .int .i64 0, .int .i64 0] 32 (0, 0))) ∧ Aside0 (wc.heap[gb154]? = some (.cells #[.int .i64 x155000_1, .int .i64 x155001_1, .int .i64 x155002_1, .int .i64 x155003_1] 32 (0, 0))) ∧ Aside0 (Below w.heap.size w wc))
      case first =>
        have H := HC7.out
        clear HC7
        by_cases c8 : x6_1 < (l0.length : Int)
        · rw [if_pos c8] at H
          have c8b0 : decide (x6_1 < (l0.length : Int)) = true := decide_eq_true c8
          clear c8
          (first | rw [c8b0] | (simp only [i64_w, i32_w]; rw [c8b0]) | skip)
          replace H := Option.bind_eq_some_iff.mp H
          obtain ⟨t155, A90, H⟩ := H
          replace H : (spec_Table.j1 k1 l0 a1 x6_1 t155 x155000_1 x155001_1 x155002_1 x155003_1) = some (r1, r2, r3, r4) := H
          have A9 := Aside0.mk A90
          clear A90
          have H' := Aside0.mk H
          clear H
          go_wp2_with (first | (go_at_call 35; (with_reducible refine (spec_l18ToldOk.calls k1 _ _ l0 t155 _ ?side1 ?side2 A9.out).mono ?_); (case side1 => repeat (first | exact (Kd.C_below HR0.out HB.out) | (with_reducible refine Kd.C_alloc ?_ _) | (with_reducible refine Kd.C_drewN ?_ _) | (with_reducible refine Kd.C_drew ?_))); (case side2 => exact HC0.out); rintro e w' ⟨rfl, ⟨nd, rfl⟩⟩))
          go_meet
          case rel => exact ⟨_, (t155), (by first | rfl | (simp; done) | (simp [*]; done)), H', ⟨by have := HK1.out; first | omega | exact Nat.le_refl _⟩, ⟨by (with_reducible repeat (first | refine blk_drewN ?_ _ | refine blk_drew ?_ | refine blk_alloc ?_ _)); exact BK153.out⟩, ⟨by (with_reducible repeat (first | refine blk_drewN ?_ _ | refine blk_drew ?_ | refine blk_alloc ?_ _)); exact BK154.out⟩, ⟨by repeat (first | (with_reducible first | exact HB.out | apply below_alloc | apply pw_below_drewN | apply below_drew1 | refine below_set ?_ GE153.out | refine below_set ?_ GE154.out) | exact HB.out)⟩⟩
        · rw [if_neg c8] at H
          have c8b0 : decide (x6_1 < (l0.length : Int)) = false := decide_eq_false c8
          clear c8
          (first | rw [c8b0] | (simp only [i64_w, i32_w]; rw [c8b0]) | skip)
          have H' := Aside0.mk H
          clear H
          go_wp2
          go_meet
          case rel => exact ⟨_, (false), (by first | rfl | (simp; done) | (simp [*]; done)), H', ⟨by have := HK1.out; first | omega | exact Nat.le_refl _⟩, ⟨by (with_reducible repeat (first | refine blk_drewN ?_ _ | refine blk_drew ?_ | refine blk_alloc ?_ _)); exact BK153.out⟩, ⟨by (with_reducible repeat (first | refine blk_drewN ?_ _ | refine blk_drew ?_ | refine blk_alloc ?_ _)); exact BK154.out⟩, ⟨by repeat (first | (with_reducible first | exact HB.out | apply below_alloc | apply pw_below_drewN | apply below_drew1 | refine below_set ?_ GE153.out | refine below_set ?_ GE154.out) | exact HB.out)⟩⟩
      case rest =>
        clear HC7
        try clear c1
        try clear p2
        try clear c5
        try clear c8
        try clear c8b0
        try clear hcz6_0
        try clear hcz6_1
        try clear hcz6_2
        try clear hcz6_3
        try clear hfz6_0
        try clear hfz6_1
        try clear hfz6_2
        try clear hfz6_3
        try clear p2
        obtain ⟨kq, x16_6, rfl, HA, HJ6, BK153, BK154, HB⟩ := hcut
        cases kq with
        | zero => exact absurd HA.out (by simp [spec_Table.j1])
        | succ kj6 =>
          have H := HA.out
          clear HA
          simp only [spec_Table.j1] at H
          by_cases c10 : x16_6 = true
          · subst c10
            have H1 : (if 0 ≤ x6_1 then (if x6_1 < (l0.length : Int) then (if ((rd_T59 l0 x6_1).f0) ≥ a1 then (spec_Table.j2 kj6 l0 a1 x6_1 (decide (((rd_T59 l0 x6_1).f0) ≥ a1)) ((rd_T59 l0 x6_1).f1) x155000_1 x155001_1 x155002_1 x155003_1) else (spec_Table.j2 kj6 l0 a1 x6_1 (decide (((rd_T59 l0 x6_1).f0) ≥ a1)) false x155000_1 x155001_1 x155002_1 x155003_1)) else (none)) else (none)) = some (r1, r2, r3, r4) := by rw [if_pos rfl] at H; exact H
            clear H
            have H := H1
            clear H1
            by_cases c11 : 0 ≤ x6_1
            · rw [if_pos c11] at H
              have c11b0 : decide (0 ≤ x6_1) = true := decide_eq_true c11
              clear c11
              by_cases c12 : x6_1 < (l0.length : Int)
              · rw [if_pos c12] at H
                have c12b0 : decide (x6_1 < (l0.length : Int)) = true := decide_eq_true c12
                clear c12
                have HC13 := Aside0.mk H
                clear H
                have p156 : 0 ≤ (x6_1 : Int) := of_decide_eq_true (by first | (with_reducible assumption) | assumption)
                have q156 : x6_1 < (l0.length : Int) := of_decide_eq_true (by first | (with_reducible assumption) | assumption)
                obtain ⟨ad156, e156, hx156_0, hx156_1⟩ := at_T59 HR0.out x6_1 p156 q156
                cases e156
                replace hx156_0 := (HB.out.cell (World.block_lt_of_cell? w _ hx156_0)).trans hx156_0
                replace hx156_1 := (HB.out.cell (World.block_lt_of_cell? w _ hx156_1)).trans hx156_1
                replace p156 := eq_true p156
                replace q156 := eq_true q156
                go_upto_region 7 with (fail)
                go_cut [7, 30] (fun v7 v30 wc => ∃ (kq : Nat) (x7_12 : Bool) (x30_12 : Bool), v7 = .bool x7_12 ∧ v30 = .bool x30_12 ∧ Aside0 (spec_Table.j2 kq l0 a1 x6_1 x7_12 x30_12 x155000_1 x155001_1 x155002_1 x155003_1 = some (r1, r2, r3, r4)) ∧ Aside0 (kq ≤ kj6) ∧ Aside0 (wc.heap[gb153]? = some (.cells #[.int .i64 0, .int .i64 0, .int .i64 0, .int .i64 0] 32 (0, 0))) ∧ Aside0 (wc.heap[gb154]? = some (.cells #[.int .i64 x155000_1, .int .i64 x155001_1, .int .i64 x155002_1, .int .i64 x155003_1] 32 (0, 0))) ∧ Aside0 (Below w.heap.size w wc))
                case first =>
                  have H := HC13.out
                  clear HC13
                  by_cases c14 : ((rd_T59 l0 x6_1).f0) ≥ a1
                  · rw [if_pos c14] at H
                    have c14b0 : decide (a1 ≤ ((rd_T59 l0 x6_1).f0)) = true := decide_eq_true c14
                    clear c14
                    (first | rw [c14b0] | (simp only [i64_w, i32_w]; rw [c14b0]) | skip)
                    have H' := Aside0.mk H
                    clear H
                    have p157 : 0 ≤ (x6_1 : Int) := of_decide_eq_true (by first | (with_reducible assumption) | assumption)
                    have q157 : x6_1 < (l0.length : Int) := of_decide_eq_true (by first | (with_reducible assumption) | assumption)
                    obtain ⟨ad157, e157, hx157_0, hx157_1⟩ := at_T59 HR0.out x6_1 p157 q157
                    obtain rfl : ad156 = ad157 := (by injection e157)
                    replace hx157_0 := (HB.out.cell (World.block_lt_of_cell? w _ hx157_0)).trans hx157_0
                    replace hx157_1 := (HB.out.cell (World.block_lt_of_cell? w _ hx157_1)).trans hx157_1
                    replace p157 := eq_true p157
                    replace q157 := eq_true q157
                    go_wp2
                    go_meet
                    case rel => exact ⟨_, (decide (((rd_T59 l0 x6_1).f0) ≥ a1)), ((rd_T59 l0 x6_1).f1), (by first | rfl | (simp; done) | (simp [*]; done)), (by first | rfl | (simp; done) | (simp [*]; done)), H', ⟨by have := HK1.out; have := HJ6.out; first | omega | exact Nat.le_refl _⟩, ⟨by (with_reducible repeat (first | refine blk_drewN ?_ _ | refine blk_drew ?_ | refine blk_alloc ?_ _)); exact BK153.out⟩, ⟨by (with_reducible repeat (first | refine blk_drewN ?_ _ | refine blk_drew ?_ | refine blk_alloc ?_ _)); exact BK154.out⟩, ⟨by repeat (first | (with_reducible first | exact HB.out | apply below_alloc | apply pw_below_drewN | apply below_drew1 | refine below_set ?_ GE153.out | refine below_set ?_ GE154.out) | exact HB.out)⟩⟩
                  · rw [if_neg c14] at H
                    have c14b0 : decide (a1 ≤ ((rd_T59 l0 x6_1).f0)) = false := decide_eq_false c14
                    clear c14
                    (first | rw [c14b0] | (simp only [i64_w, i32_w]; rw [c14b0]) | skip)
                    have H' := Aside0.mk H
                    clear H
                    go_wp2
                    go_meet
                    case rel => exact ⟨_, (decide (((rd_T59 l0 x6_1).f0) ≥ a1)), (false), (by first | rfl | (simp; done) | (simp [*]; done)), (by first | rfl | (simp; done) | (simp [*]; done)), H', ⟨by have := HK1.out; have := HJ6.out; first | omega | exact Nat.le_refl _⟩, ⟨by (with_reducible repeat (first | refine blk_drewN ?_ _ | refine blk_drew ?_ | refine blk_alloc ?_ _)); exact BK153.out⟩, ⟨by (with_reducible repeat (first | refine blk_drewN ?_ _ | refine blk_drew ?_ | refine blk_alloc ?_ _)); exact BK154.out⟩, ⟨by repeat (first | (with_reducible first | exact HB.out | apply below_alloc | apply pw_below_drewN | apply below_drew1 | refine below_set ?_ GE153.out | refine below_set ?_ GE154.out) | exact HB.out)⟩⟩
                case rest =>
                  clear HC13
                  try clear c1
                  try clear p1
                  try clear q1
                  try clear hx1
                  try clear p2
                  try clear c5
                  try clear c8
                  try clear c8b0
                  try clear c10
                  try clear c11
                  try clear c11b0
                  try clear c12
                  try clear c12b0
                  try clear c14
                  try clear c14b0
                  try clear hcz6_0
                  try clear hcz6_1
                  try clear hcz6_2
                  try clear hcz6_3
                  try clear hfz6_0
                  try clear hfz6_1
                  try clear hfz6_2
                  try clear hfz6_3
                  try clear hx156_0
                  try clear hx156_1
                  try clear hx157_0
                  try clear hx157_1
                  try clear p156
                  try clear p157
                  try clear p2
                  try clear q156
                  try clear q157
                  obtain ⟨kq, x7_12, x30_12, rfl, rfl, HA, HJ12, BK153, BK154, HB⟩ := hcut
                  cases kq with
                  | zero => exact absurd HA.out (by simp [spec_Table.j2])
                  | succ kj12 =>
                    have H := HA.out
                    clear HA
                    simp only [spec_Table.j2] at H
                    by_cases c15 : x30_12 = true
                    · subst c15
                      have H1 : (spec_Table.l0 kj12 l0 a1 (wrap64 (x6_1 + 1)) (wrap64 (x155000_1 + 1)) x155001_1 x155002_1 x155003_1) = some (r1, r2, r3, r4) := by rw [if_pos rfl] at H; exact H
                      clear H
                      have H := H1
                      clear H1
                      have H' := Aside0.mk H
                      clear H
                      have hnb16 := NB154_153.out
                      have hnc16 := NB153_154.out
                      have hcz17_0 : wc.cell? ⟨gb154, 0, none⟩ = some (.int .i64 x155000_1) := (blk_cell BK154.out 0).trans rfl
                      have hcz17_1 : wc.cell? ⟨gb154, 1, none⟩ = some (.int .i64 x155001_1) := (blk_cell BK154.out 1).trans rfl
                      have hcz17_2 : wc.cell? ⟨gb154, 2, none⟩ = some (.int .i64 x155002_1) := (blk_cell BK154.out 2).trans rfl
                      have hcz17_3 : wc.cell? ⟨gb154, 3, none⟩ = some (.int .i64 x155003_1) := (blk_cell BK154.out 3).trans rfl
                      have hfz17_0 := blk_frozen BK154.out 0
                      have hfz17_1 := blk_frozen BK154.out 1
                      have hfz17_2 := blk_frozen BK154.out 2
                      have hfz17_3 := blk_frozen BK154.out 3
                      go_wp2
                      go_roundg kj12
                      case measure => have := HK1.out; have := HJ6.out; have := HJ12.out; omega
                      case rel => exact ⟨(wrap64 (x6_1 + 1)), (wrap64 (x155000_1 + 1)), (x155001_1), (x155002_1), (x155003_1), (by first | rfl | (simp; done) | (simp [*]; done)), H', ⟨by have := HK1.out; have := HJ6.out; have := HJ12.out; omega⟩, ⟨by (with_reducible repeat (first | refine blk_drewN ?_ _ | refine blk_drew ?_ | refine blk_alloc ?_ _)); refine blk_far ?_ NB153_154.out _; (with_reducible repeat (first | refine blk_drewN ?_ _ | refine blk_drew ?_ | refine blk_alloc ?_ _)); exact BK153.out⟩, ⟨by (with_reducible repeat (first | refine blk_drewN ?_ _ | refine blk_drew ?_ | refine blk_alloc ?_ _)); refine blk_put (cs := #[.int .i64 x155000_1, .int .i64 x155001_1, .int .i64 x155002_1, .int .i64 x155003_1]) ?_ 0 _ rfl; (with_reducible repeat (first | refine blk_drewN ?_ _ | refine blk_drew ?_ | refine blk_alloc ?_ _)); exact BK154.out⟩, ⟨by repeat (first | (with_reducible first | exact HB.out | apply below_alloc | apply pw_below_drewN | apply below_drew1 | refine below_set ?_ GE153.out | refine below_set ?_ GE154.out) | exact HB.out)⟩⟩
                    · replace c15 := Bool.eq_false_iff.mpr c15
                      subst c15
                      have H1 : (if 0 ≤ x6_1 then (if x6_1 < (l0.length : Int) then (if (rd_T59 l0 x6_1).f1 = true then (spec_Table.l0 kj12 l0 a1 (wrap64 (x6_1 + 1)) x155000_1 (wrap64 (x155001_1 + 1)) x155002_1 x155003_1) else (if x7_12 = true then (spec_Table.l0 kj12 l0 a1 (wrap64 (x6_1 + 1)) x155000_1 x155001_1 (wrap64 (x155002_1 + 1)) x155003_1) else (spec_Table.l0 kj12 l0 a1 (wrap64 (x6_1 + 1)) x155000_1 x155001_1 x155002_1 (wrap64 (x155003_1 + 1))))) else (none)) else (none)) = some (r1, r2, r3, r4) := by rw [if_neg (show ¬ (false = true) by decide)] at H; exact H
                      clear H
                      have H := H1
                      clear H1
                      by_cases c18 : 0 ≤ x6_1
                      · rw [if_pos c18] at H
                        have c18b0 : decide (0 ≤ x6_1) = true := decide_eq_true c18
                        clear c18
                        by_cases c19 : x6_1 < (l0.length : Int)
                        · rw [if_pos c19] at H
                          have c19b0 : decide (x6_1 < (l0.length : Int)) = true := decide_eq_true c19
                          clear c19
                          obtain ⟨bq20, hbq20⟩ : ∃ b_ : Bool, b_ = ((rd_T59 l0 x6_1).f1) := ⟨_, rfl⟩
                          replace H : (if bq20 = true then (spec_Table.l0 kj12 l0 a1 (wrap64 (x6_1 + 1)) x155000_1 (wrap64 (x155001_1 + 1)) x155002_1 x155003_1) else (if x7_12 = true then (spec_Table.l0 kj12 l0 a1 (wrap64 (x6_1 + 1)) x155000_1 x155001_1 (wrap64 (x155002_1 + 1)) x155003_1) else (spec_Table.l0 kj12 l0 a1 (wrap64 (x6_1 + 1)) x155000_1 x155001_1 x155002_1 (wrap64 (x155003_1 + 1))))) = some (r1, r2, r3, r4) := by rw [← hbq20] at H; exact H
                          have Nbq20 := Aside0.mk hbq20
                          clear hbq20
                          by_cases c21 : bq20 = true
                          · subst c21
                            have H1 : (spec_Table.l0 kj12 l0 a1 (wrap64 (x6_1 + 1)) x155000_1 (wrap64 (x155001_1 + 1)) x155002_1 x155003_1) = some (r1, r2, r3, r4) := by rw [if_pos rfl] at H; exact H
                            clear H
                            have H := H1
                            clear H1
                            have H' := Aside0.mk H
                            clear H
                            have p158 : 0 ≤ (x6_1 : Int) := of_decide_eq_true (by first | (with_reducible assumption) | assumption)
                            have q158 : x6_1 < (l0.length : Int) := of_decide_eq_true (by first | (with_reducible assumption) | assumption)
                            obtain ⟨ad158, e158, hx158_0, hx158_1⟩ := at_T59 HR0.out x6_1 p158 q158
                            (try rw [← Nbq20.out] at hx158_1)
                            obtain rfl : ad156 = ad158 := (by injection e158)
                            replace hx158_0 := (HB.out.cell (World.block_lt_of_cell? w _ hx158_0)).trans hx158_0
                            replace hx158_1 := (HB.out.cell (World.block_lt_of_cell? w _ hx158_1)).trans hx158_1
                            replace p158 := eq_true p158
                            replace q158 := eq_true q158
                            have hnb22 := NB154_153.out
                            have hnc22 := NB153_154.out
                            have hcz23_0 : wc.cell? ⟨gb154, 0, none⟩ = some (.int .i64 x155000_1) := (blk_cell BK154.out 0).trans rfl
                            have hcz23_1 : wc.cell? ⟨gb154, 1, none⟩ = some (.int .i64 x155001_1) := (blk_cell BK154.out 1).trans rfl
                            have hcz23_2 : wc.cell? ⟨gb154, 2, none⟩ = some (.int .i64 x155002_1) := (blk_cell BK154.out 2).trans rfl
                            have hcz23_3 : wc.cell? ⟨gb154, 3, none⟩ = some (.int .i64 x155003_1) := (blk_cell BK154.out 3).trans rfl
                            have hfz23_0 := blk_frozen BK154.out 0
                            have hfz23_1 := blk_frozen BK154.out 1
                            have hfz23_2 := blk_frozen BK154.out 2
                            have hfz23_3 := blk_frozen BK154.out 3
                            go_wp2
                            go_roundg kj12
                            case measure => have := HK1.out; have := HJ6.out; have := HJ12.out; omega
                            case rel => exact ⟨(wrap64 (x6_1 + 1)), (x155000_1), (wrap64 (x155001_1 + 1)), (x155002_1), (x155003_1), (by first | rfl | (simp; done) | (simp [*]; done)), H', ⟨by have := HK1.out; have := HJ6.out; have := HJ12.out; omega⟩, ⟨by (with_reducible repeat (first | refine blk_drewN ?_ _ | refine blk_drew ?_ | refine blk_alloc ?_ _)); refine blk_far ?_ NB153_154.out _; (with_reducible repeat (first | refine blk_drewN ?_ _ | refine blk_drew ?_ | refine blk_alloc ?_ _)); exact BK153.out⟩, ⟨by (with_reducible repeat (first | refine blk_drewN ?_ _ | refine blk_drew ?_ | refine blk_alloc ?_ _)); refine blk_put (cs := #[.int .i64 x155000_1, .int .i64 x155001_1, .int .i64 x155002_1, .int .i64 x155003_1]) ?_ 1 _ rfl; (with_reducible repeat (first | refine blk_drewN ?_ _ | refine blk_drew ?_ | refine blk_alloc ?_ _)); exact BK154.out⟩, ⟨by repeat (first | (with_reducible first | exact HB.out | apply below_alloc | apply pw_below_drewN | apply below_drew1 | refine below_set ?_ GE153.out | refine below_set ?_ GE154.out) | exact HB.out)⟩⟩
                          · replace c21 := Bool.eq_false_iff.mpr c21
                            subst c21
                            have H1 : (if x7_12 = true then (spec_Table.l0 kj12 l0 a1 (wrap64 (x6_1 + 1)) x155000_1 x155001_1 (wrap64 (x155002_1 + 1)) x155003_1) else (spec_Table.l0 kj12 l0 a1 (wrap64 (x6_1 + 1)) x155000_1 x155001_1 x155002_1 (wrap64 (x155003_1 + 1)))) = some (r1, r2, r3, r4) := by rw [if_neg (show ¬ (false = true) by decide)] at H; exact H
                            clear H
                            have H := H1
                            clear H1
                            by_cases c24 : x7_12 = true
                            · subst c24
                              have H1 : (spec_Table.l0 kj12 l0 a1 (wrap64 (x6_1 + 1)) x155000_1 x155001_1 (wrap64 (x155002_1 + 1)) x155003_1) = some (r1, r2, r3, r4) := by rw [if_pos rfl] at H; exact H
                              clear H
                              have H := H1
                              clear H1
                              have H' := Aside0.mk H
                              clear H
                              have p158 : 0 ≤ (x6_1 : Int) := of_decide_eq_true (by first | (with_reducible assumption) | assumption)
                              have q158 : x6_1 < (l0.length : Int) := of_decide_eq_true (by first | (with_reducible assumption) | assumption)
                              obtain ⟨ad158, e158, hx158_0, hx158_1⟩ := at_T59 HR0.out x6_1 p158 q158
                              (try rw [← Nbq20.out] at hx158_1)
                              obtain rfl : ad156 = ad158 := (by injection e158)
                              replace hx158_0 := (HB.out.cell (World.block_lt_of_cell? w _ hx158_0)).trans hx158_0
                              replace hx158_1 := (HB.out.cell (World.block_lt_of_cell? w _ hx158_1)).trans hx158_1
                              replace p158 := eq_true p158
                              replace q158 := eq_true q158
                              have hnb25 := NB154_153.out
                              have hnc25 := NB153_154.out
                              have hcz26_0 : wc.cell? ⟨gb154, 0, none⟩ = some (.int .i64 x155000_1) := (blk_cell BK154.out 0).trans rfl
                              have hcz26_1 : wc.cell? ⟨gb154, 1, none⟩ = some (.int .i64 x155001_1) := (blk_cell BK154.out 1).trans rfl
                              have hcz26_2 : wc.cell? ⟨gb154, 2, none⟩ = some (.int .i64 x155002_1) := (blk_cell BK154.out 2).trans rfl
                              have hcz26_3 : wc.cell? ⟨gb154, 3, none⟩ = some (.int .i64 x155003_1) := (blk_cell BK154.out 3).trans rfl
                              have hfz26_0 := blk_frozen BK154.out 0
                              have hfz26_1 := blk_frozen BK154.out 1
                              have hfz26_2 := blk_frozen BK154.out 2
                              have hfz26_3 := blk_frozen BK154.out 3
                              go_wp2
                              go_roundg kj12
                              case measure => have := HK1.out; have := HJ6.out; have := HJ12.out; omega
                              case rel => exact ⟨(wrap64 (x6_1 + 1)), (x155000_1), (x155001_1), (wrap64 (x155002_1 + 1)), (x155003_1), (by first | rfl | (simp; done) | (simp [*]; done)), H', ⟨by have := HK1.out; have := HJ6.out; have := HJ12.out; omega⟩, ⟨by (with_reducible repeat (first | refine blk_drewN ?_ _ | refine blk_drew ?_ | refine blk_alloc ?_ _)); refine blk_far ?_ NB153_154.out _; (with_reducible repeat (first | refine blk_drewN ?_ _ | refine blk_drew ?_ | refine blk_alloc ?_ _)); exact BK153.out⟩, ⟨by (with_reducible repeat (first | refine blk_drewN ?_ _ | refine blk_drew ?_ | refine blk_alloc ?_ _)); refine blk_put (cs := #[.int .i64 x155000_1, .int .i64 x155001_1, .int .i64 x155002_1, .int .i64 x155003_1]) ?_ 2 _ rfl; (with_reducible repeat (first | refine blk_drewN ?_ _ | refine blk_drew ?_ | refine blk_alloc ?_ _)); exact BK154.out⟩, ⟨by repeat (first | (with_reducible first | exact HB.out | apply below_alloc | apply pw_below_drewN | apply below_drew1 | refine below_set ?_ GE153.out | refine below_set ?_ GE154.out) | exact HB.out)⟩⟩
                            · replace c24 := Bool.eq_false_iff.mpr c24
                              subst c24
                              have H1 : (spec_Table.l0 kj12 l0 a1 (wrap64 (x6_1 + 1)) x155000_1 x155001_1 x155002_1 (wrap64 (x155003_1 + 1))) = some (r1, r2, r3, r4) := by rw [if_neg (show ¬ (false = true) by decide)] at H; exact H
                              clear H
                              have H := H1
                              clear H1
                              have H' := Aside0.mk H
                              clear H
                              have p158 : 0 ≤ (x6_1 : Int) := of_decide_eq_true (by first | (with_reducible assumption) | assumption)
                              have q158 : x6_1 < (l0.length : Int) := of_decide_eq_true (by first | (with_reducible assumption) | assumption)
                              obtain ⟨ad158, e158, hx158_0, hx158_1⟩ := at_T59 HR0.out x6_1 p158 q158
                              (try rw [← Nbq20.out] at hx158_1)
                              obtain rfl : ad156 = ad158 := (by injection e158)
                              replace hx158_0 := (HB.out.cell (World.block_lt_of_cell? w _ hx158_0)).trans hx158_0
                              replace hx158_1 := (HB.out.cell (World.block_lt_of_cell? w _ hx158_1)).trans hx158_1
                              replace p158 := eq_true p158
                              replace q158 := eq_true q158
                              have hnb27 := NB154_153.out
                              have hnc27 := NB153_154.out
                              have hcz28_0 : wc.cell? ⟨gb154, 0, none⟩ = some (.int .i64 x155000_1) := (blk_cell BK154.out 0).trans rfl
                              have hcz28_1 : wc.cell? ⟨gb154, 1, none⟩ = some (.int .i64 x155001_1) := (blk_cell BK154.out 1).trans rfl
                              have hcz28_2 : wc.cell? ⟨gb154, 2, none⟩ = some (.int .i64 x155002_1) := (blk_cell BK154.out 2).trans rfl
                              have hcz28_3 : wc.cell? ⟨gb154, 3, none⟩ = some (.int .i64 x155003_1) := (blk_cell BK154.out 3).trans rfl
                              have hfz28_0 := blk_frozen BK154.out 0
                              have hfz28_1 := blk_frozen BK154.out 1
                              have hfz28_2 := blk_frozen BK154.out 2
                              have hfz28_3 := blk_frozen BK154.out 3
                              go_wp2
                              go_roundg kj12
                              case measure => have := HK1.out; have := HJ6.out; have := HJ12.out; omega
                              case rel => exact ⟨(wrap64 (x6_1 + 1)), (x155000_1), (x155001_1), (x155002_1), (wrap64 (x155003_1 + 1)), (by first | rfl | (simp; done) | (simp [*]; done)), H', ⟨by have := HK1.out; have := HJ6.out; have := HJ12.out; omega⟩, ⟨by (with_reducible repeat (first | refine blk_drewN ?_ _ | refine blk_drew ?_ | refine blk_alloc ?_ _)); refine blk_far ?_ NB153_154.out _; (with_reducible repeat (first | refine blk_drewN ?_ _ | refine blk_drew ?_ | refine blk_alloc ?_ _)); exact BK153.out⟩, ⟨by (with_reducible repeat (first | refine blk_drewN ?_ _ | refine blk_drew ?_ | refine blk_alloc ?_ _)); refine blk_put (cs := #[.int .i64 x155000_1, .int .i64 x155001_1, .int .i64 x155002_1, .int .i64 x155003_1]) ?_ 3 _ rfl; (with_reducible repeat (first | refine blk_drewN ?_ _ | refine blk_drew ?_ | refine blk_alloc ?_ _)); exact BK154.out⟩, ⟨by repeat (first | (with_reducible first | exact HB.out | apply below_alloc | apply pw_below_drewN | apply below_drew1 | refine below_set ?_ GE153.out | refine below_set ?_ GE154.out) | exact HB.out)⟩⟩
                        · rw [if_neg c19] at H
                          exact absurd H (by simp)
                      · rw [if_neg c18] at H
                        exact absurd H (by simp)
              · rw [if_neg c12] at H
                exact absurd H (by simp)
            · rw [if_neg c11] at H
              exact absurd H (by simp)
          · replace c10 := Bool.eq_false_iff.mpr c10
            subst c10
            have H1 : (some (x155000_1, x155001_1, x155002_1, x155003_1)) = some (r1, r2, r3, r4) := by rw [if_neg (show ¬ (false = true) by decide)] at H; exact H
            clear H
            have H := H1
            clear H1
            simp only [Option.some.injEq, Prod.mk.injEq] at H
            obtain ⟨rfl, rfl, rfl, rfl⟩ := H
            have hnb29 := NB154_153.out
            have hnc29 := NB153_154.out
            have hcz30_0 : wc.cell? ⟨gb154, 0, none⟩ = some (.int .i64 x155000_1) := (blk_cell BK154.out 0).trans rfl
            have hcz30_1 : wc.cell? ⟨gb154, 1, none⟩ = some (.int .i64 x155001_1) := (blk_cell BK154.out 1).trans rfl
            have hcz30_2 : wc.cell? ⟨gb154, 2, none⟩ = some (.int .i64 x155002_1) := (blk_cell BK154.out 2).trans rfl
            have hcz30_3 : wc.cell? ⟨gb154, 3, none⟩ = some (.int .i64 x155003_1) := (blk_cell BK154.out 3).trans rfl
            have hfz30_0 := blk_frozen BK154.out 0
            have hfz30_1 := blk_frozen BK154.out 1
            have hfz30_2 := blk_frozen BK154.out 2
            have hfz30_3 := blk_frozen BK154.out 3
            have hcz31_0 : wc.cell? ⟨gb153, 0, none⟩ = some (.int .i64 0) := (blk_cell BK153.out 0).trans rfl
            have hcz31_1 : wc.cell? ⟨gb153, 1, none⟩ = some (.int .i64 0) := (blk_cell BK153.out 1).trans rfl
            have hcz31_2 : wc.cell? ⟨gb153, 2, none⟩ = some (.int .i64 0) := (blk_cell BK153.out 2).trans rfl
            have hcz31_3 : wc.cell? ⟨gb153, 3, none⟩ = some (.int .i64 0) := (blk_cell BK153.out 3).trans rfl
            have hfz31_0 := blk_frozen BK153.out 0
            have hfz31_1 := blk_frozen BK153.out 1
            have hfz31_2 := blk_frozen BK153.out 2
            have hfz31_3 := blk_frozen BK153.out 3
            go_wp2
            refine bodyPost_ret (results_cell_row rfl _ _ gb153 32 #[.int .i64 x155000_1, .int .i64 x155001_1, .int .i64 x155002_1, .int .i64 x155003_1] (0, 0) _ rfl (by (with_reducible repeat (first | refine blk_drewN ?_ _ | refine blk_drew ?_ | refine blk_alloc ?_ _)); refine blk_put (cs := #[.int .i64 x155000_1, .int .i64 x155001_1, .int .i64 x155002_1, .int .i64 0]) ?_ 3 _ rfl; (with_reducible repeat (first | refine blk_drewN ?_ _ | refine blk_drew ?_ | refine blk_alloc ?_ _)); refine blk_put (cs := #[.int .i64 x155000_1, .int .i64 x155001_1, .int .i64 0, .int .i64 0]) ?_ 2 _ rfl; (with_reducible repeat (first | refine blk_drewN ?_ _ | refine blk_drew ?_ | refine blk_alloc ?_ _)); refine blk_put (cs := #[.int .i64 x155000_1, .int .i64 0, .int .i64 0, .int .i64 0]) ?_ 1 _ rfl; (with_reducible repeat (first | refine blk_drewN ?_ _ | refine blk_drew ?_ | refine blk_alloc ?_ _)); refine blk_put (cs := #[.int .i64 0, .int .i64 0, .int .i64 0, .int .i64 0]) ?_ 0 _ rfl; (with_reducible repeat (first | refine blk_drewN ?_ _ | refine blk_drew ?_ | refine blk_alloc ?_ _)); exact BK153.out) Try.underlying32 rfl (by kernel_rfl)) rfl ?_
            exact ⟨by first | rfl | (simp [errW_none, errW_some] <;> rfl) | (simp [*, errW_none, errW_some] <;> rfl), by repeat (first | (with_reducible first | exact HB.out | apply below_alloc | apply pw_below_drewN | apply below_drew1 | refine below_set ?_ GE153.out | refine below_set ?_ GE154.out) | exact HB.out)⟩

end Go.Proofs.Ytmndffnjejgfoaa.Q
