/- Plain Lean functions with the same answers as the Go functions of this seat, and a proof for each that the Go code comes to just these answers; no condition. Written by a program of this session (the kit's printer, turned). -/
import Derived.Test.YtpileeenoocjpaaDoorQx0
import Derived.Test.YtpileeenoocjpaaDoorQx3
import Derived.Test.YtpileeenoocjpaaDoorQx4
namespace Go.Proofs.YtpileeenoocjpaaDoor.Q
open Go.RowKit Go.Proofs.YtpileeenoocjpaaDoorW.PrintWords Go.Proofs.YtpileeenoocjpaaDoorW.PrintLast Go.Proofs.YtpileeenoocjpaaDoorW.PrintMore Go.Proofs.YtpileeenoocjpaaDoorW.PrintFlt
attribute [local go_sem] cmp_lss cmp_leq cmp_gtr cmp_geq cmp_eql cmp_neq flt_l flt_r fgt_l fgt_r feq_l feq_r fne_l fne_r ord_lt ord_gt ord_eq ord_ne conv_int foi_fold run_store_flt
attribute [local go_sem] max2_int min2_int max_two min_two max_three min_three max_four min_four   -- for this text's walks alone
set_option linter.unusedVariables false
set_option linter.unusedSimpArgs false

/-! ### impl_MeanWind: function 25 -/
mutual
def impl_MeanWind.l0 : Nat → List (S54) → Int → List (S54) → Int → Int → List (Nat) → Nat → Nat → Option (Nat × Nat)
 | 0, _, _, _, _, _, _, _, _ => none
 | k + 1, x0, x4, x8, x9, x10, x950, x216000, x216001 => if x10 < x9 then (if 0 ≤ x10 then (if x10 < (x8.length : Int) then ((impl_windOk.f ((rd_T54 x8 x10).f0) ((rd_T54 x8 x10).f1)).bind fun t218 => (if t218 = true then ((impl_WindPair.f ((rd_T54 x8 x10).f0) ((rd_T54 x8 x10).f1) x950).bind fun bt219 => ((impl_AddPair.f x216000 x216001 bt219.1 bt219.2).bind fun bt223 => (impl_MeanWind.l0 k x0 (wrap64 (x4 + 1)) x8 x9 (wrap64 (x10 + 1)) x950 bt223.1 bt223.2))) else (impl_MeanWind.l0 k x0 x4 x8 x9 (wrap64 (x10 + 1)) x950 x216000 x216001))) else (none)) else (none)) else (if x4 = 0 then (impl_MeanWind.j1 k x4 true x216000 x216001) else (impl_MeanWind.j1 k x4 (decide ((x0.length : Int) > 4000)) x216000 x216001))
def impl_MeanWind.j1 : Nat → Int → Bool → Nat → Nat → Option (Nat × Nat)
 | 0, _, _, _, _ => none
 | k + 1, x4, x29, x216000, x216001 => if x29 = true then ((impl_nan.f).bind fun t227 => ((impl_nan.f).bind fun t229 => (some (t227, t229)))) else (some (fdiv x216000 (foi x4), fdiv x216001 (foi x4)))
end
def impl_MeanWind.f (k : Nat) (l0 : List (S54)) (l1 : List (Nat)) : Option (Nat × Nat) := impl_MeanWind.l0 k l0 0 l0 (l0.length : Int) 0 l1 0 0
theorem impl_MeanWind.mono_l : ∀ k, (∀ y0 y1 y2 y3 y4 y5 y6 y7, LeO (impl_MeanWind.l0 k y0 y1 y2 y3 y4 y5 y6 y7) (impl_MeanWind.l0 (k + 1) y0 y1 y2 y3 y4 y5 y6 y7)) ∧ (∀ y0 y1 y2 y3, LeO (impl_MeanWind.j1 k y0 y1 y2 y3) (impl_MeanWind.j1 (k + 1) y0 y1 y2 y3))
 | 0 => ⟨fun _ _ _ _ _ _ _ _ r h => by simp [impl_MeanWind.l0] at h, fun _ _ _ _ r h => by simp [impl_MeanWind.j1] at h⟩
 | k + 1 => by
  obtain ⟨ih0, ih1⟩ := impl_MeanWind.mono_l k
  refine ⟨?_, ?_⟩
  ·intro y0 y1 y2 y3 y4 y5 y6 y7
   unfold impl_MeanWind.l0
   repeat' first
   | (with_reducible exact ih0 _ _ _ _ _ _ _ _)
   | (with_reducible exact ih1 _ _ _ _)
   | (with_reducible exact LeO.refl _)
   | (with_reducible exact LeO.none _)
   | (with_reducible refine LeO.ite ?_ ?_)
   | (with_reducible refine LeO.bind ?_ (fun _ => ?_))
   | exact ih0 _ _ _ _ _ _ _ _
   | exact ih1 _ _ _ _
   | exact LeO.none _
   | refine LeO.ite ?_ ?_
   | refine LeO.bind ?_ (fun _ => ?_)
  ·intro y0 y1 y2 y3
   unfold impl_MeanWind.j1
   repeat' first
   | (with_reducible exact ih0 _ _ _ _ _ _ _ _)
   | (with_reducible exact ih1 _ _ _ _)
   | (with_reducible exact LeO.refl _)
   | (with_reducible exact LeO.none _)
   | (with_reducible refine LeO.ite ?_ ?_)
   | (with_reducible refine LeO.bind ?_ (fun _ => ?_))
   | exact ih0 _ _ _ _ _ _ _ _
   | exact ih1 _ _ _ _
   | exact LeO.none _
   | refine LeO.ite ?_ ?_
   | refine LeO.bind ?_ (fun _ => ?_)
theorem impl_MeanWind.mono : ∀ a0 a1 k, LeO (impl_MeanWind.f k a0 a1) (impl_MeanWind.f (k + 1) a0 a1) := by
 intro a0 a1 k
 obtain ⟨ih0, ih1⟩ := impl_MeanWind.mono_l k
 unfold impl_MeanWind.f
 repeat' first
   | (with_reducible exact ih0 _ _ _ _ _ _ _ _)
   | (with_reducible exact ih1 _ _ _ _)
   | (with_reducible exact LeO.refl _)
   | (with_reducible exact LeO.none _)
   | (with_reducible refine LeO.ite ?_ ?_)
   | (with_reducible refine LeO.bind ?_ (fun _ => ?_))
   | exact ih0 _ _ _ _ _ _ _ _
   | exact ih1 _ _ _ _
   | exact LeO.none _
   | refine LeO.ite ?_ ?_
   | refine LeO.bind ?_ (fun _ => ?_)
set_option maxHeartbeats 8000000 in
set_option maxRecDepth 100000 in
theorem impl_MeanWind.calls (k : Nat) (A0 : Option Addr) (c0 : Nat) (l0 : List (S54)) (l1 : List (Nat)) (r1 : Nat) (r2 : Nat) (w : World) (hr0 : Kd.C k54 w A0 l0.length l0) (hc0 : l0.length ≤ c0) (hr1 : Kd.C Kd.flt w (some ⟨1, 0, none⟩) l1.length l1) (hc1 : l1.length ≤ l1.length) (hn1 : l1.length = 10) (h : impl_MeanWind.f k l0 l1 = some (r1, r2)) :
  Calls Tryd.prog 25 #[.slice A0 l0.length c0] w fun e w' => ∃ q0_ q1_ : Nat, e = .returned (.agg #[.float .f64 (un q0_ r1), .float .f64 (un q1_ r2)]) ∧ Below w.heap.size w w' := by
 have hu42 := Tryd.underlying42
 have hu54 := Tryd.underlying54
 have HR0 := Aside0.mk hr0
 have HC0 := Aside0.mk hc0
 clear hr0 hc0
 have HR1 := Aside0.mk hr1
 have HC1 := Aside0.mk hc1
 clear hr1 hc1
 have HN1 := Aside0.mk hn1
 clear hn1
 have HB := Aside0.mk (Below.refl w.heap.size w)
 have H : (impl_MeanWind.l0 k l0 0 l0 (l0.length : Int) 0 l1 0 0) = some (r1, r2) := h
 clear h
 have H' := Aside0.mk H
 clear H
 go_enter Tryd.func25, Tryd.ntmps25
 go_wp2_with (first | ((with_reducible refine gate_dst (N := 2) rfl ?_); (try (refine gate_guard (by rfl) ?_; dsimp only)); refine box_event ?hg (N := 2) ?hd (cs := #[.float .f64 0, .float .f64 0]) (t := 42) ?hr ?_; (case hd => rfl); (case hg => rfl); (case hr => first | (go_simp; done) | (go_simp; rfl)); intro gb214 hg w3 hbox hb; have n0_ := Aside0.mk (below_step (by repeat (first | (with_reducible first | exact HB.out | apply below_alloc | apply pw_below_drewN | apply below_drew1) | exact HB.out)) hb); have n1_ := Aside0.mk (hbox); have n2_ := Aside0.mk ((by rw [hg]; exact (below_size (by repeat (first | (with_reducible first | exact HB.out | apply below_alloc | apply pw_below_drewN | apply below_drew1) | exact HB.out))) : w.heap.size ≤ gb214)); have n3_ := Aside0.mk ((by rw [hg]; exact (below_size (by repeat (first | (with_reducible first | exact HB.out | apply below_alloc | apply pw_below_drewN | apply below_drew1) | exact HB.out))) : w.heap.size ≤ gb214)); clear HB; have HB := n0_; have BK214 := n1_; have GW214 := n2_; have GE214 := n3_; clear n0_ n1_ n2_ n3_; clear hb hbox hg) | ((with_reducible refine gate_dst (N := 3) rfl ?_); (try (refine gate_guard (by rfl) ?_; dsimp only)); refine box_event ?hg (N := 3) ?hd (cs := #[.float .f64 0, .float .f64 0]) (t := 42) ?hr ?_; (case hd => rfl); (case hg => rfl); (case hr => first | (go_simp; done) | (go_simp; rfl)); intro gb215 hg w4 hbox hb; have n0_ := Aside0.mk (blk_below (g := gb214) (o := .cells #[.float .f64 0, .float .f64 0] 42 (0, 0)) (by (with_reducible repeat (first | refine blk_drewN ?_ _ | refine blk_drew ?_ | refine blk_alloc ?_ _)); exact BK214.out) hb); have n1_ := Aside0.mk (below_step (by repeat (first | (with_reducible first | exact HB.out | apply below_alloc | apply pw_below_drewN | apply below_drew1 | refine below_set ?_ GE214.out) | exact HB.out)) hb); have n2_ := Aside0.mk (hbox); have n3_ := Aside0.mk ((by rw [hg]; exact (below_size (by repeat (first | (with_reducible first | exact HB.out | apply below_alloc | apply pw_below_drewN | apply below_drew1 | refine below_set ?_ GE214.out) | exact HB.out))) : w.heap.size ≤ gb215)); have n4_ := Aside0.mk ((by rw [hg]; exact (below_size (by repeat (first | (with_reducible first | exact HB.out | apply below_alloc | apply pw_below_drewN | apply below_drew1 | refine below_set ?_ GE214.out) | exact HB.out))) : w.heap.size ≤ gb215)); have n5_ := Aside0.mk ((by rw [hg]; exact Nat.ne_of_lt (blk_lt (g := gb214) (o := .cells #[.float .f64 0, .float .f64 0] 42 (0, 0)) (by (with_reducible repeat (first | refine blk_drewN ?_ _ | refine blk_drew ?_ | refine blk_alloc ?_ _)); exact BK214.out)) : gb214 ≠ gb215)); have n6_ := Aside0.mk ((by rw [hg]; exact Nat.ne_of_gt (blk_lt (g := gb214) (o := .cells #[.float .f64 0, .float .f64 0] 42 (0, 0)) (by (with_reducible repeat (first | refine blk_drewN ?_ _ | refine blk_drew ?_ | refine blk_alloc ?_ _)); exact BK214.out)) : gb215 ≠ gb214)); clear BK214; clear HB; have BK214 := n0_; have HB := n1_; have BK215 := n2_; have GW215 := n3_; have GE215 := n4_; have NB214_215 := n5_; have NB215_214 := n6_; clear n0_ n1_ n2_ n3_ n4_ n5_ n6_; clear hb hbox hg; have hnb5 := NB215_214.out; have hnc5 := NB214_215.out; have hcz6_0 : w4.cell? ⟨gb215, 0, none⟩ = some (.float .f64 0) := (blk_cell BK215.out 0).trans rfl; have hcz6_1 : w4.cell? ⟨gb215, 1, none⟩ = some (.float .f64 0) := (blk_cell BK215.out 1).trans rfl; have hfz6_0 := blk_frozen BK215.out 0; have hfz6_1 := blk_frozen BK215.out 1))
 go_loopg [4, 10] k (fun kq v4 v10 w' => ∃ (x4_1 : Int) (x10_1 : Int) (x216000_1 : Nat) (x216001_1 : Nat) (pg216000 : Nat) (pg216001 : Nat), v4 = .int .i64 x4_1 ∧ v10 = .int .i64 x10_1 ∧ Aside0 (impl_MeanWind.l0 kq l0 x4_1 l0 (l0.length : Int) x10_1 l1 x216000_1 x216001_1 = some (r1, r2)) ∧ Aside0 (kq ≤ k) ∧ Aside0 (w'.heap[gb214]? = some (.cells #[.float .f64 0, .float .f64 0] 42 (0, 0))) ∧ Aside0 (w'.heap[gb215]? = some (.cells #[.float .f64 (un pg216000 x216000_1), .float .f64 (un pg216001 x216001_1)] 42 (0, 0))) ∧ Aside0 (Below w.heap.size w w'))
 case atStart => exact ⟨(0), (0), (0), (0), (0), (0), (by first | rfl | (simp; done) | (simp [*]; done)), (by first | rfl | (simp; done) | (simp [*]; done)), H', ⟨Nat.le_refl _⟩, ⟨by (with_reducible repeat (first | refine blk_drewN ?_ _ | refine blk_drew ?_ | refine blk_alloc ?_ _)); refine blk_far ?_ NB214_215.out _; (with_reducible repeat (first | refine blk_drewN ?_ _ | refine blk_drew ?_ | refine blk_alloc ?_ _)); refine blk_far ?_ NB214_215.out _; (with_reducible repeat (first | refine blk_drewN ?_ _ | refine blk_drew ?_ | refine blk_alloc ?_ _)); exact BK214.out⟩, ⟨by (with_reducible repeat (first | refine blk_drewN ?_ _ | refine blk_drew ?_ | refine blk_alloc ?_ _)); refine blk_put (cs := #[.float .f64 0, .float .f64 0]) ?_ 1 _ rfl; (with_reducible repeat (first | refine blk_drewN ?_ _ | refine blk_drew ?_ | refine blk_alloc ?_ _)); refine blk_put (cs := #[.float .f64 0, .float .f64 0]) ?_ 0 _ rfl; (with_reducible repeat (first | refine blk_drewN ?_ _ | refine blk_drew ?_ | refine blk_alloc ?_ _)); exact BK215.out⟩, ⟨by repeat (first | (with_reducible first | exact HB.out | apply below_alloc | apply pw_below_drewN | apply below_drew1 | refine below_set ?_ GE214.out | refine below_set ?_ GE215.out) | exact HB.out)⟩⟩
 case round =>
  clear H'
  try clear c1
  try clear c2
  try clear p2
  try clear c5
  try clear hcz6_0
  try clear hcz6_1
  try clear hfz6_0
  try clear hfz6_1
  obtain ⟨x4_1, x10_1, x216000_1, x216001_1, pg216000, pg216001, rfl, rfl, HA, HK1, BK214, BK215, HB⟩ := hrel
  cases gk with
  | zero => exact absurd HA.out (by simp [impl_MeanWind.l0])
  | succ k1 =>
   have H := HA.out
   clear HA
   simp only [impl_MeanWind.l0] at H
   by_cases c7 : x10_1 < (l0.length : Int)
   ·rw [if_pos c7] at H
    have c7b0 : decide (x10_1 < (l0.length : Int)) = true := decide_eq_true c7
    clear c7
    by_cases c8 : 0 ≤ x10_1
    ·rw [if_pos c8] at H
     have c8b0 : decide (0 ≤ x10_1) = true := decide_eq_true c8
     clear c8
     by_cases c9 : x10_1 < (l0.length : Int)
     ·rw [if_pos c9] at H
      have c9b0 : decide (x10_1 < (l0.length : Int)) = true := decide_eq_true c9
      clear c9
      replace H := Option.bind_eq_some_iff.mp H
      obtain ⟨t218, A100, H⟩ := H
      replace H : (if t218 = true then ((impl_WindPair.f ((rd_T54 l0 x10_1).f0) ((rd_T54 l0 x10_1).f1) l1).bind fun bt219 => ((impl_AddPair.f x216000_1 x216001_1 bt219.1 bt219.2).bind fun bt223 => (impl_MeanWind.l0 k1 l0 (wrap64 (x4_1 + 1)) l0 (l0.length : Int) (wrap64 (x10_1 + 1)) l1 bt223.1 bt223.2))) else (impl_MeanWind.l0 k1 l0 x4_1 l0 (l0.length : Int) (wrap64 (x10_1 + 1)) l1 x216000_1 x216001_1)) = some (r1, r2) := H
      have A10 := Aside0.mk A100
      clear A100
      by_cases c11 : t218 = true
      ·subst c11
       have H1 : ((impl_WindPair.f ((rd_T54 l0 x10_1).f0) ((rd_T54 l0 x10_1).f1) l1).bind fun bt219 => ((impl_AddPair.f x216000_1 x216001_1 bt219.1 bt219.2).bind fun bt223 => (impl_MeanWind.l0 k1 l0 (wrap64 (x4_1 + 1)) l0 (l0.length : Int) (wrap64 (x10_1 + 1)) l1 bt223.1 bt223.2))) = some (r1, r2) := by rw [if_pos rfl] at H; exact H
       clear H
       have H := H1
       clear H1
       replace H := Option.bind_eq_some_iff.mp H
       obtain ⟨⟨t219, t221⟩, A120, H⟩ := H
       replace H : ((impl_AddPair.f x216000_1 x216001_1 t219 t221).bind fun bt223 => (impl_MeanWind.l0 k1 l0 (wrap64 (x4_1 + 1)) l0 (l0.length : Int) (wrap64 (x10_1 + 1)) l1 bt223.1 bt223.2)) = some (r1, r2) := H
       have A12 := Aside0.mk A120
       clear A120
       replace H := Option.bind_eq_some_iff.mp H
       obtain ⟨⟨t223, t225⟩, A130, H⟩ := H
       replace H : (impl_MeanWind.l0 k1 l0 (wrap64 (x4_1 + 1)) l0 (l0.length : Int) (wrap64 (x10_1 + 1)) l1 t223 t225) = some (r1, r2) := H
       have A13 := Aside0.mk A130
       clear A130
       have H' := Aside0.mk H
       clear H
       have p216 : 0 ≤ (x10_1 : Int) := of_decide_eq_true (by first | (with_reducible assumption) | assumption)
       have q216 : x10_1 < (l0.length : Int) := of_decide_eq_true (by first | (with_reducible assumption) | assumption)
       obtain ⟨ad216, pf216_1, e216, hx216_0, hx216_1⟩ := at_T54 HR0.out x10_1 p216 q216
       cases e216
       replace hx216_0 := (HB.out.cell (World.block_lt_of_cell? w _ hx216_0)).trans hx216_0
       replace hx216_1 := (HB.out.cell (World.block_lt_of_cell? w _ hx216_1)).trans hx216_1
       replace p216 := eq_true p216
       replace q216 := eq_true q216
       try go_wp2_with (first | ((with_reducible refine gate_dst (N := 6) rfl ?_); (try (refine gate_guard (by rfl) ?_; dsimp only)); refine box_event ?hg (N := 6) ?hd (cs := #[.int .i64 0, .float .f64 0]) (t := 54) ?hr ?_; (case hd => rfl); (case hg => rfl); (case hr => first | (go_simp; done) | (go_simp; rfl)); intro gb217 hg w14 hbox hb; have n0_ := Aside0.mk (blk_below (g := gb214) (o := .cells #[.float .f64 0, .float .f64 0] 42 (0, 0)) (by (with_reducible repeat (first | refine blk_drewN ?_ _ | refine blk_drew ?_ | refine blk_alloc ?_ _)); exact BK214.out) hb); have n1_ := Aside0.mk (blk_below (g := gb215) (o := .cells #[.float .f64 (un pg216000 x216000_1), .float .f64 (un pg216001 x216001_1)] 42 (0, 0)) (by (with_reducible repeat (first | refine blk_drewN ?_ _ | refine blk_drew ?_ | refine blk_alloc ?_ _)); exact BK215.out) hb); have n2_ := Aside0.mk (below_step (by repeat (first | (with_reducible first | exact HB.out | apply below_alloc | apply pw_below_drewN | apply below_drew1 | refine below_set ?_ GE214.out | refine below_set ?_ GE215.out) | exact HB.out)) hb); have n3_ := Aside0.mk (hbox); have n4_ := Aside0.mk ((by rw [hg]; exact (below_size (by repeat (first | (with_reducible first | exact HB.out | apply below_alloc | apply pw_below_drewN | apply below_drew1 | refine below_set ?_ GE214.out | refine below_set ?_ GE215.out) | exact HB.out))) : w.heap.size ≤ gb217)); have n5_ := Aside0.mk ((by rw [hg]; exact (below_size (by repeat (first | (with_reducible first | exact HB.out | apply below_alloc | apply pw_below_drewN | apply below_drew1 | refine below_set ?_ GE214.out | refine below_set ?_ GE215.out) | exact HB.out))) : w.heap.size ≤ gb217)); have n6_ := Aside0.mk ((by rw [hg]; exact Nat.ne_of_lt (blk_lt (g := gb214) (o := .cells #[.float .f64 0, .float .f64 0] 42 (0, 0)) (by (with_reducible repeat (first | refine blk_drewN ?_ _ | refine blk_drew ?_ | refine blk_alloc ?_ _)); exact BK214.out)) : gb214 ≠ gb217)); have n7_ := Aside0.mk ((by rw [hg]; exact Nat.ne_of_gt (blk_lt (g := gb214) (o := .cells #[.float .f64 0, .float .f64 0] 42 (0, 0)) (by (with_reducible repeat (first | refine blk_drewN ?_ _ | refine blk_drew ?_ | refine blk_alloc ?_ _)); exact BK214.out)) : gb217 ≠ gb214)); have n8_ := Aside0.mk ((by rw [hg]; exact Nat.ne_of_lt (blk_lt (g := gb215) (o := .cells #[.float .f64 (un pg216000 x216000_1), .float .f64 (un pg216001 x216001_1)] 42 (0, 0)) (by (with_reducible repeat (first | refine blk_drewN ?_ _ | refine blk_drew ?_ | refine blk_alloc ?_ _)); exact BK215.out)) : gb215 ≠ gb217)); have n9_ := Aside0.mk ((by rw [hg]; exact Nat.ne_of_gt (blk_lt (g := gb215) (o := .cells #[.float .f64 (un pg216000 x216000_1), .float .f64 (un pg216001 x216001_1)] 42 (0, 0)) (by (with_reducible repeat (first | refine blk_drewN ?_ _ | refine blk_drew ?_ | refine blk_alloc ?_ _)); exact BK215.out)) : gb217 ≠ gb215)); clear BK214; clear BK215; clear HB; have BK214 := n0_; have BK215 := n1_; have HB := n2_; have BK217 := n3_; have GW217 := n4_; have GE217 := n5_; have NB214_217 := n6_; have NB217_214 := n7_; have NB215_217 := n8_; have NB217_215 := n9_; clear n0_ n1_ n2_ n3_ n4_ n5_ n6_ n7_ n8_ n9_; clear hb hbox hg; have hnb15 := NB217_214.out; have hnc15 := NB214_217.out; have hnb16 := NB217_215.out; have hnc16 := NB215_217.out; have hcz17_0 : w14.cell? ⟨gb217, 0, none⟩ = some (.int .i64 0) := (blk_cell BK217.out 0).trans rfl; have hcz17_1 : w14.cell? ⟨gb217, 1, none⟩ = some (.float .f64 0) := (blk_cell BK217.out 1).trans rfl; have hfz17_0 := blk_frozen BK217.out 0; have hfz17_1 := blk_frozen BK217.out 1) | ((with_reducible refine gate_callee (f := 61) rfl ?_); refine goesL_ (some 15) rfl rfl Tryd.func61 (by kernel_rfl) rfl #[.agg #[.int .i64 ((rd_T54 l0 x10_1).f0), .float .f64 (un pf216_1 ((rd_T54 l0 x10_1).f1))]] rfl (by (try simp only [List.map_toArray, List.map_cons, List.map_nil]); first | done | rfl | (simp only [List.length_drop, List.length_take]; rfl)) ?_; (with_reducible refine (impl_windOk.calls ((rd_T54 l0 x10_1).f0) pf216_1 ((rd_T54 l0 x10_1).f1) true _ A10.out).mono ?_); rintro e w18 ⟨rfl, hb⟩; refine ⟨_, rfl, ?_⟩; have n0_ := Aside0.mk (blk_below (g := gb214) (o := .cells #[.float .f64 0, .float .f64 0] 42 (0, 0)) (by (with_reducible repeat (first | refine blk_drewN ?_ _ | refine blk_drew ?_ | refine blk_alloc ?_ _)); refine blk_far ?_ NB214_217.out _; (with_reducible repeat (first | refine blk_drewN ?_ _ | refine blk_drew ?_ | refine blk_alloc ?_ _)); refine blk_far ?_ NB214_217.out _; (with_reducible repeat (first | refine blk_drewN ?_ _ | refine blk_drew ?_ | refine blk_alloc ?_ _)); exact BK214.out) hb); have n1_ := Aside0.mk (blk_below (g := gb215) (o := .cells #[.float .f64 (un pg216000 x216000_1), .float .f64 (un pg216001 x216001_1)] 42 (0, 0)) (by (with_reducible repeat (first | refine blk_drewN ?_ _ | refine blk_drew ?_ | refine blk_alloc ?_ _)); refine blk_far ?_ NB215_217.out _; (with_reducible repeat (first | refine blk_drewN ?_ _ | refine blk_drew ?_ | refine blk_alloc ?_ _)); refine blk_far ?_ NB215_217.out _; (with_reducible repeat (first | refine blk_drewN ?_ _ | refine blk_drew ?_ | refine blk_alloc ?_ _)); exact BK215.out) hb); have n2_ := Aside0.mk (blk_below (g := gb217) (o := .cells #[.int .i64 ((rd_T54 l0 x10_1).f0), .float .f64 (un pf216_1 ((rd_T54 l0 x10_1).f1))] 54 (0, 0)) (by (with_reducible repeat (first | refine blk_drewN ?_ _ | refine blk_drew ?_ | refine blk_alloc ?_ _)); refine blk_put (cs := #[.int .i64 ((rd_T54 l0 x10_1).f0), .float .f64 0]) ?_ 1 _ rfl; (with_reducible repeat (first | refine blk_drewN ?_ _ | refine blk_drew ?_ | refine blk_alloc ?_ _)); refine blk_put (cs := #[.int .i64 0, .float .f64 0]) ?_ 0 _ rfl; (with_reducible repeat (first | refine blk_drewN ?_ _ | refine blk_drew ?_ | refine blk_alloc ?_ _)); exact BK217.out) hb); have n3_ := Aside0.mk (below_step (by repeat (first | (with_reducible first | exact HB.out | apply below_alloc | apply pw_below_drewN | apply below_drew1 | refine below_set ?_ GE214.out | refine below_set ?_ GE215.out | refine below_set ?_ GE217.out) | exact HB.out)) hb); clear BK214; clear BK215; clear BK217; clear HB; have BK214 := n0_; have BK215 := n1_; have BK217 := n2_; have HB := n3_; clear n0_ n1_ n2_ n3_; (try clear hb); (try clear hb2); (try clear hk); (try clear hi)))
       have n0_ := Aside0.mk (blk_drew BK214.out)
       have n1_ := Aside0.mk (blk_drew BK215.out)
       have n2_ := Aside0.mk (blk_drew BK217.out)
       have n3_ := Aside0.mk (below_drew1 HB.out)
       clear BK214
       clear BK215
       clear BK217
       clear HB
       have BK214 := n0_
       have BK215 := n1_
       have BK217 := n2_
       have HB := n3_
       clear n0_ n1_ n2_ n3_
       refine start_ (n := 5) (S := fun w' => w'.cell? ⟨gb215, 0, none⟩ = some (.float .f64 (un pg216000 x216000_1)) ∧ w'.cell? ⟨gb215, 1, none⟩ = some (.float .f64 (un pg216001 x216001_1)) ∧ w'.cell? ⟨gb217, 0, none⟩ = some (.int .i64 ((rd_T54 l0 x10_1).f0)) ∧ w'.cell? ⟨gb217, 1, none⟩ = some (.float .f64 (un pf216_1 ((rd_T54 l0 x10_1).f1)))) (ds := [4]) #[false, false, false, false, false] (by kernel_rfl) rfl rfl ⟨(blk_cell BK215.out 0).trans rfl, (blk_cell BK215.out 1).trans rfl, (blk_cell BK217.out 0).trans rfl, (blk_cell BK217.out 1).trans rfl⟩ (fun hHeld => ?_)
       generalize w18.drew = w19 at BK214 BK215 BK217 HB hHeld ⊢
       refine take_ (i := 0) (N := some 16) (v := ?_) (a' := ?_) #[true, false, false, false, false] rfl rfl (by kernel_rfl) (fun _ _ _ h => h) (Or.inl ⟨by rfl, ?_⟩) hHeld ?_ ?_
       rotate_left
       ·rintro w' ⟨s0, s1, s2, s3⟩
        go_simp
        with_reducible rfl
       rotate_left
       ·simp only [Act.put, sqA, sqZ, sqS, i64_w, i32_w]
        rfl
       refine take_ (i := 1) (N := some 17) (v := ?_) (a' := ?_) #[true, true, false, false, false] rfl rfl (by kernel_rfl) (fun _ _ _ h => h) (Or.inl ⟨by rfl, ?_⟩) hHeld ?_ ?_
       rotate_left
       ·rintro w' ⟨s0, s1, s2, s3⟩
        go_simp
        with_reducible rfl
       rotate_left
       ·simp only [Act.put, sqA, sqZ, sqS, i64_w, i32_w]
        rfl
       refine one_ (i := 2) (N := some 18) #[true, true, true, false, false] rfl rfl (by kernel_rfl) (by decide) (fun K hK => ?_)
       refine goes_ Tryd.func38 (by kernel_rfl) rfl #[.agg #[.int .i64 ((rd_T54 l0 x10_1).f0), .float .f64 (un pf216_1 ((rd_T54 l0 x10_1).f1))]] (by rfl) rfl rfl (by (try simp only [List.map_toArray, List.map_cons, List.map_nil]); first | done | rfl | (simp only [List.length_drop, List.length_take]; rfl)) ?_
       with_reducible refine (impl_WindPair.calls ((rd_T54 l0 x10_1).f0) pf216_1 ((rd_T54 l0 x10_1).f1) l1 t219 t221 _ ?side1 ?side2 ?side3 A12.out).mono ?_
       (case side1 => repeat (first | exact (Kd.C_below HR1.out HB.out) | (with_reducible refine Kd.C_alloc ?_ _) | (with_reducible refine Kd.C_drewN ?_ _) | (with_reducible refine Kd.C_drew ?_)))
       (case side2 => exact HC1.out)
       (case side3 => exact HN1.out)
       rintro e w20 ⟨pr220, pr222, rfl, hb⟩
       refine ⟨_, rfl, ?_⟩
       have n0_ := Aside0.mk (blk_below (g := gb214) (o := .cells #[.float .f64 0, .float .f64 0] 42 (0, 0)) (by (with_reducible repeat (first | refine blk_drewN ?_ _ | refine blk_drew ?_ | refine blk_alloc ?_ _)); exact BK214.out) hb)
       have n1_ := Aside0.mk (blk_below (g := gb215) (o := .cells #[.float .f64 (un pg216000 x216000_1), .float .f64 (un pg216001 x216001_1)] 42 (0, 0)) (by (with_reducible repeat (first | refine blk_drewN ?_ _ | refine blk_drew ?_ | refine blk_alloc ?_ _)); exact BK215.out) hb)
       have n2_ := Aside0.mk (blk_below (g := gb217) (o := .cells #[.int .i64 ((rd_T54 l0 x10_1).f0), .float .f64 (un pf216_1 ((rd_T54 l0 x10_1).f1))] 54 (0, 0)) (by (with_reducible repeat (first | refine blk_drewN ?_ _ | refine blk_drew ?_ | refine blk_alloc ?_ _)); exact BK217.out) hb)
       have n3_ := Aside0.mk (below_step (by repeat (first | (with_reducible first | exact HB.out | apply below_alloc | apply pw_below_drewN | apply below_drew1 | refine below_set ?_ GE214.out | refine below_set ?_ GE215.out | refine below_set ?_ GE217.out) | exact HB.out)) hb)
       clear BK214
       clear BK215
       clear BK217
       clear HB
       have BK214 := n0_
       have BK215 := n1_
       have BK217 := n2_
       have HB := n3_
       clear n0_ n1_ n2_ n3_
       (try clear hb)
       (try clear hb2)
       (try clear hk)
       (try clear hi)
       refine hK.out _ _ ⟨(blk_cell BK215.out 0).trans rfl, (blk_cell BK215.out 1).trans rfl, (blk_cell BK217.out 0).trans rfl, (blk_cell BK217.out 1).trans rfl⟩ (fun hHeld => ?_)
       clear hK K
       refine norm_ (a' := ?_) ?_ ?_
       rotate_left
       ·show Act.put _ (some 18) _ = _
        simp only [Act.put, sqA, sqZ, sqS, i64_w, i32_w]
        rfl
       refine one_ (i := 3) (N := some 19) #[true, true, true, true, false] rfl rfl (by kernel_rfl) (by decide) (fun K hK => ?_)
       refine goes_ Tryd.func62 (by kernel_rfl) rfl #[.agg #[.float .f64 (un pg216000 x216000_1), .float .f64 (un pg216001 x216001_1)], .agg #[.float .f64 (un pr220 t219), .float .f64 (un pr222 t221)]] (by rfl) rfl rfl (by (try simp only [List.map_toArray, List.map_cons, List.map_nil]); first | done | rfl | (simp only [List.length_drop, List.length_take]; rfl)) ?_
       with_reducible refine (impl_AddPair.calls pg216000 x216000_1 pg216001 x216001_1 pr220 t219 pr222 t221 t223 t225 _ A13.out).mono ?_
       rintro e w21 ⟨pr224, pr226, rfl, hb⟩
       refine ⟨_, rfl, ?_⟩
       have n0_ := Aside0.mk (blk_below (g := gb214) (o := .cells #[.float .f64 0, .float .f64 0] 42 (0, 0)) (by (with_reducible repeat (first | refine blk_drewN ?_ _ | refine blk_drew ?_ | refine blk_alloc ?_ _)); exact BK214.out) hb)
       have n1_ := Aside0.mk (blk_below (g := gb215) (o := .cells #[.float .f64 (un pg216000 x216000_1), .float .f64 (un pg216001 x216001_1)] 42 (0, 0)) (by (with_reducible repeat (first | refine blk_drewN ?_ _ | refine blk_drew ?_ | refine blk_alloc ?_ _)); exact BK215.out) hb)
       have n2_ := Aside0.mk (blk_below (g := gb217) (o := .cells #[.int .i64 ((rd_T54 l0 x10_1).f0), .float .f64 (un pf216_1 ((rd_T54 l0 x10_1).f1))] 54 (0, 0)) (by (with_reducible repeat (first | refine blk_drewN ?_ _ | refine blk_drew ?_ | refine blk_alloc ?_ _)); exact BK217.out) hb)
       have n3_ := Aside0.mk (below_step (by repeat (first | (with_reducible first | exact HB.out | apply below_alloc | apply pw_below_drewN | apply below_drew1 | refine below_set ?_ GE214.out | refine below_set ?_ GE215.out | refine below_set ?_ GE217.out) | exact HB.out)) hb)
       clear BK214
       clear BK215
       clear BK217
       clear HB
       have BK214 := n0_
       have BK215 := n1_
       have BK217 := n2_
       have HB := n3_
       clear n0_ n1_ n2_ n3_
       (try clear hb)
       (try clear hb2)
       (try clear hk)
       (try clear hi)
       refine hK.out _ _ ⟨(blk_cell BK215.out 0).trans rfl, (blk_cell BK215.out 1).trans rfl, (blk_cell BK217.out 0).trans rfl, (blk_cell BK217.out 1).trans rfl⟩ (fun hHeld => ?_)
       clear hK K
       refine norm_ (a' := ?_) ?_ ?_
       rotate_left
       ·show Act.put _ (some 19) _ = _
        simp only [Act.put, sqA, sqZ, sqS, i64_w, i32_w]
        rfl
       refine last_ (i := 4) (N := none) #[true, true, true, true, true] rfl rfl (by kernel_rfl) (by decide) (fun K hK => ?_)
       have hs22 : w21.cell? ⟨gb215, 0, none⟩ = some (.float .f64 (un pg216000 x216000_1)) := (blk_cell BK215.out 0).trans rfl
       have hfs22 := blk_frozen BK215.out 0
       have hns22_0 := NB214_215.out
       have hns22_2 := NB217_215.out
       have hms22_0 := NB215_214.out
       have hms22_2 := NB215_217.out
       have hs23 : w21.cell? ⟨gb215, 1, none⟩ = some (.float .f64 (un pg216001 x216001_1)) := (blk_cell BK215.out 1).trans rfl
       have hfs23 := blk_frozen BK215.out 1
       have hns23_0 := NB214_215.out
       have hns23_2 := NB217_215.out
       have hms23_0 := NB215_214.out
       have hms23_2 := NB215_217.out
       refine skip_ (w1 := ?_) (by rfl) rfl ?_ ?_
       rotate_left
       ·go_simp
        rfl
       refine hK.out _ _ ?_
       clear hK K
       refine done_ (by kernel_rfl) ?_
       try go_wp2
       go_roundg k1
       case measure => have := HK1.out; omega
       case rel => exact ⟨(wrap64 (x4_1 + 1)), (wrap64 (x10_1 + 1)), (t223), (t225), (pr224), (pr226), (by first | rfl | (simp; done) | (simp [*]; done)), (by first | rfl | (simp; done) | (simp [*]; done)), H', ⟨by have := HK1.out; omega⟩, ⟨by (with_reducible repeat (first | refine blk_drewN ?_ _ | refine blk_drew ?_ | refine blk_alloc ?_ _)); refine blk_far ?_ NB214_215.out _; (with_reducible repeat (first | refine blk_drewN ?_ _ | refine blk_drew ?_ | refine blk_alloc ?_ _)); refine blk_far ?_ NB214_215.out _; (with_reducible repeat (first | refine blk_drewN ?_ _ | refine blk_drew ?_ | refine blk_alloc ?_ _)); exact BK214.out⟩, ⟨by (with_reducible repeat (first | refine blk_drewN ?_ _ | refine blk_drew ?_ | refine blk_alloc ?_ _)); refine blk_put (cs := #[.float .f64 (un pr224 t223), .float .f64 (un pg216001 x216001_1)]) ?_ 1 _ rfl; (with_reducible repeat (first | refine blk_drewN ?_ _ | refine blk_drew ?_ | refine blk_alloc ?_ _)); refine blk_put (cs := #[.float .f64 (un pg216000 x216000_1), .float .f64 (un pg216001 x216001_1)]) ?_ 0 _ rfl; (with_reducible repeat (first | refine blk_drewN ?_ _ | refine blk_drew ?_ | refine blk_alloc ?_ _)); exact BK215.out⟩, ⟨by repeat (first | (with_reducible first | exact HB.out | apply below_alloc | apply pw_below_drewN | apply below_drew1 | refine below_set ?_ GE214.out | refine below_set ?_ GE215.out | refine below_set ?_ GE217.out) | exact HB.out)⟩⟩
      ·replace c11 := Bool.eq_false_iff.mpr c11
       subst c11
       have H1 : (impl_MeanWind.l0 k1 l0 x4_1 l0 (l0.length : Int) (wrap64 (x10_1 + 1)) l1 x216000_1 x216001_1) = some (r1, r2) := by rw [if_neg (show ¬ (false = true) by decide)] at H; exact H
       clear H
       have H := H1
       clear H1
       have H' := Aside0.mk H
       clear H
       have p216 : 0 ≤ (x10_1 : Int) := of_decide_eq_true (by first | (with_reducible assumption) | assumption)
       have q216 : x10_1 < (l0.length : Int) := of_decide_eq_true (by first | (with_reducible assumption) | assumption)
       obtain ⟨ad216, pf216_1, e216, hx216_0, hx216_1⟩ := at_T54 HR0.out x10_1 p216 q216
       cases e216
       replace hx216_0 := (HB.out.cell (World.block_lt_of_cell? w _ hx216_0)).trans hx216_0
       replace hx216_1 := (HB.out.cell (World.block_lt_of_cell? w _ hx216_1)).trans hx216_1
       replace p216 := eq_true p216
       replace q216 := eq_true q216
       go_wp2_with (first | ((with_reducible refine gate_dst (N := 6) rfl ?_); (try (refine gate_guard (by rfl) ?_; dsimp only)); refine box_event ?hg (N := 6) ?hd (cs := #[.int .i64 0, .float .f64 0]) (t := 54) ?hr ?_; (case hd => rfl); (case hg => rfl); (case hr => first | (go_simp; done) | (go_simp; rfl)); intro gb217 hg w24 hbox hb; have n0_ := Aside0.mk (blk_below (g := gb214) (o := .cells #[.float .f64 0, .float .f64 0] 42 (0, 0)) (by (with_reducible repeat (first | refine blk_drewN ?_ _ | refine blk_drew ?_ | refine blk_alloc ?_ _)); exact BK214.out) hb); have n1_ := Aside0.mk (blk_below (g := gb215) (o := .cells #[.float .f64 (un pg216000 x216000_1), .float .f64 (un pg216001 x216001_1)] 42 (0, 0)) (by (with_reducible repeat (first | refine blk_drewN ?_ _ | refine blk_drew ?_ | refine blk_alloc ?_ _)); exact BK215.out) hb); have n2_ := Aside0.mk (below_step (by repeat (first | (with_reducible first | exact HB.out | apply below_alloc | apply pw_below_drewN | apply below_drew1 | refine below_set ?_ GE214.out | refine below_set ?_ GE215.out) | exact HB.out)) hb); have n3_ := Aside0.mk (hbox); have n4_ := Aside0.mk ((by rw [hg]; exact (below_size (by repeat (first | (with_reducible first | exact HB.out | apply below_alloc | apply pw_below_drewN | apply below_drew1 | refine below_set ?_ GE214.out | refine below_set ?_ GE215.out) | exact HB.out))) : w.heap.size ≤ gb217)); have n5_ := Aside0.mk ((by rw [hg]; exact (below_size (by repeat (first | (with_reducible first | exact HB.out | apply below_alloc | apply pw_below_drewN | apply below_drew1 | refine below_set ?_ GE214.out | refine below_set ?_ GE215.out) | exact HB.out))) : w.heap.size ≤ gb217)); have n6_ := Aside0.mk ((by rw [hg]; exact Nat.ne_of_lt (blk_lt (g := gb214) (o := .cells #[.float .f64 0, .float .f64 0] 42 (0, 0)) (by (with_reducible repeat (first | refine blk_drewN ?_ _ | refine blk_drew ?_ | refine blk_alloc ?_ _)); exact BK214.out)) : gb214 ≠ gb217)); have n7_ := Aside0.mk ((by rw [hg]; exact Nat.ne_of_gt (blk_lt (g := gb214) (o := .cells #[.float .f64 0, .float .f64 0] 42 (0, 0)) (by (with_reducible repeat (first | refine blk_drewN ?_ _ | refine blk_drew ?_ | refine blk_alloc ?_ _)); exact BK214.out)) : gb217 ≠ gb214)); have n8_ := Aside0.mk ((by rw [hg]; exact Nat.ne_of_lt (blk_lt (g := gb215) (o := .cells #[.float .f64 (un pg216000 x216000_1), .float .f64 (un pg216001 x216001_1)] 42 (0, 0)) (by (with_reducible repeat (first | refine blk_drewN ?_ _ | refine blk_drew ?_ | refine blk_alloc ?_ _)); exact BK215.out)) : gb215 ≠ gb217)); have n9_ := Aside0.mk ((by rw [hg]; exact Nat.ne_of_gt (blk_lt (g := gb215) (o := .cells #[.float .f64 (un pg216000 x216000_1), .float .f64 (un pg216001 x216001_1)] 42 (0, 0)) (by (with_reducible repeat (first | refine blk_drewN ?_ _ | refine blk_drew ?_ | refine blk_alloc ?_ _)); exact BK215.out)) : gb217 ≠ gb215)); clear BK214; clear BK215; clear HB; have BK214 := n0_; have BK215 := n1_; have HB := n2_; have BK217 := n3_; have GW217 := n4_; have GE217 := n5_; have NB214_217 := n6_; have NB217_214 := n7_; have NB215_217 := n8_; have NB217_215 := n9_; clear n0_ n1_ n2_ n3_ n4_ n5_ n6_ n7_ n8_ n9_; clear hb hbox hg; have hnb25 := NB217_214.out; have hnc25 := NB214_217.out; have hnb26 := NB217_215.out; have hnc26 := NB215_217.out; have hcz27_0 : w24.cell? ⟨gb217, 0, none⟩ = some (.int .i64 0) := (blk_cell BK217.out 0).trans rfl; have hcz27_1 : w24.cell? ⟨gb217, 1, none⟩ = some (.float .f64 0) := (blk_cell BK217.out 1).trans rfl; have hfz27_0 := blk_frozen BK217.out 0; have hfz27_1 := blk_frozen BK217.out 1) | ((with_reducible refine gate_callee (f := 61) rfl ?_); refine goesL_ (some 15) rfl rfl Tryd.func61 (by kernel_rfl) rfl #[.agg #[.int .i64 ((rd_T54 l0 x10_1).f0), .float .f64 (un pf216_1 ((rd_T54 l0 x10_1).f1))]] rfl (by (try simp only [List.map_toArray, List.map_cons, List.map_nil]); first | done | rfl | (simp only [List.length_drop, List.length_take]; rfl)) ?_; (with_reducible refine (impl_windOk.calls ((rd_T54 l0 x10_1).f0) pf216_1 ((rd_T54 l0 x10_1).f1) false _ A10.out).mono ?_); rintro e w28 ⟨rfl, hb⟩; refine ⟨_, rfl, ?_⟩; have n0_ := Aside0.mk (blk_below (g := gb214) (o := .cells #[.float .f64 0, .float .f64 0] 42 (0, 0)) (by (with_reducible repeat (first | refine blk_drewN ?_ _ | refine blk_drew ?_ | refine blk_alloc ?_ _)); refine blk_far ?_ NB214_217.out _; (with_reducible repeat (first | refine blk_drewN ?_ _ | refine blk_drew ?_ | refine blk_alloc ?_ _)); refine blk_far ?_ NB214_217.out _; (with_reducible repeat (first | refine blk_drewN ?_ _ | refine blk_drew ?_ | refine blk_alloc ?_ _)); exact BK214.out) hb); have n1_ := Aside0.mk (blk_below (g := gb215) (o := .cells #[.float .f64 (un pg216000 x216000_1), .float .f64 (un pg216001 x216001_1)] 42 (0, 0)) (by (with_reducible repeat (first | refine blk_drewN ?_ _ | refine blk_drew ?_ | refine blk_alloc ?_ _)); refine blk_far ?_ NB215_217.out _; (with_reducible repeat (first | refine blk_drewN ?_ _ | refine blk_drew ?_ | refine blk_alloc ?_ _)); refine blk_far ?_ NB215_217.out _; (with_reducible repeat (first | refine blk_drewN ?_ _ | refine blk_drew ?_ | refine blk_alloc ?_ _)); exact BK215.out) hb); have n2_ := Aside0.mk (blk_below (g := gb217) (o := .cells #[.int .i64 ((rd_T54 l0 x10_1).f0), .float .f64 (un pf216_1 ((rd_T54 l0 x10_1).f1))] 54 (0, 0)) (by (with_reducible repeat (first | refine blk_drewN ?_ _ | refine blk_drew ?_ | refine blk_alloc ?_ _)); refine blk_put (cs := #[.int .i64 ((rd_T54 l0 x10_1).f0), .float .f64 0]) ?_ 1 _ rfl; (with_reducible repeat (first | refine blk_drewN ?_ _ | refine blk_drew ?_ | refine blk_alloc ?_ _)); refine blk_put (cs := #[.int .i64 0, .float .f64 0]) ?_ 0 _ rfl; (with_reducible repeat (first | refine blk_drewN ?_ _ | refine blk_drew ?_ | refine blk_alloc ?_ _)); exact BK217.out) hb); have n3_ := Aside0.mk (below_step (by repeat (first | (with_reducible first | exact HB.out | apply below_alloc | apply pw_below_drewN | apply below_drew1 | refine below_set ?_ GE214.out | refine below_set ?_ GE215.out | refine below_set ?_ GE217.out) | exact HB.out)) hb); clear BK214; clear BK215; clear BK217; clear HB; have BK214 := n0_; have BK215 := n1_; have BK217 := n2_; have HB := n3_; clear n0_ n1_ n2_ n3_; (try clear hb); (try clear hb2); (try clear hk); (try clear hi)))
       go_roundg k1
       case measure => have := HK1.out; omega
       case rel => exact ⟨(x4_1), (wrap64 (x10_1 + 1)), (x216000_1), (x216001_1), (pg216000), (pg216001), (by first | rfl | (simp; done) | (simp [*]; done)), (by first | rfl | (simp; done) | (simp [*]; done)), H', ⟨by have := HK1.out; omega⟩, ⟨by (with_reducible repeat (first | refine blk_drewN ?_ _ | refine blk_drew ?_ | refine blk_alloc ?_ _)); exact BK214.out⟩, ⟨by (with_reducible repeat (first | refine blk_drewN ?_ _ | refine blk_drew ?_ | refine blk_alloc ?_ _)); exact BK215.out⟩, ⟨by repeat (first | (with_reducible first | exact HB.out | apply below_alloc | apply pw_below_drewN | apply below_drew1 | refine below_set ?_ GE214.out | refine below_set ?_ GE215.out | refine below_set ?_ GE217.out) | exact HB.out)⟩⟩
     ·rw [if_neg c9] at H
      exact absurd H (by simp)
    ·rw [if_neg c8] at H
     exact absurd H (by simp)
   ·rw [if_neg c7] at H
    have c7b0 : decide (x10_1 < (l0.length : Int)) = false := decide_eq_false c7
    clear c7
    have HC29 := Aside0.mk H
    clear H
    go_upto_region 9 with (fail)
    go_cut [29] (fun v29 wc => ∃ (kq : Nat) (x29_28 : Bool), v29 = .bool x29_28 ∧ Aside0 (impl_MeanWind.j1 kq x4_1 x29_28 x216000_1 x216001_1 = some (r1, r2)) ∧ Aside0 (kq ≤ k1) ∧ Aside0 (wc.heap[gb214]? = some (.cells #[.float .f64 0, .float .f64 0] 42 (0, 0))) ∧ Aside0 (wc.heap[gb215]? = some (.cells #[.float .f64 (un pg216000 x216000_1), .float .f64 (un pg216001 x216001_1)] 42 (0, 0))) ∧ Aside0 (Below w.heap.size w wc))
    case first =>
     have H := HC29.out
     clear HC29
     by_cases c30 : x4_1 = 0
     ·rw [if_pos c30] at H
      have c30b0 : (x4_1 == 0) = true := beq_iff_eq.mpr c30
      have c30b1 : (x4_1 != 0) = false := bne_eq_false_iff_eq.mpr c30
      clear c30
      (first | rw [c30b0] | (simp only [i64_w, i32_w]; rw [c30b0]) | skip)
      have H' := Aside0.mk H
      clear H
      go_wp2
      go_meet
      case rel => exact ⟨_, (true), (by first | rfl | (simp; done) | (simp [*]; done)), H', ⟨by have := HK1.out; first | omega | exact Nat.le_refl _⟩, ⟨by (with_reducible repeat (first | refine blk_drewN ?_ _ | refine blk_drew ?_ | refine blk_alloc ?_ _)); exact BK214.out⟩, ⟨by (with_reducible repeat (first | refine blk_drewN ?_ _ | refine blk_drew ?_ | refine blk_alloc ?_ _)); exact BK215.out⟩, ⟨by repeat (first | (with_reducible first | exact HB.out | apply below_alloc | apply pw_below_drewN | apply below_drew1 | refine below_set ?_ GE214.out | refine below_set ?_ GE215.out) | exact HB.out)⟩⟩
     ·rw [if_neg c30] at H
      have c30b0 : (x4_1 == 0) = false := beq_eq_false_iff_ne.mpr c30
      have c30b1 : (x4_1 != 0) = true := bne_iff_ne.mpr c30
      (first | rw [c30b0] | (simp only [i64_w, i32_w]; rw [c30b0]) | skip)
      have H' := Aside0.mk H
      clear H
      go_wp2
      go_meet
      case rel => exact ⟨_, (decide ((l0.length : Int) > 4000)), (by first | rfl | (simp; done) | (simp [*]; done)), H', ⟨by have := HK1.out; first | omega | exact Nat.le_refl _⟩, ⟨by (with_reducible repeat (first | refine blk_drewN ?_ _ | refine blk_drew ?_ | refine blk_alloc ?_ _)); exact BK214.out⟩, ⟨by (with_reducible repeat (first | refine blk_drewN ?_ _ | refine blk_drew ?_ | refine blk_alloc ?_ _)); exact BK215.out⟩, ⟨by repeat (first | (with_reducible first | exact HB.out | apply below_alloc | apply pw_below_drewN | apply below_drew1 | refine below_set ?_ GE214.out | refine below_set ?_ GE215.out) | exact HB.out)⟩⟩
    case rest =>
     clear HC29
     try clear c1
     try clear c2
     try clear p2
     try clear q2
     try clear hx2
     try clear c3
     try clear c5
     try clear c6
     try clear p6
     try clear c7
     try clear c7b0
     try clear c8
     try clear c8b0
     try clear c9
     try clear c9b0
     try clear c11
     try clear c15
     try clear c16
     try clear p21
     try clear q21
     try clear hx21
     try clear c25
     try clear c26
     try clear c30
     try clear c30b0
     try clear c30b1
     try clear hcz17_0
     try clear hcz17_1
     try clear hcz27_0
     try clear hcz27_1
     try clear hcz6_0
     try clear hcz6_1
     try clear hfz17_0
     try clear hfz17_1
     try clear hfz27_0
     try clear hfz27_1
     try clear hfz6_0
     try clear hfz6_1
     try clear hx216_0
     try clear hx216_1
     try clear p2
     try clear p216
     try clear q216
     obtain ⟨kq, x29_28, rfl, HA, HJ28, BK214, BK215, HB⟩ := hcut
     cases kq with
     | zero => exact absurd HA.out (by simp [impl_MeanWind.j1])
     | succ kj28 =>
      have H := HA.out
      clear HA
      simp only [impl_MeanWind.j1] at H
      by_cases c31 : x29_28 = true
      ·subst c31
       have H1 : ((impl_nan.f).bind fun t227 => ((impl_nan.f).bind fun t229 => (some (t227, t229)))) = some (r1, r2) := by rw [if_pos rfl] at H; exact H
       clear H
       have H := H1
       clear H1
       replace H := Option.bind_eq_some_iff.mp H
       obtain ⟨t227, A320, H⟩ := H
       replace H : ((impl_nan.f).bind fun t229 => (some (t227, t229))) = some (r1, r2) := H
       have A32 := Aside0.mk A320
       clear A320
       replace H := Option.bind_eq_some_iff.mp H
       obtain ⟨t229, A330, H⟩ := H
       replace H : (some (t227, t229)) = some (r1, r2) := H
       have A33 := Aside0.mk A330
       clear A330
       simp only [Option.some.injEq, Prod.mk.injEq] at H
       obtain ⟨rfl, rfl⟩ := H
       go_wp2_with (first | ((with_reducible refine gate_callee (f := 49) rfl ?_); refine goesL_ (some 30) rfl rfl Tryd.func49 (by kernel_rfl) rfl #[] rfl (by (try simp only [List.map_toArray, List.map_cons, List.map_nil]); first | done | rfl | (simp only [List.length_drop, List.length_take]; rfl)) ?_; (with_reducible refine (impl_nan.calls  t227 _ A32.out).mono ?_); rintro e w' ⟨pr228, rfl, ⟨nd, rfl⟩⟩; refine ⟨_, rfl, ?_⟩; skip) | ((with_reducible refine gate_callee (f := 49) rfl ?_); refine goesL_ (some 31) rfl rfl Tryd.func49 (by kernel_rfl) rfl #[] rfl (by (try simp only [List.map_toArray, List.map_cons, List.map_nil]); first | done | rfl | (simp only [List.length_drop, List.length_take]; rfl)) ?_; (with_reducible refine (impl_nan.calls  t229 _ A33.out).mono ?_); rintro e w' ⟨pr230, rfl, ⟨nd, rfl⟩⟩; refine ⟨_, rfl, ?_⟩; skip; have hnb34 := NB214_215.out; have hnc34 := NB215_214.out; have hcz35_0 : wc.cell? ⟨gb214, 0, none⟩ = some (.float .f64 0) := (blk_cell BK214.out 0).trans rfl; have hcz35_1 : wc.cell? ⟨gb214, 1, none⟩ = some (.float .f64 0) := (blk_cell BK214.out 1).trans rfl; have hfz35_0 := blk_frozen BK214.out 0; have hfz35_1 := blk_frozen BK214.out 1))
       refine bodyPost_ret (results_cell_row rfl _ _ gb214 42 #[.float .f64 (un pr228 t227), .float .f64 (un pr230 t229)] (0, 0) _ rfl (by (with_reducible repeat (first | refine blk_drewN ?_ _ | refine blk_drew ?_ | refine blk_alloc ?_ _)); refine blk_put (cs := #[.float .f64 (un pr228 t227), .float .f64 0]) ?_ 1 _ rfl; (with_reducible repeat (first | refine blk_drewN ?_ _ | refine blk_drew ?_ | refine blk_alloc ?_ _)); refine blk_put (cs := #[.float .f64 0, .float .f64 0]) ?_ 0 _ rfl; (with_reducible repeat (first | refine blk_drewN ?_ _ | refine blk_drew ?_ | refine blk_alloc ?_ _)); exact BK214.out) Tryd.underlying42 rfl (by kernel_rfl)) rfl ?_
       first | (exact ⟨pr228, pr230, by first | rfl | (simp [errW_none, errW_some] <;> rfl) | (simp [*, errW_none, errW_some] <;> rfl), by repeat (first | (with_reducible first | exact HB.out | apply below_alloc | apply pw_below_drewN | apply below_drew1 | refine below_set ?_ GE214.out | refine below_set ?_ GE215.out) | exact HB.out)⟩) | (exact ⟨⟨pr228, pr230, by first | rfl | (simp [errW_none, errW_some] <;> rfl) | (simp [*, errW_none, errW_some] <;> rfl)⟩, by repeat (first | (with_reducible first | exact HB.out | apply below_alloc | apply pw_below_drewN | apply below_drew1 | refine below_set ?_ GE214.out | refine below_set ?_ GE215.out) | exact HB.out)⟩)
      ·replace c31 := Bool.eq_false_iff.mpr c31
       subst c31
       have H1 : (some (fdiv x216000_1 (foi x4_1), fdiv x216001_1 (foi x4_1))) = some (r1, r2) := by rw [if_neg (show ¬ (false = true) by decide)] at H; exact H
       clear H
       have H := H1
       clear H1
       simp only [Option.some.injEq, Prod.mk.injEq] at H
       obtain ⟨rfl, rfl⟩ := H
       have hnb36 := NB215_214.out
       have hnc36 := NB214_215.out
       have hcz37_0 : wc.cell? ⟨gb215, 0, none⟩ = some (.float .f64 (un pg216000 x216000_1)) := (blk_cell BK215.out 0).trans rfl
       have hcz37_1 : wc.cell? ⟨gb215, 1, none⟩ = some (.float .f64 (un pg216001 x216001_1)) := (blk_cell BK215.out 1).trans rfl
       have hfz37_0 := blk_frozen BK215.out 0
       have hfz37_1 := blk_frozen BK215.out 1
       go_wp2_with (first | ((with_reducible refine gate_dst (N := 37) rfl ?_); (try (refine gate_guard (by rfl) ?_; dsimp only)); refine fop_eventB rfl (N := 37) rfl (op := .quo) rfl rfl pg216000 x216000_1 0 (foi x4_1) rfl rfl ?hA ?hB fdiv rfl ?_; (case hA => first | rfl | exact (un_zero _).symm); (case hB => first | rfl | exact (un_zero _).symm); intro pb231 w38 hb; have n0_ := Aside0.mk (blk_below (g := gb214) (o := .cells #[.float .f64 0, .float .f64 0] 42 (0, 0)) (by (with_reducible repeat (first | refine blk_drewN ?_ _ | refine blk_drew ?_ | refine blk_alloc ?_ _)); exact BK214.out) hb); have n1_ := Aside0.mk (blk_below (g := gb215) (o := .cells #[.float .f64 (un pg216000 x216000_1), .float .f64 (un pg216001 x216001_1)] 42 (0, 0)) (by (with_reducible repeat (first | refine blk_drewN ?_ _ | refine blk_drew ?_ | refine blk_alloc ?_ _)); exact BK215.out) hb); have n2_ := Aside0.mk (below_step (by repeat (first | (with_reducible first | exact HB.out | apply below_alloc | apply pw_below_drewN | apply below_drew1 | refine below_set ?_ GE214.out | refine below_set ?_ GE215.out) | exact HB.out)) hb); clear BK214; clear BK215; clear HB; have BK214 := n0_; have BK215 := n1_; have HB := n2_; clear n0_ n1_ n2_; (try clear hb); have hcz39_0 : w38.cell? ⟨gb215, 0, none⟩ = some (.float .f64 (un pg216000 x216000_1)) := (blk_cell BK215.out 0).trans rfl; have hcz39_1 : w38.cell? ⟨gb215, 1, none⟩ = some (.float .f64 (un pg216001 x216001_1)) := (blk_cell BK215.out 1).trans rfl; have hfz39_0 := blk_frozen BK215.out 0; have hfz39_1 := blk_frozen BK215.out 1) | ((with_reducible refine gate_dst (N := 42) rfl ?_); (try (refine gate_guard (by rfl) ?_; dsimp only)); refine fop_eventB rfl (N := 42) rfl (op := .quo) rfl rfl pg216001 x216001_1 0 (foi x4_1) rfl rfl ?hA ?hB fdiv rfl ?_; (case hA => first | rfl | exact (un_zero _).symm); (case hB => first | rfl | exact (un_zero _).symm); intro pb232 w40 hb; have n0_ := Aside0.mk (blk_below (g := gb214) (o := .cells #[.float .f64 0, .float .f64 0] 42 (0, 0)) (by (with_reducible repeat (first | refine blk_drewN ?_ _ | refine blk_drew ?_ | refine blk_alloc ?_ _)); exact BK214.out) hb); have n1_ := Aside0.mk (blk_below (g := gb215) (o := .cells #[.float .f64 (un pg216000 x216000_1), .float .f64 (un pg216001 x216001_1)] 42 (0, 0)) (by (with_reducible repeat (first | refine blk_drewN ?_ _ | refine blk_drew ?_ | refine blk_alloc ?_ _)); exact BK215.out) hb); have n2_ := Aside0.mk (below_step (by repeat (first | (with_reducible first | exact HB.out | apply below_alloc | apply pw_below_drewN | apply below_drew1 | refine below_set ?_ GE214.out | refine below_set ?_ GE215.out) | exact HB.out)) hb); clear BK214; clear BK215; clear HB; have BK214 := n0_; have BK215 := n1_; have HB := n2_; clear n0_ n1_ n2_; (try clear hb); have hcz41_0 : w40.cell? ⟨gb214, 0, none⟩ = some (.float .f64 0) := (blk_cell BK214.out 0).trans rfl; have hcz41_1 : w40.cell? ⟨gb214, 1, none⟩ = some (.float .f64 0) := (blk_cell BK214.out 1).trans rfl; have hfz41_0 := blk_frozen BK214.out 0; have hfz41_1 := blk_frozen BK214.out 1))
       refine bodyPost_ret (results_cell_row rfl _ _ gb214 42 #[.float .f64 (un pb231 (fdiv x216000_1 (foi x4_1))), .float .f64 (un pb232 (fdiv x216001_1 (foi x4_1)))] (0, 0) _ rfl (by (with_reducible repeat (first | refine blk_drewN ?_ _ | refine blk_drew ?_ | refine blk_alloc ?_ _)); refine blk_put (cs := #[.float .f64 (un pb231 (fdiv x216000_1 (foi x4_1))), .float .f64 0]) ?_ 1 _ rfl; (with_reducible repeat (first | refine blk_drewN ?_ _ | refine blk_drew ?_ | refine blk_alloc ?_ _)); refine blk_put (cs := #[.float .f64 0, .float .f64 0]) ?_ 0 _ rfl; (with_reducible repeat (first | refine blk_drewN ?_ _ | refine blk_drew ?_ | refine blk_alloc ?_ _)); exact BK214.out) Tryd.underlying42 rfl (by kernel_rfl)) rfl ?_
       first | (exact ⟨pb231, pb232, by first | rfl | (simp [errW_none, errW_some] <;> rfl) | (simp [*, errW_none, errW_some] <;> rfl), by repeat (first | (with_reducible first | exact HB.out | apply below_alloc | apply pw_below_drewN | apply below_drew1 | refine below_set ?_ GE214.out | refine below_set ?_ GE215.out) | exact HB.out)⟩) | (exact ⟨⟨pb231, pb232, by first | rfl | (simp [errW_none, errW_some] <;> rfl) | (simp [*, errW_none, errW_some] <;> rfl)⟩, by repeat (first | (with_reducible first | exact HB.out | apply below_alloc | apply pw_below_drewN | apply below_drew1 | refine below_set ?_ GE214.out | refine below_set ?_ GE215.out) | exact HB.out)⟩)

end Go.Proofs.YtpileeenoocjpaaDoor.Q
