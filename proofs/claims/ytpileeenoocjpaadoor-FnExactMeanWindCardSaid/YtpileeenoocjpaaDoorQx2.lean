/- Plain Lean functions with the same answers as the Go functions of this seat, and a proof for each that the Go code comes to just these answers; no condition. Written by a program of this session (the kit's printer, turned). -/
import Derived.Test.YtpileeenoocjpaaDoorQx0
import Derived.Test.YtpileeenoocjpaaDoorQx1
namespace Go.Proofs.YtpileeenoocjpaaDoor.Q
open Go.RowKit Go.Proofs.YtpileeenoocjpaaDoorW.PrintWords Go.Proofs.YtpileeenoocjpaaDoorW.PrintLast Go.Proofs.YtpileeenoocjpaaDoorW.PrintMore Go.Proofs.YtpileeenoocjpaaDoorW.PrintFlt
attribute [local go_sem] cmp_lss cmp_leq cmp_gtr cmp_geq cmp_eql cmp_neq flt_l flt_r fgt_l fgt_r feq_l feq_r fne_l fne_r ord_lt ord_gt ord_eq ord_ne conv_int foi_fold run_store_flt
attribute [local go_sem] max2_int min2_int max_two min_two max_three min_three max_four min_four   -- for this text's walks alone
set_option linter.unusedVariables false
set_option linter.unusedSimpArgs false

/-! ### spec_MeanWind: function 23 -/
mutual
def spec_MeanWind.l0 : Nat → List (S54) → Int → Int → Nat → Nat → Option (Nat × Nat)
 | 0, _, _, _, _, _ => none
 | k + 1, x0, x4, x5, x143000, x143001 => if x5 < (x0.length : Int) then (spec_MeanWind.j1 k x0 x4 x5 (decide ((x0.length : Int) ≤ 4000)) x143000 x143001) else (spec_MeanWind.j1 k x0 x4 x5 false x143000 x143001)
def spec_MeanWind.j1 : Nat → List (S54) → Int → Int → Bool → Nat → Nat → Option (Nat × Nat)
 | 0, _, _, _, _, _, _ => none
 | k + 1, x0, x4, x5, x15, x143000, x143001 => if x15 = true then (if 0 ≤ x5 then (if x5 < (x0.length : Int) then ((spec_l3WindOk.f ((rd_T54 x0 x5).f0) ((rd_T54 x0 x5).f1)).bind fun t144 => (if t144 = true then ((spec_WindPair.f ((rd_T54 x0 x5).f0) ((rd_T54 x0 x5).f1)).bind fun bt146 => ((spec_AddPair.f x143000 x143001 bt146.1 bt146.2).bind fun bt150 => (spec_MeanWind.l0 k x0 (wrap64 (x4 + 1)) (wrap64 (x5 + 1)) bt150.1 bt150.2))) else (spec_MeanWind.l0 k x0 x4 (wrap64 (x5 + 1)) x143000 x143001))) else (none)) else (none)) else (if x4 = 0 then ((spec_l1None.f).bind fun t154 => ((spec_l1None.f).bind fun t156 => (some (t154, t156)))) else (some (fdiv x143000 (foi x4), fdiv x143001 (foi x4))))
end
def spec_MeanWind.f (k : Nat) (l0 : List (S54)) : Option (Nat × Nat) := spec_MeanWind.l0 k l0 0 0 0 0
theorem spec_MeanWind.mono_l : ∀ k, (∀ y0 y1 y2 y3 y4, LeO (spec_MeanWind.l0 k y0 y1 y2 y3 y4) (spec_MeanWind.l0 (k + 1) y0 y1 y2 y3 y4)) ∧ (∀ y0 y1 y2 y3 y4 y5, LeO (spec_MeanWind.j1 k y0 y1 y2 y3 y4 y5) (spec_MeanWind.j1 (k + 1) y0 y1 y2 y3 y4 y5))
 | 0 => ⟨fun _ _ _ _ _ r h => by simp [spec_MeanWind.l0] at h, fun _ _ _ _ _ _ r h => by simp [spec_MeanWind.j1] at h⟩
 | k + 1 => by
  obtain ⟨ih0, ih1⟩ := spec_MeanWind.mono_l k
  refine ⟨?_, ?_⟩
  ·intro y0 y1 y2 y3 y4
   unfold spec_MeanWind.l0
   repeat' first
   | (with_reducible exact ih0 _ _ _ _ _)
   | (with_reducible exact ih1 _ _ _ _ _ _)
   | (with_reducible exact LeO.refl _)
   | (with_reducible exact LeO.none _)
   | (with_reducible refine LeO.ite ?_ ?_)
   | (with_reducible refine LeO.bind ?_ (fun _ => ?_))
   | exact ih0 _ _ _ _ _
   | exact ih1 _ _ _ _ _ _
   | exact LeO.none _
   | refine LeO.ite ?_ ?_
   | refine LeO.bind ?_ (fun _ => ?_)
  ·intro y0 y1 y2 y3 y4 y5
   unfold spec_MeanWind.j1
   repeat' first
   | (with_reducible exact ih0 _ _ _ _ _)
   | (with_reducible exact ih1 _ _ _ _ _ _)
   | (with_reducible exact LeO.refl _)
   | (with_reducible exact LeO.none _)
   | (with_reducible refine LeO.ite ?_ ?_)
   | (with_reducible refine LeO.bind ?_ (fun _ => ?_))
   | exact ih0 _ _ _ _ _
   | exact ih1 _ _ _ _ _ _
   | exact LeO.none _
   | refine LeO.ite ?_ ?_
   | refine LeO.bind ?_ (fun _ => ?_)
theorem spec_MeanWind.mono : ∀ a0 k, LeO (spec_MeanWind.f k a0) (spec_MeanWind.f (k + 1) a0) := by
 intro a0 k
 obtain ⟨ih0, ih1⟩ := spec_MeanWind.mono_l k
 unfold spec_MeanWind.f
 repeat' first
   | (with_reducible exact ih0 _ _ _ _ _)
   | (with_reducible exact ih1 _ _ _ _ _ _)
   | (with_reducible exact LeO.refl _)
   | (with_reducible exact LeO.none _)
   | (with_reducible refine LeO.ite ?_ ?_)
   | (with_reducible refine LeO.bind ?_ (fun _ => ?_))
   | exact ih0 _ _ _ _ _
   | exact ih1 _ _ _ _ _ _
   | exact LeO.none _
   | refine LeO.ite ?_ ?_
   | refine LeO.bind ?_ (fun _ => ?_)
def spec_MeanWind.T7 : Bool × List (List Nat × List Nat) := (true, [([], []), ([], []), ([], []), ([1, 2], [1, 2]), ([3], [3]), ([4], [4]), ([0, 5, 5], [0, 5]), ([6, 6, 0, 1, 2, 3, 4, 5, 6], [6])])
def spec_MeanWind.B7 : List Nat := [0, 0, 0, 6, 14, 30, 63, 127]
theorem spec_MeanWind.tab7 : rtab .any (opsOf Tryd.f23 7) = spec_MeanWind.T7 := by kernel_rfl
theorem spec_MeanWind.bits7 : waitsOk spec_MeanWind.T7.2 spec_MeanWind.B7 = true := by kernel_rfl
set_option maxHeartbeats 8000000 in
set_option maxRecDepth 100000 in
theorem spec_MeanWind.calls (k : Nat) (A0 : Option Addr) (c0 : Nat) (l0 : List (S54)) (r1 : Nat) (r2 : Nat) (w : World) (hr0 : Kd.C k54 w A0 l0.length l0) (hc0 : l0.length ≤ c0) (h : spec_MeanWind.f k l0 = some (r1, r2)) :
  Calls Tryd.prog 23 #[.slice A0 l0.length c0] w fun e w' => ∃ q0_ q1_ : Nat, e = .returned (.agg #[.float .f64 (un q0_ r1), .float .f64 (un q1_ r2)]) ∧ Below w.heap.size w w' := by
 have hu42 := Tryd.underlying42
 have hu54 := Tryd.underlying54
 have HR0 := Aside0.mk hr0
 have HC0 := Aside0.mk hc0
 clear hr0 hc0
 have HB := Aside0.mk (Below.refl w.heap.size w)
 have H : (spec_MeanWind.l0 k l0 0 0 0 0) = some (r1, r2) := h
 clear h
 have H' := Aside0.mk H
 clear H
 go_enter Tryd.func23, Tryd.ntmps23
 go_wp2_with (first | ((with_reducible refine gate_dst (N := 2) rfl ?_); (try (refine gate_guard (by rfl) ?_; dsimp only)); refine box_event ?hg (N := 2) ?hd (cs := #[.float .f64 0, .float .f64 0]) (t := 42) ?hr ?_; (case hd => rfl); (case hg => rfl); (case hr => first | (go_simp; done) | (go_simp; rfl)); intro gb141 hg w2 hbox hb; have n0_ := Aside0.mk (below_step (by repeat (first | (with_reducible first | exact HB.out | apply below_alloc | apply pw_below_drewN | apply below_drew1) | exact HB.out)) hb); have n1_ := Aside0.mk (hbox); have n2_ := Aside0.mk ((by rw [hg]; exact (below_size (by repeat (first | (with_reducible first | exact HB.out | apply below_alloc | apply pw_below_drewN | apply below_drew1) | exact HB.out))) : w.heap.size ≤ gb141)); have n3_ := Aside0.mk ((by rw [hg]; exact (below_size (by repeat (first | (with_reducible first | exact HB.out | apply below_alloc | apply pw_below_drewN | apply below_drew1) | exact HB.out))) : w.heap.size ≤ gb141)); clear HB; have HB := n0_; have BK141 := n1_; have GW141 := n2_; have GE141 := n3_; clear n0_ n1_ n2_ n3_; clear hb hbox hg) | ((with_reducible refine gate_dst (N := 3) rfl ?_); (try (refine gate_guard (by rfl) ?_; dsimp only)); refine box_event ?hg (N := 3) ?hd (cs := #[.float .f64 0, .float .f64 0]) (t := 42) ?hr ?_; (case hd => rfl); (case hg => rfl); (case hr => first | (go_simp; done) | (go_simp; rfl)); intro gb142 hg w3 hbox hb; have n0_ := Aside0.mk (blk_below (g := gb141) (o := .cells #[.float .f64 0, .float .f64 0] 42 (0, 0)) (by (with_reducible repeat (first | refine blk_drewN ?_ _ | refine blk_drew ?_ | refine blk_alloc ?_ _)); exact BK141.out) hb); have n1_ := Aside0.mk (below_step (by repeat (first | (with_reducible first | exact HB.out | apply below_alloc | apply pw_below_drewN | apply below_drew1 | refine below_set ?_ GE141.out) | exact HB.out)) hb); have n2_ := Aside0.mk (hbox); have n3_ := Aside0.mk ((by rw [hg]; exact (below_size (by repeat (first | (with_reducible first | exact HB.out | apply below_alloc | apply pw_below_drewN | apply below_drew1 | refine below_set ?_ GE141.out) | exact HB.out))) : w.heap.size ≤ gb142)); have n4_ := Aside0.mk ((by rw [hg]; exact (below_size (by repeat (first | (with_reducible first | exact HB.out | apply below_alloc | apply pw_below_drewN | apply below_drew1 | refine below_set ?_ GE141.out) | exact HB.out))) : w.heap.size ≤ gb142)); have n5_ := Aside0.mk ((by rw [hg]; exact Nat.ne_of_lt (blk_lt (g := gb141) (o := .cells #[.float .f64 0, .float .f64 0] 42 (0, 0)) (by (with_reducible repeat (first | refine blk_drewN ?_ _ | refine blk_drew ?_ | refine blk_alloc ?_ _)); exact BK141.out)) : gb141 ≠ gb142)); have n6_ := Aside0.mk ((by rw [hg]; exact Nat.ne_of_gt (blk_lt (g := gb141) (o := .cells #[.float .f64 0, .float .f64 0] 42 (0, 0)) (by (with_reducible repeat (first | refine blk_drewN ?_ _ | refine blk_drew ?_ | refine blk_alloc ?_ _)); exact BK141.out)) : gb142 ≠ gb141)); clear BK141; clear HB; have BK141 := n0_; have HB := n1_; have BK142 := n2_; have GW142 := n3_; have GE142 := n4_; have NB141_142 := n5_; have NB142_141 := n6_; clear n0_ n1_ n2_ n3_ n4_ n5_ n6_; clear hb hbox hg; have hnb4 := NB142_141.out; have hnc4 := NB141_142.out; have hcz5_0 : w3.cell? ⟨gb142, 0, none⟩ = some (.float .f64 0) := (blk_cell BK142.out 0).trans rfl; have hcz5_1 : w3.cell? ⟨gb142, 1, none⟩ = some (.float .f64 0) := (blk_cell BK142.out 1).trans rfl; have hfz5_0 := blk_frozen BK142.out 0; have hfz5_1 := blk_frozen BK142.out 1))
 go_loopg [4, 5] k (fun kq v4 v5 w' => ∃ (x4_1 : Int) (x5_1 : Int) (x143000_1 : Nat) (x143001_1 : Nat) (pg143000 : Nat) (pg143001 : Nat), v4 = .int .i64 x4_1 ∧ v5 = .int .i64 x5_1 ∧ Aside0 (spec_MeanWind.l0 kq l0 x4_1 x5_1 x143000_1 x143001_1 = some (r1, r2)) ∧ Aside0 (kq ≤ k) ∧ Aside0 (w'.heap[gb141]? = some (.cells #[.float .f64 0, .float .f64 0] 42 (0, 0))) ∧ Aside0 (w'.heap[gb142]? = some (.cells #[.float .f64 (un pg143000 x143000_1), .float .f64 (un pg143001 x143001_1)] 42 (0, 0))) ∧ Aside0 (Below w.heap.size w w'))
 case atStart => exact ⟨(0), (0), (0), (0), (0), (0), (by first | rfl | (simp; done) | (simp [*]; done)), (by first | rfl | (simp; done) | (simp [*]; done)), H', ⟨Nat.le_refl _⟩, ⟨by (with_reducible repeat (first | refine blk_drewN ?_ _ | refine blk_drew ?_ | refine blk_alloc ?_ _)); refine blk_far ?_ NB141_142.out _; (with_reducible repeat (first | refine blk_drewN ?_ _ | refine blk_drew ?_ | refine blk_alloc ?_ _)); refine blk_far ?_ NB141_142.out _; (with_reducible repeat (first | refine blk_drewN ?_ _ | refine blk_drew ?_ | refine blk_alloc ?_ _)); exact BK141.out⟩, ⟨by (with_reducible repeat (first | refine blk_drewN ?_ _ | refine blk_drew ?_ | refine blk_alloc ?_ _)); refine blk_put (cs := #[.float .f64 0, .float .f64 0]) ?_ 1 _ rfl; (with_reducible repeat (first | refine blk_drewN ?_ _ | refine blk_drew ?_ | refine blk_alloc ?_ _)); refine blk_put (cs := #[.float .f64 0, .float .f64 0]) ?_ 0 _ rfl; (with_reducible repeat (first | refine blk_drewN ?_ _ | refine blk_drew ?_ | refine blk_alloc ?_ _)); exact BK142.out⟩, ⟨by repeat (first | (with_reducible first | exact HB.out | apply below_alloc | apply pw_below_drewN | apply below_drew1 | refine below_set ?_ GE141.out | refine below_set ?_ GE142.out) | exact HB.out)⟩⟩
 case round =>
  clear H'
  try clear c2
  try clear p2
  try clear c4
  try clear hcz5_0
  try clear hcz5_1
  try clear hfz5_0
  try clear hfz5_1
  obtain ⟨x4_1, x5_1, x143000_1, x143001_1, pg143000, pg143001, rfl, rfl, HA, HK1, BK141, BK142, HB⟩ := hrel
  cases gk with
  | zero => exact absurd HA.out (by simp [spec_MeanWind.l0])
  | succ k1 =>
   have H := HA.out
   clear HA
   simp only [spec_MeanWind.l0] at H
   have HC6 := Aside0.mk H
   clear H
   go_upto_region 4 with (fail)
   go_cut [15] (fun v15 wc => ∃ (kq : Nat) (x15_5 : Bool), v15 = .bool x15_5 ∧ Aside0 (spec_MeanWind.j1 kq l0 x4_1 x5_1 x15_5 x143000_1 x143001_1 = some (r1, r2)) ∧ Aside0 (kq ≤ k1) ∧ Aside0 (wc.heap[gb141]? = some (.cells #[.float .f64 0, .float .f64 0] 42 (0, 0))) ∧ Aside0 (wc.heap[gb142]? = some (.cells #[.float .f64 (un pg143000 x143000_1), .float .f64 (un pg143001 x143001_1)] 42 (0, 0))) ∧ Aside0 (Below w.heap.size w wc))
   case first =>
    have H := HC6.out
    clear HC6
    by_cases c7 : x5_1 < (l0.length : Int)
    ·rw [if_pos c7] at H
     have c7b0 : decide (x5_1 < (l0.length : Int)) = true := decide_eq_true c7
     clear c7
     (first | rw [c7b0] | (simp only [i64_w, i32_w]; rw [c7b0]) | skip)
     have H' := Aside0.mk H
     clear H
     go_wp2
     go_meet
     case rel => exact ⟨_, (decide ((l0.length : Int) ≤ 4000)), (by first | rfl | (simp; done) | (simp [*]; done)), H', ⟨by have := HK1.out; first | omega | exact Nat.le_refl _⟩, ⟨by (with_reducible repeat (first | refine blk_drewN ?_ _ | refine blk_drew ?_ | refine blk_alloc ?_ _)); exact BK141.out⟩, ⟨by (with_reducible repeat (first | refine blk_drewN ?_ _ | refine blk_drew ?_ | refine blk_alloc ?_ _)); exact BK142.out⟩, ⟨by repeat (first | (with_reducible first | exact HB.out | apply below_alloc | apply pw_below_drewN | apply below_drew1 | refine below_set ?_ GE141.out | refine below_set ?_ GE142.out) | exact HB.out)⟩⟩
    ·rw [if_neg c7] at H
     have c7b0 : decide (x5_1 < (l0.length : Int)) = false := decide_eq_false c7
     clear c7
     (first | rw [c7b0] | (simp only [i64_w, i32_w]; rw [c7b0]) | skip)
     have H' := Aside0.mk H
     clear H
     go_wp2
     go_meet
     case rel => exact ⟨_, (false), (by first | rfl | (simp; done) | (simp [*]; done)), H', ⟨by have := HK1.out; first | omega | exact Nat.le_refl _⟩, ⟨by (with_reducible repeat (first | refine blk_drewN ?_ _ | refine blk_drew ?_ | refine blk_alloc ?_ _)); exact BK141.out⟩, ⟨by (with_reducible repeat (first | refine blk_drewN ?_ _ | refine blk_drew ?_ | refine blk_alloc ?_ _)); exact BK142.out⟩, ⟨by repeat (first | (with_reducible first | exact HB.out | apply below_alloc | apply pw_below_drewN | apply below_drew1 | refine below_set ?_ GE141.out | refine below_set ?_ GE142.out) | exact HB.out)⟩⟩
   case rest =>
    clear HC6
    try clear c2
    try clear p2
    try clear c4
    try clear c7
    try clear c7b0
    try clear hcz5_0
    try clear hcz5_1
    try clear hfz5_0
    try clear hfz5_1
    try clear p2
    obtain ⟨kq, x15_5, rfl, HA, HJ5, BK141, BK142, HB⟩ := hcut
    cases kq with
    | zero => exact absurd HA.out (by simp [spec_MeanWind.j1])
    | succ kj5 =>
     have H := HA.out
     clear HA
     simp only [spec_MeanWind.j1] at H
     by_cases c8 : x15_5 = true
     ·subst c8
      have H1 : (if 0 ≤ x5_1 then (if x5_1 < (l0.length : Int) then ((spec_l3WindOk.f ((rd_T54 l0 x5_1).f0) ((rd_T54 l0 x5_1).f1)).bind fun t144 => (if t144 = true then ((spec_WindPair.f ((rd_T54 l0 x5_1).f0) ((rd_T54 l0 x5_1).f1)).bind fun bt146 => ((spec_AddPair.f x143000_1 x143001_1 bt146.1 bt146.2).bind fun bt150 => (spec_MeanWind.l0 kj5 l0 (wrap64 (x4_1 + 1)) (wrap64 (x5_1 + 1)) bt150.1 bt150.2))) else (spec_MeanWind.l0 kj5 l0 x4_1 (wrap64 (x5_1 + 1)) x143000_1 x143001_1))) else (none)) else (none)) = some (r1, r2) := by rw [if_pos rfl] at H; exact H
      clear H
      have H := H1
      clear H1
      by_cases c9 : 0 ≤ x5_1
      ·rw [if_pos c9] at H
       have c9b0 : decide (0 ≤ x5_1) = true := decide_eq_true c9
       clear c9
       by_cases c10 : x5_1 < (l0.length : Int)
       ·rw [if_pos c10] at H
        have c10b0 : decide (x5_1 < (l0.length : Int)) = true := decide_eq_true c10
        clear c10
        replace H := Option.bind_eq_some_iff.mp H
        obtain ⟨t144, A110, H⟩ := H
        replace H : (if t144 = true then ((spec_WindPair.f ((rd_T54 l0 x5_1).f0) ((rd_T54 l0 x5_1).f1)).bind fun bt146 => ((spec_AddPair.f x143000_1 x143001_1 bt146.1 bt146.2).bind fun bt150 => (spec_MeanWind.l0 kj5 l0 (wrap64 (x4_1 + 1)) (wrap64 (x5_1 + 1)) bt150.1 bt150.2))) else (spec_MeanWind.l0 kj5 l0 x4_1 (wrap64 (x5_1 + 1)) x143000_1 x143001_1)) = some (r1, r2) := H
        have A11 := Aside0.mk A110
        clear A110
        by_cases c12 : t144 = true
        ·subst c12
         have H1 : ((spec_WindPair.f ((rd_T54 l0 x5_1).f0) ((rd_T54 l0 x5_1).f1)).bind fun bt146 => ((spec_AddPair.f x143000_1 x143001_1 bt146.1 bt146.2).bind fun bt150 => (spec_MeanWind.l0 kj5 l0 (wrap64 (x4_1 + 1)) (wrap64 (x5_1 + 1)) bt150.1 bt150.2))) = some (r1, r2) := by rw [if_pos rfl] at H; exact H
         clear H
         have H := H1
         clear H1
         replace H := Option.bind_eq_some_iff.mp H
         obtain ⟨⟨t146, t148⟩, A130, H⟩ := H
         replace H : ((spec_AddPair.f x143000_1 x143001_1 t146 t148).bind fun bt150 => (spec_MeanWind.l0 kj5 l0 (wrap64 (x4_1 + 1)) (wrap64 (x5_1 + 1)) bt150.1 bt150.2)) = some (r1, r2) := H
         have A13 := Aside0.mk A130
         clear A130
         replace H := Option.bind_eq_some_iff.mp H
         obtain ⟨⟨t150, t152⟩, A140, H⟩ := H
         replace H : (spec_MeanWind.l0 kj5 l0 (wrap64 (x4_1 + 1)) (wrap64 (x5_1 + 1)) t150 t152) = some (r1, r2) := H
         have A14 := Aside0.mk A140
         clear A140
         have H' := Aside0.mk H
         clear H
         have p143 : 0 ≤ (x5_1 : Int) := of_decide_eq_true (by first | (with_reducible assumption) | assumption)
         have q143 : x5_1 < (l0.length : Int) := of_decide_eq_true (by first | (with_reducible assumption) | assumption)
         obtain ⟨ad143, pf143_1, e143, hx143_0, hx143_1⟩ := at_T54 HR0.out x5_1 p143 q143
         cases e143
         replace hx143_0 := (HB.out.cell (World.block_lt_of_cell? w _ hx143_0)).trans hx143_0
         replace hx143_1 := (HB.out.cell (World.block_lt_of_cell? w _ hx143_1)).trans hx143_1
         replace p143 := eq_true p143
         replace q143 := eq_true q143
         try go_wp2_with (first | ((with_reducible refine gate_callee (f := 58) rfl ?_); refine goesL_ (some 22) rfl rfl Tryd.func58 (by kernel_rfl) rfl #[.agg #[.int .i64 ((rd_T54 l0 x5_1).f0), .float .f64 (un pf143_1 ((rd_T54 l0 x5_1).f1))]] rfl (by (try simp only [List.map_toArray, List.map_cons, List.map_nil]); first | done | rfl | (simp only [List.length_drop, List.length_take]; rfl)) ?_; (with_reducible refine (spec_l3WindOk.calls ((rd_T54 l0 x5_1).f0) pf143_1 ((rd_T54 l0 x5_1).f1) true _ A11.out).mono ?_); rintro e w15 ⟨rfl, hb⟩; refine ⟨_, rfl, ?_⟩; have n0_ := Aside0.mk (blk_below (g := gb141) (o := .cells #[.float .f64 0, .float .f64 0] 42 (0, 0)) (by (with_reducible repeat (first | refine blk_drewN ?_ _ | refine blk_drew ?_ | refine blk_alloc ?_ _)); exact BK141.out) hb); have n1_ := Aside0.mk (blk_below (g := gb142) (o := .cells #[.float .f64 (un pg143000 x143000_1), .float .f64 (un pg143001 x143001_1)] 42 (0, 0)) (by (with_reducible repeat (first | refine blk_drewN ?_ _ | refine blk_drew ?_ | refine blk_alloc ?_ _)); exact BK142.out) hb); have n2_ := Aside0.mk (below_step (by repeat (first | (with_reducible first | exact HB.out | apply below_alloc | apply pw_below_drewN | apply below_drew1 | refine below_set ?_ GE141.out | refine below_set ?_ GE142.out) | exact HB.out)) hb); clear BK141; clear BK142; clear HB; have BK141 := n0_; have BK142 := n1_; have HB := n2_; clear n0_ n1_ n2_; (try clear hb); (try clear hb2); (try clear hk); (try clear hi)))
         have n0_ := Aside0.mk (blk_drew BK141.out)
         have n1_ := Aside0.mk (blk_drew BK142.out)
         have n2_ := Aside0.mk (below_drew1 HB.out)
         clear BK141
         clear BK142
         clear HB
         have BK141 := n0_
         have BK142 := n1_
         have HB := n2_
         clear n0_ n1_ n2_
         have p145 : 0 ≤ (x5_1 : Int) := of_decide_eq_true (by first | (with_reducible assumption) | assumption)
         have q145 : x5_1 < (l0.length : Int) := of_decide_eq_true (by first | (with_reducible assumption) | assumption)
         obtain ⟨ad145, pf145_1, e145, hx145_0, hx145_1⟩ := at_T54 HR0.out x5_1 p145 q145
         have hw145_1 := hx145_1
         have hw145_0 := hx145_0
         obtain rfl : ad143 = ad145 := (by injection e145)
         replace hx145_0 := (HB.out.cell (World.block_lt_of_cell? w _ hx145_0)).trans hx145_0
         replace hx145_1 := (HB.out.cell (World.block_lt_of_cell? w _ hx145_1)).trans hx145_1
         replace p145 := eq_true p145
         replace q145 := eq_true q145
         refine start_ (n := 8) (S := fun w' => w'.cell? ⟨gb142, 0, none⟩ = some (.float .f64 (un pg143000 x143000_1)) ∧ w'.cell? ⟨gb142, 1, none⟩ = some (.float .f64 (un pg143001 x143001_1)) ∧ w'.cell? (ad143.add ((x5_1).toNat * 2)) = some (.int .i64 ((rd_T54 l0 x5_1).f0)) ∧ w'.cell? ⟨(ad143.add ((x5_1).toNat * 2)).block, (ad143.add ((x5_1).toNat * 2)).off + 1, none⟩ = some (.float .f64 (un pf145_1 ((rd_T54 l0 x5_1).f1)))) (ds := [7]) #[false, false, false, false, false, false, false, false] (by kernel_rfl) rfl rfl ⟨(blk_cell BK142.out 0).trans rfl, (blk_cell BK142.out 1).trans rfl, ((HB.out.cell (World.block_lt_of_cell? w _ hw145_0)).trans hw145_0), ((HB.out.cell (World.block_lt_of_cell? w _ hw145_1)).trans hw145_1)⟩ (fun hHeld => ?_); refine with_tabW spec_MeanWind.tab7 spec_MeanWind.bits7 (fun HT_ HW_ => ?_)
         generalize w15.drew = w16 at BK141 BK142 HB hx145_0 hx145_1 hHeld ⊢
         refine pure_ (i := 1) (N := some 24) (v := ?_) (a' := ?_) #[false, true, false, false, false, false, false, false] rfl rfl (any_of HT_.out (by kernel_rfl)) (fun _ _ _ h => h) (Or.inl ⟨by rfl, ?_⟩) ?_ ?_
         rotate_left
         ·intro w'
          go_simp
          with_reducible rfl
         rotate_left
         ·simp only [Act.put, sqA, sqZ, sqS, i64_w, i32_w]
          rfl
         refine pure_ (i := 2) (N := some 25) (v := ?_) (a' := ?_) #[false, true, true, false, false, false, false, false] rfl rfl (any_of HT_.out (by kernel_rfl)) (fun _ _ _ h => h) (Or.inl ⟨by rfl, ?_⟩) ?_ ?_
         rotate_left
         ·intro w'
          go_simp
          with_reducible rfl
         rotate_left
         ·simp only [Act.put, sqA, sqZ, sqS, i64_w, i32_w]
          rfl
         refine pure_ (i := 3) (N := some 26) (v := ?_) (a' := ?_) #[false, true, true, true, false, false, false, false] rfl rfl (any_of HT_.out (by kernel_rfl)) (fun _ _ _ h => h) (Or.inl ⟨by rfl, ?_⟩) ?_ ?_
         rotate_left
         ·intro w'
          go_simp
          with_reducible rfl
         rotate_left
         ·simp only [Act.put, sqA, sqZ, sqS, i64_w, i32_w]
          rfl
         refine take_ (i := 0) (N := some 23) (v := ?_) (a' := ?_) #[true, true, true, true, false, false, false, false] rfl rfl (take_ofW HT_.out HW_.out (by kernel_rfl)) (fun _ _ _ h => h) (Or.inl ⟨by rfl, ?_⟩) hHeld ?_ ?_
         rotate_left
         ·rintro w' ⟨s0, s1, s2, s3⟩
          go_simp
          with_reducible rfl
         rotate_left
         ·simp only [Act.put, sqA, sqZ, sqS, i64_w, i32_w]
          rfl
         refine take_ (i := 4) (N := some 27) (v := ?_) (a' := ?_) #[true, true, true, true, true, false, false, false] rfl rfl (take_ofW HT_.out HW_.out (by kernel_rfl)) (fun _ _ _ h => h) (Or.inl ⟨by rfl, ?_⟩) hHeld ?_ ?_
         rotate_left
         ·rintro w' ⟨s0, s1, s2, s3⟩
          go_simp
          with_reducible rfl
         rotate_left
         ·simp only [Act.put, sqA, sqZ, sqS, i64_w, i32_w]
          rfl
         refine one_ (i := 5) (N := some 28) #[true, true, true, true, true, true, false, false] rfl rfl (one_of HT_.out (by kernel_rfl)) (by decide) (fun K hK => ?_)
         refine goes_ Tryd.func36 (by kernel_rfl) rfl #[.agg #[.int .i64 ((rd_T54 l0 x5_1).f0), .float .f64 (un pf145_1 ((rd_T54 l0 x5_1).f1))]] (by rfl) rfl rfl (by (try simp only [List.map_toArray, List.map_cons, List.map_nil]); first | done | rfl | (simp only [List.length_drop, List.length_take]; rfl)) ?_
         with_reducible refine (spec_WindPair.calls ((rd_T54 l0 x5_1).f0) pf145_1 ((rd_T54 l0 x5_1).f1) t146 t148 _ A13.out).mono ?_
         rintro e w17 ⟨pr147, pr149, rfl, hb⟩
         refine ⟨_, rfl, ?_⟩
         have n0_ := Aside0.mk (blk_below (g := gb141) (o := .cells #[.float .f64 0, .float .f64 0] 42 (0, 0)) (by (with_reducible repeat (first | refine blk_drewN ?_ _ | refine blk_drew ?_ | refine blk_alloc ?_ _)); exact BK141.out) hb)
         have n1_ := Aside0.mk (blk_below (g := gb142) (o := .cells #[.float .f64 (un pg143000 x143000_1), .float .f64 (un pg143001 x143001_1)] 42 (0, 0)) (by (with_reducible repeat (first | refine blk_drewN ?_ _ | refine blk_drew ?_ | refine blk_alloc ?_ _)); exact BK142.out) hb)
         have n2_ := Aside0.mk (below_step (by repeat (first | (with_reducible first | exact HB.out | apply below_alloc | apply pw_below_drewN | apply below_drew1 | refine below_set ?_ GE141.out | refine below_set ?_ GE142.out) | exact HB.out)) hb)
         clear BK141
         clear BK142
         clear HB
         have BK141 := n0_
         have BK142 := n1_
         have HB := n2_
         clear n0_ n1_ n2_
         (try clear hb)
         (try clear hb2)
         (try clear hk)
         (try clear hi)
         refine hK.out _ _ ⟨(blk_cell BK142.out 0).trans rfl, (blk_cell BK142.out 1).trans rfl, ((HB.out.cell (World.block_lt_of_cell? w _ hw145_0)).trans hw145_0), ((HB.out.cell (World.block_lt_of_cell? w _ hw145_1)).trans hw145_1)⟩ (fun hHeld => ?_)
         clear hK K
         refine norm_ (a' := ?_) ?_ ?_
         rotate_left
         ·show Act.put _ (some 28) _ = _
          simp only [Act.put, sqA, sqZ, sqS, i64_w, i32_w]
          rfl
         refine one_ (i := 6) (N := some 29) #[true, true, true, true, true, true, true, false] rfl rfl (one_of HT_.out (by kernel_rfl)) (by decide) (fun K hK => ?_)
         refine goes_ Tryd.func59 (by kernel_rfl) rfl #[.agg #[.float .f64 (un pg143000 x143000_1), .float .f64 (un pg143001 x143001_1)], .agg #[.float .f64 (un pr147 t146), .float .f64 (un pr149 t148)]] (by rfl) rfl rfl (by (try simp only [List.map_toArray, List.map_cons, List.map_nil]); first | done | rfl | (simp only [List.length_drop, List.length_take]; rfl)) ?_
         with_reducible refine (spec_AddPair.calls pg143000 x143000_1 pg143001 x143001_1 pr147 t146 pr149 t148 t150 t152 _ A14.out).mono ?_
         rintro e w18 ⟨pr151, pr153, rfl, hb⟩
         refine ⟨_, rfl, ?_⟩
         have n0_ := Aside0.mk (blk_below (g := gb141) (o := .cells #[.float .f64 0, .float .f64 0] 42 (0, 0)) (by (with_reducible repeat (first | refine blk_drewN ?_ _ | refine blk_drew ?_ | refine blk_alloc ?_ _)); exact BK141.out) hb)
         have n1_ := Aside0.mk (blk_below (g := gb142) (o := .cells #[.float .f64 (un pg143000 x143000_1), .float .f64 (un pg143001 x143001_1)] 42 (0, 0)) (by (with_reducible repeat (first | refine blk_drewN ?_ _ | refine blk_drew ?_ | refine blk_alloc ?_ _)); exact BK142.out) hb)
         have n2_ := Aside0.mk (below_step (by repeat (first | (with_reducible first | exact HB.out | apply below_alloc | apply pw_below_drewN | apply below_drew1 | refine below_set ?_ GE141.out | refine below_set ?_ GE142.out) | exact HB.out)) hb)
         clear BK141
         clear BK142
         clear HB
         have BK141 := n0_
         have BK142 := n1_
         have HB := n2_
         clear n0_ n1_ n2_
         (try clear hb)
         (try clear hb2)
         (try clear hk)
         (try clear hi)
         refine hK.out _ _ ⟨(blk_cell BK142.out 0).trans rfl, (blk_cell BK142.out 1).trans rfl, ((HB.out.cell (World.block_lt_of_cell? w _ hw145_0)).trans hw145_0), ((HB.out.cell (World.block_lt_of_cell? w _ hw145_1)).trans hw145_1)⟩ (fun hHeld => ?_)
         clear hK K
         refine norm_ (a' := ?_) ?_ ?_
         rotate_left
         ·show Act.put _ (some 29) _ = _
          simp only [Act.put, sqA, sqZ, sqS, i64_w, i32_w]
          rfl
         refine last_ (i := 7) (N := none) #[true, true, true, true, true, true, true, true] rfl rfl (one_of HT_.out (by kernel_rfl)) (by decide) (fun K hK => ?_)
         have hs19 : w18.cell? ⟨gb142, 0, none⟩ = some (.float .f64 (un pg143000 x143000_1)) := (blk_cell BK142.out 0).trans rfl
         have hfs19 := blk_frozen BK142.out 0
         have hns19_0 := NB141_142.out
         have hms19_0 := NB142_141.out
         have hs20 : w18.cell? ⟨gb142, 1, none⟩ = some (.float .f64 (un pg143001 x143001_1)) := (blk_cell BK142.out 1).trans rfl
         have hfs20 := blk_frozen BK142.out 1
         have hns20_0 := NB141_142.out
         have hms20_0 := NB142_141.out
         refine skip_ (w1 := ?_) (by rfl) rfl ?_ ?_
         rotate_left
         ·go_simp
          rfl
         refine hK.out _ _ ?_
         clear hK K
         refine done_ (done_of HT_.out (by kernel_rfl)) ?_
         try go_wp2
         go_roundg kj5
         case measure => have := HK1.out; have := HJ5.out; omega
         case rel => exact ⟨(wrap64 (x4_1 + 1)), (wrap64 (x5_1 + 1)), (t150), (t152), (pr151), (pr153), (by first | rfl | (simp; done) | (simp [*]; done)), (by first | rfl | (simp; done) | (simp [*]; done)), H', ⟨by have := HK1.out; have := HJ5.out; omega⟩, ⟨by (with_reducible repeat (first | refine blk_drewN ?_ _ | refine blk_drew ?_ | refine blk_alloc ?_ _)); refine blk_far ?_ NB141_142.out _; (with_reducible repeat (first | refine blk_drewN ?_ _ | refine blk_drew ?_ | refine blk_alloc ?_ _)); refine blk_far ?_ NB141_142.out _; (with_reducible repeat (first | refine blk_drewN ?_ _ | refine blk_drew ?_ | refine blk_alloc ?_ _)); exact BK141.out⟩, ⟨by (with_reducible repeat (first | refine blk_drewN ?_ _ | refine blk_drew ?_ | refine blk_alloc ?_ _)); refine blk_put (cs := #[.float .f64 (un pr151 t150), .float .f64 (un pg143001 x143001_1)]) ?_ 1 _ rfl; (with_reducible repeat (first | refine blk_drewN ?_ _ | refine blk_drew ?_ | refine blk_alloc ?_ _)); refine blk_put (cs := #[.float .f64 (un pg143000 x143000_1), .float .f64 (un pg143001 x143001_1)]) ?_ 0 _ rfl; (with_reducible repeat (first | refine blk_drewN ?_ _ | refine blk_drew ?_ | refine blk_alloc ?_ _)); exact BK142.out⟩, ⟨by repeat (first | (with_reducible first | exact HB.out | apply below_alloc | apply pw_below_drewN | apply below_drew1 | refine below_set ?_ GE141.out | refine below_set ?_ GE142.out) | exact HB.out)⟩⟩
        ·replace c12 := Bool.eq_false_iff.mpr c12
         subst c12
         have H1 : (spec_MeanWind.l0 kj5 l0 x4_1 (wrap64 (x5_1 + 1)) x143000_1 x143001_1) = some (r1, r2) := by rw [if_neg (show ¬ (false = true) by decide)] at H; exact H
         clear H
         have H := H1
         clear H1
         have H' := Aside0.mk H
         clear H
         have p143 : 0 ≤ (x5_1 : Int) := of_decide_eq_true (by first | (with_reducible assumption) | assumption)
         have q143 : x5_1 < (l0.length : Int) := of_decide_eq_true (by first | (with_reducible assumption) | assumption)
         obtain ⟨ad143, pf143_1, e143, hx143_0, hx143_1⟩ := at_T54 HR0.out x5_1 p143 q143
         cases e143
         replace hx143_0 := (HB.out.cell (World.block_lt_of_cell? w _ hx143_0)).trans hx143_0
         replace hx143_1 := (HB.out.cell (World.block_lt_of_cell? w _ hx143_1)).trans hx143_1
         replace p143 := eq_true p143
         replace q143 := eq_true q143
         go_wp2_with (first | ((with_reducible refine gate_callee (f := 58) rfl ?_); refine goesL_ (some 22) rfl rfl Tryd.func58 (by kernel_rfl) rfl #[.agg #[.int .i64 ((rd_T54 l0 x5_1).f0), .float .f64 (un pf143_1 ((rd_T54 l0 x5_1).f1))]] rfl (by (try simp only [List.map_toArray, List.map_cons, List.map_nil]); first | done | rfl | (simp only [List.length_drop, List.length_take]; rfl)) ?_; (with_reducible refine (spec_l3WindOk.calls ((rd_T54 l0 x5_1).f0) pf143_1 ((rd_T54 l0 x5_1).f1) false _ A11.out).mono ?_); rintro e w21 ⟨rfl, hb⟩; refine ⟨_, rfl, ?_⟩; have n0_ := Aside0.mk (blk_below (g := gb141) (o := .cells #[.float .f64 0, .float .f64 0] 42 (0, 0)) (by (with_reducible repeat (first | refine blk_drewN ?_ _ | refine blk_drew ?_ | refine blk_alloc ?_ _)); exact BK141.out) hb); have n1_ := Aside0.mk (blk_below (g := gb142) (o := .cells #[.float .f64 (un pg143000 x143000_1), .float .f64 (un pg143001 x143001_1)] 42 (0, 0)) (by (with_reducible repeat (first | refine blk_drewN ?_ _ | refine blk_drew ?_ | refine blk_alloc ?_ _)); exact BK142.out) hb); have n2_ := Aside0.mk (below_step (by repeat (first | (with_reducible first | exact HB.out | apply below_alloc | apply pw_below_drewN | apply below_drew1 | refine below_set ?_ GE141.out | refine below_set ?_ GE142.out) | exact HB.out)) hb); clear BK141; clear BK142; clear HB; have BK141 := n0_; have BK142 := n1_; have HB := n2_; clear n0_ n1_ n2_; (try clear hb); (try clear hb2); (try clear hk); (try clear hi)))
         go_roundg kj5
         case measure => have := HK1.out; have := HJ5.out; omega
         case rel => exact ⟨(x4_1), (wrap64 (x5_1 + 1)), (x143000_1), (x143001_1), (pg143000), (pg143001), (by first | rfl | (simp; done) | (simp [*]; done)), (by first | rfl | (simp; done) | (simp [*]; done)), H', ⟨by have := HK1.out; have := HJ5.out; omega⟩, ⟨by (with_reducible repeat (first | refine blk_drewN ?_ _ | refine blk_drew ?_ | refine blk_alloc ?_ _)); exact BK141.out⟩, ⟨by (with_reducible repeat (first | refine blk_drewN ?_ _ | refine blk_drew ?_ | refine blk_alloc ?_ _)); exact BK142.out⟩, ⟨by repeat (first | (with_reducible first | exact HB.out | apply below_alloc | apply pw_below_drewN | apply below_drew1 | refine below_set ?_ GE141.out | refine below_set ?_ GE142.out) | exact HB.out)⟩⟩
       ·rw [if_neg c10] at H
        exact absurd H (by simp)
      ·rw [if_neg c9] at H
       exact absurd H (by simp)
     ·replace c8 := Bool.eq_false_iff.mpr c8
      subst c8
      have H1 : (if x4_1 = 0 then ((spec_l1None.f).bind fun t154 => ((spec_l1None.f).bind fun t156 => (some (t154, t156)))) else (some (fdiv x143000_1 (foi x4_1), fdiv x143001_1 (foi x4_1)))) = some (r1, r2) := by rw [if_neg (show ¬ (false = true) by decide)] at H; exact H
      clear H
      have H := H1
      clear H1
      by_cases c22 : x4_1 = 0
      ·rw [if_pos c22] at H
       have c22b0 : (x4_1 == 0) = true := beq_iff_eq.mpr c22
       have c22b1 : (x4_1 != 0) = false := bne_eq_false_iff_eq.mpr c22
       clear c22
       replace H := Option.bind_eq_some_iff.mp H
       obtain ⟨t154, A230, H⟩ := H
       replace H : ((spec_l1None.f).bind fun t156 => (some (t154, t156))) = some (r1, r2) := H
       have A23 := Aside0.mk A230
       clear A230
       replace H := Option.bind_eq_some_iff.mp H
       obtain ⟨t156, A240, H⟩ := H
       replace H : (some (t154, t156)) = some (r1, r2) := H
       have A24 := Aside0.mk A240
       clear A240
       simp only [Option.some.injEq, Prod.mk.injEq] at H
       obtain ⟨rfl, rfl⟩ := H
       go_wp2_with (first | ((with_reducible refine gate_callee (f := 43) rfl ?_); refine goesL_ (some 34) rfl rfl Tryd.func43 (by kernel_rfl) rfl #[] rfl (by (try simp only [List.map_toArray, List.map_cons, List.map_nil]); first | done | rfl | (simp only [List.length_drop, List.length_take]; rfl)) ?_; (with_reducible refine (spec_l1None.calls  t154 _ A23.out).mono ?_); rintro e w' ⟨pr155, rfl, ⟨nd, rfl⟩⟩; refine ⟨_, rfl, ?_⟩; skip) | ((with_reducible refine gate_callee (f := 43) rfl ?_); refine goesL_ (some 35) rfl rfl Tryd.func43 (by kernel_rfl) rfl #[] rfl (by (try simp only [List.map_toArray, List.map_cons, List.map_nil]); first | done | rfl | (simp only [List.length_drop, List.length_take]; rfl)) ?_; (with_reducible refine (spec_l1None.calls  t156 _ A24.out).mono ?_); rintro e w' ⟨pr157, rfl, ⟨nd, rfl⟩⟩; refine ⟨_, rfl, ?_⟩; skip; have hnb25 := NB141_142.out; have hnc25 := NB142_141.out; have hcz26_0 : wc.cell? ⟨gb141, 0, none⟩ = some (.float .f64 0) := (blk_cell BK141.out 0).trans rfl; have hcz26_1 : wc.cell? ⟨gb141, 1, none⟩ = some (.float .f64 0) := (blk_cell BK141.out 1).trans rfl; have hfz26_0 := blk_frozen BK141.out 0; have hfz26_1 := blk_frozen BK141.out 1))
       refine bodyPost_ret (results_cell_row rfl _ _ gb141 42 #[.float .f64 (un pr155 t154), .float .f64 (un pr157 t156)] (0, 0) _ rfl (by (with_reducible repeat (first | refine blk_drewN ?_ _ | refine blk_drew ?_ | refine blk_alloc ?_ _)); refine blk_put (cs := #[.float .f64 (un pr155 t154), .float .f64 0]) ?_ 1 _ rfl; (with_reducible repeat (first | refine blk_drewN ?_ _ | refine blk_drew ?_ | refine blk_alloc ?_ _)); refine blk_put (cs := #[.float .f64 0, .float .f64 0]) ?_ 0 _ rfl; (with_reducible repeat (first | refine blk_drewN ?_ _ | refine blk_drew ?_ | refine blk_alloc ?_ _)); exact BK141.out) Tryd.underlying42 rfl (by kernel_rfl)) rfl ?_
       first | (exact ⟨pr155, pr157, by first | rfl | (simp [errW_none, errW_some] <;> rfl) | (simp [*, errW_none, errW_some] <;> rfl), by repeat (first | (with_reducible first | exact HB.out | apply below_alloc | apply pw_below_drewN | apply below_drew1 | refine below_set ?_ GE141.out | refine below_set ?_ GE142.out) | exact HB.out)⟩) | (exact ⟨⟨pr155, pr157, by first | rfl | (simp [errW_none, errW_some] <;> rfl) | (simp [*, errW_none, errW_some] <;> rfl)⟩, by repeat (first | (with_reducible first | exact HB.out | apply below_alloc | apply pw_below_drewN | apply below_drew1 | refine below_set ?_ GE141.out | refine below_set ?_ GE142.out) | exact HB.out)⟩)
      ·rw [if_neg c22] at H
       have c22b0 : (x4_1 == 0) = false := beq_eq_false_iff_ne.mpr c22
       have c22b1 : (x4_1 != 0) = true := bne_iff_ne.mpr c22
       simp only [Option.some.injEq, Prod.mk.injEq] at H
       obtain ⟨rfl, rfl⟩ := H
       have hnb27 := NB142_141.out
       have hnc27 := NB141_142.out
       have hcz28_0 : wc.cell? ⟨gb142, 0, none⟩ = some (.float .f64 (un pg143000 x143000_1)) := (blk_cell BK142.out 0).trans rfl
       have hcz28_1 : wc.cell? ⟨gb142, 1, none⟩ = some (.float .f64 (un pg143001 x143001_1)) := (blk_cell BK142.out 1).trans rfl
       have hfz28_0 := blk_frozen BK142.out 0
       have hfz28_1 := blk_frozen BK142.out 1
       go_wp2_with (first | ((with_reducible refine gate_dst (N := 41) rfl ?_); (try (refine gate_guard (by rfl) ?_; dsimp only)); refine fop_eventB rfl (N := 41) rfl (op := .quo) rfl rfl pg143000 x143000_1 0 (foi x4_1) rfl rfl ?hA ?hB fdiv rfl ?_; (case hA => first | rfl | exact (un_zero _).symm); (case hB => first | rfl | exact (un_zero _).symm); intro pb158 w29 hb; have n0_ := Aside0.mk (blk_below (g := gb141) (o := .cells #[.float .f64 0, .float .f64 0] 42 (0, 0)) (by (with_reducible repeat (first | refine blk_drewN ?_ _ | refine blk_drew ?_ | refine blk_alloc ?_ _)); exact BK141.out) hb); have n1_ := Aside0.mk (blk_below (g := gb142) (o := .cells #[.float .f64 (un pg143000 x143000_1), .float .f64 (un pg143001 x143001_1)] 42 (0, 0)) (by (with_reducible repeat (first | refine blk_drewN ?_ _ | refine blk_drew ?_ | refine blk_alloc ?_ _)); exact BK142.out) hb); have n2_ := Aside0.mk (below_step (by repeat (first | (with_reducible first | exact HB.out | apply below_alloc | apply pw_below_drewN | apply below_drew1 | refine below_set ?_ GE141.out | refine below_set ?_ GE142.out) | exact HB.out)) hb); clear BK141; clear BK142; clear HB; have BK141 := n0_; have BK142 := n1_; have HB := n2_; clear n0_ n1_ n2_; (try clear hb); have hcz30_0 : w29.cell? ⟨gb142, 0, none⟩ = some (.float .f64 (un pg143000 x143000_1)) := (blk_cell BK142.out 0).trans rfl; have hcz30_1 : w29.cell? ⟨gb142, 1, none⟩ = some (.float .f64 (un pg143001 x143001_1)) := (blk_cell BK142.out 1).trans rfl; have hfz30_0 := blk_frozen BK142.out 0; have hfz30_1 := blk_frozen BK142.out 1) | ((with_reducible refine gate_dst (N := 46) rfl ?_); (try (refine gate_guard (by rfl) ?_; dsimp only)); refine fop_eventB rfl (N := 46) rfl (op := .quo) rfl rfl pg143001 x143001_1 0 (foi x4_1) rfl rfl ?hA ?hB fdiv rfl ?_; (case hA => first | rfl | exact (un_zero _).symm); (case hB => first | rfl | exact (un_zero _).symm); intro pb159 w31 hb; have n0_ := Aside0.mk (blk_below (g := gb141) (o := .cells #[.float .f64 0, .float .f64 0] 42 (0, 0)) (by (with_reducible repeat (first | refine blk_drewN ?_ _ | refine blk_drew ?_ | refine blk_alloc ?_ _)); exact BK141.out) hb); have n1_ := Aside0.mk (blk_below (g := gb142) (o := .cells #[.float .f64 (un pg143000 x143000_1), .float .f64 (un pg143001 x143001_1)] 42 (0, 0)) (by (with_reducible repeat (first | refine blk_drewN ?_ _ | refine blk_drew ?_ | refine blk_alloc ?_ _)); exact BK142.out) hb); have n2_ := Aside0.mk (below_step (by repeat (first | (with_reducible first | exact HB.out | apply below_alloc | apply pw_below_drewN | apply below_drew1 | refine below_set ?_ GE141.out | refine below_set ?_ GE142.out) | exact HB.out)) hb); clear BK141; clear BK142; clear HB; have BK141 := n0_; have BK142 := n1_; have HB := n2_; clear n0_ n1_ n2_; (try clear hb); have hcz32_0 : w31.cell? ⟨gb141, 0, none⟩ = some (.float .f64 0) := (blk_cell BK141.out 0).trans rfl; have hcz32_1 : w31.cell? ⟨gb141, 1, none⟩ = some (.float .f64 0) := (blk_cell BK141.out 1).trans rfl; have hfz32_0 := blk_frozen BK141.out 0; have hfz32_1 := blk_frozen BK141.out 1))
       refine bodyPost_ret (results_cell_row rfl _ _ gb141 42 #[.float .f64 (un pb158 (fdiv x143000_1 (foi x4_1))), .float .f64 (un pb159 (fdiv x143001_1 (foi x4_1)))] (0, 0) _ rfl (by (with_reducible repeat (first | refine blk_drewN ?_ _ | refine blk_drew ?_ | refine blk_alloc ?_ _)); refine blk_put (cs := #[.float .f64 (un pb158 (fdiv x143000_1 (foi x4_1))), .float .f64 0]) ?_ 1 _ rfl; (with_reducible repeat (first | refine blk_drewN ?_ _ | refine blk_drew ?_ | refine blk_alloc ?_ _)); refine blk_put (cs := #[.float .f64 0, .float .f64 0]) ?_ 0 _ rfl; (with_reducible repeat (first | refine blk_drewN ?_ _ | refine blk_drew ?_ | refine blk_alloc ?_ _)); exact BK141.out) Tryd.underlying42 rfl (by kernel_rfl)) rfl ?_
       first | (exact ⟨pb158, pb159, by first | rfl | (simp [errW_none, errW_some] <;> rfl) | (simp [*, errW_none, errW_some] <;> rfl), by repeat (first | (with_reducible first | exact HB.out | apply below_alloc | apply pw_below_drewN | apply below_drew1 | refine below_set ?_ GE141.out | refine below_set ?_ GE142.out) | exact HB.out)⟩) | (exact ⟨⟨pb158, pb159, by first | rfl | (simp [errW_none, errW_some] <;> rfl) | (simp [*, errW_none, errW_some] <;> rfl)⟩, by repeat (first | (with_reducible first | exact HB.out | apply below_alloc | apply pw_below_drewN | apply below_drew1 | refine below_set ?_ GE141.out | refine below_set ?_ GE142.out) | exact HB.out)⟩)

end Go.Proofs.YtpileeenoocjpaaDoor.Q
