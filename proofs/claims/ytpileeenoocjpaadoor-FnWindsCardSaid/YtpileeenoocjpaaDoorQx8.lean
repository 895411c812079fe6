/- Plain Lean functions with the same answers as the Go functions of this seat, and a proof for each that the Go code comes to just these answers; no condition. Written by a program of this session (the kit's printer, turned). -/
import Derived.Test.YtpileeenoocjpaaDoorQx0
import Derived.Test.YtpileeenoocjpaaDoorQx7
namespace Go.Proofs.YtpileeenoocjpaaDoor.Q
open Go.RowKit Go.Proofs.YtpileeenoocjpaaDoorW.PrintWords Go.Proofs.YtpileeenoocjpaaDoorW.PrintLast Go.Proofs.YtpileeenoocjpaaDoorW.PrintMore Go.Proofs.YtpileeenoocjpaaDoorW.PrintFlt
attribute [local go_sem] cmp_lss cmp_leq cmp_gtr cmp_geq cmp_eql cmp_neq flt_l flt_r fgt_l fgt_r feq_l feq_r fne_l fne_r ord_lt ord_gt ord_eq ord_ne conv_int foi_fold run_store_flt
attribute [local go_sem] max2_int min2_int max_two min_two max_three min_three max_four min_four   -- for this text's walks alone
set_option linter.unusedVariables false
set_option linter.unusedSimpArgs false

/-! ### spec_Same: function 37 -/
def spec_Same.j0 : Nat → Nat → Nat → Bool → Option (Bool)
 | 0, _, _, _ => none
 | k + 1, x0, x1, x12 => if x12 = true then (if (fne x0 x0) = true then (some (fne x1 x1)) else (some false)) else (if (feq x0 x1) = true then ((spec_l1Minus.f x0).bind fun t277 => ((spec_l1Minus.f x1).bind fun t278 => (some (t277 == t278)))) else (some false))
def spec_Same.f (k : Nat) (a0 : Nat) (a1 : Nat) : Option (Bool) := if (fne a0 a0) = true then (spec_Same.j0 k a0 a1 true) else (spec_Same.j0 k a0 a1 (fne a1 a1))
theorem spec_Same.mono_l : ∀ k, (∀ y0 y1 y2, LeO (spec_Same.j0 k y0 y1 y2) (spec_Same.j0 (k + 1) y0 y1 y2))
 | 0 => fun _ _ _ r h => by simp [spec_Same.j0] at h
 | k + 1 => by
  have ih0 := spec_Same.mono_l k
  ·intro y0 y1 y2
   unfold spec_Same.j0
   repeat' first
   | (with_reducible exact ih0 _ _ _)
   | (with_reducible exact LeO.refl _)
   | (with_reducible exact LeO.none _)
   | (with_reducible refine LeO.ite ?_ ?_)
   | (with_reducible refine LeO.bind ?_ (fun _ => ?_))
   | exact ih0 _ _ _
   | exact LeO.none _
   | refine LeO.ite ?_ ?_
   | refine LeO.bind ?_ (fun _ => ?_)
theorem spec_Same.mono : ∀ a0 a1 k, LeO (spec_Same.f k a0 a1) (spec_Same.f (k + 1) a0 a1) := by
 intro a0 a1 k
 have ih0 := spec_Same.mono_l k
 unfold spec_Same.f
 repeat' first
   | (with_reducible exact ih0 _ _ _)
   | (with_reducible exact LeO.refl _)
   | (with_reducible exact LeO.none _)
   | (with_reducible refine LeO.ite ?_ ?_)
   | (with_reducible refine LeO.bind ?_ (fun _ => ?_))
   | exact ih0 _ _ _
   | exact LeO.none _
   | refine LeO.ite ?_ ?_
   | refine LeO.bind ?_ (fun _ => ?_)
set_option maxHeartbeats 8000000 in
set_option maxRecDepth 100000 in
theorem spec_Same.calls (k : Nat) (pa0 : Nat) (a0 : Nat) (pa1 : Nat) (a1 : Nat) (r : Bool) (w : World) (h : spec_Same.f k a0 a1 = some r) :
  Calls Tryd.prog 37 #[.float .f64 (un pa0 a0), .float .f64 (un pa1 a1)] w fun e w' => e = .returned (.bool r) ∧ Drawn0 w w' := by
 have H : (if (fne a0 a0) = true then (spec_Same.j0 k a0 a1 true) else (spec_Same.j0 k a0 a1 (fne a1 a1))) = some r := h
 clear h
 have HC3 := Aside0.mk H
 clear H
 go_enter Tryd.func37, Tryd.ntmps37
 go_upto_region 1 with (fail)
 go_cut [12] (fun v12 wc => ∃ (kq : Nat) (x12_2 : Bool), v12 = .bool x12_2 ∧ Aside0 (spec_Same.j0 kq a0 a1 x12_2 = some r) ∧ Aside0 (kq ≤ k) ∧ Drawn0 w wc)
 case first =>
  have H := HC3.out
  clear HC3
  by_cases c4 : (fne a0 a0) = true
  ·rw [if_pos c4] at H
   have c4b0 : (fne a0 a0) = true := c4
   clear c4
   (first | rw [c4b0] | (simp only [i64_w, i32_w]; rw [c4b0]) | skip)
   have H' := Aside0.mk H
   clear H
   go_wp2
   go_meet
   case rel => exact ⟨_, (true), (by first | rfl | (simp; done) | (simp [*]; done)), H', ⟨by first | omega | exact Nat.le_refl _⟩, by repeat (first | exact Drawn0.refl _ | apply Drawn0.step)⟩
  ·rw [if_neg c4] at H
   have c4b0 : (fne a0 a0) = false := by simpa using c4
   clear c4
   (first | rw [c4b0] | (simp only [i64_w, i32_w]; rw [c4b0]) | skip)
   have H' := Aside0.mk H
   clear H
   go_wp2
   go_meet
   case rel => exact ⟨_, ((fne a1 a1)), (by first | rfl | (simp; done) | (simp [*]; done)), H', ⟨by first | omega | exact Nat.le_refl _⟩, by repeat (first | exact Drawn0.refl _ | apply Drawn0.step)⟩
 case rest =>
  clear HC3
  try clear p2
  try clear c3
  try clear c4
  try clear c4b0
  obtain ⟨kq, x12_2, rfl, HA, HJ2, ⟨mc2, rfl⟩⟩ := hcut
  cases kq with
  | zero => exact absurd HA.out (by simp [spec_Same.j0])
  | succ kj2 =>
   have H := HA.out
   clear HA
   simp only [spec_Same.j0] at H
   by_cases c5 : x12_2 = true
   ·subst c5
    have H1 : (if (fne a0 a0) = true then (some (fne a1 a1)) else (some false)) = some r := by rw [if_pos rfl] at H; exact H
    clear H
    have H := H1
    clear H1
    by_cases c6 : (fne a0 a0) = true
    ·rw [if_pos c6] at H
     have c6b0 : (fne a0 a0) = true := c6
     clear c6
     obtain rfl := Option.some.inj H
     go_wp2
     go_ret
     exact ⟨by first | rfl | (simp; done) | (simp [*]; done), by repeat (first | exact Drawn0.refl _ | apply Drawn0.step)⟩
    ·rw [if_neg c6] at H
     have c6b0 : (fne a0 a0) = false := by simpa using c6
     clear c6
     obtain rfl := Option.some.inj H
     go_wp2
     go_ret
     exact ⟨by first | rfl | (simp; done) | (simp [*]; done), by repeat (first | exact Drawn0.refl _ | apply Drawn0.step)⟩
   ·replace c5 := Bool.eq_false_iff.mpr c5
    subst c5
    have H1 : (if (feq a0 a1) = true then ((spec_l1Minus.f a0).bind fun t277 => ((spec_l1Minus.f a1).bind fun t278 => (some (t277 == t278)))) else (some false)) = some r := by rw [if_neg (show ¬ (false = true) by decide)] at H; exact H
    clear H
    have H := H1
    clear H1
    by_cases c7 : (feq a0 a1) = true
    ·rw [if_pos c7] at H
     have c7b0 : (feq a0 a1) = true := c7
     clear c7
     replace H := Option.bind_eq_some_iff.mp H
     obtain ⟨t277, A80, H⟩ := H
     replace H : ((spec_l1Minus.f a1).bind fun t278 => (some (t277 == t278))) = some r := H
     have A8 := Aside0.mk A80
     clear A80
     replace H := Option.bind_eq_some_iff.mp H
     obtain ⟨t278, A90, H⟩ := H
     replace H : (some (t277 == t278)) = some r := H
     have A9 := Aside0.mk A90
     clear A90
     obtain rfl := Option.some.inj H
     go_wp2_with (first | (go_at_call 66; (with_reducible refine (spec_l1Minus.calls pa0 a0 t277 _ A8.out).mono ?_); rintro e w' ⟨rfl, ⟨nd, rfl⟩⟩) | (go_at_call 66; (with_reducible refine (spec_l1Minus.calls pa1 a1 t278 _ A9.out).mono ?_); rintro e w' ⟨rfl, ⟨nd, rfl⟩⟩))
     go_ret
     exact ⟨by first | rfl | (simp; done) | (simp [*]; done), by repeat (first | exact Drawn0.refl _ | apply Drawn0.step)⟩
    ·rw [if_neg c7] at H
     have c7b0 : (feq a0 a1) = false := by simpa using c7
     clear c7
     obtain rfl := Option.some.inj H
     go_wp2
     go_ret
     exact ⟨by first | rfl | (simp; done) | (simp [*]; done), by repeat (first | exact Drawn0.refl _ | apply Drawn0.step)⟩

/-! ### laws_equal: function 40 -/
def laws_equal.f (a0_0 : Nat) (a0_1 : Nat) (a1_0 : Nat) (a1_1 : Nat) : Option (Bool) := if (feq a0_0 a1_0) = true then (some (feq a0_1 a1_1)) else (some false)
set_option maxHeartbeats 8000000 in
set_option maxRecDepth 100000 in
theorem laws_equal.calls (pa0_0 : Nat) (a0_0 : Nat) (pa0_1 : Nat) (a0_1 : Nat) (pa1_0 : Nat) (a1_0 : Nat) (pa1_1 : Nat) (a1_1 : Nat) (r : Bool) (w : World) (h : laws_equal.f a0_0 a0_1 a1_0 a1_1 = some r) :
  Calls Tryd.prog 40 #[.agg #[.float .f64 (un pa0_0 a0_0), .float .f64 (un pa0_1 a0_1)], .agg #[.float .f64 (un pa1_0 a1_0), .float .f64 (un pa1_1 a1_1)]] w fun e w' => e = .returned (.bool r) ∧ Below w.heap.size w w' := by
 have hu42 := Tryd.underlying42
 have HB := Aside0.mk (Below.refl w.heap.size w)
 have H : (if (feq a0_0 a1_0) = true then (some (feq a0_1 a1_1)) else (some false)) = some r := h
 clear h
 by_cases c3 : (feq a0_0 a1_0) = true
 ·rw [if_pos c3] at H
  have c3b0 : (feq a0_0 a1_0) = true := c3
  clear c3
  obtain rfl := Option.some.inj H
  go_enter Tryd.func40, Tryd.ntmps40
  go_wp2_with (first | ((with_reducible refine gate_dst (N := 2) rfl ?_); (try (refine gate_guard (by rfl) ?_; dsimp only)); refine box_event ?hg (N := 2) ?hd (cs := #[.float .f64 (un pa0_0 a0_0), .float .f64 (un pa0_1 a0_1)]) (t := 42) ?hr ?_; (case hd => rfl); (case hg => rfl); (case hr => first | (go_simp; done) | (go_simp; rfl)); intro gb279 hg w4 hbox hb; have n0_ := Aside0.mk (below_step (by repeat (first | (with_reducible first | exact HB.out | apply below_alloc | apply pw_below_drewN | apply below_drew1) | exact HB.out)) hb); have n1_ := Aside0.mk (hbox); have n2_ := Aside0.mk ((by rw [hg]; exact (below_size (by repeat (first | (with_reducible first | exact HB.out | apply below_alloc | apply pw_below_drewN | apply below_drew1) | exact HB.out))) : w.heap.size ≤ gb279)); have n3_ := Aside0.mk ((by rw [hg]; exact (below_size (by repeat (first | (with_reducible first | exact HB.out | apply below_alloc | apply pw_below_drewN | apply below_drew1) | exact HB.out))) : w.heap.size ≤ gb279)); clear HB; have HB := n0_; have BK279 := n1_; have GW279 := n2_; have GE279 := n3_; clear n0_ n1_ n2_ n3_; clear hb hbox hg) | ((with_reducible refine gate_dst (N := 3) rfl ?_); (try (refine gate_guard (by rfl) ?_; dsimp only)); refine box_event ?hg (N := 3) ?hd (cs := #[.float .f64 (un pa1_0 a1_0), .float .f64 (un pa1_1 a1_1)]) (t := 42) ?hr ?_; (case hd => rfl); (case hg => rfl); (case hr => first | (go_simp; done) | (go_simp; rfl)); intro gb280 hg w5 hbox hb; have n0_ := Aside0.mk (blk_below (g := gb279) (o := .cells #[.float .f64 (un pa0_0 a0_0), .float .f64 (un pa0_1 a0_1)] 42 (0, 0)) (by (with_reducible repeat (first | refine blk_drewN ?_ _ | refine blk_drew ?_ | refine blk_alloc ?_ _)); exact BK279.out) hb); have n1_ := Aside0.mk (below_step (by repeat (first | (with_reducible first | exact HB.out | apply below_alloc | apply pw_below_drewN | apply below_drew1 | refine below_set ?_ GE279.out) | exact HB.out)) hb); have n2_ := Aside0.mk (hbox); have n3_ := Aside0.mk ((by rw [hg]; exact (below_size (by repeat (first | (with_reducible first | exact HB.out | apply below_alloc | apply pw_below_drewN | apply below_drew1 | refine below_set ?_ GE279.out) | exact HB.out))) : w.heap.size ≤ gb280)); have n4_ := Aside0.mk ((by rw [hg]; exact (below_size (by repeat (first | (with_reducible first | exact HB.out | apply below_alloc | apply pw_below_drewN | apply below_drew1 | refine below_set ?_ GE279.out) | exact HB.out))) : w.heap.size ≤ gb280)); have n5_ := Aside0.mk ((by rw [hg]; exact Nat.ne_of_lt (blk_lt (g := gb279) (o := .cells #[.float .f64 (un pa0_0 a0_0), .float .f64 (un pa0_1 a0_1)] 42 (0, 0)) (by (with_reducible repeat (first | refine blk_drewN ?_ _ | refine blk_drew ?_ | refine blk_alloc ?_ _)); exact BK279.out)) : gb279 ≠ gb280)); have n6_ := Aside0.mk ((by rw [hg]; exact Nat.ne_of_gt (blk_lt (g := gb279) (o := .cells #[.float .f64 (un pa0_0 a0_0), .float .f64 (un pa0_1 a0_1)] 42 (0, 0)) (by (with_reducible repeat (first | refine blk_drewN ?_ _ | refine blk_drew ?_ | refine blk_alloc ?_ _)); exact BK279.out)) : gb280 ≠ gb279)); clear BK279; clear HB; have BK279 := n0_; have HB := n1_; have BK280 := n2_; have GW280 := n3_; have GE280 := n4_; have NB279_280 := n5_; have NB280_279 := n6_; clear n0_ n1_ n2_ n3_ n4_ n5_ n6_; clear hb hbox hg; have hnb6 := NB279_280.out; have hnc6 := NB280_279.out; have hcz7_0 : w5.cell? ⟨gb279, 0, none⟩ = some (.float .f64 (un pa0_0 a0_0)) := (blk_cell BK279.out 0).trans rfl; have hcz7_1 : w5.cell? ⟨gb279, 1, none⟩ = some (.float .f64 (un pa0_1 a0_1)) := (blk_cell BK279.out 1).trans rfl; have hfz7_0 := blk_frozen BK279.out 0; have hfz7_1 := blk_frozen BK279.out 1; have hcz8_0 : w5.cell? ⟨gb280, 0, none⟩ = some (.float .f64 (un pa1_0 a1_0)) := (blk_cell BK280.out 0).trans rfl; have hcz8_1 : w5.cell? ⟨gb280, 1, none⟩ = some (.float .f64 (un pa1_1 a1_1)) := (blk_cell BK280.out 1).trans rfl; have hfz8_0 := blk_frozen BK280.out 0; have hfz8_1 := blk_frozen BK280.out 1))
  go_ret
  exact ⟨by first | rfl | (simp [errW_none, errW_some] <;> rfl) | (simp [*, errW_none, errW_some] <;> rfl), by repeat (first | (with_reducible first | exact HB.out | apply below_alloc | apply pw_below_drewN | apply below_drew1 | refine below_set ?_ GE279.out | refine below_set ?_ GE280.out) | exact HB.out)⟩
 ·rw [if_neg c3] at H
  have c3b0 : (feq a0_0 a1_0) = false := by simpa using c3
  clear c3
  obtain rfl := Option.some.inj H
  go_enter Tryd.func40, Tryd.ntmps40
  go_wp2_with (first | ((with_reducible refine gate_dst (N := 2) rfl ?_); (try (refine gate_guard (by rfl) ?_; dsimp only)); refine box_event ?hg (N := 2) ?hd (cs := #[.float .f64 (un pa0_0 a0_0), .float .f64 (un pa0_1 a0_1)]) (t := 42) ?hr ?_; (case hd => rfl); (case hg => rfl); (case hr => first | (go_simp; done) | (go_simp; rfl)); intro gb279 hg w9 hbox hb; have n0_ := Aside0.mk (below_step (by repeat (first | (with_reducible first | exact HB.out | apply below_alloc | apply pw_below_drewN | apply below_drew1) | exact HB.out)) hb); have n1_ := Aside0.mk (hbox); have n2_ := Aside0.mk ((by rw [hg]; exact (below_size (by repeat (first | (with_reducible first | exact HB.out | apply below_alloc | apply pw_below_drewN | apply below_drew1) | exact HB.out))) : w.heap.size ≤ gb279)); have n3_ := Aside0.mk ((by rw [hg]; exact (below_size (by repeat (first | (with_reducible first | exact HB.out | apply below_alloc | apply pw_below_drewN | apply below_drew1) | exact HB.out))) : w.heap.size ≤ gb279)); clear HB; have HB := n0_; have BK279 := n1_; have GW279 := n2_; have GE279 := n3_; clear n0_ n1_ n2_ n3_; clear hb hbox hg) | ((with_reducible refine gate_dst (N := 3) rfl ?_); (try (refine gate_guard (by rfl) ?_; dsimp only)); refine box_event ?hg (N := 3) ?hd (cs := #[.float .f64 (un pa1_0 a1_0), .float .f64 (un pa1_1 a1_1)]) (t := 42) ?hr ?_; (case hd => rfl); (case hg => rfl); (case hr => first | (go_simp; done) | (go_simp; rfl)); intro gb280 hg w10 hbox hb; have n0_ := Aside0.mk (blk_below (g := gb279) (o := .cells #[.float .f64 (un pa0_0 a0_0), .float .f64 (un pa0_1 a0_1)] 42 (0, 0)) (by (with_reducible repeat (first | refine blk_drewN ?_ _ | refine blk_drew ?_ | refine blk_alloc ?_ _)); exact BK279.out) hb); have n1_ := Aside0.mk (below_step (by repeat (first | (with_reducible first | exact HB.out | apply below_alloc | apply pw_below_drewN | apply below_drew1 | refine below_set ?_ GE279.out) | exact HB.out)) hb); have n2_ := Aside0.mk (hbox); have n3_ := Aside0.mk ((by rw [hg]; exact (below_size (by repeat (first | (with_reducible first | exact HB.out | apply below_alloc | apply pw_below_drewN | apply below_drew1 | refine below_set ?_ GE279.out) | exact HB.out))) : w.heap.size ≤ gb280)); have n4_ := Aside0.mk ((by rw [hg]; exact (below_size (by repeat (first | (with_reducible first | exact HB.out | apply below_alloc | apply pw_below_drewN | apply below_drew1 | refine below_set ?_ GE279.out) | exact HB.out))) : w.heap.size ≤ gb280)); have n5_ := Aside0.mk ((by rw [hg]; exact Nat.ne_of_lt (blk_lt (g := gb279) (o := .cells #[.float .f64 (un pa0_0 a0_0), .float .f64 (un pa0_1 a0_1)] 42 (0, 0)) (by (with_reducible repeat (first | refine blk_drewN ?_ _ | refine blk_drew ?_ | refine blk_alloc ?_ _)); exact BK279.out)) : gb279 ≠ gb280)); have n6_ := Aside0.mk ((by rw [hg]; exact Nat.ne_of_gt (blk_lt (g := gb279) (o := .cells #[.float .f64 (un pa0_0 a0_0), .float .f64 (un pa0_1 a0_1)] 42 (0, 0)) (by (with_reducible repeat (first | refine blk_drewN ?_ _ | refine blk_drew ?_ | refine blk_alloc ?_ _)); exact BK279.out)) : gb280 ≠ gb279)); clear BK279; clear HB; have BK279 := n0_; have HB := n1_; have BK280 := n2_; have GW280 := n3_; have GE280 := n4_; have NB279_280 := n5_; have NB280_279 := n6_; clear n0_ n1_ n2_ n3_ n4_ n5_ n6_; clear hb hbox hg; have hnb11 := NB279_280.out; have hnc11 := NB280_279.out; have hcz12_0 : w10.cell? ⟨gb279, 0, none⟩ = some (.float .f64 (un pa0_0 a0_0)) := (blk_cell BK279.out 0).trans rfl; have hcz12_1 : w10.cell? ⟨gb279, 1, none⟩ = some (.float .f64 (un pa0_1 a0_1)) := (blk_cell BK279.out 1).trans rfl; have hfz12_0 := blk_frozen BK279.out 0; have hfz12_1 := blk_frozen BK279.out 1; have hcz13_0 : w10.cell? ⟨gb280, 0, none⟩ = some (.float .f64 (un pa1_0 a1_0)) := (blk_cell BK280.out 0).trans rfl; have hcz13_1 : w10.cell? ⟨gb280, 1, none⟩ = some (.float .f64 (un pa1_1 a1_1)) := (blk_cell BK280.out 1).trans rfl; have hfz13_0 := blk_frozen BK280.out 0; have hfz13_1 := blk_frozen BK280.out 1))
  go_ret
  exact ⟨by first | rfl | (simp [errW_none, errW_some] <;> rfl) | (simp [*, errW_none, errW_some] <;> rfl), by repeat (first | (with_reducible first | exact HB.out | apply below_alloc | apply pw_below_drewN | apply below_drew1 | refine below_set ?_ GE279.out | refine below_set ?_ GE280.out) | exact HB.out)⟩

end Go.Proofs.YtpileeenoocjpaaDoor.Q
