/- Plain Lean functions with the same answers as the Go functions of this seat, and a proof for each that the Go code comes to just these answers; no condition. Written by a program of this session (the kit's printer, turned). -/
import Derived.Test.YtmndffnjejgfoabDoorQx0
import Derived.Test.YtmndffnjejgfoabDoorQx19
namespace Go.Proofs.YtmndffnjejgfoabDoor.Q
open Go.RowKit Go.Proofs.YtmndffnjejgfoabDoorW.PrintWords Go.Proofs.YtmndffnjejgfoabDoorW.PrintLast Go.Proofs.YtmndffnjejgfoabDoorW.PrintMore
attribute [local go_sem] max2_int min2_int max_two min_two max_three min_three max_four min_four   -- for this text's walks alone
set_option linter.unusedVariables false
set_option linter.unusedSimpArgs false

/-! ### impl_Winds_1: function 24 -/
def impl_Winds_1.j0 : Nat → List Int → Bool → Int → Int → Int → Int → Option (Int)
 | 0, _, _, _, _, _, _ => none
 | k + 1, x2, x10, x4000, x248000, x248001, x248002 => if x10 = true then (some (wrap64 (x4000 + 1))) else (if x248002 = 3 then (if 0 < (x2.length : Int) then (if (wrap64 (x248001 - 1)) = (rd x2 0) then (some (wrap64 (x4000 - 1))) else (some x4000)) else (none)) else (some x4000))
def impl_Winds_1.f (k : Nat) (a0_0 : Int) (a0_1 : Int) (a0_2 : Int) (l1 : List Int) (l2 : List Int) (s3_0 : Int) : Option (Int) := if 0 < (l1.length : Int) then (if a0_0 ≤ (rd l1 0) then (some s3_0) else (if a0_2 = 1 then (if 0 < (l2.length : Int) then (impl_Winds_1.j0 k l2 (a0_1 == (rd l2 0)) s3_0 a0_0 a0_1 a0_2) else (none)) else (impl_Winds_1.j0 k l2 false s3_0 a0_0 a0_1 a0_2))) else (none)
theorem impl_Winds_1.mono_l : ∀ k, (∀ y0 y1 y2 y3 y4 y5, LeO (impl_Winds_1.j0 k y0 y1 y2 y3 y4 y5) (impl_Winds_1.j0 (k + 1) y0 y1 y2 y3 y4 y5))
 | 0 => fun _ _ _ _ _ _ r h => by simp [impl_Winds_1.j0] at h
 | k + 1 => by
  have ih0 := impl_Winds_1.mono_l k
  ·intro y0 y1 y2 y3 y4 y5
   unfold impl_Winds_1.j0
   repeat' first
   | (with_reducible exact ih0 _ _ _ _ _ _)
   | (with_reducible exact LeO.refl _)
   | (with_reducible exact LeO.none _)
   | (with_reducible refine LeO.ite ?_ ?_)
   | (with_reducible refine LeO.bind ?_ (fun _ => ?_))
   | exact ih0 _ _ _ _ _ _
   | exact LeO.none _
   | refine LeO.ite ?_ ?_
   | refine LeO.bind ?_ (fun _ => ?_)
theorem impl_Winds_1.mono : ∀ a0 a1 a2 a3 a4 a5 k, LeO (impl_Winds_1.f k a0 a1 a2 a3 a4 a5) (impl_Winds_1.f (k + 1) a0 a1 a2 a3 a4 a5) := by
 intro a0 a1 a2 a3 a4 a5 k
 have ih0 := impl_Winds_1.mono_l k
 unfold impl_Winds_1.f
 repeat' first
   | (with_reducible exact ih0 _ _ _ _ _ _)
   | (with_reducible exact LeO.refl _)
   | (with_reducible exact LeO.none _)
   | (with_reducible refine LeO.ite ?_ ?_)
   | (with_reducible refine LeO.bind ?_ (fun _ => ?_))
   | exact ih0 _ _ _ _ _ _
   | exact LeO.none _
   | refine LeO.ite ?_ ?_
   | refine LeO.bind ?_ (fun _ => ?_)
set_option maxHeartbeats 8000000 in
set_option maxRecDepth 100000 in
theorem impl_Winds_1.calls (k : Nat) (a0_0 : Int) (a0_1 : Int) (a0_2 : Int) (G1 : Nat) (l1 : List Int) (G2 : Nat) (l2 : List Int) (g : Nat) (s3_0 : Int) (r : Int) (w0 w : World) (hI : IsS2 w0 w g s3_0) (hB : Below w0.heap.size w0 w) (hr1 : Kd.C (Kd.int .i64) w (some ⟨G1, 0, none⟩) l1.length l1) (hc1 : l1.length ≤ l1.length) (hf1 : ∀ ad : Addr, (some ⟨G1, 0, none⟩ : Option Addr) = some ad → 0 < l1.length → ad.block ≠ g) (hr2 : Kd.C (Kd.int .i64) w (some ⟨G2, 0, none⟩) l2.length l2) (hc2 : l2.length ≤ l2.length) (hf2 : ∀ ad : Addr, (some ⟨G2, 0, none⟩ : Option Addr) = some ad → 0 < l2.length → ad.block ≠ g) (h : impl_Winds_1.f k a0_0 a0_1 a0_2 l1 l2 s3_0 = some r) :
  Calls Tryd.prog 24 #[.agg #[.int .i64 a0_0, .int .i64 a0_1, .int .i64 a0_2], .pointer (some ⟨G1, 0, none⟩), .pointer (some ⟨G2, 0, none⟩), .pointer (some ⟨g, 0, none⟩)] w fun e w' => e = .returned (.tuple #[]) ∧ IsS2 w0 w' g r ∧ Below w0.heap.size w0 w' ∧ KeepBut w w' g none := by
 have hu45 := Tryd.underlying45
 have HR1 := Aside0.mk hr1
 have HC1 := Aside0.mk hc1
 clear hr1 hc1
 have HR2 := Aside0.mk hr2
 have HC2 := Aside0.mk hc2
 clear hr2 hc2
 have HI3 := Aside0.mk hI
 have HK := Aside0.mk (KeepBut.refl w g none)
 have HL := Aside0.mk hB.size
 clear hI
 have HW0 := Aside0.mk hB.size
 have HB := Aside0.mk hB
 clear hB
 have H : (if 0 < (l1.length : Int) then (if a0_0 ≤ (rd l1 0) then (some s3_0) else (if a0_2 = 1 then (if 0 < (l2.length : Int) then (impl_Winds_1.j0 k l2 (a0_1 == (rd l2 0)) s3_0 a0_0 a0_1 a0_2) else (none)) else (impl_Winds_1.j0 k l2 false s3_0 a0_0 a0_1 a0_2))) else (none)) = some r := h
 clear h
 by_cases c5 : 0 < (l1.length : Int)
 ·rw [if_pos c5] at H
  have c5b0 : decide (0 < (l1.length : Int)) = true := decide_eq_true c5
  have c5b1 : decide (0 < l1.length) = true := decide_eq_true (by omega)
  clear c5
  by_cases c6 : a0_0 ≤ (rd l1 0)
  ·rw [if_pos c6] at H
   have c6b0 : decide (a0_0 ≤ (rd l1 0)) = true := decide_eq_true c6
   clear c6
   obtain rfl := Option.some.inj H
   go_enter Tryd.func24, Tryd.ntmps24
   go_wp2_with (first | ((with_reducible refine gate_dst (N := 4) rfl ?_); refine box_event ?hg (N := 4) ?hd (cs := #[.int .i64 a0_0, .int .i64 a0_1, .int .i64 a0_2]) (t := 45) ?hr ?_; (case hd => rfl); (case hg => rfl); (case hr => first | (go_simp; done) | (go_simp; rfl)); intro gb247 hg w7 hbox hb; have n0_ := Aside0.mk (IsS2.below (by repeat (first | (with_reducible first | exact HI3.out | apply IsS2.alloc | apply IsS2.drewN | apply IsS2.drew | apply IsS2.set_0) | exact HI3.out)) hb); have n1_ := Aside0.mk (KeepBut.trans (by repeat (first | (with_reducible first | exact HK.out | apply KeepBut.set_ | apply keep_drewN | apply keep_drew | apply keep_alloc) | exact HK.out)) (KeepBut.of_below hb g none) (.inl rfl)); have n2_ := Aside0.mk (below_step (by repeat (first | (with_reducible first | exact HB.out | apply below_alloc | apply pw_below_drewN | apply below_drew1 | refine below_set ?_ (IsS2.ge HI3.out)) | exact HB.out)) hb); have n3_ := Aside0.mk (hbox); have n4_ := Aside0.mk ((by rw [hg]; exact (keep_size (w := w) (g := g) (row := none) (by repeat (first | (with_reducible first | exact HK.out | apply KeepBut.set_ | apply keep_drewN | apply keep_drew | apply keep_alloc) | exact HK.out))) : w.heap.size ≤ gb247)); have n5_ := Aside0.mk ((Nat.le_trans HW0.out (by rw [hg]; exact (keep_size (w := w) (g := g) (row := none) (by repeat (first | (with_reducible first | exact HK.out | apply KeepBut.set_ | apply keep_drewN | apply keep_drew | apply keep_alloc) | exact HK.out))) : w.heap.size ≤ gb247) : w0.heap.size ≤ gb247)); have n6_ := Aside0.mk ((by rw [hg]; exact Nat.ne_of_lt (IsS2.lt (show IsS2 w0 _ g s3_0 from by repeat (first | (with_reducible first | exact HI3.out | apply IsS2.alloc | apply IsS2.drewN | apply IsS2.drew | apply IsS2.set_0) | exact HI3.out))) : g ≠ gb247)); have n7_ := Aside0.mk ((by rw [hg]; exact Nat.ne_of_gt (IsS2.lt (show IsS2 w0 _ g s3_0 from by repeat (first | (with_reducible first | exact HI3.out | apply IsS2.alloc | apply IsS2.drewN | apply IsS2.drew | apply IsS2.set_0) | exact HI3.out))) : gb247 ≠ g)); clear HI3; clear HK; clear HB; have HI3 := n0_; have HK := n1_; have HB := n2_; have BK247 := n3_; have GW247 := n4_; have GE247 := n5_; have NB3_247 := n6_; have NB247_3 := n7_; clear n0_ n1_ n2_ n3_ n4_ n5_ n6_ n7_; clear hb hbox hg; have hnb8 := NB247_3.out; have hnc8 := NB3_247.out; have hcz9_0 : w7.cell? ⟨gb247, 0, none⟩ = some (.int .i64 a0_0) := (blk_cell BK247.out 0).trans rfl; have hcz9_1 : w7.cell? ⟨gb247, 1, none⟩ = some (.int .i64 a0_1) := (blk_cell BK247.out 1).trans rfl; have hcz9_2 : w7.cell? ⟨gb247, 2, none⟩ = some (.int .i64 a0_2) := (blk_cell BK247.out 2).trans rfl; have hfz9_0 := blk_frozen BK247.out 0; have hfz9_1 := blk_frozen BK247.out 1; have hfz9_2 := blk_frozen BK247.out 2; have p248 : 0 ≤ (0 : Int) := (by omega); have q248 : 0 < (l1.length : Int) := of_decide_eq_true (by first | (with_reducible assumption) | assumption); obtain ⟨ad248, e248, hx248_0⟩ := Kd.at_int HR1.out 0 p248 q248; obtain rfl : (⟨G1, 0, none⟩ : Addr) = ad248 := (by injection e248); (first | simp only [add_plain] at hx248_0 | simp only [add_at] at hx248_0 | simp only [Addr.add, Nat.zero_add] at hx248_0 | skip); have qi248 : (0 < l1.length) = True := eq_true (by omega); (try rw [show ((0 : Int)).toNat = 0 from rfl] at hx248_0); (try rw [Addr.add_zero'] at hx248_0); replace hx248_0 := keep_cell HK.out hx248_0 (by first | (rw [add_block]; exact hf1 _ rfl (by omega)) | exact hf1 _ rfl (by omega) | exact hf1 ⟨G1, 0, none⟩ rfl (by omega)); replace p248 := eq_true p248; replace q248 := eq_true q248))
   first | go_end0 | ((try simp only [Exit.inBlock, Exit.then]); refine bodyPost_ret (results_none rfl _ _ _) rfl ?_)
   exact ⟨by first | rfl | (simp [errW_none, errW_some] <;> rfl) | (simp [*, errW_none, errW_some] <;> rfl), by repeat (first | (with_reducible first | exact HI3.out | apply IsS2.alloc | apply IsS2.drewN | apply IsS2.drew | apply IsS2.set_0 | apply IsS2.far (hne := NB3_247.out)) | exact HI3.out), by repeat (first | (with_reducible first | exact HB.out | apply below_alloc | apply pw_below_drewN | apply below_drew1 | refine below_set ?_ (IsS2.ge HI3.out) | refine below_set ?_ GE247.out) | exact HB.out), by repeat (first | (with_reducible first | exact HK.out | apply KeepBut.set_ | apply keep_drewN | apply keep_drew | apply keep_alloc | refine keep_far ?_ GW247.out _) | exact HK.out)⟩
  ·rw [if_neg c6] at H
   have c6b0 : decide (a0_0 ≤ (rd l1 0)) = false := decide_eq_false c6
   clear c6
   have HC10 := Aside0.mk H
   clear H
   go_enter Tryd.func24, Tryd.ntmps24
   go_upto_region 2 with (first | ((with_reducible refine gate_dst (N := 4) rfl ?_); refine box_event ?hg (N := 4) ?hd (cs := #[.int .i64 a0_0, .int .i64 a0_1, .int .i64 a0_2]) (t := 45) ?hr ?_; (case hd => rfl); (case hg => rfl); (case hr => first | (go_simp; done) | (go_simp; rfl)); intro gb247 hg w11 hbox hb; have n0_ := Aside0.mk (IsS2.below (by repeat (first | (with_reducible first | exact HI3.out | apply IsS2.alloc | apply IsS2.drewN | apply IsS2.drew | apply IsS2.set_0) | exact HI3.out)) hb); have n1_ := Aside0.mk (KeepBut.trans (by repeat (first | (with_reducible first | exact HK.out | apply KeepBut.set_ | apply keep_drewN | apply keep_drew | apply keep_alloc) | exact HK.out)) (KeepBut.of_below hb g none) (.inl rfl)); have n2_ := Aside0.mk (below_step (by repeat (first | (with_reducible first | exact HB.out | apply below_alloc | apply pw_below_drewN | apply below_drew1 | refine below_set ?_ (IsS2.ge HI3.out)) | exact HB.out)) hb); have n3_ := Aside0.mk (hbox); have n4_ := Aside0.mk ((by rw [hg]; exact (keep_size (w := w) (g := g) (row := none) (by repeat (first | (with_reducible first | exact HK.out | apply KeepBut.set_ | apply keep_drewN | apply keep_drew | apply keep_alloc) | exact HK.out))) : w.heap.size ≤ gb247)); have n5_ := Aside0.mk ((Nat.le_trans HW0.out (by rw [hg]; exact (keep_size (w := w) (g := g) (row := none) (by repeat (first | (with_reducible first | exact HK.out | apply KeepBut.set_ | apply keep_drewN | apply keep_drew | apply keep_alloc) | exact HK.out))) : w.heap.size ≤ gb247) : w0.heap.size ≤ gb247)); have n6_ := Aside0.mk ((by rw [hg]; exact Nat.ne_of_lt (IsS2.lt (show IsS2 w0 _ g s3_0 from by repeat (first | (with_reducible first | exact HI3.out | apply IsS2.alloc | apply IsS2.drewN | apply IsS2.drew | apply IsS2.set_0) | exact HI3.out))) : g ≠ gb247)); have n7_ := Aside0.mk ((by rw [hg]; exact Nat.ne_of_gt (IsS2.lt (show IsS2 w0 _ g s3_0 from by repeat (first | (with_reducible first | exact HI3.out | apply IsS2.alloc | apply IsS2.drewN | apply IsS2.drew | apply IsS2.set_0) | exact HI3.out))) : gb247 ≠ g)); clear HI3; clear HK; clear HB; have HI3 := n0_; have HK := n1_; have HB := n2_; have BK247 := n3_; have GW247 := n4_; have GE247 := n5_; have NB3_247 := n6_; have NB247_3 := n7_; clear n0_ n1_ n2_ n3_ n4_ n5_ n6_ n7_; clear hb hbox hg; have hnb12 := NB247_3.out; have hnc12 := NB3_247.out; have hcz13_0 : w11.cell? ⟨gb247, 0, none⟩ = some (.int .i64 a0_0) := (blk_cell BK247.out 0).trans rfl; have hcz13_1 : w11.cell? ⟨gb247, 1, none⟩ = some (.int .i64 a0_1) := (blk_cell BK247.out 1).trans rfl; have hcz13_2 : w11.cell? ⟨gb247, 2, none⟩ = some (.int .i64 a0_2) := (blk_cell BK247.out 2).trans rfl; have hfz13_0 := blk_frozen BK247.out 0; have hfz13_1 := blk_frozen BK247.out 1; have hfz13_2 := blk_frozen BK247.out 2; have p248 : 0 ≤ (0 : Int) := (by omega); have q248 : 0 < (l1.length : Int) := of_decide_eq_true (by first | (with_reducible assumption) | assumption); obtain ⟨ad248, e248, hx248_0⟩ := Kd.at_int HR1.out 0 p248 q248; obtain rfl : (⟨G1, 0, none⟩ : Addr) = ad248 := (by injection e248); (first | simp only [add_plain] at hx248_0 | simp only [add_at] at hx248_0 | simp only [Addr.add, Nat.zero_add] at hx248_0 | skip); have qi248 : (0 < l1.length) = True := eq_true (by omega); (try rw [show ((0 : Int)).toNat = 0 from rfl] at hx248_0); (try rw [Addr.add_zero'] at hx248_0); replace hx248_0 := keep_cell HK.out hx248_0 (by first | (rw [add_block]; exact hf1 _ rfl (by omega)) | exact hf1 _ rfl (by omega) | exact hf1 ⟨G1, 0, none⟩ rfl (by omega)); replace p248 := eq_true p248; replace q248 := eq_true q248))
   (try simp only [Act.put, List.setIfInBounds_toArray, List.set_cons_zero, List.set_cons_succ])
   go_cut [10] (fun v10 wc => ∃ (kq : Nat) (x10_9 : Bool), v10 = .bool x10_9 ∧ Aside0 (impl_Winds_1.j0 kq l2 x10_9 s3_0 a0_0 a0_1 a0_2 = some r) ∧ Aside0 (kq ≤ k) ∧ Aside0 (wc.heap[gb247]? = some (.cells #[.int .i64 a0_0, .int .i64 a0_1, .int .i64 a0_2] 45 (0, 0))) ∧ Aside0 (IsS2 w0 wc g s3_0) ∧ Aside0 (KeepBut w wc g none) ∧ Aside0 (Below w0.heap.size w0 wc))
   case first =>
    have H := HC10.out
    clear HC10
    by_cases c14 : a0_2 = 1
    ·rw [if_pos c14] at H
     have c14b0 : (a0_2 == 1) = true := beq_iff_eq.mpr c14
     have c14b1 : (a0_2 != 1) = false := bne_eq_false_iff_eq.mpr c14
     clear c14
     (first | rw [c14b0] | (simp only [i64_w, i32_w]; rw [c14b0]) | skip)
     by_cases c15 : 0 < (l2.length : Int)
     ·rw [if_pos c15] at H
      have c15b0 : decide (0 < (l2.length : Int)) = true := decide_eq_true c15
      have c15b1 : decide (0 < l2.length) = true := decide_eq_true (by omega)
      clear c15
      have H' := Aside0.mk H
      clear H
      have hnb16 := NB247_3.out
      have hnc16 := NB3_247.out
      have hcz17_0 : w11.cell? ⟨gb247, 0, none⟩ = some (.int .i64 a0_0) := (blk_cell BK247.out 0).trans rfl
      have hcz17_1 : w11.cell? ⟨gb247, 1, none⟩ = some (.int .i64 a0_1) := (blk_cell BK247.out 1).trans rfl
      have hcz17_2 : w11.cell? ⟨gb247, 2, none⟩ = some (.int .i64 a0_2) := (blk_cell BK247.out 2).trans rfl
      have hfz17_0 := blk_frozen BK247.out 0
      have hfz17_1 := blk_frozen BK247.out 1
      have hfz17_2 := blk_frozen BK247.out 2
      have p249 : 0 ≤ (0 : Int) := (by omega)
      have q249 : 0 < (l2.length : Int) := of_decide_eq_true (by first | (with_reducible assumption) | assumption)
      obtain ⟨ad249, e249, hx249_0⟩ := Kd.at_int HR2.out 0 p249 q249
      obtain rfl : (⟨G2, 0, none⟩ : Addr) = ad249 := (by injection e249)
      (first | simp only [add_plain] at hx249_0 | simp only [add_at] at hx249_0 | simp only [Addr.add, Nat.zero_add] at hx249_0 | skip)
      have qi249 : (0 < l2.length) = True := eq_true (by omega)
      (try rw [show ((0 : Int)).toNat = 0 from rfl] at hx249_0)
      (try rw [Addr.add_zero'] at hx249_0)
      replace hx249_0 := keep_cell HK.out hx249_0 (by first | (rw [add_block]; exact hf2 _ rfl (by omega)) | exact hf2 _ rfl (by omega) | exact hf2 ⟨G2, 0, none⟩ rfl (by omega))
      replace p249 := eq_true p249
      replace q249 := eq_true q249
      go_wp2
      go_meet
      case rel => exact ⟨_, ((a0_1 == (rd l2 0))), (by first | rfl | (simp; done) | (simp [*]; done)), H', ⟨by first | omega | exact Nat.le_refl _⟩, ⟨by (with_reducible repeat (first | refine blk_drewN ?_ _ | refine blk_drew ?_ | refine blk_alloc ?_ _)); exact BK247.out⟩, ⟨by repeat (first | (with_reducible first | exact HI3.out | apply IsS2.alloc | apply IsS2.drewN | apply IsS2.drew | apply IsS2.set_0 | apply IsS2.far (hne := NB3_247.out)) | exact HI3.out)⟩, ⟨by repeat (first | (with_reducible first | exact HK.out | apply KeepBut.set_ | apply keep_drewN | apply keep_drew | apply keep_alloc | refine keep_far ?_ GW247.out _) | exact HK.out)⟩, ⟨by repeat (first | (with_reducible first | exact HB.out | apply below_alloc | apply pw_below_drewN | apply below_drew1 | refine below_set ?_ (IsS2.ge HI3.out) | refine below_set ?_ GE247.out) | exact HB.out)⟩⟩
     ·rw [if_neg c15] at H
      exact absurd H (by simp)
    ·rw [if_neg c14] at H
     have c14b0 : (a0_2 == 1) = false := beq_eq_false_iff_ne.mpr c14
     have c14b1 : (a0_2 != 1) = true := bne_iff_ne.mpr c14
     (first | rw [c14b0] | (simp only [i64_w, i32_w]; rw [c14b0]) | skip)
     have H' := Aside0.mk H
     clear H
     have hnb18 := NB247_3.out
     have hnc18 := NB3_247.out
     have hcz19_0 : w11.cell? ⟨gb247, 0, none⟩ = some (.int .i64 a0_0) := (blk_cell BK247.out 0).trans rfl
     have hcz19_1 : w11.cell? ⟨gb247, 1, none⟩ = some (.int .i64 a0_1) := (blk_cell BK247.out 1).trans rfl
     have hcz19_2 : w11.cell? ⟨gb247, 2, none⟩ = some (.int .i64 a0_2) := (blk_cell BK247.out 2).trans rfl
     have hfz19_0 := blk_frozen BK247.out 0
     have hfz19_1 := blk_frozen BK247.out 1
     have hfz19_2 := blk_frozen BK247.out 2
     go_wp2
     go_meet
     case rel => exact ⟨_, (false), (by first | rfl | (simp; done) | (simp [*]; done)), H', ⟨by first | omega | exact Nat.le_refl _⟩, ⟨by (with_reducible repeat (first | refine blk_drewN ?_ _ | refine blk_drew ?_ | refine blk_alloc ?_ _)); exact BK247.out⟩, ⟨by repeat (first | (with_reducible first | exact HI3.out | apply IsS2.alloc | apply IsS2.drewN | apply IsS2.drew | apply IsS2.set_0 | apply IsS2.far (hne := NB3_247.out)) | exact HI3.out)⟩, ⟨by repeat (first | (with_reducible first | exact HK.out | apply KeepBut.set_ | apply keep_drewN | apply keep_drew | apply keep_alloc | refine keep_far ?_ GW247.out _) | exact HK.out)⟩, ⟨by repeat (first | (with_reducible first | exact HB.out | apply below_alloc | apply pw_below_drewN | apply below_drew1 | refine below_set ?_ (IsS2.ge HI3.out) | refine below_set ?_ GE247.out) | exact HB.out)⟩⟩
   case rest =>
    clear HC10
    try clear c1
    try clear c2
    try clear p2
    try clear q2
    try clear hx2
    try clear qi2
    try clear c5
    try clear c5b0
    try clear c5b1
    try clear c6
    try clear c6b0
    try clear c8
    try clear c12
    try clear c14
    try clear c14b0
    try clear c14b1
    try clear c15
    try clear c15b0
    try clear c15b1
    try clear c16
    try clear c18
    try clear hcz13_0
    try clear hcz13_1
    try clear hcz13_2
    try clear hcz17_0
    try clear hcz17_1
    try clear hcz17_2
    try clear hcz19_0
    try clear hcz19_1
    try clear hcz19_2
    try clear hcz9_0
    try clear hcz9_1
    try clear hcz9_2
    try clear hfz13_0
    try clear hfz13_1
    try clear hfz13_2
    try clear hfz17_0
    try clear hfz17_1
    try clear hfz17_2
    try clear hfz19_0
    try clear hfz19_1
    try clear hfz19_2
    try clear hfz9_0
    try clear hfz9_1
    try clear hfz9_2
    try clear hx248_0
    try clear hx249_0
    try clear p248
    try clear p249
    try clear q248
    try clear q249
    obtain ⟨kq, x10_9, rfl, HA, HJ9, BK247, HI3, HK, HB⟩ := hcut
    cases kq with
    | zero => exact absurd HA.out (by simp [impl_Winds_1.j0])
    | succ kj9 =>
     have H := HA.out
     clear HA
     simp only [impl_Winds_1.j0] at H
     by_cases c20 : x10_9 = true
     ·subst c20
      have H1 : (some (wrap64 (s3_0 + 1))) = some r := by rw [if_pos rfl] at H; exact H
      clear H
      have H := H1
      clear H1
      obtain rfl := Option.some.inj H
      obtain ⟨HGz21, hgz21⟩ := HI3.out
      have hcz21_0 := cellS2_0 HGz21
      have hfz21_0 := blk_frozen HGz21 0
      clear HGz21 hgz21
      go_wp2
      first | go_end0 | ((try simp only [Exit.inBlock, Exit.then]); refine bodyPost_ret (results_none rfl _ _ _) rfl ?_)
      exact ⟨by first | rfl | (simp [errW_none, errW_some] <;> rfl) | (simp [*, errW_none, errW_some] <;> rfl), by repeat (first | (with_reducible first | exact HI3.out | apply IsS2.alloc | apply IsS2.drewN | apply IsS2.drew | apply IsS2.set_0 | apply IsS2.far (hne := NB3_247.out)) | exact HI3.out), by repeat (first | (with_reducible first | exact HB.out | apply below_alloc | apply pw_below_drewN | apply below_drew1 | refine below_set ?_ (IsS2.ge HI3.out) | refine below_set ?_ GE247.out) | exact HB.out), by repeat (first | (with_reducible first | exact HK.out | apply KeepBut.set_ | apply keep_drewN | apply keep_drew | apply keep_alloc | refine keep_far ?_ GW247.out _) | exact HK.out)⟩
     ·replace c20 := Bool.eq_false_iff.mpr c20
      subst c20
      have H1 : (if a0_2 = 3 then (if 0 < (l2.length : Int) then (if (wrap64 (a0_1 - 1)) = (rd l2 0) then (some (wrap64 (s3_0 - 1))) else (some s3_0)) else (none)) else (some s3_0)) = some r := by rw [if_neg (show ¬ (false = true) by decide)] at H; exact H
      clear H
      have H := H1
      clear H1
      by_cases c22 : a0_2 = 3
      ·rw [if_pos c22] at H
       have c22b0 : (a0_2 == 3) = true := beq_iff_eq.mpr c22
       have c22b1 : (a0_2 != 3) = false := bne_eq_false_iff_eq.mpr c22
       clear c22
       by_cases c23 : 0 < (l2.length : Int)
       ·rw [if_pos c23] at H
        have c23b0 : decide (0 < (l2.length : Int)) = true := decide_eq_true c23
        have c23b1 : decide (0 < l2.length) = true := decide_eq_true (by omega)
        clear c23
        by_cases c24 : (wrap64 (a0_1 - 1)) = (rd l2 0)
        ·rw [if_pos c24] at H
         have c24b0 : ((wrap64 (a0_1 - 1)) == (rd l2 0)) = true := beq_iff_eq.mpr c24
         have c24b1 : ((wrap64 (a0_1 - 1)) != (rd l2 0)) = false := bne_eq_false_iff_eq.mpr c24
         clear c24
         obtain rfl := Option.some.inj H
         have hnb25 := NB247_3.out
         have hnc25 := NB3_247.out
         have hcz26_0 : wc.cell? ⟨gb247, 0, none⟩ = some (.int .i64 a0_0) := (blk_cell BK247.out 0).trans rfl
         have hcz26_1 : wc.cell? ⟨gb247, 1, none⟩ = some (.int .i64 a0_1) := (blk_cell BK247.out 1).trans rfl
         have hcz26_2 : wc.cell? ⟨gb247, 2, none⟩ = some (.int .i64 a0_2) := (blk_cell BK247.out 2).trans rfl
         have hfz26_0 := blk_frozen BK247.out 0
         have hfz26_1 := blk_frozen BK247.out 1
         have hfz26_2 := blk_frozen BK247.out 2
         have p250 : 0 ≤ (0 : Int) := (by omega)
         have q250 : 0 < (l2.length : Int) := of_decide_eq_true (by first | (with_reducible assumption) | assumption)
         obtain ⟨ad250, e250, hx250_0⟩ := Kd.at_int HR2.out 0 p250 q250
         obtain rfl : (⟨G2, 0, none⟩ : Addr) = ad250 := (by injection e250)
         (first | simp only [add_plain] at hx250_0 | simp only [add_at] at hx250_0 | simp only [Addr.add, Nat.zero_add] at hx250_0 | skip)
         have qi250 : (0 < l2.length) = True := eq_true (by omega)
         (try rw [show ((0 : Int)).toNat = 0 from rfl] at hx250_0)
         (try rw [Addr.add_zero'] at hx250_0)
         replace hx250_0 := keep_cell HK.out hx250_0 (by first | (rw [add_block]; exact hf2 _ rfl (by omega)) | exact hf2 _ rfl (by omega) | exact hf2 ⟨G2, 0, none⟩ rfl (by omega))
         replace p250 := eq_true p250
         replace q250 := eq_true q250
         obtain ⟨HGz27, hgz27⟩ := HI3.out
         have hcz27_0 := cellS2_0 HGz27
         have hfz27_0 := blk_frozen HGz27 0
         clear HGz27 hgz27
         go_wp2
         first | go_end0 | ((try simp only [Exit.inBlock, Exit.then]); refine bodyPost_ret (results_none rfl _ _ _) rfl ?_)
         exact ⟨by first | rfl | (simp [errW_none, errW_some] <;> rfl) | (simp [*, errW_none, errW_some] <;> rfl), by repeat (first | (with_reducible first | exact HI3.out | apply IsS2.alloc | apply IsS2.drewN | apply IsS2.drew | apply IsS2.set_0 | apply IsS2.far (hne := NB3_247.out)) | exact HI3.out), by repeat (first | (with_reducible first | exact HB.out | apply below_alloc | apply pw_below_drewN | apply below_drew1 | refine below_set ?_ (IsS2.ge HI3.out) | refine below_set ?_ GE247.out) | exact HB.out), by repeat (first | (with_reducible first | exact HK.out | apply KeepBut.set_ | apply keep_drewN | apply keep_drew | apply keep_alloc | refine keep_far ?_ GW247.out _) | exact HK.out)⟩
        ·rw [if_neg c24] at H
         have c24b0 : ((wrap64 (a0_1 - 1)) == (rd l2 0)) = false := beq_eq_false_iff_ne.mpr c24
         have c24b1 : ((wrap64 (a0_1 - 1)) != (rd l2 0)) = true := bne_iff_ne.mpr c24
         obtain rfl := Option.some.inj H
         have hnb28 := NB247_3.out
         have hnc28 := NB3_247.out
         have hcz29_0 : wc.cell? ⟨gb247, 0, none⟩ = some (.int .i64 a0_0) := (blk_cell BK247.out 0).trans rfl
         have hcz29_1 : wc.cell? ⟨gb247, 1, none⟩ = some (.int .i64 a0_1) := (blk_cell BK247.out 1).trans rfl
         have hcz29_2 : wc.cell? ⟨gb247, 2, none⟩ = some (.int .i64 a0_2) := (blk_cell BK247.out 2).trans rfl
         have hfz29_0 := blk_frozen BK247.out 0
         have hfz29_1 := blk_frozen BK247.out 1
         have hfz29_2 := blk_frozen BK247.out 2
         have p250 : 0 ≤ (0 : Int) := (by omega)
         have q250 : 0 < (l2.length : Int) := of_decide_eq_true (by first | (with_reducible assumption) | assumption)
         obtain ⟨ad250, e250, hx250_0⟩ := Kd.at_int HR2.out 0 p250 q250
         obtain rfl : (⟨G2, 0, none⟩ : Addr) = ad250 := (by injection e250)
         (first | simp only [add_plain] at hx250_0 | simp only [add_at] at hx250_0 | simp only [Addr.add, Nat.zero_add] at hx250_0 | skip)
         have qi250 : (0 < l2.length) = True := eq_true (by omega)
         (try rw [show ((0 : Int)).toNat = 0 from rfl] at hx250_0)
         (try rw [Addr.add_zero'] at hx250_0)
         replace hx250_0 := keep_cell HK.out hx250_0 (by first | (rw [add_block]; exact hf2 _ rfl (by omega)) | exact hf2 _ rfl (by omega) | exact hf2 ⟨G2, 0, none⟩ rfl (by omega))
         replace p250 := eq_true p250
         replace q250 := eq_true q250
         go_wp2
         first | go_end0 | ((try simp only [Exit.inBlock, Exit.then]); refine bodyPost_ret (results_none rfl _ _ _) rfl ?_)
         exact ⟨by first | rfl | (simp [errW_none, errW_some] <;> rfl) | (simp [*, errW_none, errW_some] <;> rfl), by repeat (first | (with_reducible first | exact HI3.out | apply IsS2.alloc | apply IsS2.drewN | apply IsS2.drew | apply IsS2.set_0 | apply IsS2.far (hne := NB3_247.out)) | exact HI3.out), by repeat (first | (with_reducible first | exact HB.out | apply below_alloc | apply pw_below_drewN | apply below_drew1 | refine below_set ?_ (IsS2.ge HI3.out) | refine below_set ?_ GE247.out) | exact HB.out), by repeat (first | (with_reducible first | exact HK.out | apply KeepBut.set_ | apply keep_drewN | apply keep_drew | apply keep_alloc | refine keep_far ?_ GW247.out _) | exact HK.out)⟩
       ·rw [if_neg c23] at H
        exact absurd H (by simp)
      ·rw [if_neg c22] at H
       have c22b0 : (a0_2 == 3) = false := beq_eq_false_iff_ne.mpr c22
       have c22b1 : (a0_2 != 3) = true := bne_iff_ne.mpr c22
       obtain rfl := Option.some.inj H
       have hnb30 := NB247_3.out
       have hnc30 := NB3_247.out
       have hcz31_0 : wc.cell? ⟨gb247, 0, none⟩ = some (.int .i64 a0_0) := (blk_cell BK247.out 0).trans rfl
       have hcz31_1 : wc.cell? ⟨gb247, 1, none⟩ = some (.int .i64 a0_1) := (blk_cell BK247.out 1).trans rfl
       have hcz31_2 : wc.cell? ⟨gb247, 2, none⟩ = some (.int .i64 a0_2) := (blk_cell BK247.out 2).trans rfl
       have hfz31_0 := blk_frozen BK247.out 0
       have hfz31_1 := blk_frozen BK247.out 1
       have hfz31_2 := blk_frozen BK247.out 2
       go_wp2
       first | go_end0 | ((try simp only [Exit.inBlock, Exit.then]); refine bodyPost_ret (results_none rfl _ _ _) rfl ?_)
       exact ⟨by first | rfl | (simp [errW_none, errW_some] <;> rfl) | (simp [*, errW_none, errW_some] <;> rfl), by repeat (first | (with_reducible first | exact HI3.out | apply IsS2.alloc | apply IsS2.drewN | apply IsS2.drew | apply IsS2.set_0 | apply IsS2.far (hne := NB3_247.out)) | exact HI3.out), by repeat (first | (with_reducible first | exact HB.out | apply below_alloc | apply pw_below_drewN | apply below_drew1 | refine below_set ?_ (IsS2.ge HI3.out) | refine below_set ?_ GE247.out) | exact HB.out), by repeat (first | (with_reducible first | exact HK.out | apply KeepBut.set_ | apply keep_drewN | apply keep_drew | apply keep_alloc | refine keep_far ?_ GW247.out _) | exact HK.out)⟩
 ·rw [if_neg c5] at H
  exact absurd H (by simp)

end Go.Proofs.YtmndffnjejgfoabDoor.Q
