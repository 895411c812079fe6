/- Plain Lean functions with the same answers as the Go functions of this seat, and a proof for each that the Go code comes to just these answers; no condition. Written by a program of this session (the kit's printer, turned). -/
import Derived.Test.YtaophbkedbphnabQx0
import Derived.Test.YtaophbkedbphnabQx6
import Derived.Test.YtaophbkedbphnabQx7
import Derived.Test.YtaophbkedbphnabQx9
import Derived.Test.YtaophbkedbphnabQx10
namespace Go.Proofs.Ytaophbkedbphnab.Q
open Go.RowKit Go.Proofs.YtaophbkedbphnabW.PrintWords Go.Proofs.YtaophbkedbphnabW.PrintLast Go.Proofs.YtaophbkedbphnabW.PrintMore Go.Proofs.YtaophbkedbphnabW.PrintFlt
attribute [local go_sem] cmp_lss cmp_leq cmp_gtr cmp_geq cmp_eql cmp_neq flt_l flt_r fgt_l fgt_r feq_l feq_r fne_l fne_r ord_lt ord_gt ord_eq ord_ne conv_int conv_flt foi_fold run_store_flt
attribute [local go_sem] max2_int min2_int max_two min_two max_three min_three max_four min_four   -- for this text's walks alone
set_option linter.unusedVariables false
set_option linter.unusedSimpArgs false

/-! ### spec_ObsOk: function 37 -/
mutual
def spec_ObsOk.j0 : Nat → Bool → Int → Nat → Nat → Nat → Int → Nat → Nat → Nat → Int → Int → Option (Bool)
 | 0, _, _, _, _, _, _, _, _, _, _, _ => none
 | k + 1, x25, x124000, x124001, x124002, x124003, x124004, x124005, x124006, x124007, x124008, x124009 => if x25 = true then (some false) else (if x124008 = (-1) then (if x124009 = (-1) then (spec_ObsOk.j1 k true x124000 x124001 x124002 x124003 x124004 x124005 x124006 x124007 x124008 x124009) else ((spec_l2In.f x124008 0 99).bind fun t126 => (if t126 = true then ((spec_l2In.f x124009 0 8).bind fun t127 => (spec_ObsOk.j1 k t127 x124000 x124001 x124002 x124003 x124004 x124005 x124006 x124007 x124008 x124009)) else (spec_ObsOk.j1 k false x124000 x124001 x124002 x124003 x124004 x124005 x124006 x124007 x124008 x124009)))) else ((spec_l2In.f x124008 0 99).bind fun t128 => (if t128 = true then ((spec_l2In.f x124009 0 8).bind fun t129 => (spec_ObsOk.j1 k t129 x124000 x124001 x124002 x124003 x124004 x124005 x124006 x124007 x124008 x124009)) else (spec_ObsOk.j1 k false x124000 x124001 x124002 x124003 x124004 x124005 x124006 x124007 x124008 x124009))))
def spec_ObsOk.j1 : Nat → Bool → Int → Nat → Nat → Nat → Int → Nat → Nat → Nat → Int → Int → Option (Bool)
 | 0, _, _, _, _, _, _, _, _, _, _, _ => none
 | k + 1, x5, x124000, x124001, x124002, x124003, x124004, x124005, x124006, x124007, x124008, x124009 => (spec_l2In.f x124000 1 99999).bind fun t130 => (if t130 = true then ((spec_l5Part.f k x124001 (-999) 999).bind fun t131 => (if t131 = true then ((spec_l5Part.f k x124002 (-999) 999).bind fun t132 => (if t132 = true then ((spec_l5Part.f k x124003 5000 14999).bind fun t133 => (if t133 = true then ((spec_l5WindOk.f k x124000 x124001 x124002 x124003 x124004 x124005 x124006 x124007 x124008 x124009).bind fun t134 => (if t134 = true then ((spec_l5Part.f k x124007 0 9999).bind fun t135 => (if t135 = true then (some x5) else (some false))) else (some false))) else (some false))) else (some false))) else (some false))) else (some false))
end
def spec_ObsOk.f (k : Nat) (a0_0 : Int) (a0_1 : Nat) (a0_2 : Nat) (a0_3 : Nat) (a0_4 : Int) (a0_5 : Nat) (a0_6 : Nat) (a0_7 : Nat) (a0_8 : Int) (a0_9 : Int) : Option (Bool) := (spec_l5Is.f k a0_6 0 99990).bind fun bt124 => (if (feq a0_6 a0_6) = true then (if bt124.2 = true then (spec_ObsOk.j0 k ((Int.tmod bt124.1 10) != 0) a0_0 a0_1 a0_2 a0_3 a0_4 a0_5 a0_6 a0_7 a0_8 a0_9) else (spec_ObsOk.j0 k true a0_0 a0_1 a0_2 a0_3 a0_4 a0_5 a0_6 a0_7 a0_8 a0_9)) else (spec_ObsOk.j0 k false a0_0 a0_1 a0_2 a0_3 a0_4 a0_5 a0_6 a0_7 a0_8 a0_9))
theorem spec_ObsOk.mono_l : ∀ k, (∀ y0 y1 y2 y3 y4 y5 y6 y7 y8 y9 y10, LeO (spec_ObsOk.j0 k y0 y1 y2 y3 y4 y5 y6 y7 y8 y9 y10) (spec_ObsOk.j0 (k + 1) y0 y1 y2 y3 y4 y5 y6 y7 y8 y9 y10)) ∧ (∀ y0 y1 y2 y3 y4 y5 y6 y7 y8 y9 y10, LeO (spec_ObsOk.j1 k y0 y1 y2 y3 y4 y5 y6 y7 y8 y9 y10) (spec_ObsOk.j1 (k + 1) y0 y1 y2 y3 y4 y5 y6 y7 y8 y9 y10))
 | 0 => ⟨fun _ _ _ _ _ _ _ _ _ _ _ r h => by simp [spec_ObsOk.j0] at h, fun _ _ _ _ _ _ _ _ _ _ _ r h => by simp [spec_ObsOk.j1] at h⟩
 | k + 1 => by
  obtain ⟨ih0, ih1⟩ := spec_ObsOk.mono_l k
  refine ⟨?_, ?_⟩
  ·intro y0 y1 y2 y3 y4 y5 y6 y7 y8 y9 y10
   unfold spec_ObsOk.j0
   repeat' first
   | (with_reducible exact ih0 _ _ _ _ _ _ _ _ _ _ _)
   | (with_reducible exact ih1 _ _ _ _ _ _ _ _ _ _ _)
   | (with_reducible exact spec_l5Is.mono _ _ _ _)
   | (with_reducible exact spec_l5Part.mono _ _ _ _)
   | (with_reducible exact spec_l5WindOk.mono _ _ _ _ _ _ _ _ _ _ _)
   | (with_reducible exact LeO.refl _)
   | (with_reducible exact LeO.none _)
   | (with_reducible refine LeO.ite ?_ ?_)
   | (with_reducible refine LeO.bind ?_ (fun _ => ?_))
   | exact ih0 _ _ _ _ _ _ _ _ _ _ _
   | exact ih1 _ _ _ _ _ _ _ _ _ _ _
   | exact spec_l5Is.mono _ _ _ _
   | exact spec_l5Part.mono _ _ _ _
   | exact spec_l5WindOk.mono _ _ _ _ _ _ _ _ _ _ _
   | exact LeO.none _
   | refine LeO.ite ?_ ?_
   | refine LeO.bind ?_ (fun _ => ?_)
  ·intro y0 y1 y2 y3 y4 y5 y6 y7 y8 y9 y10
   unfold spec_ObsOk.j1
   repeat' first
   | (with_reducible exact ih0 _ _ _ _ _ _ _ _ _ _ _)
   | (with_reducible exact ih1 _ _ _ _ _ _ _ _ _ _ _)
   | (with_reducible exact spec_l5Is.mono _ _ _ _)
   | (with_reducible exact spec_l5Part.mono _ _ _ _)
   | (with_reducible exact spec_l5WindOk.mono _ _ _ _ _ _ _ _ _ _ _)
   | (with_reducible exact LeO.refl _)
   | (with_reducible exact LeO.none _)
   | (with_reducible refine LeO.ite ?_ ?_)
   | (with_reducible refine LeO.bind ?_ (fun _ => ?_))
   | exact ih0 _ _ _ _ _ _ _ _ _ _ _
   | exact ih1 _ _ _ _ _ _ _ _ _ _ _
   | exact spec_l5Is.mono _ _ _ _
   | exact spec_l5Part.mono _ _ _ _
   | exact spec_l5WindOk.mono _ _ _ _ _ _ _ _ _ _ _
   | exact LeO.none _
   | refine LeO.ite ?_ ?_
   | refine LeO.bind ?_ (fun _ => ?_)
theorem spec_ObsOk.mono : ∀ a0 a1 a2 a3 a4 a5 a6 a7 a8 a9 k, LeO (spec_ObsOk.f k a0 a1 a2 a3 a4 a5 a6 a7 a8 a9) (spec_ObsOk.f (k + 1) a0 a1 a2 a3 a4 a5 a6 a7 a8 a9) := by
 intro a0 a1 a2 a3 a4 a5 a6 a7 a8 a9 k
 obtain ⟨ih0, ih1⟩ := spec_ObsOk.mono_l k
 unfold spec_ObsOk.f
 repeat' first
   | (with_reducible exact ih0 _ _ _ _ _ _ _ _ _ _ _)
   | (with_reducible exact ih1 _ _ _ _ _ _ _ _ _ _ _)
   | (with_reducible exact spec_l5Is.mono _ _ _ _)
   | (with_reducible exact spec_l5Part.mono _ _ _ _)
   | (with_reducible exact spec_l5WindOk.mono _ _ _ _ _ _ _ _ _ _ _)
   | (with_reducible exact LeO.refl _)
   | (with_reducible exact LeO.none _)
   | (with_reducible refine LeO.ite ?_ ?_)
   | (with_reducible refine LeO.bind ?_ (fun _ => ?_))
   | exact ih0 _ _ _ _ _ _ _ _ _ _ _
   | exact ih1 _ _ _ _ _ _ _ _ _ _ _
   | exact spec_l5Is.mono _ _ _ _
   | exact spec_l5Part.mono _ _ _ _
   | exact spec_l5WindOk.mono _ _ _ _ _ _ _ _ _ _ _
   | exact LeO.none _
   | refine LeO.ite ?_ ?_
   | refine LeO.bind ?_ (fun _ => ?_)
set_option maxHeartbeats 8000000 in
set_option maxRecDepth 100000 in
theorem spec_ObsOk.calls (k : Nat) (a0_0 : Int) (pa0_1 : Nat) (a0_1 : Nat) (pa0_2 : Nat) (a0_2 : Nat) (pa0_3 : Nat) (a0_3 : Nat) (a0_4 : Int) (pa0_5 : Nat) (a0_5 : Nat) (pa0_6 : Nat) (a0_6 : Nat) (pa0_7 : Nat) (a0_7 : Nat) (a0_8 : Int) (a0_9 : Int) (r : Bool) (w : World) (h : spec_ObsOk.f k a0_0 a0_1 a0_2 a0_3 a0_4 a0_5 a0_6 a0_7 a0_8 a0_9 = some r) :
  Calls Try.prog 37 #[.agg #[.int .i64 a0_0, .float .f64 (un pa0_1 a0_1), .float .f64 (un pa0_2 a0_2), .float .f64 (un pa0_3 a0_3), .int .i64 a0_4, .float .f64 (un pa0_5 a0_5), .float .f64 (un pa0_6 a0_6), .float .f64 (un pa0_7 a0_7), .int .i64 a0_8, .int .i64 a0_9]] w fun e w' => e = .returned (.bool r) ∧ Below w.heap.size w w' := by
 have hu60 := Try.underlying60
 have HB := Aside0.mk (Below.refl w.heap.size w)
 have H : ((spec_l5Is.f k a0_6 0 99990).bind fun bt124 => (if (feq a0_6 a0_6) = true then (if bt124.2 = true then (spec_ObsOk.j0 k ((Int.tmod bt124.1 10) != 0) a0_0 a0_1 a0_2 a0_3 a0_4 a0_5 a0_6 a0_7 a0_8 a0_9) else (spec_ObsOk.j0 k true a0_0 a0_1 a0_2 a0_3 a0_4 a0_5 a0_6 a0_7 a0_8 a0_9)) else (spec_ObsOk.j0 k false a0_0 a0_1 a0_2 a0_3 a0_4 a0_5 a0_6 a0_7 a0_8 a0_9))) = some r := h
 clear h
 replace H := Option.bind_eq_some_iff.mp H
 obtain ⟨⟨t124, t125⟩, A20, H⟩ := H
 replace H : (if (feq a0_6 a0_6) = true then (if t125 = true then (spec_ObsOk.j0 k ((Int.tmod t124 10) != 0) a0_0 a0_1 a0_2 a0_3 a0_4 a0_5 a0_6 a0_7 a0_8 a0_9) else (spec_ObsOk.j0 k true a0_0 a0_1 a0_2 a0_3 a0_4 a0_5 a0_6 a0_7 a0_8 a0_9)) else (spec_ObsOk.j0 k false a0_0 a0_1 a0_2 a0_3 a0_4 a0_5 a0_6 a0_7 a0_8 a0_9)) = some r := H
 have A2 := Aside0.mk A20
 clear A20
 have HC3 := Aside0.mk H
 clear H
 go_enter Try.func37, Try.ntmps37
 go_upto_region 2 with (first | ((with_reducible refine gate_dst (N := 1) rfl ?_); refine box_event ?hg (N := 1) ?hd (cs := #[.int .i64 a0_0, .float .f64 (un pa0_1 a0_1), .float .f64 (un pa0_2 a0_2), .float .f64 (un pa0_3 a0_3), .int .i64 a0_4, .float .f64 (un pa0_5 a0_5), .float .f64 (un pa0_6 a0_6), .float .f64 (un pa0_7 a0_7), .int .i64 a0_8, .int .i64 a0_9]) (t := 60) ?hr ?_; (case hd => rfl); (case hg => rfl); (case hr => first | (go_simp; done) | (go_simp; rfl)); intro gb123 hg w4 hbox hb; have n0_ := Aside0.mk (below_step (by repeat (first | (with_reducible first | exact HB.out | apply below_alloc | apply pw_below_drewN | apply below_drew1) | exact HB.out)) hb); have n1_ := Aside0.mk (hbox); have n2_ := Aside0.mk ((by rw [hg]; exact (below_size (by repeat (first | (with_reducible first | exact HB.out | apply below_alloc | apply pw_below_drewN | apply below_drew1) | exact HB.out))) : w.heap.size ≤ gb123)); have n3_ := Aside0.mk ((by rw [hg]; exact (below_size (by repeat (first | (with_reducible first | exact HB.out | apply below_alloc | apply pw_below_drewN | apply below_drew1) | exact HB.out))) : w.heap.size ≤ gb123)); clear HB; have HB := n0_; have BK123 := n1_; have GW123 := n2_; have GE123 := n3_; clear n0_ n1_ n2_ n3_; clear hb hbox hg; have hcz5_0 : w4.cell? ⟨gb123, 0, none⟩ = some (.int .i64 a0_0) := (blk_cell BK123.out 0).trans rfl; have hcz5_1 : w4.cell? ⟨gb123, 1, none⟩ = some (.float .f64 (un pa0_1 a0_1)) := (blk_cell BK123.out 1).trans rfl; have hcz5_2 : w4.cell? ⟨gb123, 2, none⟩ = some (.float .f64 (un pa0_2 a0_2)) := (blk_cell BK123.out 2).trans rfl; have hcz5_3 : w4.cell? ⟨gb123, 3, none⟩ = some (.float .f64 (un pa0_3 a0_3)) := (blk_cell BK123.out 3).trans rfl; have hcz5_4 : w4.cell? ⟨gb123, 4, none⟩ = some (.int .i64 a0_4) := (blk_cell BK123.out 4).trans rfl; have hcz5_5 : w4.cell? ⟨gb123, 5, none⟩ = some (.float .f64 (un pa0_5 a0_5)) := (blk_cell BK123.out 5).trans rfl; have hcz5_6 : w4.cell? ⟨gb123, 6, none⟩ = some (.float .f64 (un pa0_6 a0_6)) := (blk_cell BK123.out 6).trans rfl; have hcz5_7 : w4.cell? ⟨gb123, 7, none⟩ = some (.float .f64 (un pa0_7 a0_7)) := (blk_cell BK123.out 7).trans rfl; have hcz5_8 : w4.cell? ⟨gb123, 8, none⟩ = some (.int .i64 a0_8) := (blk_cell BK123.out 8).trans rfl; have hcz5_9 : w4.cell? ⟨gb123, 9, none⟩ = some (.int .i64 a0_9) := (blk_cell BK123.out 9).trans rfl; have hfz5_0 := blk_frozen BK123.out 0; have hfz5_1 := blk_frozen BK123.out 1; have hfz5_2 := blk_frozen BK123.out 2; have hfz5_3 := blk_frozen BK123.out 3; have hfz5_4 := blk_frozen BK123.out 4; have hfz5_5 := blk_frozen BK123.out 5; have hfz5_6 := blk_frozen BK123.out 6; have hfz5_7 := blk_frozen BK123.out 7; have hfz5_8 := blk_frozen BK123.out 8; have hfz5_9 := blk_frozen BK123.out 9) | ((with_reducible refine gate_callee (f := 62) rfl ?_); refine goesL_ (some 9) rfl rfl Try.func62 (by kernel_rfl) rfl #[.float .f64 (un pa0_6 a0_6), .int .i64 0, .int .i64 99990] rfl (by (try simp only [List.map_toArray, List.map_cons, List.map_nil]); first | done | rfl | (simp only [List.length_drop, List.length_take]; rfl)) ?_; (with_reducible refine (spec_l5Is.calls k pa0_6 a0_6 0 99990 t124 t125 _ A2.out).mono ?_); rintro e w' ⟨rfl, ⟨nd, rfl⟩⟩; refine ⟨_, rfl, ?_⟩))
 (try simp only [Act.put, sqA, sqZ, sqS])
 go_cut [25] (fun v25 wc => ∃ (kq : Nat) (x25_2 : Bool), v25 = .bool x25_2 ∧ Aside0 (spec_ObsOk.j0 kq x25_2 a0_0 a0_1 a0_2 a0_3 a0_4 a0_5 a0_6 a0_7 a0_8 a0_9 = some r) ∧ Aside0 (kq ≤ k) ∧ Aside0 (wc.heap[gb123]? = some (.cells #[.int .i64 a0_0, .float .f64 (un pa0_1 a0_1), .float .f64 (un pa0_2 a0_2), .float .f64 (un pa0_3 a0_3), .int .i64 a0_4, .float .f64 (un pa0_5 a0_5), .float .f64 (un pa0_6 a0_6), .float .f64 (un pa0_7 a0_7), .int .i64 a0_8, .int .i64 a0_9] 60 (0, 0))) ∧ Aside0 (Below w.heap.size w wc))
 case first =>
  have H := HC3.out
  clear HC3
  by_cases c6 : (feq a0_6 a0_6) = true
  ·rw [if_pos c6] at H
   have c6b0 : (feq a0_6 a0_6) = true := c6
   clear c6
   (first | rw [c6b0] | (simp only [i64_w, i32_w]; rw [c6b0]) | skip)
   by_cases c7 : t125 = true
   ·subst c7
    have H1 : (spec_ObsOk.j0 k ((Int.tmod t124 10) != 0) a0_0 a0_1 a0_2 a0_3 a0_4 a0_5 a0_6 a0_7 a0_8 a0_9) = some r := by rw [if_pos rfl] at H; exact H
    clear H
    have H := H1
    clear H1
    have H' := Aside0.mk H
    clear H
    have hcz8_0 : w4.cell? ⟨gb123, 0, none⟩ = some (.int .i64 a0_0) := (blk_cell BK123.out 0).trans rfl
    have hcz8_1 : w4.cell? ⟨gb123, 1, none⟩ = some (.float .f64 (un pa0_1 a0_1)) := (blk_cell BK123.out 1).trans rfl
    have hcz8_2 : w4.cell? ⟨gb123, 2, none⟩ = some (.float .f64 (un pa0_2 a0_2)) := (blk_cell BK123.out 2).trans rfl
    have hcz8_3 : w4.cell? ⟨gb123, 3, none⟩ = some (.float .f64 (un pa0_3 a0_3)) := (blk_cell BK123.out 3).trans rfl
    have hcz8_4 : w4.cell? ⟨gb123, 4, none⟩ = some (.int .i64 a0_4) := (blk_cell BK123.out 4).trans rfl
    have hcz8_5 : w4.cell? ⟨gb123, 5, none⟩ = some (.float .f64 (un pa0_5 a0_5)) := (blk_cell BK123.out 5).trans rfl
    have hcz8_6 : w4.cell? ⟨gb123, 6, none⟩ = some (.float .f64 (un pa0_6 a0_6)) := (blk_cell BK123.out 6).trans rfl
    have hcz8_7 : w4.cell? ⟨gb123, 7, none⟩ = some (.float .f64 (un pa0_7 a0_7)) := (blk_cell BK123.out 7).trans rfl
    have hcz8_8 : w4.cell? ⟨gb123, 8, none⟩ = some (.int .i64 a0_8) := (blk_cell BK123.out 8).trans rfl
    have hcz8_9 : w4.cell? ⟨gb123, 9, none⟩ = some (.int .i64 a0_9) := (blk_cell BK123.out 9).trans rfl
    have hfz8_0 := blk_frozen BK123.out 0
    have hfz8_1 := blk_frozen BK123.out 1
    have hfz8_2 := blk_frozen BK123.out 2
    have hfz8_3 := blk_frozen BK123.out 3
    have hfz8_4 := blk_frozen BK123.out 4
    have hfz8_5 := blk_frozen BK123.out 5
    have hfz8_6 := blk_frozen BK123.out 6
    have hfz8_7 := blk_frozen BK123.out 7
    have hfz8_8 := blk_frozen BK123.out 8
    have hfz8_9 := blk_frozen BK123.out 9
    go_wp2
    go_meet
    case rel => exact ⟨_, (((Int.tmod t124 10) != 0)), (by first | rfl | (simp; done) | (simp [*]; done)), H', ⟨by first | omega | exact Nat.le_refl _⟩, ⟨by (with_reducible repeat (first | refine blk_drewN ?_ _ | refine blk_drew ?_ | refine blk_alloc ?_ _)); exact BK123.out⟩, ⟨by repeat (first | (with_reducible first | exact HB.out | apply below_alloc | apply pw_below_drewN | apply below_drew1 | refine below_set ?_ GE123.out) | exact HB.out)⟩⟩
   ·replace c7 := Bool.eq_false_iff.mpr c7
    subst c7
    have H1 : (spec_ObsOk.j0 k true a0_0 a0_1 a0_2 a0_3 a0_4 a0_5 a0_6 a0_7 a0_8 a0_9) = some r := by rw [if_neg (show ¬ (false = true) by decide)] at H; exact H
    clear H
    have H := H1
    clear H1
    have H' := Aside0.mk H
    clear H
    have hcz9_0 : w4.cell? ⟨gb123, 0, none⟩ = some (.int .i64 a0_0) := (blk_cell BK123.out 0).trans rfl
    have hcz9_1 : w4.cell? ⟨gb123, 1, none⟩ = some (.float .f64 (un pa0_1 a0_1)) := (blk_cell BK123.out 1).trans rfl
    have hcz9_2 : w4.cell? ⟨gb123, 2, none⟩ = some (.float .f64 (un pa0_2 a0_2)) := (blk_cell BK123.out 2).trans rfl
    have hcz9_3 : w4.cell? ⟨gb123, 3, none⟩ = some (.float .f64 (un pa0_3 a0_3)) := (blk_cell BK123.out 3).trans rfl
    have hcz9_4 : w4.cell? ⟨gb123, 4, none⟩ = some (.int .i64 a0_4) := (blk_cell BK123.out 4).trans rfl
    have hcz9_5 : w4.cell? ⟨gb123, 5, none⟩ = some (.float .f64 (un pa0_5 a0_5)) := (blk_cell BK123.out 5).trans rfl
    have hcz9_6 : w4.cell? ⟨gb123, 6, none⟩ = some (.float .f64 (un pa0_6 a0_6)) := (blk_cell BK123.out 6).trans rfl
    have hcz9_7 : w4.cell? ⟨gb123, 7, none⟩ = some (.float .f64 (un pa0_7 a0_7)) := (blk_cell BK123.out 7).trans rfl
    have hcz9_8 : w4.cell? ⟨gb123, 8, none⟩ = some (.int .i64 a0_8) := (blk_cell BK123.out 8).trans rfl
    have hcz9_9 : w4.cell? ⟨gb123, 9, none⟩ = some (.int .i64 a0_9) := (blk_cell BK123.out 9).trans rfl
    have hfz9_0 := blk_frozen BK123.out 0
    have hfz9_1 := blk_frozen BK123.out 1
    have hfz9_2 := blk_frozen BK123.out 2
    have hfz9_3 := blk_frozen BK123.out 3
    have hfz9_4 := blk_frozen BK123.out 4
    have hfz9_5 := blk_frozen BK123.out 5
    have hfz9_6 := blk_frozen BK123.out 6
    have hfz9_7 := blk_frozen BK123.out 7
    have hfz9_8 := blk_frozen BK123.out 8
    have hfz9_9 := blk_frozen BK123.out 9
    go_wp2
    go_meet
    case rel => exact ⟨_, (true), (by first | rfl | (simp; done) | (simp [*]; done)), H', ⟨by first | omega | exact Nat.le_refl _⟩, ⟨by (with_reducible repeat (first | refine blk_drewN ?_ _ | refine blk_drew ?_ | refine blk_alloc ?_ _)); exact BK123.out⟩, ⟨by repeat (first | (with_reducible first | exact HB.out | apply below_alloc | apply pw_below_drewN | apply below_drew1 | refine below_set ?_ GE123.out) | exact HB.out)⟩⟩
  ·rw [if_neg c6] at H
   have c6b0 : (feq a0_6 a0_6) = false := by simpa using c6
   clear c6
   (first | rw [c6b0] | (simp only [i64_w, i32_w]; rw [c6b0]) | skip)
   have H' := Aside0.mk H
   clear H
   have hcz10_0 : w4.cell? ⟨gb123, 0, none⟩ = some (.int .i64 a0_0) := (blk_cell BK123.out 0).trans rfl
   have hcz10_1 : w4.cell? ⟨gb123, 1, none⟩ = some (.float .f64 (un pa0_1 a0_1)) := (blk_cell BK123.out 1).trans rfl
   have hcz10_2 : w4.cell? ⟨gb123, 2, none⟩ = some (.float .f64 (un pa0_2 a0_2)) := (blk_cell BK123.out 2).trans rfl
   have hcz10_3 : w4.cell? ⟨gb123, 3, none⟩ = some (.float .f64 (un pa0_3 a0_3)) := (blk_cell BK123.out 3).trans rfl
   have hcz10_4 : w4.cell? ⟨gb123, 4, none⟩ = some (.int .i64 a0_4) := (blk_cell BK123.out 4).trans rfl
   have hcz10_5 : w4.cell? ⟨gb123, 5, none⟩ = some (.float .f64 (un pa0_5 a0_5)) := (blk_cell BK123.out 5).trans rfl
   have hcz10_6 : w4.cell? ⟨gb123, 6, none⟩ = some (.float .f64 (un pa0_6 a0_6)) := (blk_cell BK123.out 6).trans rfl
   have hcz10_7 : w4.cell? ⟨gb123, 7, none⟩ = some (.float .f64 (un pa0_7 a0_7)) := (blk_cell BK123.out 7).trans rfl
   have hcz10_8 : w4.cell? ⟨gb123, 8, none⟩ = some (.int .i64 a0_8) := (blk_cell BK123.out 8).trans rfl
   have hcz10_9 : w4.cell? ⟨gb123, 9, none⟩ = some (.int .i64 a0_9) := (blk_cell BK123.out 9).trans rfl
   have hfz10_0 := blk_frozen BK123.out 0
   have hfz10_1 := blk_frozen BK123.out 1
   have hfz10_2 := blk_frozen BK123.out 2
   have hfz10_3 := blk_frozen BK123.out 3
   have hfz10_4 := blk_frozen BK123.out 4
   have hfz10_5 := blk_frozen BK123.out 5
   have hfz10_6 := blk_frozen BK123.out 6
   have hfz10_7 := blk_frozen BK123.out 7
   have hfz10_8 := blk_frozen BK123.out 8
   have hfz10_9 := blk_frozen BK123.out 9
   go_wp2
   go_meet
   case rel => exact ⟨_, (false), (by first | rfl | (simp; done) | (simp [*]; done)), H', ⟨by first | omega | exact Nat.le_refl _⟩, ⟨by (with_reducible repeat (first | refine blk_drewN ?_ _ | refine blk_drew ?_ | refine blk_alloc ?_ _)); exact BK123.out⟩, ⟨by repeat (first | (with_reducible first | exact HB.out | apply below_alloc | apply pw_below_drewN | apply below_drew1 | refine below_set ?_ GE123.out) | exact HB.out)⟩⟩
 case rest =>
  clear HC3
  try clear p2
  try clear c3
  try clear c6
  try clear c6b0
  try clear c7
  try clear hcz10_0
  try clear hcz10_1
  try clear hcz10_2
  try clear hcz10_3
  try clear hcz10_4
  try clear hcz10_5
  try clear hcz10_6
  try clear hcz10_7
  try clear hcz10_8
  try clear hcz10_9
  try clear hcz5_0
  try clear hcz5_1
  try clear hcz5_2
  try clear hcz5_3
  try clear hcz5_4
  try clear hcz5_5
  try clear hcz5_6
  try clear hcz5_7
  try clear hcz5_8
  try clear hcz5_9
  try clear hcz8_0
  try clear hcz8_1
  try clear hcz8_2
  try clear hcz8_3
  try clear hcz8_4
  try clear hcz8_5
  try clear hcz8_6
  try clear hcz8_7
  try clear hcz8_8
  try clear hcz8_9
  try clear hcz9_0
  try clear hcz9_1
  try clear hcz9_2
  try clear hcz9_3
  try clear hcz9_4
  try clear hcz9_5
  try clear hcz9_6
  try clear hcz9_7
  try clear hcz9_8
  try clear hcz9_9
  try clear hfz10_0
  try clear hfz10_1
  try clear hfz10_2
  try clear hfz10_3
  try clear hfz10_4
  try clear hfz10_5
  try clear hfz10_6
  try clear hfz10_7
  try clear hfz10_8
  try clear hfz10_9
  try clear hfz5_0
  try clear hfz5_1
  try clear hfz5_2
  try clear hfz5_3
  try clear hfz5_4
  try clear hfz5_5
  try clear hfz5_6
  try clear hfz5_7
  try clear hfz5_8
  try clear hfz5_9
  try clear hfz8_0
  try clear hfz8_1
  try clear hfz8_2
  try clear hfz8_3
  try clear hfz8_4
  try clear hfz8_5
  try clear hfz8_6
  try clear hfz8_7
  try clear hfz8_8
  try clear hfz8_9
  try clear hfz9_0
  try clear hfz9_1
  try clear hfz9_2
  try clear hfz9_3
  try clear hfz9_4
  try clear hfz9_5
  try clear hfz9_6
  try clear hfz9_7
  try clear hfz9_8
  try clear hfz9_9
  obtain ⟨kq, x25_2, rfl, HA, HJ2, BK123, HB⟩ := hcut
  cases kq with
  | zero => exact absurd HA.out (by simp [spec_ObsOk.j0])
  | succ kj2 =>
   have H := HA.out
   clear HA
   simp only [spec_ObsOk.j0] at H
   by_cases c11 : x25_2 = true
   ·subst c11
    have H1 : (some false) = some r := by rw [if_pos rfl] at H; exact H
    clear H
    have H := H1
    clear H1
    obtain rfl := Option.some.inj H
    go_wp2
    go_ret
    exact ⟨by first | rfl | (simp [errW_none, errW_some] <;> rfl) | (simp [*, errW_none, errW_some] <;> rfl), by repeat (first | (with_reducible first | exact HB.out | apply below_alloc | apply pw_below_drewN | apply below_drew1 | refine below_set ?_ GE123.out) | exact HB.out)⟩
   ·replace c11 := Bool.eq_false_iff.mpr c11
    subst c11
    have H1 : (if a0_8 = (-1) then (if a0_9 = (-1) then (spec_ObsOk.j1 kj2 true a0_0 a0_1 a0_2 a0_3 a0_4 a0_5 a0_6 a0_7 a0_8 a0_9) else ((spec_l2In.f a0_8 0 99).bind fun t126 => (if t126 = true then ((spec_l2In.f a0_9 0 8).bind fun t127 => (spec_ObsOk.j1 kj2 t127 a0_0 a0_1 a0_2 a0_3 a0_4 a0_5 a0_6 a0_7 a0_8 a0_9)) else (spec_ObsOk.j1 kj2 false a0_0 a0_1 a0_2 a0_3 a0_4 a0_5 a0_6 a0_7 a0_8 a0_9)))) else ((spec_l2In.f a0_8 0 99).bind fun t128 => (if t128 = true then ((spec_l2In.f a0_9 0 8).bind fun t129 => (spec_ObsOk.j1 kj2 t129 a0_0 a0_1 a0_2 a0_3 a0_4 a0_5 a0_6 a0_7 a0_8 a0_9)) else (spec_ObsOk.j1 kj2 false a0_0 a0_1 a0_2 a0_3 a0_4 a0_5 a0_6 a0_7 a0_8 a0_9)))) = some r := by rw [if_neg (show ¬ (false = true) by decide)] at H; exact H
    clear H
    have H := H1
    clear H1
    have HC12 := Aside0.mk H
    clear H
    go_upto_region 4 with (fail)
    go_cut [5] (fun v5 wc => ∃ (kq : Nat) (x5_11 : Bool), v5 = .bool x5_11 ∧ Aside0 (spec_ObsOk.j1 kq x5_11 a0_0 a0_1 a0_2 a0_3 a0_4 a0_5 a0_6 a0_7 a0_8 a0_9 = some r) ∧ Aside0 (kq ≤ kj2) ∧ Aside0 (wc.heap[gb123]? = some (.cells #[.int .i64 a0_0, .float .f64 (un pa0_1 a0_1), .float .f64 (un pa0_2 a0_2), .float .f64 (un pa0_3 a0_3), .int .i64 a0_4, .float .f64 (un pa0_5 a0_5), .float .f64 (un pa0_6 a0_6), .float .f64 (un pa0_7 a0_7), .int .i64 a0_8, .int .i64 a0_9] 60 (0, 0))) ∧ Aside0 (Below w.heap.size w wc))
    case first =>
     have H := HC12.out
     clear HC12
     by_cases c13 : a0_8 = (-1)
     ·rw [if_pos c13] at H
      have c13b0 : (a0_8 == (-1)) = true := beq_iff_eq.mpr c13
      have c13b1 : (a0_8 != (-1)) = false := bne_eq_false_iff_eq.mpr c13
      clear c13
      (first | rw [c13b0] | (simp only [i64_w, i32_w]; rw [c13b0]) | skip)
      by_cases c14 : a0_9 = (-1)
      ·rw [if_pos c14] at H
       have c14b0 : (a0_9 == (-1)) = true := beq_iff_eq.mpr c14
       have c14b1 : (a0_9 != (-1)) = false := bne_eq_false_iff_eq.mpr c14
       clear c14
       have H' := Aside0.mk H
       clear H
       have hcz15_0 : wc.cell? ⟨gb123, 0, none⟩ = some (.int .i64 a0_0) := (blk_cell BK123.out 0).trans rfl
       have hcz15_1 : wc.cell? ⟨gb123, 1, none⟩ = some (.float .f64 (un pa0_1 a0_1)) := (blk_cell BK123.out 1).trans rfl
       have hcz15_2 : wc.cell? ⟨gb123, 2, none⟩ = some (.float .f64 (un pa0_2 a0_2)) := (blk_cell BK123.out 2).trans rfl
       have hcz15_3 : wc.cell? ⟨gb123, 3, none⟩ = some (.float .f64 (un pa0_3 a0_3)) := (blk_cell BK123.out 3).trans rfl
       have hcz15_4 : wc.cell? ⟨gb123, 4, none⟩ = some (.int .i64 a0_4) := (blk_cell BK123.out 4).trans rfl
       have hcz15_5 : wc.cell? ⟨gb123, 5, none⟩ = some (.float .f64 (un pa0_5 a0_5)) := (blk_cell BK123.out 5).trans rfl
       have hcz15_6 : wc.cell? ⟨gb123, 6, none⟩ = some (.float .f64 (un pa0_6 a0_6)) := (blk_cell BK123.out 6).trans rfl
       have hcz15_7 : wc.cell? ⟨gb123, 7, none⟩ = some (.float .f64 (un pa0_7 a0_7)) := (blk_cell BK123.out 7).trans rfl
       have hcz15_8 : wc.cell? ⟨gb123, 8, none⟩ = some (.int .i64 a0_8) := (blk_cell BK123.out 8).trans rfl
       have hcz15_9 : wc.cell? ⟨gb123, 9, none⟩ = some (.int .i64 a0_9) := (blk_cell BK123.out 9).trans rfl
       have hfz15_0 := blk_frozen BK123.out 0
       have hfz15_1 := blk_frozen BK123.out 1
       have hfz15_2 := blk_frozen BK123.out 2
       have hfz15_3 := blk_frozen BK123.out 3
       have hfz15_4 := blk_frozen BK123.out 4
       have hfz15_5 := blk_frozen BK123.out 5
       have hfz15_6 := blk_frozen BK123.out 6
       have hfz15_7 := blk_frozen BK123.out 7
       have hfz15_8 := blk_frozen BK123.out 8
       have hfz15_9 := blk_frozen BK123.out 9
       go_wp2
       go_meet
       case rel => exact ⟨_, (true), (by first | rfl | (simp; done) | (simp [*]; done)), H', ⟨by have := HJ2.out; first | omega | exact Nat.le_refl _⟩, ⟨by (with_reducible repeat (first | refine blk_drewN ?_ _ | refine blk_drew ?_ | refine blk_alloc ?_ _)); exact BK123.out⟩, ⟨by repeat (first | (with_reducible first | exact HB.out | apply below_alloc | apply pw_below_drewN | apply below_drew1 | refine below_set ?_ GE123.out) | exact HB.out)⟩⟩
      ·rw [if_neg c14] at H
       have c14b0 : (a0_9 == (-1)) = false := beq_eq_false_iff_ne.mpr c14
       have c14b1 : (a0_9 != (-1)) = true := bne_iff_ne.mpr c14
       replace H := Option.bind_eq_some_iff.mp H
       obtain ⟨t126, A160, H⟩ := H
       replace H : (if t126 = true then ((spec_l2In.f a0_9 0 8).bind fun t127 => (spec_ObsOk.j1 kj2 t127 a0_0 a0_1 a0_2 a0_3 a0_4 a0_5 a0_6 a0_7 a0_8 a0_9)) else (spec_ObsOk.j1 kj2 false a0_0 a0_1 a0_2 a0_3 a0_4 a0_5 a0_6 a0_7 a0_8 a0_9)) = some r := H
       have A16 := Aside0.mk A160
       clear A160
       by_cases c17 : t126 = true
       ·subst c17
        have H1 : ((spec_l2In.f a0_9 0 8).bind fun t127 => (spec_ObsOk.j1 kj2 t127 a0_0 a0_1 a0_2 a0_3 a0_4 a0_5 a0_6 a0_7 a0_8 a0_9)) = some r := by rw [if_pos rfl] at H; exact H
        clear H
        have H := H1
        clear H1
        replace H := Option.bind_eq_some_iff.mp H
        obtain ⟨t127, A180, H⟩ := H
        replace H : (spec_ObsOk.j1 kj2 t127 a0_0 a0_1 a0_2 a0_3 a0_4 a0_5 a0_6 a0_7 a0_8 a0_9) = some r := H
        have A18 := Aside0.mk A180
        clear A180
        have H' := Aside0.mk H
        clear H
        have hcz19_0 : wc.cell? ⟨gb123, 0, none⟩ = some (.int .i64 a0_0) := (blk_cell BK123.out 0).trans rfl
        have hcz19_1 : wc.cell? ⟨gb123, 1, none⟩ = some (.float .f64 (un pa0_1 a0_1)) := (blk_cell BK123.out 1).trans rfl
        have hcz19_2 : wc.cell? ⟨gb123, 2, none⟩ = some (.float .f64 (un pa0_2 a0_2)) := (blk_cell BK123.out 2).trans rfl
        have hcz19_3 : wc.cell? ⟨gb123, 3, none⟩ = some (.float .f64 (un pa0_3 a0_3)) := (blk_cell BK123.out 3).trans rfl
        have hcz19_4 : wc.cell? ⟨gb123, 4, none⟩ = some (.int .i64 a0_4) := (blk_cell BK123.out 4).trans rfl
        have hcz19_5 : wc.cell? ⟨gb123, 5, none⟩ = some (.float .f64 (un pa0_5 a0_5)) := (blk_cell BK123.out 5).trans rfl
        have hcz19_6 : wc.cell? ⟨gb123, 6, none⟩ = some (.float .f64 (un pa0_6 a0_6)) := (blk_cell BK123.out 6).trans rfl
        have hcz19_7 : wc.cell? ⟨gb123, 7, none⟩ = some (.float .f64 (un pa0_7 a0_7)) := (blk_cell BK123.out 7).trans rfl
        have hcz19_8 : wc.cell? ⟨gb123, 8, none⟩ = some (.int .i64 a0_8) := (blk_cell BK123.out 8).trans rfl
        have hcz19_9 : wc.cell? ⟨gb123, 9, none⟩ = some (.int .i64 a0_9) := (blk_cell BK123.out 9).trans rfl
        have hfz19_0 := blk_frozen BK123.out 0
        have hfz19_1 := blk_frozen BK123.out 1
        have hfz19_2 := blk_frozen BK123.out 2
        have hfz19_3 := blk_frozen BK123.out 3
        have hfz19_4 := blk_frozen BK123.out 4
        have hfz19_5 := blk_frozen BK123.out 5
        have hfz19_6 := blk_frozen BK123.out 6
        have hfz19_7 := blk_frozen BK123.out 7
        have hfz19_8 := blk_frozen BK123.out 8
        have hfz19_9 := blk_frozen BK123.out 9
        go_wp2_with (first | (go_at_call 63; (with_reducible refine (spec_l2In.calls a0_8 0 99 true _ A16.out).mono ?_); rintro e w' ⟨rfl, ⟨nd, rfl⟩⟩) | (go_at_call 63; (with_reducible refine (spec_l2In.calls a0_9 0 8 t127 _ A18.out).mono ?_); rintro e w' ⟨rfl, ⟨nd, rfl⟩⟩))
        go_meet
        case rel => exact ⟨_, (t127), (by first | rfl | (simp; done) | (simp [*]; done)), H', ⟨by have := HJ2.out; first | omega | exact Nat.le_refl _⟩, ⟨by (with_reducible repeat (first | refine blk_drewN ?_ _ | refine blk_drew ?_ | refine blk_alloc ?_ _)); exact BK123.out⟩, ⟨by repeat (first | (with_reducible first | exact HB.out | apply below_alloc | apply pw_below_drewN | apply below_drew1 | refine below_set ?_ GE123.out) | exact HB.out)⟩⟩
       ·replace c17 := Bool.eq_false_iff.mpr c17
        subst c17
        have H1 : (spec_ObsOk.j1 kj2 false a0_0 a0_1 a0_2 a0_3 a0_4 a0_5 a0_6 a0_7 a0_8 a0_9) = some r := by rw [if_neg (show ¬ (false = true) by decide)] at H; exact H
        clear H
        have H := H1
        clear H1
        have H' := Aside0.mk H
        clear H
        have hcz20_0 : wc.cell? ⟨gb123, 0, none⟩ = some (.int .i64 a0_0) := (blk_cell BK123.out 0).trans rfl
        have hcz20_1 : wc.cell? ⟨gb123, 1, none⟩ = some (.float .f64 (un pa0_1 a0_1)) := (blk_cell BK123.out 1).trans rfl
        have hcz20_2 : wc.cell? ⟨gb123, 2, none⟩ = some (.float .f64 (un pa0_2 a0_2)) := (blk_cell BK123.out 2).trans rfl
        have hcz20_3 : wc.cell? ⟨gb123, 3, none⟩ = some (.float .f64 (un pa0_3 a0_3)) := (blk_cell BK123.out 3).trans rfl
        have hcz20_4 : wc.cell? ⟨gb123, 4, none⟩ = some (.int .i64 a0_4) := (blk_cell BK123.out 4).trans rfl
        have hcz20_5 : wc.cell? ⟨gb123, 5, none⟩ = some (.float .f64 (un pa0_5 a0_5)) := (blk_cell BK123.out 5).trans rfl
        have hcz20_6 : wc.cell? ⟨gb123, 6, none⟩ = some (.float .f64 (un pa0_6 a0_6)) := (blk_cell BK123.out 6).trans rfl
        have hcz20_7 : wc.cell? ⟨gb123, 7, none⟩ = some (.float .f64 (un pa0_7 a0_7)) := (blk_cell BK123.out 7).trans rfl
        have hcz20_8 : wc.cell? ⟨gb123, 8, none⟩ = some (.int .i64 a0_8) := (blk_cell BK123.out 8).trans rfl
        have hcz20_9 : wc.cell? ⟨gb123, 9, none⟩ = some (.int .i64 a0_9) := (blk_cell BK123.out 9).trans rfl
        have hfz20_0 := blk_frozen BK123.out 0
        have hfz20_1 := blk_frozen BK123.out 1
        have hfz20_2 := blk_frozen BK123.out 2
        have hfz20_3 := blk_frozen BK123.out 3
        have hfz20_4 := blk_frozen BK123.out 4
        have hfz20_5 := blk_frozen BK123.out 5
        have hfz20_6 := blk_frozen BK123.out 6
        have hfz20_7 := blk_frozen BK123.out 7
        have hfz20_8 := blk_frozen BK123.out 8
        have hfz20_9 := blk_frozen BK123.out 9
        go_wp2_with (first | (go_at_call 63; (with_reducible refine (spec_l2In.calls a0_8 0 99 false _ A16.out).mono ?_); rintro e w' ⟨rfl, ⟨nd, rfl⟩⟩))
        go_meet
        case rel => exact ⟨_, (false), (by first | rfl | (simp; done) | (simp [*]; done)), H', ⟨by have := HJ2.out; first | omega | exact Nat.le_refl _⟩, ⟨by (with_reducible repeat (first | refine blk_drewN ?_ _ | refine blk_drew ?_ | refine blk_alloc ?_ _)); exact BK123.out⟩, ⟨by repeat (first | (with_reducible first | exact HB.out | apply below_alloc | apply pw_below_drewN | apply below_drew1 | refine below_set ?_ GE123.out) | exact HB.out)⟩⟩
     ·rw [if_neg c13] at H
      have c13b0 : (a0_8 == (-1)) = false := beq_eq_false_iff_ne.mpr c13
      have c13b1 : (a0_8 != (-1)) = true := bne_iff_ne.mpr c13
      (first | rw [c13b0] | (simp only [i64_w, i32_w]; rw [c13b0]) | skip)
      replace H := Option.bind_eq_some_iff.mp H
      obtain ⟨t128, A210, H⟩ := H
      replace H : (if t128 = true then ((spec_l2In.f a0_9 0 8).bind fun t129 => (spec_ObsOk.j1 kj2 t129 a0_0 a0_1 a0_2 a0_3 a0_4 a0_5 a0_6 a0_7 a0_8 a0_9)) else (spec_ObsOk.j1 kj2 false a0_0 a0_1 a0_2 a0_3 a0_4 a0_5 a0_6 a0_7 a0_8 a0_9)) = some r := H
      have A21 := Aside0.mk A210
      clear A210
      by_cases c22 : t128 = true
      ·subst c22
       have H1 : ((spec_l2In.f a0_9 0 8).bind fun t129 => (spec_ObsOk.j1 kj2 t129 a0_0 a0_1 a0_2 a0_3 a0_4 a0_5 a0_6 a0_7 a0_8 a0_9)) = some r := by rw [if_pos rfl] at H; exact H
       clear H
       have H := H1
       clear H1
       replace H := Option.bind_eq_some_iff.mp H
       obtain ⟨t129, A230, H⟩ := H
       replace H : (spec_ObsOk.j1 kj2 t129 a0_0 a0_1 a0_2 a0_3 a0_4 a0_5 a0_6 a0_7 a0_8 a0_9) = some r := H
       have A23 := Aside0.mk A230
       clear A230
       have H' := Aside0.mk H
       clear H
       have hcz24_0 : wc.cell? ⟨gb123, 0, none⟩ = some (.int .i64 a0_0) := (blk_cell BK123.out 0).trans rfl
       have hcz24_1 : wc.cell? ⟨gb123, 1, none⟩ = some (.float .f64 (un pa0_1 a0_1)) := (blk_cell BK123.out 1).trans rfl
       have hcz24_2 : wc.cell? ⟨gb123, 2, none⟩ = some (.float .f64 (un pa0_2 a0_2)) := (blk_cell BK123.out 2).trans rfl
       have hcz24_3 : wc.cell? ⟨gb123, 3, none⟩ = some (.float .f64 (un pa0_3 a0_3)) := (blk_cell BK123.out 3).trans rfl
       have hcz24_4 : wc.cell? ⟨gb123, 4, none⟩ = some (.int .i64 a0_4) := (blk_cell BK123.out 4).trans rfl
       have hcz24_5 : wc.cell? ⟨gb123, 5, none⟩ = some (.float .f64 (un pa0_5 a0_5)) := (blk_cell BK123.out 5).trans rfl
       have hcz24_6 : wc.cell? ⟨gb123, 6, none⟩ = some (.float .f64 (un pa0_6 a0_6)) := (blk_cell BK123.out 6).trans rfl
       have hcz24_7 : wc.cell? ⟨gb123, 7, none⟩ = some (.float .f64 (un pa0_7 a0_7)) := (blk_cell BK123.out 7).trans rfl
       have hcz24_8 : wc.cell? ⟨gb123, 8, none⟩ = some (.int .i64 a0_8) := (blk_cell BK123.out 8).trans rfl
       have hcz24_9 : wc.cell? ⟨gb123, 9, none⟩ = some (.int .i64 a0_9) := (blk_cell BK123.out 9).trans rfl
       have hfz24_0 := blk_frozen BK123.out 0
       have hfz24_1 := blk_frozen BK123.out 1
       have hfz24_2 := blk_frozen BK123.out 2
       have hfz24_3 := blk_frozen BK123.out 3
       have hfz24_4 := blk_frozen BK123.out 4
       have hfz24_5 := blk_frozen BK123.out 5
       have hfz24_6 := blk_frozen BK123.out 6
       have hfz24_7 := blk_frozen BK123.out 7
       have hfz24_8 := blk_frozen BK123.out 8
       have hfz24_9 := blk_frozen BK123.out 9
       go_wp2_with (first | (go_at_call 63; (with_reducible refine (spec_l2In.calls a0_8 0 99 true _ A21.out).mono ?_); rintro e w' ⟨rfl, ⟨nd, rfl⟩⟩) | (go_at_call 63; (with_reducible refine (spec_l2In.calls a0_9 0 8 t129 _ A23.out).mono ?_); rintro e w' ⟨rfl, ⟨nd, rfl⟩⟩))
       go_meet
       case rel => exact ⟨_, (t129), (by first | rfl | (simp; done) | (simp [*]; done)), H', ⟨by have := HJ2.out; first | omega | exact Nat.le_refl _⟩, ⟨by (with_reducible repeat (first | refine blk_drewN ?_ _ | refine blk_drew ?_ | refine blk_alloc ?_ _)); exact BK123.out⟩, ⟨by repeat (first | (with_reducible first | exact HB.out | apply below_alloc | apply pw_below_drewN | apply below_drew1 | refine below_set ?_ GE123.out) | exact HB.out)⟩⟩
      ·replace c22 := Bool.eq_false_iff.mpr c22
       subst c22
       have H1 : (spec_ObsOk.j1 kj2 false a0_0 a0_1 a0_2 a0_3 a0_4 a0_5 a0_6 a0_7 a0_8 a0_9) = some r := by rw [if_neg (show ¬ (false = true) by decide)] at H; exact H
       clear H
       have H := H1
       clear H1
       have H' := Aside0.mk H
       clear H
       have hcz25_0 : wc.cell? ⟨gb123, 0, none⟩ = some (.int .i64 a0_0) := (blk_cell BK123.out 0).trans rfl
       have hcz25_1 : wc.cell? ⟨gb123, 1, none⟩ = some (.float .f64 (un pa0_1 a0_1)) := (blk_cell BK123.out 1).trans rfl
       have hcz25_2 : wc.cell? ⟨gb123, 2, none⟩ = some (.float .f64 (un pa0_2 a0_2)) := (blk_cell BK123.out 2).trans rfl
       have hcz25_3 : wc.cell? ⟨gb123, 3, none⟩ = some (.float .f64 (un pa0_3 a0_3)) := (blk_cell BK123.out 3).trans rfl
       have hcz25_4 : wc.cell? ⟨gb123, 4, none⟩ = some (.int .i64 a0_4) := (blk_cell BK123.out 4).trans rfl
       have hcz25_5 : wc.cell? ⟨gb123, 5, none⟩ = some (.float .f64 (un pa0_5 a0_5)) := (blk_cell BK123.out 5).trans rfl
       have hcz25_6 : wc.cell? ⟨gb123, 6, none⟩ = some (.float .f64 (un pa0_6 a0_6)) := (blk_cell BK123.out 6).trans rfl
       have hcz25_7 : wc.cell? ⟨gb123, 7, none⟩ = some (.float .f64 (un pa0_7 a0_7)) := (blk_cell BK123.out 7).trans rfl
       have hcz25_8 : wc.cell? ⟨gb123, 8, none⟩ = some (.int .i64 a0_8) := (blk_cell BK123.out 8).trans rfl
       have hcz25_9 : wc.cell? ⟨gb123, 9, none⟩ = some (.int .i64 a0_9) := (blk_cell BK123.out 9).trans rfl
       have hfz25_0 := blk_frozen BK123.out 0
       have hfz25_1 := blk_frozen BK123.out 1
       have hfz25_2 := blk_frozen BK123.out 2
       have hfz25_3 := blk_frozen BK123.out 3
       have hfz25_4 := blk_frozen BK123.out 4
       have hfz25_5 := blk_frozen BK123.out 5
       have hfz25_6 := blk_frozen BK123.out 6
       have hfz25_7 := blk_frozen BK123.out 7
       have hfz25_8 := blk_frozen BK123.out 8
       have hfz25_9 := blk_frozen BK123.out 9
       go_wp2_with (first | (go_at_call 63; (with_reducible refine (spec_l2In.calls a0_8 0 99 false _ A21.out).mono ?_); rintro e w' ⟨rfl, ⟨nd, rfl⟩⟩))
       go_meet
       case rel => exact ⟨_, (false), (by first | rfl | (simp; done) | (simp [*]; done)), H', ⟨by have := HJ2.out; first | omega | exact Nat.le_refl _⟩, ⟨by (with_reducible repeat (first | refine blk_drewN ?_ _ | refine blk_drew ?_ | refine blk_alloc ?_ _)); exact BK123.out⟩, ⟨by repeat (first | (with_reducible first | exact HB.out | apply below_alloc | apply pw_below_drewN | apply below_drew1 | refine below_set ?_ GE123.out) | exact HB.out)⟩⟩
    case rest =>
     clear HC12
     try clear c1
     try clear c2
     try clear p2
     try clear c3
     try clear c6
     try clear c6b0
     try clear c7
     try clear c11
     try clear c13
     try clear c13b0
     try clear c13b1
     try clear c14
     try clear c14b0
     try clear c14b1
     try clear c17
     try clear c22
     try clear hcz10_0
     try clear hcz10_1
     try clear hcz10_2
     try clear hcz10_3
     try clear hcz10_4
     try clear hcz10_5
     try clear hcz10_6
     try clear hcz10_7
     try clear hcz10_8
     try clear hcz10_9
     try clear hcz15_0
     try clear hcz15_1
     try clear hcz15_2
     try clear hcz15_3
     try clear hcz15_4
     try clear hcz15_5
     try clear hcz15_6
     try clear hcz15_7
     try clear hcz15_8
     try clear hcz15_9
     try clear hcz19_0
     try clear hcz19_1
     try clear hcz19_2
     try clear hcz19_3
     try clear hcz19_4
     try clear hcz19_5
     try clear hcz19_6
     try clear hcz19_7
     try clear hcz19_8
     try clear hcz19_9
     try clear hcz20_0
     try clear hcz20_1
     try clear hcz20_2
     try clear hcz20_3
     try clear hcz20_4
     try clear hcz20_5
     try clear hcz20_6
     try clear hcz20_7
     try clear hcz20_8
     try clear hcz20_9
     try clear hcz24_0
     try clear hcz24_1
     try clear hcz24_2
     try clear hcz24_3
     try clear hcz24_4
     try clear hcz24_5
     try clear hcz24_6
     try clear hcz24_7
     try clear hcz24_8
     try clear hcz24_9
     try clear hcz25_0
     try clear hcz25_1
     try clear hcz25_2
     try clear hcz25_3
     try clear hcz25_4
     try clear hcz25_5
     try clear hcz25_6
     try clear hcz25_7
     try clear hcz25_8
     try clear hcz25_9
     try clear hcz5_0
     try clear hcz5_1
     try clear hcz5_2
     try clear hcz5_3
     try clear hcz5_4
     try clear hcz5_5
     try clear hcz5_6
     try clear hcz5_7
     try clear hcz5_8
     try clear hcz5_9
     try clear hcz8_0
     try clear hcz8_1
     try clear hcz8_2
     try clear hcz8_3
     try clear hcz8_4
     try clear hcz8_5
     try clear hcz8_6
     try clear hcz8_7
     try clear hcz8_8
     try clear hcz8_9
     try clear hcz9_0
     try clear hcz9_1
     try clear hcz9_2
     try clear hcz9_3
     try clear hcz9_4
     try clear hcz9_5
     try clear hcz9_6
     try clear hcz9_7
     try clear hcz9_8
     try clear hcz9_9
     try clear hfz10_0
     try clear hfz10_1
     try clear hfz10_2
     try clear hfz10_3
     try clear hfz10_4
     try clear hfz10_5
     try clear hfz10_6
     try clear hfz10_7
     try clear hfz10_8
     try clear hfz10_9
     try clear hfz15_0
     try clear hfz15_1
     try clear hfz15_2
     try clear hfz15_3
     try clear hfz15_4
     try clear hfz15_5
     try clear hfz15_6
     try clear hfz15_7
     try clear hfz15_8
     try clear hfz15_9
     try clear hfz19_0
     try clear hfz19_1
     try clear hfz19_2
     try clear hfz19_3
     try clear hfz19_4
     try clear hfz19_5
     try clear hfz19_6
     try clear hfz19_7
     try clear hfz19_8
     try clear hfz19_9
     try clear hfz20_0
     try clear hfz20_1
     try clear hfz20_2
     try clear hfz20_3
     try clear hfz20_4
     try clear hfz20_5
     try clear hfz20_6
     try clear hfz20_7
     try clear hfz20_8
     try clear hfz20_9
     try clear hfz24_0
     try clear hfz24_1
     try clear hfz24_2
     try clear hfz24_3
     try clear hfz24_4
     try clear hfz24_5
     try clear hfz24_6
     try clear hfz24_7
     try clear hfz24_8
     try clear hfz24_9
     try clear hfz25_0
     try clear hfz25_1
     try clear hfz25_2
     try clear hfz25_3
     try clear hfz25_4
     try clear hfz25_5
     try clear hfz25_6
     try clear hfz25_7
     try clear hfz25_8
     try clear hfz25_9
     try clear hfz5_0
     try clear hfz5_1
     try clear hfz5_2
     try clear hfz5_3
     try clear hfz5_4
     try clear hfz5_5
     try clear hfz5_6
     try clear hfz5_7
     try clear hfz5_8
     try clear hfz5_9
     try clear hfz8_0
     try clear hfz8_1
     try clear hfz8_2
     try clear hfz8_3
     try clear hfz8_4
     try clear hfz8_5
     try clear hfz8_6
     try clear hfz8_7
     try clear hfz8_8
     try clear hfz8_9
     try clear hfz9_0
     try clear hfz9_1
     try clear hfz9_2
     try clear hfz9_3
     try clear hfz9_4
     try clear hfz9_5
     try clear hfz9_6
     try clear hfz9_7
     try clear hfz9_8
     try clear hfz9_9
     try clear p2
     obtain ⟨kq, x5_11, rfl, HA, HJ11, BK123, HB⟩ := hcut
     cases kq with
     | zero => exact absurd HA.out (by simp [spec_ObsOk.j1])
     | succ kj11 =>
      have H := HA.out
      clear HA
      simp only [spec_ObsOk.j1] at H
      replace H := Option.bind_eq_some_iff.mp H
      obtain ⟨t130, A260, H⟩ := H
      replace H : (if t130 = true then ((spec_l5Part.f kj11 a0_1 (-999) 999).bind fun t131 => (if t131 = true then ((spec_l5Part.f kj11 a0_2 (-999) 999).bind fun t132 => (if t132 = true then ((spec_l5Part.f kj11 a0_3 5000 14999).bind fun t133 => (if t133 = true then ((spec_l5WindOk.f kj11 a0_0 a0_1 a0_2 a0_3 a0_4 a0_5 a0_6 a0_7 a0_8 a0_9).bind fun t134 => (if t134 = true then ((spec_l5Part.f kj11 a0_7 0 9999).bind fun t135 => (if t135 = true then (some x5_11) else (some false))) else (some false))) else (some false))) else (some false))) else (some false))) else (some false)) = some r := H
      have A26 := Aside0.mk A260
      clear A260
      by_cases c27 : t130 = true
      ·subst c27
       have H1 : ((spec_l5Part.f kj11 a0_1 (-999) 999).bind fun t131 => (if t131 = true then ((spec_l5Part.f kj11 a0_2 (-999) 999).bind fun t132 => (if t132 = true then ((spec_l5Part.f kj11 a0_3 5000 14999).bind fun t133 => (if t133 = true then ((spec_l5WindOk.f kj11 a0_0 a0_1 a0_2 a0_3 a0_4 a0_5 a0_6 a0_7 a0_8 a0_9).bind fun t134 => (if t134 = true then ((spec_l5Part.f kj11 a0_7 0 9999).bind fun t135 => (if t135 = true then (some x5_11) else (some false))) else (some false))) else (some false))) else (some false))) else (some false))) = some r := by rw [if_pos rfl] at H; exact H
       clear H
       have H := H1
       clear H1
       replace H := Option.bind_eq_some_iff.mp H
       obtain ⟨t131, A280, H⟩ := H
       replace H : (if t131 = true then ((spec_l5Part.f kj11 a0_2 (-999) 999).bind fun t132 => (if t132 = true then ((spec_l5Part.f kj11 a0_3 5000 14999).bind fun t133 => (if t133 = true then ((spec_l5WindOk.f kj11 a0_0 a0_1 a0_2 a0_3 a0_4 a0_5 a0_6 a0_7 a0_8 a0_9).bind fun t134 => (if t134 = true then ((spec_l5Part.f kj11 a0_7 0 9999).bind fun t135 => (if t135 = true then (some x5_11) else (some false))) else (some false))) else (some false))) else (some false))) else (some false)) = some r := H
       have A28 := Aside0.mk A280
       clear A280
       by_cases c29 : t131 = true
       ·subst c29
        have H1 : ((spec_l5Part.f kj11 a0_2 (-999) 999).bind fun t132 => (if t132 = true then ((spec_l5Part.f kj11 a0_3 5000 14999).bind fun t133 => (if t133 = true then ((spec_l5WindOk.f kj11 a0_0 a0_1 a0_2 a0_3 a0_4 a0_5 a0_6 a0_7 a0_8 a0_9).bind fun t134 => (if t134 = true then ((spec_l5Part.f kj11 a0_7 0 9999).bind fun t135 => (if t135 = true then (some x5_11) else (some false))) else (some false))) else (some false))) else (some false))) = some r := by rw [if_pos rfl] at H; exact H
        clear H
        have H := H1
        clear H1
        replace H := Option.bind_eq_some_iff.mp H
        obtain ⟨t132, A300, H⟩ := H
        replace H : (if t132 = true then ((spec_l5Part.f kj11 a0_3 5000 14999).bind fun t133 => (if t133 = true then ((spec_l5WindOk.f kj11 a0_0 a0_1 a0_2 a0_3 a0_4 a0_5 a0_6 a0_7 a0_8 a0_9).bind fun t134 => (if t134 = true then ((spec_l5Part.f kj11 a0_7 0 9999).bind fun t135 => (if t135 = true then (some x5_11) else (some false))) else (some false))) else (some false))) else (some false)) = some r := H
        have A30 := Aside0.mk A300
        clear A300
        by_cases c31 : t132 = true
        ·subst c31
         have H1 : ((spec_l5Part.f kj11 a0_3 5000 14999).bind fun t133 => (if t133 = true then ((spec_l5WindOk.f kj11 a0_0 a0_1 a0_2 a0_3 a0_4 a0_5 a0_6 a0_7 a0_8 a0_9).bind fun t134 => (if t134 = true then ((spec_l5Part.f kj11 a0_7 0 9999).bind fun t135 => (if t135 = true then (some x5_11) else (some false))) else (some false))) else (some false))) = some r := by rw [if_pos rfl] at H; exact H
         clear H
         have H := H1
         clear H1
         replace H := Option.bind_eq_some_iff.mp H
         obtain ⟨t133, A320, H⟩ := H
         replace H : (if t133 = true then ((spec_l5WindOk.f kj11 a0_0 a0_1 a0_2 a0_3 a0_4 a0_5 a0_6 a0_7 a0_8 a0_9).bind fun t134 => (if t134 = true then ((spec_l5Part.f kj11 a0_7 0 9999).bind fun t135 => (if t135 = true then (some x5_11) else (some false))) else (some false))) else (some false)) = some r := H
         have A32 := Aside0.mk A320
         clear A320
         by_cases c33 : t133 = true
         ·subst c33
          have H1 : ((spec_l5WindOk.f kj11 a0_0 a0_1 a0_2 a0_3 a0_4 a0_5 a0_6 a0_7 a0_8 a0_9).bind fun t134 => (if t134 = true then ((spec_l5Part.f kj11 a0_7 0 9999).bind fun t135 => (if t135 = true then (some x5_11) else (some false))) else (some false))) = some r := by rw [if_pos rfl] at H; exact H
          clear H
          have H := H1
          clear H1
          replace H := Option.bind_eq_some_iff.mp H
          obtain ⟨t134, A340, H⟩ := H
          replace H : (if t134 = true then ((spec_l5Part.f kj11 a0_7 0 9999).bind fun t135 => (if t135 = true then (some x5_11) else (some false))) else (some false)) = some r := H
          have A34 := Aside0.mk A340
          clear A340
          by_cases c35 : t134 = true
          ·subst c35
           have H1 : ((spec_l5Part.f kj11 a0_7 0 9999).bind fun t135 => (if t135 = true then (some x5_11) else (some false))) = some r := by rw [if_pos rfl] at H; exact H
           clear H
           have H := H1
           clear H1
           replace H := Option.bind_eq_some_iff.mp H
           obtain ⟨t135, A360, H⟩ := H
           replace H : (if t135 = true then (some x5_11) else (some false)) = some r := H
           have A36 := Aside0.mk A360
           clear A360
           by_cases c37 : t135 = true
           ·subst c37
            have H1 : (some x5_11) = some r := by rw [if_pos rfl] at H; exact H
            clear H
            have H := H1
            clear H1
            obtain rfl := Option.some.inj H
            have hcz38_0 : wc.cell? ⟨gb123, 0, none⟩ = some (.int .i64 a0_0) := (blk_cell BK123.out 0).trans rfl
            have hcz38_1 : wc.cell? ⟨gb123, 1, none⟩ = some (.float .f64 (un pa0_1 a0_1)) := (blk_cell BK123.out 1).trans rfl
            have hcz38_2 : wc.cell? ⟨gb123, 2, none⟩ = some (.float .f64 (un pa0_2 a0_2)) := (blk_cell BK123.out 2).trans rfl
            have hcz38_3 : wc.cell? ⟨gb123, 3, none⟩ = some (.float .f64 (un pa0_3 a0_3)) := (blk_cell BK123.out 3).trans rfl
            have hcz38_4 : wc.cell? ⟨gb123, 4, none⟩ = some (.int .i64 a0_4) := (blk_cell BK123.out 4).trans rfl
            have hcz38_5 : wc.cell? ⟨gb123, 5, none⟩ = some (.float .f64 (un pa0_5 a0_5)) := (blk_cell BK123.out 5).trans rfl
            have hcz38_6 : wc.cell? ⟨gb123, 6, none⟩ = some (.float .f64 (un pa0_6 a0_6)) := (blk_cell BK123.out 6).trans rfl
            have hcz38_7 : wc.cell? ⟨gb123, 7, none⟩ = some (.float .f64 (un pa0_7 a0_7)) := (blk_cell BK123.out 7).trans rfl
            have hcz38_8 : wc.cell? ⟨gb123, 8, none⟩ = some (.int .i64 a0_8) := (blk_cell BK123.out 8).trans rfl
            have hcz38_9 : wc.cell? ⟨gb123, 9, none⟩ = some (.int .i64 a0_9) := (blk_cell BK123.out 9).trans rfl
            have hfz38_0 := blk_frozen BK123.out 0
            have hfz38_1 := blk_frozen BK123.out 1
            have hfz38_2 := blk_frozen BK123.out 2
            have hfz38_3 := blk_frozen BK123.out 3
            have hfz38_4 := blk_frozen BK123.out 4
            have hfz38_5 := blk_frozen BK123.out 5
            have hfz38_6 := blk_frozen BK123.out 6
            have hfz38_7 := blk_frozen BK123.out 7
            have hfz38_8 := blk_frozen BK123.out 8
            have hfz38_9 := blk_frozen BK123.out 9
            go_wp2_with (first | ((with_reducible refine gate_callee (f := 63) rfl ?_); refine goesL_ (some 46) rfl rfl Try.func63 (by kernel_rfl) rfl #[.int .i64 a0_0, .int .i64 1, .int .i64 99999] rfl (by (try simp only [List.map_toArray, List.map_cons, List.map_nil]); first | done | rfl | (simp only [List.length_drop, List.length_take]; rfl)) ?_; (with_reducible refine (spec_l2In.calls a0_0 1 99999 true _ A26.out).mono ?_); rintro e w' ⟨rfl, ⟨nd, rfl⟩⟩; refine ⟨_, rfl, ?_⟩) | (go_at_call 64; (with_reducible refine (spec_l5Part.calls kj11 pa0_1 a0_1 (-999) 999 true _ A28.out).mono ?_); rintro e w' ⟨rfl, ⟨nd, rfl⟩⟩) | (go_at_call 64; (with_reducible refine (spec_l5Part.calls kj11 pa0_2 a0_2 (-999) 999 true _ A30.out).mono ?_); rintro e w' ⟨rfl, ⟨nd, rfl⟩⟩) | (go_at_call 64; (with_reducible refine (spec_l5Part.calls kj11 pa0_3 a0_3 5000 14999 true _ A32.out).mono ?_); rintro e w' ⟨rfl, ⟨nd, rfl⟩⟩) | (go_at_call 65; (with_reducible refine (spec_l5WindOk.calls kj11 a0_0 pa0_1 a0_1 pa0_2 a0_2 pa0_3 a0_3 a0_4 pa0_5 a0_5 pa0_6 a0_6 pa0_7 a0_7 a0_8 a0_9 true _ A34.out).mono ?_); rintro e w39 ⟨rfl, hb⟩; have n0_ := Aside0.mk (blk_below (g := gb123) (o := .cells #[.int .i64 a0_0, .float .f64 (un pa0_1 a0_1), .float .f64 (un pa0_2 a0_2), .float .f64 (un pa0_3 a0_3), .int .i64 a0_4, .float .f64 (un pa0_5 a0_5), .float .f64 (un pa0_6 a0_6), .float .f64 (un pa0_7 a0_7), .int .i64 a0_8, .int .i64 a0_9] 60 (0, 0)) (by (with_reducible repeat (first | refine blk_drewN ?_ _ | refine blk_drew ?_ | refine blk_alloc ?_ _)); exact BK123.out) hb); have n1_ := Aside0.mk (below_step (by repeat (first | (with_reducible first | exact HB.out | apply below_alloc | apply pw_below_drewN | apply below_drew1 | refine below_set ?_ GE123.out) | exact HB.out)) hb); clear BK123; clear HB; have BK123 := n0_; have HB := n1_; clear n0_ n1_; (try clear hb); (try clear hb2); (try clear hk); (try clear hi); have hcz40_0 : w39.cell? ⟨gb123, 0, none⟩ = some (.int .i64 a0_0) := (blk_cell BK123.out 0).trans rfl; have hcz40_1 : w39.cell? ⟨gb123, 1, none⟩ = some (.float .f64 (un pa0_1 a0_1)) := (blk_cell BK123.out 1).trans rfl; have hcz40_2 : w39.cell? ⟨gb123, 2, none⟩ = some (.float .f64 (un pa0_2 a0_2)) := (blk_cell BK123.out 2).trans rfl; have hcz40_3 : w39.cell? ⟨gb123, 3, none⟩ = some (.float .f64 (un pa0_3 a0_3)) := (blk_cell BK123.out 3).trans rfl; have hcz40_4 : w39.cell? ⟨gb123, 4, none⟩ = some (.int .i64 a0_4) := (blk_cell BK123.out 4).trans rfl; have hcz40_5 : w39.cell? ⟨gb123, 5, none⟩ = some (.float .f64 (un pa0_5 a0_5)) := (blk_cell BK123.out 5).trans rfl; have hcz40_6 : w39.cell? ⟨gb123, 6, none⟩ = some (.float .f64 (un pa0_6 a0_6)) := (blk_cell BK123.out 6).trans rfl; have hcz40_7 : w39.cell? ⟨gb123, 7, none⟩ = some (.float .f64 (un pa0_7 a0_7)) := (blk_cell BK123.out 7).trans rfl; have hcz40_8 : w39.cell? ⟨gb123, 8, none⟩ = some (.int .i64 a0_8) := (blk_cell BK123.out 8).trans rfl; have hcz40_9 : w39.cell? ⟨gb123, 9, none⟩ = some (.int .i64 a0_9) := (blk_cell BK123.out 9).trans rfl; have hfz40_0 := blk_frozen BK123.out 0; have hfz40_1 := blk_frozen BK123.out 1; have hfz40_2 := blk_frozen BK123.out 2; have hfz40_3 := blk_frozen BK123.out 3; have hfz40_4 := blk_frozen BK123.out 4; have hfz40_5 := blk_frozen BK123.out 5; have hfz40_6 := blk_frozen BK123.out 6; have hfz40_7 := blk_frozen BK123.out 7; have hfz40_8 := blk_frozen BK123.out 8; have hfz40_9 := blk_frozen BK123.out 9) | (go_at_call 64; (with_reducible refine (spec_l5Part.calls kj11 pa0_7 a0_7 0 9999 true _ A36.out).mono ?_); rintro e w' ⟨rfl, ⟨nd, rfl⟩⟩))
            go_ret
            exact ⟨by first | rfl | (simp [errW_none, errW_some] <;> rfl) | (simp [*, errW_none, errW_some] <;> rfl), by repeat (first | (with_reducible first | exact HB.out | apply below_alloc | apply pw_below_drewN | apply below_drew1 | refine below_set ?_ GE123.out) | exact HB.out)⟩
           ·replace c37 := Bool.eq_false_iff.mpr c37
            subst c37
            have H1 : (some false) = some r := by rw [if_neg (show ¬ (false = true) by decide)] at H; exact H
            clear H
            have H := H1
            clear H1
            obtain rfl := Option.some.inj H
            have hcz41_0 : wc.cell? ⟨gb123, 0, none⟩ = some (.int .i64 a0_0) := (blk_cell BK123.out 0).trans rfl
            have hcz41_1 : wc.cell? ⟨gb123, 1, none⟩ = some (.float .f64 (un pa0_1 a0_1)) := (blk_cell BK123.out 1).trans rfl
            have hcz41_2 : wc.cell? ⟨gb123, 2, none⟩ = some (.float .f64 (un pa0_2 a0_2)) := (blk_cell BK123.out 2).trans rfl
            have hcz41_3 : wc.cell? ⟨gb123, 3, none⟩ = some (.float .f64 (un pa0_3 a0_3)) := (blk_cell BK123.out 3).trans rfl
            have hcz41_4 : wc.cell? ⟨gb123, 4, none⟩ = some (.int .i64 a0_4) := (blk_cell BK123.out 4).trans rfl
            have hcz41_5 : wc.cell? ⟨gb123, 5, none⟩ = some (.float .f64 (un pa0_5 a0_5)) := (blk_cell BK123.out 5).trans rfl
            have hcz41_6 : wc.cell? ⟨gb123, 6, none⟩ = some (.float .f64 (un pa0_6 a0_6)) := (blk_cell BK123.out 6).trans rfl
            have hcz41_7 : wc.cell? ⟨gb123, 7, none⟩ = some (.float .f64 (un pa0_7 a0_7)) := (blk_cell BK123.out 7).trans rfl
            have hcz41_8 : wc.cell? ⟨gb123, 8, none⟩ = some (.int .i64 a0_8) := (blk_cell BK123.out 8).trans rfl
            have hcz41_9 : wc.cell? ⟨gb123, 9, none⟩ = some (.int .i64 a0_9) := (blk_cell BK123.out 9).trans rfl
            have hfz41_0 := blk_frozen BK123.out 0
            have hfz41_1 := blk_frozen BK123.out 1
            have hfz41_2 := blk_frozen BK123.out 2
            have hfz41_3 := blk_frozen BK123.out 3
            have hfz41_4 := blk_frozen BK123.out 4
            have hfz41_5 := blk_frozen BK123.out 5
            have hfz41_6 := blk_frozen BK123.out 6
            have hfz41_7 := blk_frozen BK123.out 7
            have hfz41_8 := blk_frozen BK123.out 8
            have hfz41_9 := blk_frozen BK123.out 9
            go_wp2_with (first | ((with_reducible refine gate_callee (f := 63) rfl ?_); refine goesL_ (some 46) rfl rfl Try.func63 (by kernel_rfl) rfl #[.int .i64 a0_0, .int .i64 1, .int .i64 99999] rfl (by (try simp only [List.map_toArray, List.map_cons, List.map_nil]); first | done | rfl | (simp only [List.length_drop, List.length_take]; rfl)) ?_; (with_reducible refine (spec_l2In.calls a0_0 1 99999 true _ A26.out).mono ?_); rintro e w' ⟨rfl, ⟨nd, rfl⟩⟩; refine ⟨_, rfl, ?_⟩) | (go_at_call 64; (with_reducible refine (spec_l5Part.calls kj11 pa0_1 a0_1 (-999) 999 true _ A28.out).mono ?_); rintro e w' ⟨rfl, ⟨nd, rfl⟩⟩) | (go_at_call 64; (with_reducible refine (spec_l5Part.calls kj11 pa0_2 a0_2 (-999) 999 true _ A30.out).mono ?_); rintro e w' ⟨rfl, ⟨nd, rfl⟩⟩) | (go_at_call 64; (with_reducible refine (spec_l5Part.calls kj11 pa0_3 a0_3 5000 14999 true _ A32.out).mono ?_); rintro e w' ⟨rfl, ⟨nd, rfl⟩⟩) | (go_at_call 65; (with_reducible refine (spec_l5WindOk.calls kj11 a0_0 pa0_1 a0_1 pa0_2 a0_2 pa0_3 a0_3 a0_4 pa0_5 a0_5 pa0_6 a0_6 pa0_7 a0_7 a0_8 a0_9 true _ A34.out).mono ?_); rintro e w42 ⟨rfl, hb⟩; have n0_ := Aside0.mk (blk_below (g := gb123) (o := .cells #[.int .i64 a0_0, .float .f64 (un pa0_1 a0_1), .float .f64 (un pa0_2 a0_2), .float .f64 (un pa0_3 a0_3), .int .i64 a0_4, .float .f64 (un pa0_5 a0_5), .float .f64 (un pa0_6 a0_6), .float .f64 (un pa0_7 a0_7), .int .i64 a0_8, .int .i64 a0_9] 60 (0, 0)) (by (with_reducible repeat (first | refine blk_drewN ?_ _ | refine blk_drew ?_ | refine blk_alloc ?_ _)); exact BK123.out) hb); have n1_ := Aside0.mk (below_step (by repeat (first | (with_reducible first | exact HB.out | apply below_alloc | apply pw_below_drewN | apply below_drew1 | refine below_set ?_ GE123.out) | exact HB.out)) hb); clear BK123; clear HB; have BK123 := n0_; have HB := n1_; clear n0_ n1_; (try clear hb); (try clear hb2); (try clear hk); (try clear hi); have hcz43_0 : w42.cell? ⟨gb123, 0, none⟩ = some (.int .i64 a0_0) := (blk_cell BK123.out 0).trans rfl; have hcz43_1 : w42.cell? ⟨gb123, 1, none⟩ = some (.float .f64 (un pa0_1 a0_1)) := (blk_cell BK123.out 1).trans rfl; have hcz43_2 : w42.cell? ⟨gb123, 2, none⟩ = some (.float .f64 (un pa0_2 a0_2)) := (blk_cell BK123.out 2).trans rfl; have hcz43_3 : w42.cell? ⟨gb123, 3, none⟩ = some (.float .f64 (un pa0_3 a0_3)) := (blk_cell BK123.out 3).trans rfl; have hcz43_4 : w42.cell? ⟨gb123, 4, none⟩ = some (.int .i64 a0_4) := (blk_cell BK123.out 4).trans rfl; have hcz43_5 : w42.cell? ⟨gb123, 5, none⟩ = some (.float .f64 (un pa0_5 a0_5)) := (blk_cell BK123.out 5).trans rfl; have hcz43_6 : w42.cell? ⟨gb123, 6, none⟩ = some (.float .f64 (un pa0_6 a0_6)) := (blk_cell BK123.out 6).trans rfl; have hcz43_7 : w42.cell? ⟨gb123, 7, none⟩ = some (.float .f64 (un pa0_7 a0_7)) := (blk_cell BK123.out 7).trans rfl; have hcz43_8 : w42.cell? ⟨gb123, 8, none⟩ = some (.int .i64 a0_8) := (blk_cell BK123.out 8).trans rfl; have hcz43_9 : w42.cell? ⟨gb123, 9, none⟩ = some (.int .i64 a0_9) := (blk_cell BK123.out 9).trans rfl; have hfz43_0 := blk_frozen BK123.out 0; have hfz43_1 := blk_frozen BK123.out 1; have hfz43_2 := blk_frozen BK123.out 2; have hfz43_3 := blk_frozen BK123.out 3; have hfz43_4 := blk_frozen BK123.out 4; have hfz43_5 := blk_frozen BK123.out 5; have hfz43_6 := blk_frozen BK123.out 6; have hfz43_7 := blk_frozen BK123.out 7; have hfz43_8 := blk_frozen BK123.out 8; have hfz43_9 := blk_frozen BK123.out 9) | (go_at_call 64; (with_reducible refine (spec_l5Part.calls kj11 pa0_7 a0_7 0 9999 false _ A36.out).mono ?_); rintro e w' ⟨rfl, ⟨nd, rfl⟩⟩))
            go_ret
            exact ⟨by first | rfl | (simp [errW_none, errW_some] <;> rfl) | (simp [*, errW_none, errW_some] <;> rfl), by repeat (first | (with_reducible first | exact HB.out | apply below_alloc | apply pw_below_drewN | apply below_drew1 | refine below_set ?_ GE123.out) | exact HB.out)⟩
          ·replace c35 := Bool.eq_false_iff.mpr c35
           subst c35
           have H1 : (some false) = some r := by rw [if_neg (show ¬ (false = true) by decide)] at H; exact H
           clear H
           have H := H1
           clear H1
           obtain rfl := Option.some.inj H
           have hcz44_0 : wc.cell? ⟨gb123, 0, none⟩ = some (.int .i64 a0_0) := (blk_cell BK123.out 0).trans rfl
           have hcz44_1 : wc.cell? ⟨gb123, 1, none⟩ = some (.float .f64 (un pa0_1 a0_1)) := (blk_cell BK123.out 1).trans rfl
           have hcz44_2 : wc.cell? ⟨gb123, 2, none⟩ = some (.float .f64 (un pa0_2 a0_2)) := (blk_cell BK123.out 2).trans rfl
           have hcz44_3 : wc.cell? ⟨gb123, 3, none⟩ = some (.float .f64 (un pa0_3 a0_3)) := (blk_cell BK123.out 3).trans rfl
           have hcz44_4 : wc.cell? ⟨gb123, 4, none⟩ = some (.int .i64 a0_4) := (blk_cell BK123.out 4).trans rfl
           have hcz44_5 : wc.cell? ⟨gb123, 5, none⟩ = some (.float .f64 (un pa0_5 a0_5)) := (blk_cell BK123.out 5).trans rfl
           have hcz44_6 : wc.cell? ⟨gb123, 6, none⟩ = some (.float .f64 (un pa0_6 a0_6)) := (blk_cell BK123.out 6).trans rfl
           have hcz44_7 : wc.cell? ⟨gb123, 7, none⟩ = some (.float .f64 (un pa0_7 a0_7)) := (blk_cell BK123.out 7).trans rfl
           have hcz44_8 : wc.cell? ⟨gb123, 8, none⟩ = some (.int .i64 a0_8) := (blk_cell BK123.out 8).trans rfl
           have hcz44_9 : wc.cell? ⟨gb123, 9, none⟩ = some (.int .i64 a0_9) := (blk_cell BK123.out 9).trans rfl
           have hfz44_0 := blk_frozen BK123.out 0
           have hfz44_1 := blk_frozen BK123.out 1
           have hfz44_2 := blk_frozen BK123.out 2
           have hfz44_3 := blk_frozen BK123.out 3
           have hfz44_4 := blk_frozen BK123.out 4
           have hfz44_5 := blk_frozen BK123.out 5
           have hfz44_6 := blk_frozen BK123.out 6
           have hfz44_7 := blk_frozen BK123.out 7
           have hfz44_8 := blk_frozen BK123.out 8
           have hfz44_9 := blk_frozen BK123.out 9
           go_wp2_with (first | ((with_reducible refine gate_callee (f := 63) rfl ?_); refine goesL_ (some 46) rfl rfl Try.func63 (by kernel_rfl) rfl #[.int .i64 a0_0, .int .i64 1, .int .i64 99999] rfl (by (try simp only [List.map_toArray, List.map_cons, List.map_nil]); first | done | rfl | (simp only [List.length_drop, List.length_take]; rfl)) ?_; (with_reducible refine (spec_l2In.calls a0_0 1 99999 true _ A26.out).mono ?_); rintro e w' ⟨rfl, ⟨nd, rfl⟩⟩; refine ⟨_, rfl, ?_⟩) | (go_at_call 64; (with_reducible refine (spec_l5Part.calls kj11 pa0_1 a0_1 (-999) 999 true _ A28.out).mono ?_); rintro e w' ⟨rfl, ⟨nd, rfl⟩⟩) | (go_at_call 64; (with_reducible refine (spec_l5Part.calls kj11 pa0_2 a0_2 (-999) 999 true _ A30.out).mono ?_); rintro e w' ⟨rfl, ⟨nd, rfl⟩⟩) | (go_at_call 64; (with_reducible refine (spec_l5Part.calls kj11 pa0_3 a0_3 5000 14999 true _ A32.out).mono ?_); rintro e w' ⟨rfl, ⟨nd, rfl⟩⟩) | (go_at_call 65; (with_reducible refine (spec_l5WindOk.calls kj11 a0_0 pa0_1 a0_1 pa0_2 a0_2 pa0_3 a0_3 a0_4 pa0_5 a0_5 pa0_6 a0_6 pa0_7 a0_7 a0_8 a0_9 false _ A34.out).mono ?_); rintro e w45 ⟨rfl, hb⟩; have n0_ := Aside0.mk (blk_below (g := gb123) (o := .cells #[.int .i64 a0_0, .float .f64 (un pa0_1 a0_1), .float .f64 (un pa0_2 a0_2), .float .f64 (un pa0_3 a0_3), .int .i64 a0_4, .float .f64 (un pa0_5 a0_5), .float .f64 (un pa0_6 a0_6), .float .f64 (un pa0_7 a0_7), .int .i64 a0_8, .int .i64 a0_9] 60 (0, 0)) (by (with_reducible repeat (first | refine blk_drewN ?_ _ | refine blk_drew ?_ | refine blk_alloc ?_ _)); exact BK123.out) hb); have n1_ := Aside0.mk (below_step (by repeat (first | (with_reducible first | exact HB.out | apply below_alloc | apply pw_below_drewN | apply below_drew1 | refine below_set ?_ GE123.out) | exact HB.out)) hb); clear BK123; clear HB; have BK123 := n0_; have HB := n1_; clear n0_ n1_; (try clear hb); (try clear hb2); (try clear hk); (try clear hi)))
           go_ret
           exact ⟨by first | rfl | (simp [errW_none, errW_some] <;> rfl) | (simp [*, errW_none, errW_some] <;> rfl), by repeat (first | (with_reducible first | exact HB.out | apply below_alloc | apply pw_below_drewN | apply below_drew1 | refine below_set ?_ GE123.out) | exact HB.out)⟩
         ·replace c33 := Bool.eq_false_iff.mpr c33
          subst c33
          have H1 : (some false) = some r := by rw [if_neg (show ¬ (false = true) by decide)] at H; exact H
          clear H
          have H := H1
          clear H1
          obtain rfl := Option.some.inj H
          have hcz46_0 : wc.cell? ⟨gb123, 0, none⟩ = some (.int .i64 a0_0) := (blk_cell BK123.out 0).trans rfl
          have hcz46_1 : wc.cell? ⟨gb123, 1, none⟩ = some (.float .f64 (un pa0_1 a0_1)) := (blk_cell BK123.out 1).trans rfl
          have hcz46_2 : wc.cell? ⟨gb123, 2, none⟩ = some (.float .f64 (un pa0_2 a0_2)) := (blk_cell BK123.out 2).trans rfl
          have hcz46_3 : wc.cell? ⟨gb123, 3, none⟩ = some (.float .f64 (un pa0_3 a0_3)) := (blk_cell BK123.out 3).trans rfl
          have hcz46_4 : wc.cell? ⟨gb123, 4, none⟩ = some (.int .i64 a0_4) := (blk_cell BK123.out 4).trans rfl
          have hcz46_5 : wc.cell? ⟨gb123, 5, none⟩ = some (.float .f64 (un pa0_5 a0_5)) := (blk_cell BK123.out 5).trans rfl
          have hcz46_6 : wc.cell? ⟨gb123, 6, none⟩ = some (.float .f64 (un pa0_6 a0_6)) := (blk_cell BK123.out 6).trans rfl
          have hcz46_7 : wc.cell? ⟨gb123, 7, none⟩ = some (.float .f64 (un pa0_7 a0_7)) := (blk_cell BK123.out 7).trans rfl
          have hcz46_8 : wc.cell? ⟨gb123, 8, none⟩ = some (.int .i64 a0_8) := (blk_cell BK123.out 8).trans rfl
          have hcz46_9 : wc.cell? ⟨gb123, 9, none⟩ = some (.int .i64 a0_9) := (blk_cell BK123.out 9).trans rfl
          have hfz46_0 := blk_frozen BK123.out 0
          have hfz46_1 := blk_frozen BK123.out 1
          have hfz46_2 := blk_frozen BK123.out 2
          have hfz46_3 := blk_frozen BK123.out 3
          have hfz46_4 := blk_frozen BK123.out 4
          have hfz46_5 := blk_frozen BK123.out 5
          have hfz46_6 := blk_frozen BK123.out 6
          have hfz46_7 := blk_frozen BK123.out 7
          have hfz46_8 := blk_frozen BK123.out 8
          have hfz46_9 := blk_frozen BK123.out 9
          go_wp2_with (first | ((with_reducible refine gate_callee (f := 63) rfl ?_); refine goesL_ (some 46) rfl rfl Try.func63 (by kernel_rfl) rfl #[.int .i64 a0_0, .int .i64 1, .int .i64 99999] rfl (by (try simp only [List.map_toArray, List.map_cons, List.map_nil]); first | done | rfl | (simp only [List.length_drop, List.length_take]; rfl)) ?_; (with_reducible refine (spec_l2In.calls a0_0 1 99999 true _ A26.out).mono ?_); rintro e w' ⟨rfl, ⟨nd, rfl⟩⟩; refine ⟨_, rfl, ?_⟩) | (go_at_call 64; (with_reducible refine (spec_l5Part.calls kj11 pa0_1 a0_1 (-999) 999 true _ A28.out).mono ?_); rintro e w' ⟨rfl, ⟨nd, rfl⟩⟩) | (go_at_call 64; (with_reducible refine (spec_l5Part.calls kj11 pa0_2 a0_2 (-999) 999 true _ A30.out).mono ?_); rintro e w' ⟨rfl, ⟨nd, rfl⟩⟩) | (go_at_call 64; (with_reducible refine (spec_l5Part.calls kj11 pa0_3 a0_3 5000 14999 false _ A32.out).mono ?_); rintro e w' ⟨rfl, ⟨nd, rfl⟩⟩))
          go_ret
          exact ⟨by first | rfl | (simp [errW_none, errW_some] <;> rfl) | (simp [*, errW_none, errW_some] <;> rfl), by repeat (first | (with_reducible first | exact HB.out | apply below_alloc | apply pw_below_drewN | apply below_drew1 | refine below_set ?_ GE123.out) | exact HB.out)⟩
        ·replace c31 := Bool.eq_false_iff.mpr c31
         subst c31
         have H1 : (some false) = some r := by rw [if_neg (show ¬ (false = true) by decide)] at H; exact H
         clear H
         have H := H1
         clear H1
         obtain rfl := Option.some.inj H
         have hcz47_0 : wc.cell? ⟨gb123, 0, none⟩ = some (.int .i64 a0_0) := (blk_cell BK123.out 0).trans rfl
         have hcz47_1 : wc.cell? ⟨gb123, 1, none⟩ = some (.float .f64 (un pa0_1 a0_1)) := (blk_cell BK123.out 1).trans rfl
         have hcz47_2 : wc.cell? ⟨gb123, 2, none⟩ = some (.float .f64 (un pa0_2 a0_2)) := (blk_cell BK123.out 2).trans rfl
         have hcz47_3 : wc.cell? ⟨gb123, 3, none⟩ = some (.float .f64 (un pa0_3 a0_3)) := (blk_cell BK123.out 3).trans rfl
         have hcz47_4 : wc.cell? ⟨gb123, 4, none⟩ = some (.int .i64 a0_4) := (blk_cell BK123.out 4).trans rfl
         have hcz47_5 : wc.cell? ⟨gb123, 5, none⟩ = some (.float .f64 (un pa0_5 a0_5)) := (blk_cell BK123.out 5).trans rfl
         have hcz47_6 : wc.cell? ⟨gb123, 6, none⟩ = some (.float .f64 (un pa0_6 a0_6)) := (blk_cell BK123.out 6).trans rfl
         have hcz47_7 : wc.cell? ⟨gb123, 7, none⟩ = some (.float .f64 (un pa0_7 a0_7)) := (blk_cell BK123.out 7).trans rfl
         have hcz47_8 : wc.cell? ⟨gb123, 8, none⟩ = some (.int .i64 a0_8) := (blk_cell BK123.out 8).trans rfl
         have hcz47_9 : wc.cell? ⟨gb123, 9, none⟩ = some (.int .i64 a0_9) := (blk_cell BK123.out 9).trans rfl
         have hfz47_0 := blk_frozen BK123.out 0
         have hfz47_1 := blk_frozen BK123.out 1
         have hfz47_2 := blk_frozen BK123.out 2
         have hfz47_3 := blk_frozen BK123.out 3
         have hfz47_4 := blk_frozen BK123.out 4
         have hfz47_5 := blk_frozen BK123.out 5
         have hfz47_6 := blk_frozen BK123.out 6
         have hfz47_7 := blk_frozen BK123.out 7
         have hfz47_8 := blk_frozen BK123.out 8
         have hfz47_9 := blk_frozen BK123.out 9
         go_wp2_with (first | ((with_reducible refine gate_callee (f := 63) rfl ?_); refine goesL_ (some 46) rfl rfl Try.func63 (by kernel_rfl) rfl #[.int .i64 a0_0, .int .i64 1, .int .i64 99999] rfl (by (try simp only [List.map_toArray, List.map_cons, List.map_nil]); first | done | rfl | (simp only [List.length_drop, List.length_take]; rfl)) ?_; (with_reducible refine (spec_l2In.calls a0_0 1 99999 true _ A26.out).mono ?_); rintro e w' ⟨rfl, ⟨nd, rfl⟩⟩; refine ⟨_, rfl, ?_⟩) | (go_at_call 64; (with_reducible refine (spec_l5Part.calls kj11 pa0_1 a0_1 (-999) 999 true _ A28.out).mono ?_); rintro e w' ⟨rfl, ⟨nd, rfl⟩⟩) | (go_at_call 64; (with_reducible refine (spec_l5Part.calls kj11 pa0_2 a0_2 (-999) 999 false _ A30.out).mono ?_); rintro e w' ⟨rfl, ⟨nd, rfl⟩⟩))
         go_ret
         exact ⟨by first | rfl | (simp [errW_none, errW_some] <;> rfl) | (simp [*, errW_none, errW_some] <;> rfl), by repeat (first | (with_reducible first | exact HB.out | apply below_alloc | apply pw_below_drewN | apply below_drew1 | refine below_set ?_ GE123.out) | exact HB.out)⟩
       ·replace c29 := Bool.eq_false_iff.mpr c29
        subst c29
        have H1 : (some false) = some r := by rw [if_neg (show ¬ (false = true) by decide)] at H; exact H
        clear H
        have H := H1
        clear H1
        obtain rfl := Option.some.inj H
        have hcz48_0 : wc.cell? ⟨gb123, 0, none⟩ = some (.int .i64 a0_0) := (blk_cell BK123.out 0).trans rfl
        have hcz48_1 : wc.cell? ⟨gb123, 1, none⟩ = some (.float .f64 (un pa0_1 a0_1)) := (blk_cell BK123.out 1).trans rfl
        have hcz48_2 : wc.cell? ⟨gb123, 2, none⟩ = some (.float .f64 (un pa0_2 a0_2)) := (blk_cell BK123.out 2).trans rfl
        have hcz48_3 : wc.cell? ⟨gb123, 3, none⟩ = some (.float .f64 (un pa0_3 a0_3)) := (blk_cell BK123.out 3).trans rfl
        have hcz48_4 : wc.cell? ⟨gb123, 4, none⟩ = some (.int .i64 a0_4) := (blk_cell BK123.out 4).trans rfl
        have hcz48_5 : wc.cell? ⟨gb123, 5, none⟩ = some (.float .f64 (un pa0_5 a0_5)) := (blk_cell BK123.out 5).trans rfl
        have hcz48_6 : wc.cell? ⟨gb123, 6, none⟩ = some (.float .f64 (un pa0_6 a0_6)) := (blk_cell BK123.out 6).trans rfl
        have hcz48_7 : wc.cell? ⟨gb123, 7, none⟩ = some (.float .f64 (un pa0_7 a0_7)) := (blk_cell BK123.out 7).trans rfl
        have hcz48_8 : wc.cell? ⟨gb123, 8, none⟩ = some (.int .i64 a0_8) := (blk_cell BK123.out 8).trans rfl
        have hcz48_9 : wc.cell? ⟨gb123, 9, none⟩ = some (.int .i64 a0_9) := (blk_cell BK123.out 9).trans rfl
        have hfz48_0 := blk_frozen BK123.out 0
        have hfz48_1 := blk_frozen BK123.out 1
        have hfz48_2 := blk_frozen BK123.out 2
        have hfz48_3 := blk_frozen BK123.out 3
        have hfz48_4 := blk_frozen BK123.out 4
        have hfz48_5 := blk_frozen BK123.out 5
        have hfz48_6 := blk_frozen BK123.out 6
        have hfz48_7 := blk_frozen BK123.out 7
        have hfz48_8 := blk_frozen BK123.out 8
        have hfz48_9 := blk_frozen BK123.out 9
        go_wp2_with (first | ((with_reducible refine gate_callee (f := 63) rfl ?_); refine goesL_ (some 46) rfl rfl Try.func63 (by kernel_rfl) rfl #[.int .i64 a0_0, .int .i64 1, .int .i64 99999] rfl (by (try simp only [List.map_toArray, List.map_cons, List.map_nil]); first | done | rfl | (simp only [List.length_drop, List.length_take]; rfl)) ?_; (with_reducible refine (spec_l2In.calls a0_0 1 99999 true _ A26.out).mono ?_); rintro e w' ⟨rfl, ⟨nd, rfl⟩⟩; refine ⟨_, rfl, ?_⟩) | (go_at_call 64; (with_reducible refine (spec_l5Part.calls kj11 pa0_1 a0_1 (-999) 999 false _ A28.out).mono ?_); rintro e w' ⟨rfl, ⟨nd, rfl⟩⟩))
        go_ret
        exact ⟨by first | rfl | (simp [errW_none, errW_some] <;> rfl) | (simp [*, errW_none, errW_some] <;> rfl), by repeat (first | (with_reducible first | exact HB.out | apply below_alloc | apply pw_below_drewN | apply below_drew1 | refine below_set ?_ GE123.out) | exact HB.out)⟩
      ·replace c27 := Bool.eq_false_iff.mpr c27
       subst c27
       have H1 : (some false) = some r := by rw [if_neg (show ¬ (false = true) by decide)] at H; exact H
       clear H
       have H := H1
       clear H1
       obtain rfl := Option.some.inj H
       have hcz49_0 : wc.cell? ⟨gb123, 0, none⟩ = some (.int .i64 a0_0) := (blk_cell BK123.out 0).trans rfl
       have hcz49_1 : wc.cell? ⟨gb123, 1, none⟩ = some (.float .f64 (un pa0_1 a0_1)) := (blk_cell BK123.out 1).trans rfl
       have hcz49_2 : wc.cell? ⟨gb123, 2, none⟩ = some (.float .f64 (un pa0_2 a0_2)) := (blk_cell BK123.out 2).trans rfl
       have hcz49_3 : wc.cell? ⟨gb123, 3, none⟩ = some (.float .f64 (un pa0_3 a0_3)) := (blk_cell BK123.out 3).trans rfl
       have hcz49_4 : wc.cell? ⟨gb123, 4, none⟩ = some (.int .i64 a0_4) := (blk_cell BK123.out 4).trans rfl
       have hcz49_5 : wc.cell? ⟨gb123, 5, none⟩ = some (.float .f64 (un pa0_5 a0_5)) := (blk_cell BK123.out 5).trans rfl
       have hcz49_6 : wc.cell? ⟨gb123, 6, none⟩ = some (.float .f64 (un pa0_6 a0_6)) := (blk_cell BK123.out 6).trans rfl
       have hcz49_7 : wc.cell? ⟨gb123, 7, none⟩ = some (.float .f64 (un pa0_7 a0_7)) := (blk_cell BK123.out 7).trans rfl
       have hcz49_8 : wc.cell? ⟨gb123, 8, none⟩ = some (.int .i64 a0_8) := (blk_cell BK123.out 8).trans rfl
       have hcz49_9 : wc.cell? ⟨gb123, 9, none⟩ = some (.int .i64 a0_9) := (blk_cell BK123.out 9).trans rfl
       have hfz49_0 := blk_frozen BK123.out 0
       have hfz49_1 := blk_frozen BK123.out 1
       have hfz49_2 := blk_frozen BK123.out 2
       have hfz49_3 := blk_frozen BK123.out 3
       have hfz49_4 := blk_frozen BK123.out 4
       have hfz49_5 := blk_frozen BK123.out 5
       have hfz49_6 := blk_frozen BK123.out 6
       have hfz49_7 := blk_frozen BK123.out 7
       have hfz49_8 := blk_frozen BK123.out 8
       have hfz49_9 := blk_frozen BK123.out 9
       go_wp2_with (first | ((with_reducible refine gate_callee (f := 63) rfl ?_); refine goesL_ (some 46) rfl rfl Try.func63 (by kernel_rfl) rfl #[.int .i64 a0_0, .int .i64 1, .int .i64 99999] rfl (by (try simp only [List.map_toArray, List.map_cons, List.map_nil]); first | done | rfl | (simp only [List.length_drop, List.length_take]; rfl)) ?_; (with_reducible refine (spec_l2In.calls a0_0 1 99999 false _ A26.out).mono ?_); rintro e w' ⟨rfl, ⟨nd, rfl⟩⟩; refine ⟨_, rfl, ?_⟩))
       go_ret
       exact ⟨by first | rfl | (simp [errW_none, errW_some] <;> rfl) | (simp [*, errW_none, errW_some] <;> rfl), by repeat (first | (with_reducible first | exact HB.out | apply below_alloc | apply pw_below_drewN | apply below_drew1 | refine below_set ?_ GE123.out) | exact HB.out)⟩

end Go.Proofs.Ytaophbkedbphnab.Q
