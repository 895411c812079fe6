/- Plain Lean functions with the same answers as the Go functions of this seat, and a proof for each that the Go code comes to just these answers; no condition. Written by a program of this session (the kit's printer, turned). -/
import Derived.Test.YtaophbkedbphnaaQx0
import Derived.Test.YtaophbkedbphnaaQx2
import Derived.Test.YtaophbkedbphnaaQx3
import Derived.Test.YtaophbkedbphnaaQx5
import Derived.Test.YtaophbkedbphnaaQx6
import Derived.Test.YtaophbkedbphnaaQx7
namespace Go.Proofs.Ytaophbkedbphnaa.Q
open Go.RowKit Go.Proofs.YtaophbkedbphnaaW.PrintWords Go.Proofs.YtaophbkedbphnaaW.PrintLast Go.Proofs.YtaophbkedbphnaaW.PrintMore Go.Proofs.YtaophbkedbphnaaW.PrintFlt
attribute [local go_sem] cmp_lss cmp_leq cmp_gtr cmp_geq cmp_eql cmp_neq flt_l flt_r fgt_l fgt_r feq_l feq_r fne_l fne_r ord_lt ord_gt ord_eq ord_ne conv_int foi_fold run_store_flt
attribute [local go_sem] max2_int min2_int max_two min_two max_three min_three max_four min_four   -- for this text's walks alone
set_option linter.unusedVariables false
set_option linter.unusedSimpArgs false

/-! ### spec_At: function 23 -/
mutual
def spec_At.j0 : Nat → List (Nat) → Int → Int → Bool → Int → Int → Int → Int → Int → Option (Nat)
 | 0, _, _, _, _, _, _, _, _, _ => none
 | k + 1, x1, x2, x3, x58, x114000, x114001, x114002, x114003, x114004 => if x58 = true then ((spec_l1None.f).bind fun t117 => (some t117)) else ((spec_l11Cell.f k x114002 x114004 x114000 x2).bind fun t119 => ((spec_l11Cell.f k x114003 x114004 x114001 x3).bind fun t120 => (if 0 ≤ (wrap64 ((wrap64 (t119 * x114001)) + t120)) then (if (wrap64 ((wrap64 (t119 * x114001)) + t120)) < (x1.length : Int) then (if 0 ≤ (wrap64 ((wrap64 ((wrap64 (t119 * x114001)) + t120)) + 1)) then (if (wrap64 ((wrap64 ((wrap64 (t119 * x114001)) + t120)) + 1)) < (x1.length : Int) then (if 0 ≤ (wrap64 ((wrap64 ((wrap64 (t119 * x114001)) + t120)) + x114001)) then (if (wrap64 ((wrap64 ((wrap64 (t119 * x114001)) + t120)) + x114001)) < (x1.length : Int) then (if 0 ≤ (wrap64 ((wrap64 ((wrap64 ((wrap64 (t119 * x114001)) + t120)) + x114001)) + 1)) then (if (wrap64 ((wrap64 ((wrap64 ((wrap64 (t119 * x114001)) + t120)) + x114001)) + 1)) < (x1.length : Int) then ((spec_Known.f (rd_F x1 (wrap64 ((wrap64 (t119 * x114001)) + t120)))).bind fun t125 => (if t125 = true then ((spec_Known.f (rd_F x1 (wrap64 ((wrap64 ((wrap64 (t119 * x114001)) + t120)) + 1)))).bind fun t126 => (if t126 = true then ((spec_Known.f (rd_F x1 (wrap64 ((wrap64 ((wrap64 (t119 * x114001)) + t120)) + x114001)))).bind fun t127 => (if t127 = true then ((spec_Known.f (rd_F x1 (wrap64 ((wrap64 ((wrap64 ((wrap64 (t119 * x114001)) + t120)) + x114001)) + 1)))).bind fun t128 => (spec_At.j1 k x1 (wrap64 ((wrap64 (x2 - x114002)) - (wrap64 (t119 * x114004)))) (wrap64 ((wrap64 (x3 - x114003)) - (wrap64 (t120 * x114004)))) (wrap64 ((wrap64 (t119 * x114001)) + t120)) (rd_F x1 (wrap64 ((wrap64 (t119 * x114001)) + t120))) (rd_F x1 (wrap64 ((wrap64 ((wrap64 (t119 * x114001)) + t120)) + 1))) (rd_F x1 (wrap64 ((wrap64 ((wrap64 (t119 * x114001)) + t120)) + x114001))) (rd_F x1 (wrap64 ((wrap64 ((wrap64 ((wrap64 (t119 * x114001)) + t120)) + x114001)) + 1))) t128 x114000 x114001 x114002 x114003 x114004)) else (spec_At.j1 k x1 (wrap64 ((wrap64 (x2 - x114002)) - (wrap64 (t119 * x114004)))) (wrap64 ((wrap64 (x3 - x114003)) - (wrap64 (t120 * x114004)))) (wrap64 ((wrap64 (t119 * x114001)) + t120)) (rd_F x1 (wrap64 ((wrap64 (t119 * x114001)) + t120))) (rd_F x1 (wrap64 ((wrap64 ((wrap64 (t119 * x114001)) + t120)) + 1))) (rd_F x1 (wrap64 ((wrap64 ((wrap64 (t119 * x114001)) + t120)) + x114001))) (rd_F x1 (wrap64 ((wrap64 ((wrap64 ((wrap64 (t119 * x114001)) + t120)) + x114001)) + 1))) false x114000 x114001 x114002 x114003 x114004))) else (spec_At.j1 k x1 (wrap64 ((wrap64 (x2 - x114002)) - (wrap64 (t119 * x114004)))) (wrap64 ((wrap64 (x3 - x114003)) - (wrap64 (t120 * x114004)))) (wrap64 ((wrap64 (t119 * x114001)) + t120)) (rd_F x1 (wrap64 ((wrap64 (t119 * x114001)) + t120))) (rd_F x1 (wrap64 ((wrap64 ((wrap64 (t119 * x114001)) + t120)) + 1))) (rd_F x1 (wrap64 ((wrap64 ((wrap64 (t119 * x114001)) + t120)) + x114001))) (rd_F x1 (wrap64 ((wrap64 ((wrap64 ((wrap64 (t119 * x114001)) + t120)) + x114001)) + 1))) false x114000 x114001 x114002 x114003 x114004))) else (spec_At.j1 k x1 (wrap64 ((wrap64 (x2 - x114002)) - (wrap64 (t119 * x114004)))) (wrap64 ((wrap64 (x3 - x114003)) - (wrap64 (t120 * x114004)))) (wrap64 ((wrap64 (t119 * x114001)) + t120)) (rd_F x1 (wrap64 ((wrap64 (t119 * x114001)) + t120))) (rd_F x1 (wrap64 ((wrap64 ((wrap64 (t119 * x114001)) + t120)) + 1))) (rd_F x1 (wrap64 ((wrap64 ((wrap64 (t119 * x114001)) + t120)) + x114001))) (rd_F x1 (wrap64 ((wrap64 ((wrap64 ((wrap64 (t119 * x114001)) + t120)) + x114001)) + 1))) false x114000 x114001 x114002 x114003 x114004))) else (none)) else (none)) else (none)) else (none)) else (none)) else (none)) else (none)) else (none))))
def spec_At.j1 : Nat → List (Nat) → Int → Int → Int → Nat → Nat → Nat → Nat → Bool → Int → Int → Int → Int → Int → Option (Nat)
 | 0, _, _, _, _, _, _, _, _, _, _, _, _, _, _ => none
 | k + 1, x1, x11, x12, x13, x14, x15, x16, x17, x137, x114000, x114001, x114002, x114003, x114004 => if x137 = true then (some (fadd (fadd x14 (fmul (fsub x15 x14) (fdiv (foi x12) (foi x114004)))) (fmul (fsub (fadd x16 (fmul (fsub x17 x16) (fdiv (foi x12) (foi x114004)))) (fadd x14 (fmul (fsub x15 x14) (fdiv (foi x12) (foi x114004))))) (fdiv (foi x11) (foi x114004))))) else (if (wrap64 (2 * x11)) > x114004 then (if (wrap64 (2 * x12)) > x114004 then (if 0 ≤ (wrap64 ((wrap64 (x13 + x114001)) + 1)) then (if (wrap64 ((wrap64 (x13 + x114001)) + 1)) < (x1.length : Int) then (some (rd_F x1 (wrap64 ((wrap64 (x13 + x114001)) + 1)))) else (none)) else (none)) else (if 0 ≤ (wrap64 (x13 + x114001)) then (if (wrap64 (x13 + x114001)) < (x1.length : Int) then (some (rd_F x1 (wrap64 (x13 + x114001)))) else (none)) else (none))) else (if (wrap64 (2 * x12)) > x114004 then (if 0 ≤ (wrap64 (x13 + 1)) then (if (wrap64 (x13 + 1)) < (x1.length : Int) then (some (rd_F x1 (wrap64 (x13 + 1)))) else (none)) else (none)) else (if 0 ≤ x13 then (if x13 < (x1.length : Int) then (some (rd_F x1 x13)) else (none)) else (none))))
end
def spec_At.f (k : Nat) (a0_0 : Int) (a0_1 : Int) (a0_2 : Int) (a0_3 : Int) (a0_4 : Int) (l1 : List (Nat)) (a2 : Int) (a3 : Int) : Option (Nat) := (spec_l11Right.f a0_0 a0_1 a0_2 a0_3 a0_4 (l1.length : Int)).bind fun t114 => (if t114 = true then ((spec_l2In.f a2 a0_2 (wrap64 (a0_2 + (wrap64 ((wrap64 (a0_0 - 1)) * a0_4))))).bind fun t115 => (if t115 = true then ((spec_l2In.f a3 a0_3 (wrap64 (a0_3 + (wrap64 ((wrap64 (a0_1 - 1)) * a0_4))))).bind fun t116 => (spec_At.j0 k l1 a2 a3 (!t116) a0_0 a0_1 a0_2 a0_3 a0_4)) else (spec_At.j0 k l1 a2 a3 true a0_0 a0_1 a0_2 a0_3 a0_4))) else (spec_At.j0 k l1 a2 a3 true a0_0 a0_1 a0_2 a0_3 a0_4))
theorem spec_At.mono_l : ∀ k, (∀ y0 y1 y2 y3 y4 y5 y6 y7 y8, LeO (spec_At.j0 k y0 y1 y2 y3 y4 y5 y6 y7 y8) (spec_At.j0 (k + 1) y0 y1 y2 y3 y4 y5 y6 y7 y8)) ∧ (∀ y0 y1 y2 y3 y4 y5 y6 y7 y8 y9 y10 y11 y12 y13, LeO (spec_At.j1 k y0 y1 y2 y3 y4 y5 y6 y7 y8 y9 y10 y11 y12 y13) (spec_At.j1 (k + 1) y0 y1 y2 y3 y4 y5 y6 y7 y8 y9 y10 y11 y12 y13))
 | 0 => ⟨fun _ _ _ _ _ _ _ _ _ r h => by simp [spec_At.j0] at h, fun _ _ _ _ _ _ _ _ _ _ _ _ _ _ r h => by simp [spec_At.j1] at h⟩
 | k + 1 => by
  obtain ⟨ih0, ih1⟩ := spec_At.mono_l k
  refine ⟨?_, ?_⟩
  ·intro y0 y1 y2 y3 y4 y5 y6 y7 y8
   unfold spec_At.j0
   repeat' first
   | (with_reducible exact ih0 _ _ _ _ _ _ _ _ _)
   | (with_reducible exact ih1 _ _ _ _ _ _ _ _ _ _ _ _ _ _)
   | (with_reducible exact spec_l11Cell.mono _ _ _ _ _)
   | (with_reducible exact LeO.refl _)
   | (with_reducible exact LeO.none _)
   | (with_reducible refine LeO.ite ?_ ?_)
   | (with_reducible refine LeO.bind ?_ (fun _ => ?_))
   | exact ih0 _ _ _ _ _ _ _ _ _
   | exact ih1 _ _ _ _ _ _ _ _ _ _ _ _ _ _
   | exact spec_l11Cell.mono _ _ _ _ _
   | exact LeO.none _
   | refine LeO.ite ?_ ?_
   | refine LeO.bind ?_ (fun _ => ?_)
  ·intro y0 y1 y2 y3 y4 y5 y6 y7 y8 y9 y10 y11 y12 y13
   unfold spec_At.j1
   repeat' first
   | (with_reducible exact ih0 _ _ _ _ _ _ _ _ _)
   | (with_reducible exact ih1 _ _ _ _ _ _ _ _ _ _ _ _ _ _)
   | (with_reducible exact spec_l11Cell.mono _ _ _ _ _)
   | (with_reducible exact LeO.refl _)
   | (with_reducible exact LeO.none _)
   | (with_reducible refine LeO.ite ?_ ?_)
   | (with_reducible refine LeO.bind ?_ (fun _ => ?_))
   | exact ih0 _ _ _ _ _ _ _ _ _
   | exact ih1 _ _ _ _ _ _ _ _ _ _ _ _ _ _
   | exact spec_l11Cell.mono _ _ _ _ _
   | exact LeO.none _
   | refine LeO.ite ?_ ?_
   | refine LeO.bind ?_ (fun _ => ?_)
theorem spec_At.mono : ∀ a0 a1 a2 a3 a4 a5 a6 a7 k, LeO (spec_At.f k a0 a1 a2 a3 a4 a5 a6 a7) (spec_At.f (k + 1) a0 a1 a2 a3 a4 a5 a6 a7) := by
 intro a0 a1 a2 a3 a4 a5 a6 a7 k
 obtain ⟨ih0, ih1⟩ := spec_At.mono_l k
 unfold spec_At.f
 repeat' first
   | (with_reducible exact ih0 _ _ _ _ _ _ _ _ _)
   | (with_reducible exact ih1 _ _ _ _ _ _ _ _ _ _ _ _ _ _)
   | (with_reducible exact spec_l11Cell.mono _ _ _ _ _)
   | (with_reducible exact LeO.refl _)
   | (with_reducible exact LeO.none _)
   | (with_reducible refine LeO.ite ?_ ?_)
   | (with_reducible refine LeO.bind ?_ (fun _ => ?_))
   | exact ih0 _ _ _ _ _ _ _ _ _
   | exact ih1 _ _ _ _ _ _ _ _ _ _ _ _ _ _
   | exact spec_l11Cell.mono _ _ _ _ _
   | exact LeO.none _
   | refine LeO.ite ?_ ?_
   | refine LeO.bind ?_ (fun _ => ?_)
set_option maxHeartbeats 8000000 in
set_option maxRecDepth 100000 in
theorem spec_At.calls (k : Nat) (a0_0 : Int) (a0_1 : Int) (a0_2 : Int) (a0_3 : Int) (a0_4 : Int) (A1 : Option Addr) (c1 : Nat) (l1 : List (Nat)) (a2 : Int) (a3 : Int) (r : Nat) (w : World) (hr1 : Kd.C Kd.flt w A1 l1.length l1) (hc1 : l1.length ≤ c1) (h : spec_At.f k a0_0 a0_1 a0_2 a0_3 a0_4 l1 a2 a3 = some r) :
  Calls Try.prog 23 #[.agg #[.int .i64 a0_0, .int .i64 a0_1, .int .i64 a0_2, .int .i64 a0_3, .int .i64 a0_4], .slice A1 l1.length c1, .int .i64 a2, .int .i64 a3] w fun e w' => ∃ q0_ : Nat, e = .returned (.float .f64 (un q0_ r)) ∧ Below w.heap.size w w' := by
 have hu43 := Try.underlying43
 have HR1 := Aside0.mk hr1
 have HC1 := Aside0.mk hc1
 clear hr1 hc1
 have HB := Aside0.mk (Below.refl w.heap.size w)
 have H : ((spec_l11Right.f a0_0 a0_1 a0_2 a0_3 a0_4 (l1.length : Int)).bind fun t114 => (if t114 = true then ((spec_l2In.f a2 a0_2 (wrap64 (a0_2 + (wrap64 ((wrap64 (a0_0 - 1)) * a0_4))))).bind fun t115 => (if t115 = true then ((spec_l2In.f a3 a0_3 (wrap64 (a0_3 + (wrap64 ((wrap64 (a0_1 - 1)) * a0_4))))).bind fun t116 => (spec_At.j0 k l1 a2 a3 (!t116) a0_0 a0_1 a0_2 a0_3 a0_4)) else (spec_At.j0 k l1 a2 a3 true a0_0 a0_1 a0_2 a0_3 a0_4))) else (spec_At.j0 k l1 a2 a3 true a0_0 a0_1 a0_2 a0_3 a0_4))) = some r := h
 clear h
 have HC5 := Aside0.mk H
 clear H
 go_enter Try.func23, Try.ntmps23
 go_upto_region 1 with (first | ((with_reducible refine gate_dst (N := 4) rfl ?_); refine box_event ?hg (N := 4) ?hd (cs := #[.int .i64 a0_0, .int .i64 a0_1, .int .i64 a0_2, .int .i64 a0_3, .int .i64 a0_4]) (t := 43) ?hr ?_; (case hd => rfl); (case hg => rfl); (case hr => first | (go_simp; done) | (go_simp; rfl)); intro gb113 hg w6 hbox hb; have n0_ := Aside0.mk (below_step (by repeat (first | (with_reducible first | exact HB.out | apply below_alloc | apply pw_below_drewN | apply below_drew1) | exact HB.out)) hb); have n1_ := Aside0.mk (hbox); have n2_ := Aside0.mk ((by rw [hg]; exact (below_size (by repeat (first | (with_reducible first | exact HB.out | apply below_alloc | apply pw_below_drewN | apply below_drew1) | exact HB.out))) : w.heap.size ≤ gb113)); have n3_ := Aside0.mk ((by rw [hg]; exact (below_size (by repeat (first | (with_reducible first | exact HB.out | apply below_alloc | apply pw_below_drewN | apply below_drew1) | exact HB.out))) : w.heap.size ≤ gb113)); clear HB; have HB := n0_; have BK113 := n1_; have GW113 := n2_; have GE113 := n3_; clear n0_ n1_ n2_ n3_; clear hb hbox hg))
 (try simp only [Act.put, sqA, sqZ, sqS])
 go_cut [58] (fun v58 wc => ∃ (kq : Nat) (x58_4 : Bool), v58 = .bool x58_4 ∧ Aside0 (spec_At.j0 kq l1 a2 a3 x58_4 a0_0 a0_1 a0_2 a0_3 a0_4 = some r) ∧ Aside0 (kq ≤ k) ∧ Aside0 (wc.heap[gb113]? = some (.cells #[.int .i64 a0_0, .int .i64 a0_1, .int .i64 a0_2, .int .i64 a0_3, .int .i64 a0_4] 43 (0, 0))) ∧ Aside0 (Below w.heap.size w wc))
 case first =>
  have H := HC5.out
  clear HC5
  replace H := Option.bind_eq_some_iff.mp H
  obtain ⟨t114, A70, H⟩ := H
  replace H : (if t114 = true then ((spec_l2In.f a2 a0_2 (wrap64 (a0_2 + (wrap64 ((wrap64 (a0_0 - 1)) * a0_4))))).bind fun t115 => (if t115 = true then ((spec_l2In.f a3 a0_3 (wrap64 (a0_3 + (wrap64 ((wrap64 (a0_1 - 1)) * a0_4))))).bind fun t116 => (spec_At.j0 k l1 a2 a3 (!t116) a0_0 a0_1 a0_2 a0_3 a0_4)) else (spec_At.j0 k l1 a2 a3 true a0_0 a0_1 a0_2 a0_3 a0_4))) else (spec_At.j0 k l1 a2 a3 true a0_0 a0_1 a0_2 a0_3 a0_4)) = some r := H
  have A7 := Aside0.mk A70
  clear A70
  by_cases c8 : t114 = true
  ·subst c8
   have H1 : ((spec_l2In.f a2 a0_2 (wrap64 (a0_2 + (wrap64 ((wrap64 (a0_0 - 1)) * a0_4))))).bind fun t115 => (if t115 = true then ((spec_l2In.f a3 a0_3 (wrap64 (a0_3 + (wrap64 ((wrap64 (a0_1 - 1)) * a0_4))))).bind fun t116 => (spec_At.j0 k l1 a2 a3 (!t116) a0_0 a0_1 a0_2 a0_3 a0_4)) else (spec_At.j0 k l1 a2 a3 true a0_0 a0_1 a0_2 a0_3 a0_4))) = some r := by rw [if_pos rfl] at H; exact H
   clear H
   have H := H1
   clear H1
   replace H := Option.bind_eq_some_iff.mp H
   obtain ⟨t115, A90, H⟩ := H
   replace H : (if t115 = true then ((spec_l2In.f a3 a0_3 (wrap64 (a0_3 + (wrap64 ((wrap64 (a0_1 - 1)) * a0_4))))).bind fun t116 => (spec_At.j0 k l1 a2 a3 (!t116) a0_0 a0_1 a0_2 a0_3 a0_4)) else (spec_At.j0 k l1 a2 a3 true a0_0 a0_1 a0_2 a0_3 a0_4)) = some r := H
   have A9 := Aside0.mk A90
   clear A90
   by_cases c10 : t115 = true
   ·subst c10
    have H1 : ((spec_l2In.f a3 a0_3 (wrap64 (a0_3 + (wrap64 ((wrap64 (a0_1 - 1)) * a0_4))))).bind fun t116 => (spec_At.j0 k l1 a2 a3 (!t116) a0_0 a0_1 a0_2 a0_3 a0_4)) = some r := by rw [if_pos rfl] at H; exact H
    clear H
    have H := H1
    clear H1
    replace H := Option.bind_eq_some_iff.mp H
    obtain ⟨t116, A110, H⟩ := H
    replace H : (spec_At.j0 k l1 a2 a3 (!t116) a0_0 a0_1 a0_2 a0_3 a0_4) = some r := H
    have A11 := Aside0.mk A110
    clear A110
    have H' := Aside0.mk H
    clear H
    have hcz12_0 : w6.cell? ⟨gb113, 0, none⟩ = some (.int .i64 a0_0) := (blk_cell BK113.out 0).trans rfl
    have hcz12_1 : w6.cell? ⟨gb113, 1, none⟩ = some (.int .i64 a0_1) := (blk_cell BK113.out 1).trans rfl
    have hcz12_2 : w6.cell? ⟨gb113, 2, none⟩ = some (.int .i64 a0_2) := (blk_cell BK113.out 2).trans rfl
    have hcz12_3 : w6.cell? ⟨gb113, 3, none⟩ = some (.int .i64 a0_3) := (blk_cell BK113.out 3).trans rfl
    have hcz12_4 : w6.cell? ⟨gb113, 4, none⟩ = some (.int .i64 a0_4) := (blk_cell BK113.out 4).trans rfl
    have hfz12_0 := blk_frozen BK113.out 0
    have hfz12_1 := blk_frozen BK113.out 1
    have hfz12_2 := blk_frozen BK113.out 2
    have hfz12_3 := blk_frozen BK113.out 3
    have hfz12_4 := blk_frozen BK113.out 4
    go_wp2_with (first | ((with_reducible refine gate_callee (f := 46) rfl ?_); refine goesL_ (some 25) rfl rfl Try.func46 (by kernel_rfl) rfl #[.agg #[.int .i64 a0_0, .int .i64 a0_1, .int .i64 a0_2, .int .i64 a0_3, .int .i64 a0_4], .int .i64 (l1.length : Int)] rfl (by (try simp only [List.map_toArray, List.map_cons, List.map_nil]); first | done | rfl | (simp only [List.length_drop, List.length_take]; rfl)) ?_; (with_reducible refine (spec_l11Right.calls a0_0 a0_1 a0_2 a0_3 a0_4 (l1.length : Int) true _ A7.out).mono ?_); rintro e w13 ⟨rfl, hb⟩; refine ⟨_, rfl, ?_⟩; have n0_ := Aside0.mk (blk_below (g := gb113) (o := .cells #[.int .i64 a0_0, .int .i64 a0_1, .int .i64 a0_2, .int .i64 a0_3, .int .i64 a0_4] 43 (0, 0)) (by (with_reducible repeat (first | refine blk_drewN ?_ _ | refine blk_drew ?_ | refine blk_alloc ?_ _)); exact BK113.out) hb); have n1_ := Aside0.mk (below_step (by repeat (first | (with_reducible first | exact HB.out | apply below_alloc | apply pw_below_drewN | apply below_drew1 | refine below_set ?_ GE113.out) | exact HB.out)) hb); clear BK113; clear HB; have BK113 := n0_; have HB := n1_; clear n0_ n1_; (try clear hb); (try clear hb2); (try clear hk); (try clear hi); have hcz14_0 : w13.cell? ⟨gb113, 0, none⟩ = some (.int .i64 a0_0) := (blk_cell BK113.out 0).trans rfl; have hcz14_1 : w13.cell? ⟨gb113, 1, none⟩ = some (.int .i64 a0_1) := (blk_cell BK113.out 1).trans rfl; have hcz14_2 : w13.cell? ⟨gb113, 2, none⟩ = some (.int .i64 a0_2) := (blk_cell BK113.out 2).trans rfl; have hcz14_3 : w13.cell? ⟨gb113, 3, none⟩ = some (.int .i64 a0_3) := (blk_cell BK113.out 3).trans rfl; have hcz14_4 : w13.cell? ⟨gb113, 4, none⟩ = some (.int .i64 a0_4) := (blk_cell BK113.out 4).trans rfl; have hfz14_0 := blk_frozen BK113.out 0; have hfz14_1 := blk_frozen BK113.out 1; have hfz14_2 := blk_frozen BK113.out 2; have hfz14_3 := blk_frozen BK113.out 3; have hfz14_4 := blk_frozen BK113.out 4) | (go_at_call 47; (with_reducible refine (spec_l2In.calls a2 a0_2 (wrap64 (a0_2 + (wrap64 ((wrap64 (a0_0 - 1)) * a0_4)))) true _ A9.out).mono ?_); rintro e w' ⟨rfl, ⟨nd, rfl⟩⟩) | (go_at_call 47; (with_reducible refine (spec_l2In.calls a3 a0_3 (wrap64 (a0_3 + (wrap64 ((wrap64 (a0_1 - 1)) * a0_4)))) t116 _ A11.out).mono ?_); rintro e w' ⟨rfl, ⟨nd, rfl⟩⟩))
    go_meet
    case rel => exact ⟨_, (!t116), (by first | rfl | (simp; done) | (simp [*]; done)), H', ⟨by first | omega | exact Nat.le_refl _⟩, ⟨by (with_reducible repeat (first | refine blk_drewN ?_ _ | refine blk_drew ?_ | refine blk_alloc ?_ _)); exact BK113.out⟩, ⟨by repeat (first | (with_reducible first | exact HB.out | apply below_alloc | apply pw_below_drewN | apply below_drew1 | refine below_set ?_ GE113.out) | exact HB.out)⟩⟩
   ·replace c10 := Bool.eq_false_iff.mpr c10
    subst c10
    have H1 : (spec_At.j0 k l1 a2 a3 true a0_0 a0_1 a0_2 a0_3 a0_4) = some r := by rw [if_neg (show ¬ (false = true) by decide)] at H; exact H
    clear H
    have H := H1
    clear H1
    have H' := Aside0.mk H
    clear H
    have hcz15_0 : w6.cell? ⟨gb113, 0, none⟩ = some (.int .i64 a0_0) := (blk_cell BK113.out 0).trans rfl
    have hcz15_1 : w6.cell? ⟨gb113, 1, none⟩ = some (.int .i64 a0_1) := (blk_cell BK113.out 1).trans rfl
    have hcz15_2 : w6.cell? ⟨gb113, 2, none⟩ = some (.int .i64 a0_2) := (blk_cell BK113.out 2).trans rfl
    have hcz15_3 : w6.cell? ⟨gb113, 3, none⟩ = some (.int .i64 a0_3) := (blk_cell BK113.out 3).trans rfl
    have hcz15_4 : w6.cell? ⟨gb113, 4, none⟩ = some (.int .i64 a0_4) := (blk_cell BK113.out 4).trans rfl
    have hfz15_0 := blk_frozen BK113.out 0
    have hfz15_1 := blk_frozen BK113.out 1
    have hfz15_2 := blk_frozen BK113.out 2
    have hfz15_3 := blk_frozen BK113.out 3
    have hfz15_4 := blk_frozen BK113.out 4
    go_wp2_with (first | ((with_reducible refine gate_callee (f := 46) rfl ?_); refine goesL_ (some 25) rfl rfl Try.func46 (by kernel_rfl) rfl #[.agg #[.int .i64 a0_0, .int .i64 a0_1, .int .i64 a0_2, .int .i64 a0_3, .int .i64 a0_4], .int .i64 (l1.length : Int)] rfl (by (try simp only [List.map_toArray, List.map_cons, List.map_nil]); first | done | rfl | (simp only [List.length_drop, List.length_take]; rfl)) ?_; (with_reducible refine (spec_l11Right.calls a0_0 a0_1 a0_2 a0_3 a0_4 (l1.length : Int) true _ A7.out).mono ?_); rintro e w16 ⟨rfl, hb⟩; refine ⟨_, rfl, ?_⟩; have n0_ := Aside0.mk (blk_below (g := gb113) (o := .cells #[.int .i64 a0_0, .int .i64 a0_1, .int .i64 a0_2, .int .i64 a0_3, .int .i64 a0_4] 43 (0, 0)) (by (with_reducible repeat (first | refine blk_drewN ?_ _ | refine blk_drew ?_ | refine blk_alloc ?_ _)); exact BK113.out) hb); have n1_ := Aside0.mk (below_step (by repeat (first | (with_reducible first | exact HB.out | apply below_alloc | apply pw_below_drewN | apply below_drew1 | refine below_set ?_ GE113.out) | exact HB.out)) hb); clear BK113; clear HB; have BK113 := n0_; have HB := n1_; clear n0_ n1_; (try clear hb); (try clear hb2); (try clear hk); (try clear hi); have hcz17_0 : w16.cell? ⟨gb113, 0, none⟩ = some (.int .i64 a0_0) := (blk_cell BK113.out 0).trans rfl; have hcz17_1 : w16.cell? ⟨gb113, 1, none⟩ = some (.int .i64 a0_1) := (blk_cell BK113.out 1).trans rfl; have hcz17_2 : w16.cell? ⟨gb113, 2, none⟩ = some (.int .i64 a0_2) := (blk_cell BK113.out 2).trans rfl; have hcz17_3 : w16.cell? ⟨gb113, 3, none⟩ = some (.int .i64 a0_3) := (blk_cell BK113.out 3).trans rfl; have hcz17_4 : w16.cell? ⟨gb113, 4, none⟩ = some (.int .i64 a0_4) := (blk_cell BK113.out 4).trans rfl; have hfz17_0 := blk_frozen BK113.out 0; have hfz17_1 := blk_frozen BK113.out 1; have hfz17_2 := blk_frozen BK113.out 2; have hfz17_3 := blk_frozen BK113.out 3; have hfz17_4 := blk_frozen BK113.out 4) | (go_at_call 47; (with_reducible refine (spec_l2In.calls a2 a0_2 (wrap64 (a0_2 + (wrap64 ((wrap64 (a0_0 - 1)) * a0_4)))) false _ A9.out).mono ?_); rintro e w' ⟨rfl, ⟨nd, rfl⟩⟩))
    go_meet
    case rel => exact ⟨_, (true), (by first | rfl | (simp; done) | (simp [*]; done)), H', ⟨by first | omega | exact Nat.le_refl _⟩, ⟨by (with_reducible repeat (first | refine blk_drewN ?_ _ | refine blk_drew ?_ | refine blk_alloc ?_ _)); exact BK113.out⟩, ⟨by repeat (first | (with_reducible first | exact HB.out | apply below_alloc | apply pw_below_drewN | apply below_drew1 | refine below_set ?_ GE113.out) | exact HB.out)⟩⟩
  ·replace c8 := Bool.eq_false_iff.mpr c8
   subst c8
   have H1 : (spec_At.j0 k l1 a2 a3 true a0_0 a0_1 a0_2 a0_3 a0_4) = some r := by rw [if_neg (show ¬ (false = true) by decide)] at H; exact H
   clear H
   have H := H1
   clear H1
   have H' := Aside0.mk H
   clear H
   have hcz18_0 : w6.cell? ⟨gb113, 0, none⟩ = some (.int .i64 a0_0) := (blk_cell BK113.out 0).trans rfl
   have hcz18_1 : w6.cell? ⟨gb113, 1, none⟩ = some (.int .i64 a0_1) := (blk_cell BK113.out 1).trans rfl
   have hcz18_2 : w6.cell? ⟨gb113, 2, none⟩ = some (.int .i64 a0_2) := (blk_cell BK113.out 2).trans rfl
   have hcz18_3 : w6.cell? ⟨gb113, 3, none⟩ = some (.int .i64 a0_3) := (blk_cell BK113.out 3).trans rfl
   have hcz18_4 : w6.cell? ⟨gb113, 4, none⟩ = some (.int .i64 a0_4) := (blk_cell BK113.out 4).trans rfl
   have hfz18_0 := blk_frozen BK113.out 0
   have hfz18_1 := blk_frozen BK113.out 1
   have hfz18_2 := blk_frozen BK113.out 2
   have hfz18_3 := blk_frozen BK113.out 3
   have hfz18_4 := blk_frozen BK113.out 4
   go_wp2_with (first | ((with_reducible refine gate_callee (f := 46) rfl ?_); refine goesL_ (some 25) rfl rfl Try.func46 (by kernel_rfl) rfl #[.agg #[.int .i64 a0_0, .int .i64 a0_1, .int .i64 a0_2, .int .i64 a0_3, .int .i64 a0_4], .int .i64 (l1.length : Int)] rfl (by (try simp only [List.map_toArray, List.map_cons, List.map_nil]); first | done | rfl | (simp only [List.length_drop, List.length_take]; rfl)) ?_; (with_reducible refine (spec_l11Right.calls a0_0 a0_1 a0_2 a0_3 a0_4 (l1.length : Int) false _ A7.out).mono ?_); rintro e w19 ⟨rfl, hb⟩; refine ⟨_, rfl, ?_⟩; have n0_ := Aside0.mk (blk_below (g := gb113) (o := .cells #[.int .i64 a0_0, .int .i64 a0_1, .int .i64 a0_2, .int .i64 a0_3, .int .i64 a0_4] 43 (0, 0)) (by (with_reducible repeat (first | refine blk_drewN ?_ _ | refine blk_drew ?_ | refine blk_alloc ?_ _)); exact BK113.out) hb); have n1_ := Aside0.mk (below_step (by repeat (first | (with_reducible first | exact HB.out | apply below_alloc | apply pw_below_drewN | apply below_drew1 | refine below_set ?_ GE113.out) | exact HB.out)) hb); clear BK113; clear HB; have BK113 := n0_; have HB := n1_; clear n0_ n1_; (try clear hb); (try clear hb2); (try clear hk); (try clear hi)))
   go_meet
   case rel => exact ⟨_, (true), (by first | rfl | (simp; done) | (simp [*]; done)), H', ⟨by first | omega | exact Nat.le_refl _⟩, ⟨by (with_reducible repeat (first | refine blk_drewN ?_ _ | refine blk_drew ?_ | refine blk_alloc ?_ _)); exact BK113.out⟩, ⟨by repeat (first | (with_reducible first | exact HB.out | apply below_alloc | apply pw_below_drewN | apply below_drew1 | refine below_set ?_ GE113.out) | exact HB.out)⟩⟩
 case rest =>
  clear HC5
  try clear c1
  try clear c2
  try clear p2
  try clear c4
  try clear p6
  try clear c8
  try clear c10
  try clear hcz12_0
  try clear hcz12_1
  try clear hcz12_2
  try clear hcz12_3
  try clear hcz12_4
  try clear hcz14_0
  try clear hcz14_1
  try clear hcz14_2
  try clear hcz14_3
  try clear hcz14_4
  try clear hcz15_0
  try clear hcz15_1
  try clear hcz15_2
  try clear hcz15_3
  try clear hcz15_4
  try clear hcz17_0
  try clear hcz17_1
  try clear hcz17_2
  try clear hcz17_3
  try clear hcz17_4
  try clear hcz18_0
  try clear hcz18_1
  try clear hcz18_2
  try clear hcz18_3
  try clear hcz18_4
  try clear hfz12_0
  try clear hfz12_1
  try clear hfz12_2
  try clear hfz12_3
  try clear hfz12_4
  try clear hfz14_0
  try clear hfz14_1
  try clear hfz14_2
  try clear hfz14_3
  try clear hfz14_4
  try clear hfz15_0
  try clear hfz15_1
  try clear hfz15_2
  try clear hfz15_3
  try clear hfz15_4
  try clear hfz17_0
  try clear hfz17_1
  try clear hfz17_2
  try clear hfz17_3
  try clear hfz17_4
  try clear hfz18_0
  try clear hfz18_1
  try clear hfz18_2
  try clear hfz18_3
  try clear hfz18_4
  obtain ⟨kq, x58_4, rfl, HA, HJ4, BK113, HB⟩ := hcut
  cases kq with
  | zero => exact absurd HA.out (by simp [spec_At.j0])
  | succ kj4 =>
   have H := HA.out
   clear HA
   simp only [spec_At.j0] at H
   by_cases c20 : x58_4 = true
   ·subst c20
    have H1 : ((spec_l1None.f).bind fun t117 => (some t117)) = some r := by rw [if_pos rfl] at H; exact H
    clear H
    have H := H1
    clear H1
    replace H := Option.bind_eq_some_iff.mp H
    obtain ⟨t117, A210, H⟩ := H
    replace H : (some t117) = some r := H
    have A21 := Aside0.mk A210
    clear A210
    obtain rfl := Option.some.inj H
    go_wp2_with (first | ((with_reducible refine gate_callee (f := 42) rfl ?_); refine goesL_ (some 59) rfl rfl Try.func42 (by kernel_rfl) rfl #[] rfl (by (try simp only [List.map_toArray, List.map_cons, List.map_nil]); first | done | rfl | (simp only [List.length_drop, List.length_take]; rfl)) ?_; (with_reducible refine (spec_l1None.calls  t117 _ A21.out).mono ?_); rintro e w' ⟨pr118, rfl, ⟨nd, rfl⟩⟩; refine ⟨_, rfl, ?_⟩))
    go_ret
    first | (exact ⟨pr118, by first | rfl | (simp [errW_none, errW_some] <;> rfl) | (simp [*, errW_none, errW_some] <;> rfl), by repeat (first | (with_reducible first | exact HB.out | apply below_alloc | apply pw_below_drewN | apply below_drew1 | refine below_set ?_ GE113.out) | exact HB.out)⟩) | (exact ⟨⟨pr118, by first | rfl | (simp [errW_none, errW_some] <;> rfl) | (simp [*, errW_none, errW_some] <;> rfl)⟩, by repeat (first | (with_reducible first | exact HB.out | apply below_alloc | apply pw_below_drewN | apply below_drew1 | refine below_set ?_ GE113.out) | exact HB.out)⟩)
   ·replace c20 := Bool.eq_false_iff.mpr c20
    subst c20
    have H1 : ((spec_l11Cell.f kj4 a0_2 a0_4 a0_0 a2).bind fun t119 => ((spec_l11Cell.f kj4 a0_3 a0_4 a0_1 a3).bind fun t120 => (if 0 ≤ (wrap64 ((wrap64 (t119 * a0_1)) + t120)) then (if (wrap64 ((wrap64 (t119 * a0_1)) + t120)) < (l1.length : Int) then (if 0 ≤ (wrap64 ((wrap64 ((wrap64 (t119 * a0_1)) + t120)) + 1)) then (if (wrap64 ((wrap64 ((wrap64 (t119 * a0_1)) + t120)) + 1)) < (l1.length : Int) then (if 0 ≤ (wrap64 ((wrap64 ((wrap64 (t119 * a0_1)) + t120)) + a0_1)) then (if (wrap64 ((wrap64 ((wrap64 (t119 * a0_1)) + t120)) + a0_1)) < (l1.length : Int) then (if 0 ≤ (wrap64 ((wrap64 ((wrap64 ((wrap64 (t119 * a0_1)) + t120)) + a0_1)) + 1)) then (if (wrap64 ((wrap64 ((wrap64 ((wrap64 (t119 * a0_1)) + t120)) + a0_1)) + 1)) < (l1.length : Int) then ((spec_Known.f (rd_F l1 (wrap64 ((wrap64 (t119 * a0_1)) + t120)))).bind fun t125 => (if t125 = true then ((spec_Known.f (rd_F l1 (wrap64 ((wrap64 ((wrap64 (t119 * a0_1)) + t120)) + 1)))).bind fun t126 => (if t126 = true then ((spec_Known.f (rd_F l1 (wrap64 ((wrap64 ((wrap64 (t119 * a0_1)) + t120)) + a0_1)))).bind fun t127 => (if t127 = true then ((spec_Known.f (rd_F l1 (wrap64 ((wrap64 ((wrap64 ((wrap64 (t119 * a0_1)) + t120)) + a0_1)) + 1)))).bind fun t128 => (spec_At.j1 kj4 l1 (wrap64 ((wrap64 (a2 - a0_2)) - (wrap64 (t119 * a0_4)))) (wrap64 ((wrap64 (a3 - a0_3)) - (wrap64 (t120 * a0_4)))) (wrap64 ((wrap64 (t119 * a0_1)) + t120)) (rd_F l1 (wrap64 ((wrap64 (t119 * a0_1)) + t120))) (rd_F l1 (wrap64 ((wrap64 ((wrap64 (t119 * a0_1)) + t120)) + 1))) (rd_F l1 (wrap64 ((wrap64 ((wrap64 (t119 * a0_1)) + t120)) + a0_1))) (rd_F l1 (wrap64 ((wrap64 ((wrap64 ((wrap64 (t119 * a0_1)) + t120)) + a0_1)) + 1))) t128 a0_0 a0_1 a0_2 a0_3 a0_4)) else (spec_At.j1 kj4 l1 (wrap64 ((wrap64 (a2 - a0_2)) - (wrap64 (t119 * a0_4)))) (wrap64 ((wrap64 (a3 - a0_3)) - (wrap64 (t120 * a0_4)))) (wrap64 ((wrap64 (t119 * a0_1)) + t120)) (rd_F l1 (wrap64 ((wrap64 (t119 * a0_1)) + t120))) (rd_F l1 (wrap64 ((wrap64 ((wrap64 (t119 * a0_1)) + t120)) + 1))) (rd_F l1 (wrap64 ((wrap64 ((wrap64 (t119 * a0_1)) + t120)) + a0_1))) (rd_F l1 (wrap64 ((wrap64 ((wrap64 ((wrap64 (t119 * a0_1)) + t120)) + a0_1)) + 1))) false a0_0 a0_1 a0_2 a0_3 a0_4))) else (spec_At.j1 kj4 l1 (wrap64 ((wrap64 (a2 - a0_2)) - (wrap64 (t119 * a0_4)))) (wrap64 ((wrap64 (a3 - a0_3)) - (wrap64 (t120 * a0_4)))) (wrap64 ((wrap64 (t119 * a0_1)) + t120)) (rd_F l1 (wrap64 ((wrap64 (t119 * a0_1)) + t120))) (rd_F l1 (wrap64 ((wrap64 ((wrap64 (t119 * a0_1)) + t120)) + 1))) (rd_F l1 (wrap64 ((wrap64 ((wrap64 (t119 * a0_1)) + t120)) + a0_1))) (rd_F l1 (wrap64 ((wrap64 ((wrap64 ((wrap64 (t119 * a0_1)) + t120)) + a0_1)) + 1))) false a0_0 a0_1 a0_2 a0_3 a0_4))) else (spec_At.j1 kj4 l1 (wrap64 ((wrap64 (a2 - a0_2)) - (wrap64 (t119 * a0_4)))) (wrap64 ((wrap64 (a3 - a0_3)) - (wrap64 (t120 * a0_4)))) (wrap64 ((wrap64 (t119 * a0_1)) + t120)) (rd_F l1 (wrap64 ((wrap64 (t119 * a0_1)) + t120))) (rd_F l1 (wrap64 ((wrap64 ((wrap64 (t119 * a0_1)) + t120)) + 1))) (rd_F l1 (wrap64 ((wrap64 ((wrap64 (t119 * a0_1)) + t120)) + a0_1))) (rd_F l1 (wrap64 ((wrap64 ((wrap64 ((wrap64 (t119 * a0_1)) + t120)) + a0_1)) + 1))) false a0_0 a0_1 a0_2 a0_3 a0_4))) else (none)) else (none)) else (none)) else (none)) else (none)) else (none)) else (none)) else (none)))) = some r := by rw [if_neg (show ¬ (false = true) by decide)] at H; exact H
    clear H
    have H := H1
    clear H1
    replace H := Option.bind_eq_some_iff.mp H
    obtain ⟨t119, A220, H⟩ := H
    replace H : ((spec_l11Cell.f kj4 a0_3 a0_4 a0_1 a3).bind fun t120 => (if 0 ≤ (wrap64 ((wrap64 (t119 * a0_1)) + t120)) then (if (wrap64 ((wrap64 (t119 * a0_1)) + t120)) < (l1.length : Int) then (if 0 ≤ (wrap64 ((wrap64 ((wrap64 (t119 * a0_1)) + t120)) + 1)) then (if (wrap64 ((wrap64 ((wrap64 (t119 * a0_1)) + t120)) + 1)) < (l1.length : Int) then (if 0 ≤ (wrap64 ((wrap64 ((wrap64 (t119 * a0_1)) + t120)) + a0_1)) then (if (wrap64 ((wrap64 ((wrap64 (t119 * a0_1)) + t120)) + a0_1)) < (l1.length : Int) then (if 0 ≤ (wrap64 ((wrap64 ((wrap64 ((wrap64 (t119 * a0_1)) + t120)) + a0_1)) + 1)) then (if (wrap64 ((wrap64 ((wrap64 ((wrap64 (t119 * a0_1)) + t120)) + a0_1)) + 1)) < (l1.length : Int) then ((spec_Known.f (rd_F l1 (wrap64 ((wrap64 (t119 * a0_1)) + t120)))).bind fun t125 => (if t125 = true then ((spec_Known.f (rd_F l1 (wrap64 ((wrap64 ((wrap64 (t119 * a0_1)) + t120)) + 1)))).bind fun t126 => (if t126 = true then ((spec_Known.f (rd_F l1 (wrap64 ((wrap64 ((wrap64 (t119 * a0_1)) + t120)) + a0_1)))).bind fun t127 => (if t127 = true then ((spec_Known.f (rd_F l1 (wrap64 ((wrap64 ((wrap64 ((wrap64 (t119 * a0_1)) + t120)) + a0_1)) + 1)))).bind fun t128 => (spec_At.j1 kj4 l1 (wrap64 ((wrap64 (a2 - a0_2)) - (wrap64 (t119 * a0_4)))) (wrap64 ((wrap64 (a3 - a0_3)) - (wrap64 (t120 * a0_4)))) (wrap64 ((wrap64 (t119 * a0_1)) + t120)) (rd_F l1 (wrap64 ((wrap64 (t119 * a0_1)) + t120))) (rd_F l1 (wrap64 ((wrap64 ((wrap64 (t119 * a0_1)) + t120)) + 1))) (rd_F l1 (wrap64 ((wrap64 ((wrap64 (t119 * a0_1)) + t120)) + a0_1))) (rd_F l1 (wrap64 ((wrap64 ((wrap64 ((wrap64 (t119 * a0_1)) + t120)) + a0_1)) + 1))) t128 a0_0 a0_1 a0_2 a0_3 a0_4)) else (spec_At.j1 kj4 l1 (wrap64 ((wrap64 (a2 - a0_2)) - (wrap64 (t119 * a0_4)))) (wrap64 ((wrap64 (a3 - a0_3)) - (wrap64 (t120 * a0_4)))) (wrap64 ((wrap64 (t119 * a0_1)) + t120)) (rd_F l1 (wrap64 ((wrap64 (t119 * a0_1)) + t120))) (rd_F l1 (wrap64 ((wrap64 ((wrap64 (t119 * a0_1)) + t120)) + 1))) (rd_F l1 (wrap64 ((wrap64 ((wrap64 (t119 * a0_1)) + t120)) + a0_1))) (rd_F l1 (wrap64 ((wrap64 ((wrap64 ((wrap64 (t119 * a0_1)) + t120)) + a0_1)) + 1))) false a0_0 a0_1 a0_2 a0_3 a0_4))) else (spec_At.j1 kj4 l1 (wrap64 ((wrap64 (a2 - a0_2)) - (wrap64 (t119 * a0_4)))) (wrap64 ((wrap64 (a3 - a0_3)) - (wrap64 (t120 * a0_4)))) (wrap64 ((wrap64 (t119 * a0_1)) + t120)) (rd_F l1 (wrap64 ((wrap64 (t119 * a0_1)) + t120))) (rd_F l1 (wrap64 ((wrap64 ((wrap64 (t119 * a0_1)) + t120)) + 1))) (rd_F l1 (wrap64 ((wrap64 ((wrap64 (t119 * a0_1)) + t120)) + a0_1))) (rd_F l1 (wrap64 ((wrap64 ((wrap64 ((wrap64 (t119 * a0_1)) + t120)) + a0_1)) + 1))) false a0_0 a0_1 a0_2 a0_3 a0_4))) else (spec_At.j1 kj4 l1 (wrap64 ((wrap64 (a2 - a0_2)) - (wrap64 (t119 * a0_4)))) (wrap64 ((wrap64 (a3 - a0_3)) - (wrap64 (t120 * a0_4)))) (wrap64 ((wrap64 (t119 * a0_1)) + t120)) (rd_F l1 (wrap64 ((wrap64 (t119 * a0_1)) + t120))) (rd_F l1 (wrap64 ((wrap64 ((wrap64 (t119 * a0_1)) + t120)) + 1))) (rd_F l1 (wrap64 ((wrap64 ((wrap64 (t119 * a0_1)) + t120)) + a0_1))) (rd_F l1 (wrap64 ((wrap64 ((wrap64 ((wrap64 (t119 * a0_1)) + t120)) + a0_1)) + 1))) false a0_0 a0_1 a0_2 a0_3 a0_4))) else (none)) else (none)) else (none)) else (none)) else (none)) else (none)) else (none)) else (none))) = some r := H
    have A22 := Aside0.mk A220
    clear A220
    replace H := Option.bind_eq_some_iff.mp H
    obtain ⟨t120, A230, H⟩ := H
    replace H : (if 0 ≤ (wrap64 ((wrap64 (t119 * a0_1)) + t120)) then (if (wrap64 ((wrap64 (t119 * a0_1)) + t120)) < (l1.length : Int) then (if 0 ≤ (wrap64 ((wrap64 ((wrap64 (t119 * a0_1)) + t120)) + 1)) then (if (wrap64 ((wrap64 ((wrap64 (t119 * a0_1)) + t120)) + 1)) < (l1.length : Int) then (if 0 ≤ (wrap64 ((wrap64 ((wrap64 (t119 * a0_1)) + t120)) + a0_1)) then (if (wrap64 ((wrap64 ((wrap64 (t119 * a0_1)) + t120)) + a0_1)) < (l1.length : Int) then (if 0 ≤ (wrap64 ((wrap64 ((wrap64 ((wrap64 (t119 * a0_1)) + t120)) + a0_1)) + 1)) then (if (wrap64 ((wrap64 ((wrap64 ((wrap64 (t119 * a0_1)) + t120)) + a0_1)) + 1)) < (l1.length : Int) then ((spec_Known.f (rd_F l1 (wrap64 ((wrap64 (t119 * a0_1)) + t120)))).bind fun t125 => (if t125 = true then ((spec_Known.f (rd_F l1 (wrap64 ((wrap64 ((wrap64 (t119 * a0_1)) + t120)) + 1)))).bind fun t126 => (if t126 = true then ((spec_Known.f (rd_F l1 (wrap64 ((wrap64 ((wrap64 (t119 * a0_1)) + t120)) + a0_1)))).bind fun t127 => (if t127 = true then ((spec_Known.f (rd_F l1 (wrap64 ((wrap64 ((wrap64 ((wrap64 (t119 * a0_1)) + t120)) + a0_1)) + 1)))).bind fun t128 => (spec_At.j1 kj4 l1 (wrap64 ((wrap64 (a2 - a0_2)) - (wrap64 (t119 * a0_4)))) (wrap64 ((wrap64 (a3 - a0_3)) - (wrap64 (t120 * a0_4)))) (wrap64 ((wrap64 (t119 * a0_1)) + t120)) (rd_F l1 (wrap64 ((wrap64 (t119 * a0_1)) + t120))) (rd_F l1 (wrap64 ((wrap64 ((wrap64 (t119 * a0_1)) + t120)) + 1))) (rd_F l1 (wrap64 ((wrap64 ((wrap64 (t119 * a0_1)) + t120)) + a0_1))) (rd_F l1 (wrap64 ((wrap64 ((wrap64 ((wrap64 (t119 * a0_1)) + t120)) + a0_1)) + 1))) t128 a0_0 a0_1 a0_2 a0_3 a0_4)) else (spec_At.j1 kj4 l1 (wrap64 ((wrap64 (a2 - a0_2)) - (wrap64 (t119 * a0_4)))) (wrap64 ((wrap64 (a3 - a0_3)) - (wrap64 (t120 * a0_4)))) (wrap64 ((wrap64 (t119 * a0_1)) + t120)) (rd_F l1 (wrap64 ((wrap64 (t119 * a0_1)) + t120))) (rd_F l1 (wrap64 ((wrap64 ((wrap64 (t119 * a0_1)) + t120)) + 1))) (rd_F l1 (wrap64 ((wrap64 ((wrap64 (t119 * a0_1)) + t120)) + a0_1))) (rd_F l1 (wrap64 ((wrap64 ((wrap64 ((wrap64 (t119 * a0_1)) + t120)) + a0_1)) + 1))) false a0_0 a0_1 a0_2 a0_3 a0_4))) else (spec_At.j1 kj4 l1 (wrap64 ((wrap64 (a2 - a0_2)) - (wrap64 (t119 * a0_4)))) (wrap64 ((wrap64 (a3 - a0_3)) - (wrap64 (t120 * a0_4)))) (wrap64 ((wrap64 (t119 * a0_1)) + t120)) (rd_F l1 (wrap64 ((wrap64 (t119 * a0_1)) + t120))) (rd_F l1 (wrap64 ((wrap64 ((wrap64 (t119 * a0_1)) + t120)) + 1))) (rd_F l1 (wrap64 ((wrap64 ((wrap64 (t119 * a0_1)) + t120)) + a0_1))) (rd_F l1 (wrap64 ((wrap64 ((wrap64 ((wrap64 (t119 * a0_1)) + t120)) + a0_1)) + 1))) false a0_0 a0_1 a0_2 a0_3 a0_4))) else (spec_At.j1 kj4 l1 (wrap64 ((wrap64 (a2 - a0_2)) - (wrap64 (t119 * a0_4)))) (wrap64 ((wrap64 (a3 - a0_3)) - (wrap64 (t120 * a0_4)))) (wrap64 ((wrap64 (t119 * a0_1)) + t120)) (rd_F l1 (wrap64 ((wrap64 (t119 * a0_1)) + t120))) (rd_F l1 (wrap64 ((wrap64 ((wrap64 (t119 * a0_1)) + t120)) + 1))) (rd_F l1 (wrap64 ((wrap64 ((wrap64 (t119 * a0_1)) + t120)) + a0_1))) (rd_F l1 (wrap64 ((wrap64 ((wrap64 ((wrap64 (t119 * a0_1)) + t120)) + a0_1)) + 1))) false a0_0 a0_1 a0_2 a0_3 a0_4))) else (none)) else (none)) else (none)) else (none)) else (none)) else (none)) else (none)) else (none)) = some r := H
    have A23 := Aside0.mk A230
    clear A230
    obtain ⟨ji24, hji24⟩ : ∃ j_ : Int, (wrap64 ((wrap64 (t119 * a0_1)) + t120)) = j_ := ⟨_, rfl⟩
    replace H : (if 0 ≤ (ji24) then (if (ji24) < (l1.length : Int) then (if 0 ≤ (wrap64 ((ji24) + 1)) then (if (wrap64 ((ji24) + 1)) < (l1.length : Int) then (if 0 ≤ (wrap64 ((ji24) + a0_1)) then (if (wrap64 ((ji24) + a0_1)) < (l1.length : Int) then (if 0 ≤ (wrap64 ((wrap64 ((ji24) + a0_1)) + 1)) then (if (wrap64 ((wrap64 ((ji24) + a0_1)) + 1)) < (l1.length : Int) then ((spec_Known.f (rd_F l1 (ji24))).bind fun t125 => (if t125 = true then ((spec_Known.f (rd_F l1 (wrap64 ((ji24) + 1)))).bind fun t126 => (if t126 = true then ((spec_Known.f (rd_F l1 (wrap64 ((ji24) + a0_1)))).bind fun t127 => (if t127 = true then ((spec_Known.f (rd_F l1 (wrap64 ((wrap64 ((ji24) + a0_1)) + 1)))).bind fun t128 => (spec_At.j1 kj4 l1 (wrap64 ((wrap64 (a2 - a0_2)) - (wrap64 (t119 * a0_4)))) (wrap64 ((wrap64 (a3 - a0_3)) - (wrap64 (t120 * a0_4)))) ji24 (rd_F l1 (ji24)) (rd_F l1 (wrap64 ((ji24) + 1))) (rd_F l1 (wrap64 ((ji24) + a0_1))) (rd_F l1 (wrap64 ((wrap64 ((ji24) + a0_1)) + 1))) t128 a0_0 a0_1 a0_2 a0_3 a0_4)) else (spec_At.j1 kj4 l1 (wrap64 ((wrap64 (a2 - a0_2)) - (wrap64 (t119 * a0_4)))) (wrap64 ((wrap64 (a3 - a0_3)) - (wrap64 (t120 * a0_4)))) ji24 (rd_F l1 (ji24)) (rd_F l1 (wrap64 ((ji24) + 1))) (rd_F l1 (wrap64 ((ji24) + a0_1))) (rd_F l1 (wrap64 ((wrap64 ((ji24) + a0_1)) + 1))) false a0_0 a0_1 a0_2 a0_3 a0_4))) else (spec_At.j1 kj4 l1 (wrap64 ((wrap64 (a2 - a0_2)) - (wrap64 (t119 * a0_4)))) (wrap64 ((wrap64 (a3 - a0_3)) - (wrap64 (t120 * a0_4)))) ji24 (rd_F l1 (ji24)) (rd_F l1 (wrap64 ((ji24) + 1))) (rd_F l1 (wrap64 ((ji24) + a0_1))) (rd_F l1 (wrap64 ((wrap64 ((ji24) + a0_1)) + 1))) false a0_0 a0_1 a0_2 a0_3 a0_4))) else (spec_At.j1 kj4 l1 (wrap64 ((wrap64 (a2 - a0_2)) - (wrap64 (t119 * a0_4)))) (wrap64 ((wrap64 (a3 - a0_3)) - (wrap64 (t120 * a0_4)))) ji24 (rd_F l1 (ji24)) (rd_F l1 (wrap64 ((ji24) + 1))) (rd_F l1 (wrap64 ((ji24) + a0_1))) (rd_F l1 (wrap64 ((wrap64 ((ji24) + a0_1)) + 1))) false a0_0 a0_1 a0_2 a0_3 a0_4))) else (none)) else (none)) else (none)) else (none)) else (none)) else (none)) else (none)) else (none)) = some r := by first | (rw [hji24] at H; exact H) | (simp only [hji24] at H ⊢; exact H)
    (try rw [hji24] at A22)
    (try rw [hji24] at A23)
    have hji24w : (IntKind.i64.wrap ((wrap64 (t119 * a0_1)) + t120)) = ji24 := (i64_w _).trans hji24
    by_cases c25 : 0 ≤ (ji24)
    ·rw [if_pos c25] at H
     have c25b0 : decide (0 ≤ (ji24)) = true := decide_eq_true c25
     clear c25
     by_cases c26 : (ji24) < (l1.length : Int)
     ·rw [if_pos c26] at H
      have c26b0 : decide ((ji24) < (l1.length : Int)) = true := decide_eq_true c26
      clear c26
      obtain ⟨ji27, hji27⟩ : ∃ j_ : Int, (wrap64 ((ji24) + 1)) = j_ := ⟨_, rfl⟩
      replace H : (if 0 ≤ (ji27) then (if (ji27) < (l1.length : Int) then (if 0 ≤ (wrap64 ((ji24) + a0_1)) then (if (wrap64 ((ji24) + a0_1)) < (l1.length : Int) then (if 0 ≤ (wrap64 ((wrap64 ((ji24) + a0_1)) + 1)) then (if (wrap64 ((wrap64 ((ji24) + a0_1)) + 1)) < (l1.length : Int) then ((spec_Known.f (rd_F l1 (ji24))).bind fun t125 => (if t125 = true then ((spec_Known.f (rd_F l1 (ji27))).bind fun t126 => (if t126 = true then ((spec_Known.f (rd_F l1 (wrap64 ((ji24) + a0_1)))).bind fun t127 => (if t127 = true then ((spec_Known.f (rd_F l1 (wrap64 ((wrap64 ((ji24) + a0_1)) + 1)))).bind fun t128 => (spec_At.j1 kj4 l1 (wrap64 ((wrap64 (a2 - a0_2)) - (wrap64 (t119 * a0_4)))) (wrap64 ((wrap64 (a3 - a0_3)) - (wrap64 (t120 * a0_4)))) ji24 (rd_F l1 (ji24)) (rd_F l1 (ji27)) (rd_F l1 (wrap64 ((ji24) + a0_1))) (rd_F l1 (wrap64 ((wrap64 ((ji24) + a0_1)) + 1))) t128 a0_0 a0_1 a0_2 a0_3 a0_4)) else (spec_At.j1 kj4 l1 (wrap64 ((wrap64 (a2 - a0_2)) - (wrap64 (t119 * a0_4)))) (wrap64 ((wrap64 (a3 - a0_3)) - (wrap64 (t120 * a0_4)))) ji24 (rd_F l1 (ji24)) (rd_F l1 (ji27)) (rd_F l1 (wrap64 ((ji24) + a0_1))) (rd_F l1 (wrap64 ((wrap64 ((ji24) + a0_1)) + 1))) false a0_0 a0_1 a0_2 a0_3 a0_4))) else (spec_At.j1 kj4 l1 (wrap64 ((wrap64 (a2 - a0_2)) - (wrap64 (t119 * a0_4)))) (wrap64 ((wrap64 (a3 - a0_3)) - (wrap64 (t120 * a0_4)))) ji24 (rd_F l1 (ji24)) (rd_F l1 (ji27)) (rd_F l1 (wrap64 ((ji24) + a0_1))) (rd_F l1 (wrap64 ((wrap64 ((ji24) + a0_1)) + 1))) false a0_0 a0_1 a0_2 a0_3 a0_4))) else (spec_At.j1 kj4 l1 (wrap64 ((wrap64 (a2 - a0_2)) - (wrap64 (t119 * a0_4)))) (wrap64 ((wrap64 (a3 - a0_3)) - (wrap64 (t120 * a0_4)))) ji24 (rd_F l1 (ji24)) (rd_F l1 (ji27)) (rd_F l1 (wrap64 ((ji24) + a0_1))) (rd_F l1 (wrap64 ((wrap64 ((ji24) + a0_1)) + 1))) false a0_0 a0_1 a0_2 a0_3 a0_4))) else (none)) else (none)) else (none)) else (none)) else (none)) else (none)) = some r := by first | (rw [hji27] at H; exact H) | (simp only [hji27] at H ⊢; exact H)
      (try rw [hji27] at A22)
      (try rw [hji27] at A23)
      have hji27w : (IntKind.i64.wrap ((ji24) + 1)) = ji27 := (i64_w _).trans hji27
      by_cases c28 : 0 ≤ (ji27)
      ·rw [if_pos c28] at H
       have c28b0 : decide (0 ≤ (ji27)) = true := decide_eq_true c28
       clear c28
       by_cases c29 : (ji27) < (l1.length : Int)
       ·rw [if_pos c29] at H
        have c29b0 : decide ((ji27) < (l1.length : Int)) = true := decide_eq_true c29
        clear c29
        obtain ⟨ji30, hji30⟩ : ∃ j_ : Int, (wrap64 ((ji24) + a0_1)) = j_ := ⟨_, rfl⟩
        replace H : (if 0 ≤ (ji30) then (if (ji30) < (l1.length : Int) then (if 0 ≤ (wrap64 ((ji30) + 1)) then (if (wrap64 ((ji30) + 1)) < (l1.length : Int) then ((spec_Known.f (rd_F l1 (ji24))).bind fun t125 => (if t125 = true then ((spec_Known.f (rd_F l1 (ji27))).bind fun t126 => (if t126 = true then ((spec_Known.f (rd_F l1 (ji30))).bind fun t127 => (if t127 = true then ((spec_Known.f (rd_F l1 (wrap64 ((ji30) + 1)))).bind fun t128 => (spec_At.j1 kj4 l1 (wrap64 ((wrap64 (a2 - a0_2)) - (wrap64 (t119 * a0_4)))) (wrap64 ((wrap64 (a3 - a0_3)) - (wrap64 (t120 * a0_4)))) ji24 (rd_F l1 (ji24)) (rd_F l1 (ji27)) (rd_F l1 (ji30)) (rd_F l1 (wrap64 ((ji30) + 1))) t128 a0_0 a0_1 a0_2 a0_3 a0_4)) else (spec_At.j1 kj4 l1 (wrap64 ((wrap64 (a2 - a0_2)) - (wrap64 (t119 * a0_4)))) (wrap64 ((wrap64 (a3 - a0_3)) - (wrap64 (t120 * a0_4)))) ji24 (rd_F l1 (ji24)) (rd_F l1 (ji27)) (rd_F l1 (ji30)) (rd_F l1 (wrap64 ((ji30) + 1))) false a0_0 a0_1 a0_2 a0_3 a0_4))) else (spec_At.j1 kj4 l1 (wrap64 ((wrap64 (a2 - a0_2)) - (wrap64 (t119 * a0_4)))) (wrap64 ((wrap64 (a3 - a0_3)) - (wrap64 (t120 * a0_4)))) ji24 (rd_F l1 (ji24)) (rd_F l1 (ji27)) (rd_F l1 (ji30)) (rd_F l1 (wrap64 ((ji30) + 1))) false a0_0 a0_1 a0_2 a0_3 a0_4))) else (spec_At.j1 kj4 l1 (wrap64 ((wrap64 (a2 - a0_2)) - (wrap64 (t119 * a0_4)))) (wrap64 ((wrap64 (a3 - a0_3)) - (wrap64 (t120 * a0_4)))) ji24 (rd_F l1 (ji24)) (rd_F l1 (ji27)) (rd_F l1 (ji30)) (rd_F l1 (wrap64 ((ji30) + 1))) false a0_0 a0_1 a0_2 a0_3 a0_4))) else (none)) else (none)) else (none)) else (none)) = some r := by first | (rw [hji30] at H; exact H) | (simp only [hji30] at H ⊢; exact H)
        (try rw [hji30] at A22)
        (try rw [hji30] at A23)
        have hji30w : (IntKind.i64.wrap ((ji24) + a0_1)) = ji30 := (i64_w _).trans hji30
        by_cases c31 : 0 ≤ (ji30)
        ·rw [if_pos c31] at H
         have c31b0 : decide (0 ≤ (ji30)) = true := decide_eq_true c31
         clear c31
         by_cases c32 : (ji30) < (l1.length : Int)
         ·rw [if_pos c32] at H
          have c32b0 : decide ((ji30) < (l1.length : Int)) = true := decide_eq_true c32
          clear c32
          obtain ⟨ji33, hji33⟩ : ∃ j_ : Int, (wrap64 ((ji30) + 1)) = j_ := ⟨_, rfl⟩
          replace H : (if 0 ≤ (ji33) then (if (ji33) < (l1.length : Int) then ((spec_Known.f (rd_F l1 (ji24))).bind fun t125 => (if t125 = true then ((spec_Known.f (rd_F l1 (ji27))).bind fun t126 => (if t126 = true then ((spec_Known.f (rd_F l1 (ji30))).bind fun t127 => (if t127 = true then ((spec_Known.f (rd_F l1 (ji33))).bind fun t128 => (spec_At.j1 kj4 l1 (wrap64 ((wrap64 (a2 - a0_2)) - (wrap64 (t119 * a0_4)))) (wrap64 ((wrap64 (a3 - a0_3)) - (wrap64 (t120 * a0_4)))) ji24 (rd_F l1 (ji24)) (rd_F l1 (ji27)) (rd_F l1 (ji30)) (rd_F l1 (ji33)) t128 a0_0 a0_1 a0_2 a0_3 a0_4)) else (spec_At.j1 kj4 l1 (wrap64 ((wrap64 (a2 - a0_2)) - (wrap64 (t119 * a0_4)))) (wrap64 ((wrap64 (a3 - a0_3)) - (wrap64 (t120 * a0_4)))) ji24 (rd_F l1 (ji24)) (rd_F l1 (ji27)) (rd_F l1 (ji30)) (rd_F l1 (ji33)) false a0_0 a0_1 a0_2 a0_3 a0_4))) else (spec_At.j1 kj4 l1 (wrap64 ((wrap64 (a2 - a0_2)) - (wrap64 (t119 * a0_4)))) (wrap64 ((wrap64 (a3 - a0_3)) - (wrap64 (t120 * a0_4)))) ji24 (rd_F l1 (ji24)) (rd_F l1 (ji27)) (rd_F l1 (ji30)) (rd_F l1 (ji33)) false a0_0 a0_1 a0_2 a0_3 a0_4))) else (spec_At.j1 kj4 l1 (wrap64 ((wrap64 (a2 - a0_2)) - (wrap64 (t119 * a0_4)))) (wrap64 ((wrap64 (a3 - a0_3)) - (wrap64 (t120 * a0_4)))) ji24 (rd_F l1 (ji24)) (rd_F l1 (ji27)) (rd_F l1 (ji30)) (rd_F l1 (ji33)) false a0_0 a0_1 a0_2 a0_3 a0_4))) else (none)) else (none)) = some r := by first | (rw [hji33] at H; exact H) | (simp only [hji33] at H ⊢; exact H)
          (try rw [hji33] at A22)
          (try rw [hji33] at A23)
          have hji33w : (IntKind.i64.wrap ((ji30) + 1)) = ji33 := (i64_w _).trans hji33
          by_cases c34 : 0 ≤ (ji33)
          ·rw [if_pos c34] at H
           have c34b0 : decide (0 ≤ (ji33)) = true := decide_eq_true c34
           clear c34
           by_cases c35 : (ji33) < (l1.length : Int)
           ·rw [if_pos c35] at H
            have c35b0 : decide ((ji33) < (l1.length : Int)) = true := decide_eq_true c35
            clear c35
            have HC36 := Aside0.mk H
            clear H
            have hcz37_0 : wc.cell? ⟨gb113, 0, none⟩ = some (.int .i64 a0_0) := (blk_cell BK113.out 0).trans rfl
            have hcz37_1 : wc.cell? ⟨gb113, 1, none⟩ = some (.int .i64 a0_1) := (blk_cell BK113.out 1).trans rfl
            have hcz37_2 : wc.cell? ⟨gb113, 2, none⟩ = some (.int .i64 a0_2) := (blk_cell BK113.out 2).trans rfl
            have hcz37_3 : wc.cell? ⟨gb113, 3, none⟩ = some (.int .i64 a0_3) := (blk_cell BK113.out 3).trans rfl
            have hcz37_4 : wc.cell? ⟨gb113, 4, none⟩ = some (.int .i64 a0_4) := (blk_cell BK113.out 4).trans rfl
            have hfz37_0 := blk_frozen BK113.out 0
            have hfz37_1 := blk_frozen BK113.out 1
            have hfz37_2 := blk_frozen BK113.out 2
            have hfz37_3 := blk_frozen BK113.out 3
            have hfz37_4 := blk_frozen BK113.out 4
            go_upto_region 12 with (first | ((with_reducible refine gate_callee (f := 48) rfl ?_); refine goesL_ (some 67) rfl rfl Try.func48 (by kernel_rfl) rfl #[.int .i64 a0_2, .int .i64 a0_4, .int .i64 a0_0, .int .i64 a2] rfl (by (try simp only [List.map_toArray, List.map_cons, List.map_nil]); first | done | rfl | (simp only [List.length_drop, List.length_take]; rfl)) ?_; (with_reducible refine (spec_l11Cell.calls kj4 a0_2 a0_4 a0_0 a2 t119 _ A22.out).mono ?_); rintro e w' ⟨rfl, ⟨nd, rfl⟩⟩; refine ⟨_, rfl, ?_⟩) | ((with_reducible refine gate_callee (f := 48) rfl ?_); refine goesL_ (some 75) rfl rfl Try.func48 (by kernel_rfl) rfl #[.int .i64 a0_3, .int .i64 a0_4, .int .i64 a0_1, .int .i64 a3] rfl (by (try simp only [List.map_toArray, List.map_cons, List.map_nil]); first | done | rfl | (simp only [List.length_drop, List.length_take]; rfl)) ?_; (with_reducible refine (spec_l11Cell.calls kj4 a0_3 a0_4 a0_1 a3 t120 _ A23.out).mono ?_); rintro e w' ⟨rfl, ⟨nd, rfl⟩⟩; refine ⟨_, rfl, ?_⟩; have p121 : 0 ≤ ((ji24) : Int) := of_decide_eq_true (by first | (with_reducible assumption) | assumption); have q121 : (ji24) < (l1.length : Int) := of_decide_eq_true (by first | (with_reducible assumption) | assumption); obtain ⟨ad121, pf121_0, e121, hx121_0⟩ := at_F HR1.out (ji24) p121 q121; cases e121; replace hx121_0 := (HB.out.cell (World.block_lt_of_cell? w _ hx121_0)).trans hx121_0; replace p121 := eq_true p121; replace q121 := eq_true q121; have p122 : 0 ≤ ((ji27) : Int) := of_decide_eq_true (by first | (with_reducible assumption) | assumption); have q122 : (ji27) < (l1.length : Int) := of_decide_eq_true (by first | (with_reducible assumption) | assumption); obtain ⟨ad122, pf122_0, e122, hx122_0⟩ := at_F HR1.out (ji27) p122 q122; obtain rfl : ad121 = ad122 := (by injection e122); replace hx122_0 := (HB.out.cell (World.block_lt_of_cell? w _ hx122_0)).trans hx122_0; replace p122 := eq_true p122; replace q122 := eq_true q122; have p123 : 0 ≤ ((ji30) : Int) := of_decide_eq_true (by first | (with_reducible assumption) | assumption); have q123 : (ji30) < (l1.length : Int) := of_decide_eq_true (by first | (with_reducible assumption) | assumption); obtain ⟨ad123, pf123_0, e123, hx123_0⟩ := at_F HR1.out (ji30) p123 q123; obtain rfl : ad121 = ad123 := (by injection e123); replace hx123_0 := (HB.out.cell (World.block_lt_of_cell? w _ hx123_0)).trans hx123_0; replace p123 := eq_true p123; replace q123 := eq_true q123; have p124 : 0 ≤ ((ji33) : Int) := of_decide_eq_true (by first | (with_reducible assumption) | assumption); have q124 : (ji33) < (l1.length : Int) := of_decide_eq_true (by first | (with_reducible assumption) | assumption); obtain ⟨ad124, pf124_0, e124, hx124_0⟩ := at_F HR1.out (ji33) p124 q124; obtain rfl : ad121 = ad124 := (by injection e124); replace hx124_0 := (HB.out.cell (World.block_lt_of_cell? w _ hx124_0)).trans hx124_0; replace p124 := eq_true p124; replace q124 := eq_true q124))
            (try simp only [Act.put, sqA, sqZ, sqS])
            go_cut [137] (fun v137 wc => ∃ (kq : Nat) (x137_35 : Bool), v137 = .bool x137_35 ∧ Aside0 (spec_At.j1 kq l1 (wrap64 ((wrap64 (a2 - a0_2)) - (wrap64 (t119 * a0_4)))) (wrap64 ((wrap64 (a3 - a0_3)) - (wrap64 (t120 * a0_4)))) ji24 (rd_F l1 (ji24)) (rd_F l1 (ji27)) (rd_F l1 (ji30)) (rd_F l1 (ji33)) x137_35 a0_0 a0_1 a0_2 a0_3 a0_4 = some r) ∧ Aside0 (kq ≤ kj4) ∧ Aside0 (wc.heap[gb113]? = some (.cells #[.int .i64 a0_0, .int .i64 a0_1, .int .i64 a0_2, .int .i64 a0_3, .int .i64 a0_4] 43 (0, 0))) ∧ Aside0 (Below w.heap.size w wc))
            case first =>
             have H := HC36.out
             clear HC36
             replace H := Option.bind_eq_some_iff.mp H
             obtain ⟨t125, A380, H⟩ := H
             replace H : (if t125 = true then ((spec_Known.f (rd_F l1 (ji27))).bind fun t126 => (if t126 = true then ((spec_Known.f (rd_F l1 (ji30))).bind fun t127 => (if t127 = true then ((spec_Known.f (rd_F l1 (ji33))).bind fun t128 => (spec_At.j1 kj4 l1 (wrap64 ((wrap64 (a2 - a0_2)) - (wrap64 (t119 * a0_4)))) (wrap64 ((wrap64 (a3 - a0_3)) - (wrap64 (t120 * a0_4)))) ji24 (rd_F l1 (ji24)) (rd_F l1 (ji27)) (rd_F l1 (ji30)) (rd_F l1 (ji33)) t128 a0_0 a0_1 a0_2 a0_3 a0_4)) else (spec_At.j1 kj4 l1 (wrap64 ((wrap64 (a2 - a0_2)) - (wrap64 (t119 * a0_4)))) (wrap64 ((wrap64 (a3 - a0_3)) - (wrap64 (t120 * a0_4)))) ji24 (rd_F l1 (ji24)) (rd_F l1 (ji27)) (rd_F l1 (ji30)) (rd_F l1 (ji33)) false a0_0 a0_1 a0_2 a0_3 a0_4))) else (spec_At.j1 kj4 l1 (wrap64 ((wrap64 (a2 - a0_2)) - (wrap64 (t119 * a0_4)))) (wrap64 ((wrap64 (a3 - a0_3)) - (wrap64 (t120 * a0_4)))) ji24 (rd_F l1 (ji24)) (rd_F l1 (ji27)) (rd_F l1 (ji30)) (rd_F l1 (ji33)) false a0_0 a0_1 a0_2 a0_3 a0_4))) else (spec_At.j1 kj4 l1 (wrap64 ((wrap64 (a2 - a0_2)) - (wrap64 (t119 * a0_4)))) (wrap64 ((wrap64 (a3 - a0_3)) - (wrap64 (t120 * a0_4)))) ji24 (rd_F l1 (ji24)) (rd_F l1 (ji27)) (rd_F l1 (ji30)) (rd_F l1 (ji33)) false a0_0 a0_1 a0_2 a0_3 a0_4)) = some r := H
             have A38 := Aside0.mk A380
             clear A380
             by_cases c39 : t125 = true
             ·subst c39
              have H1 : ((spec_Known.f (rd_F l1 (ji27))).bind fun t126 => (if t126 = true then ((spec_Known.f (rd_F l1 (ji30))).bind fun t127 => (if t127 = true then ((spec_Known.f (rd_F l1 (ji33))).bind fun t128 => (spec_At.j1 kj4 l1 (wrap64 ((wrap64 (a2 - a0_2)) - (wrap64 (t119 * a0_4)))) (wrap64 ((wrap64 (a3 - a0_3)) - (wrap64 (t120 * a0_4)))) ji24 (rd_F l1 (ji24)) (rd_F l1 (ji27)) (rd_F l1 (ji30)) (rd_F l1 (ji33)) t128 a0_0 a0_1 a0_2 a0_3 a0_4)) else (spec_At.j1 kj4 l1 (wrap64 ((wrap64 (a2 - a0_2)) - (wrap64 (t119 * a0_4)))) (wrap64 ((wrap64 (a3 - a0_3)) - (wrap64 (t120 * a0_4)))) ji24 (rd_F l1 (ji24)) (rd_F l1 (ji27)) (rd_F l1 (ji30)) (rd_F l1 (ji33)) false a0_0 a0_1 a0_2 a0_3 a0_4))) else (spec_At.j1 kj4 l1 (wrap64 ((wrap64 (a2 - a0_2)) - (wrap64 (t119 * a0_4)))) (wrap64 ((wrap64 (a3 - a0_3)) - (wrap64 (t120 * a0_4)))) ji24 (rd_F l1 (ji24)) (rd_F l1 (ji27)) (rd_F l1 (ji30)) (rd_F l1 (ji33)) false a0_0 a0_1 a0_2 a0_3 a0_4))) = some r := by rw [if_pos rfl] at H; exact H
              clear H
              have H := H1
              clear H1
              replace H := Option.bind_eq_some_iff.mp H
              obtain ⟨t126, A400, H⟩ := H
              replace H : (if t126 = true then ((spec_Known.f (rd_F l1 (ji30))).bind fun t127 => (if t127 = true then ((spec_Known.f (rd_F l1 (ji33))).bind fun t128 => (spec_At.j1 kj4 l1 (wrap64 ((wrap64 (a2 - a0_2)) - (wrap64 (t119 * a0_4)))) (wrap64 ((wrap64 (a3 - a0_3)) - (wrap64 (t120 * a0_4)))) ji24 (rd_F l1 (ji24)) (rd_F l1 (ji27)) (rd_F l1 (ji30)) (rd_F l1 (ji33)) t128 a0_0 a0_1 a0_2 a0_3 a0_4)) else (spec_At.j1 kj4 l1 (wrap64 ((wrap64 (a2 - a0_2)) - (wrap64 (t119 * a0_4)))) (wrap64 ((wrap64 (a3 - a0_3)) - (wrap64 (t120 * a0_4)))) ji24 (rd_F l1 (ji24)) (rd_F l1 (ji27)) (rd_F l1 (ji30)) (rd_F l1 (ji33)) false a0_0 a0_1 a0_2 a0_3 a0_4))) else (spec_At.j1 kj4 l1 (wrap64 ((wrap64 (a2 - a0_2)) - (wrap64 (t119 * a0_4)))) (wrap64 ((wrap64 (a3 - a0_3)) - (wrap64 (t120 * a0_4)))) ji24 (rd_F l1 (ji24)) (rd_F l1 (ji27)) (rd_F l1 (ji30)) (rd_F l1 (ji33)) false a0_0 a0_1 a0_2 a0_3 a0_4)) = some r := H
              have A40 := Aside0.mk A400
              clear A400
              by_cases c41 : t126 = true
              ·subst c41
               have H1 : ((spec_Known.f (rd_F l1 (ji30))).bind fun t127 => (if t127 = true then ((spec_Known.f (rd_F l1 (ji33))).bind fun t128 => (spec_At.j1 kj4 l1 (wrap64 ((wrap64 (a2 - a0_2)) - (wrap64 (t119 * a0_4)))) (wrap64 ((wrap64 (a3 - a0_3)) - (wrap64 (t120 * a0_4)))) ji24 (rd_F l1 (ji24)) (rd_F l1 (ji27)) (rd_F l1 (ji30)) (rd_F l1 (ji33)) t128 a0_0 a0_1 a0_2 a0_3 a0_4)) else (spec_At.j1 kj4 l1 (wrap64 ((wrap64 (a2 - a0_2)) - (wrap64 (t119 * a0_4)))) (wrap64 ((wrap64 (a3 - a0_3)) - (wrap64 (t120 * a0_4)))) ji24 (rd_F l1 (ji24)) (rd_F l1 (ji27)) (rd_F l1 (ji30)) (rd_F l1 (ji33)) false a0_0 a0_1 a0_2 a0_3 a0_4))) = some r := by rw [if_pos rfl] at H; exact H
               clear H
               have H := H1
               clear H1
               replace H := Option.bind_eq_some_iff.mp H
               obtain ⟨t127, A420, H⟩ := H
               replace H : (if t127 = true then ((spec_Known.f (rd_F l1 (ji33))).bind fun t128 => (spec_At.j1 kj4 l1 (wrap64 ((wrap64 (a2 - a0_2)) - (wrap64 (t119 * a0_4)))) (wrap64 ((wrap64 (a3 - a0_3)) - (wrap64 (t120 * a0_4)))) ji24 (rd_F l1 (ji24)) (rd_F l1 (ji27)) (rd_F l1 (ji30)) (rd_F l1 (ji33)) t128 a0_0 a0_1 a0_2 a0_3 a0_4)) else (spec_At.j1 kj4 l1 (wrap64 ((wrap64 (a2 - a0_2)) - (wrap64 (t119 * a0_4)))) (wrap64 ((wrap64 (a3 - a0_3)) - (wrap64 (t120 * a0_4)))) ji24 (rd_F l1 (ji24)) (rd_F l1 (ji27)) (rd_F l1 (ji30)) (rd_F l1 (ji33)) false a0_0 a0_1 a0_2 a0_3 a0_4)) = some r := H
               have A42 := Aside0.mk A420
               clear A420
               by_cases c43 : t127 = true
               ·subst c43
                have H1 : ((spec_Known.f (rd_F l1 (ji33))).bind fun t128 => (spec_At.j1 kj4 l1 (wrap64 ((wrap64 (a2 - a0_2)) - (wrap64 (t119 * a0_4)))) (wrap64 ((wrap64 (a3 - a0_3)) - (wrap64 (t120 * a0_4)))) ji24 (rd_F l1 (ji24)) (rd_F l1 (ji27)) (rd_F l1 (ji30)) (rd_F l1 (ji33)) t128 a0_0 a0_1 a0_2 a0_3 a0_4)) = some r := by rw [if_pos rfl] at H; exact H
                clear H
                have H := H1
                clear H1
                replace H := Option.bind_eq_some_iff.mp H
                obtain ⟨t128, A440, H⟩ := H
                replace H : (spec_At.j1 kj4 l1 (wrap64 ((wrap64 (a2 - a0_2)) - (wrap64 (t119 * a0_4)))) (wrap64 ((wrap64 (a3 - a0_3)) - (wrap64 (t120 * a0_4)))) ji24 (rd_F l1 (ji24)) (rd_F l1 (ji27)) (rd_F l1 (ji30)) (rd_F l1 (ji33)) t128 a0_0 a0_1 a0_2 a0_3 a0_4) = some r := H
                have A44 := Aside0.mk A440
                clear A440
                have H' := Aside0.mk H
                clear H
                go_wp2_with (first | ((with_reducible refine gate_callee (f := 49) rfl ?_); refine goesL_ (some 125) rfl rfl Try.func49 (by kernel_rfl) rfl #[.float .f64 (un pf121_0 (rd_F l1 (ji24)))] rfl (by (try simp only [List.map_toArray, List.map_cons, List.map_nil]); first | done | (simp only [hji24]; rfl) | rfl | (simp only [List.length_drop, List.length_take]; rfl)) ?_; (with_reducible refine (spec_Known.calls pf121_0 (rd_F l1 (ji24)) true _ A38.out).mono ?_); rintro e w' ⟨rfl, ⟨nd, rfl⟩⟩; refine ⟨_, rfl, ?_⟩) | (go_at_call 49; (with_reducible refine (spec_Known.calls pf122_0 (rd_F l1 (ji27)) true _ A40.out).mono ?_); rintro e w' ⟨rfl, ⟨nd, rfl⟩⟩) | (go_at_call 49; (with_reducible refine (spec_Known.calls pf123_0 (rd_F l1 (ji30)) true _ A42.out).mono ?_); rintro e w' ⟨rfl, ⟨nd, rfl⟩⟩) | (go_at_call 49; (with_reducible refine (spec_Known.calls pf124_0 (rd_F l1 (ji33)) t128 _ A44.out).mono ?_); rintro e w' ⟨rfl, ⟨nd, rfl⟩⟩))
                go_meet
                case rel => exact ⟨_, (t128), (by first | rfl | (simp; done) | (simp [*]; done)), H', ⟨by have := HJ4.out; first | omega | exact Nat.le_refl _⟩, ⟨by (with_reducible repeat (first | refine blk_drewN ?_ _ | refine blk_drew ?_ | refine blk_alloc ?_ _)); exact BK113.out⟩, ⟨by repeat (first | (with_reducible first | exact HB.out | apply below_alloc | apply pw_below_drewN | apply below_drew1 | refine below_set ?_ GE113.out) | exact HB.out)⟩⟩
               ·replace c43 := Bool.eq_false_iff.mpr c43
                subst c43
                have H1 : (spec_At.j1 kj4 l1 (wrap64 ((wrap64 (a2 - a0_2)) - (wrap64 (t119 * a0_4)))) (wrap64 ((wrap64 (a3 - a0_3)) - (wrap64 (t120 * a0_4)))) ji24 (rd_F l1 (ji24)) (rd_F l1 (ji27)) (rd_F l1 (ji30)) (rd_F l1 (ji33)) false a0_0 a0_1 a0_2 a0_3 a0_4) = some r := by rw [if_neg (show ¬ (false = true) by decide)] at H; exact H
                clear H
                have H := H1
                clear H1
                have H' := Aside0.mk H
                clear H
                go_wp2_with (first | ((with_reducible refine gate_callee (f := 49) rfl ?_); refine goesL_ (some 125) rfl rfl Try.func49 (by kernel_rfl) rfl #[.float .f64 (un pf121_0 (rd_F l1 (ji24)))] rfl (by (try simp only [List.map_toArray, List.map_cons, List.map_nil]); first | done | (simp only [hji24]; rfl) | rfl | (simp only [List.length_drop, List.length_take]; rfl)) ?_; (with_reducible refine (spec_Known.calls pf121_0 (rd_F l1 (ji24)) true _ A38.out).mono ?_); rintro e w' ⟨rfl, ⟨nd, rfl⟩⟩; refine ⟨_, rfl, ?_⟩) | (go_at_call 49; (with_reducible refine (spec_Known.calls pf122_0 (rd_F l1 (ji27)) true _ A40.out).mono ?_); rintro e w' ⟨rfl, ⟨nd, rfl⟩⟩) | (go_at_call 49; (with_reducible refine (spec_Known.calls pf123_0 (rd_F l1 (ji30)) false _ A42.out).mono ?_); rintro e w' ⟨rfl, ⟨nd, rfl⟩⟩))
                go_meet
                case rel => exact ⟨_, (false), (by first | rfl | (simp; done) | (simp [*]; done)), H', ⟨by have := HJ4.out; first | omega | exact Nat.le_refl _⟩, ⟨by (with_reducible repeat (first | refine blk_drewN ?_ _ | refine blk_drew ?_ | refine blk_alloc ?_ _)); exact BK113.out⟩, ⟨by repeat (first | (with_reducible first | exact HB.out | apply below_alloc | apply pw_below_drewN | apply below_drew1 | refine below_set ?_ GE113.out) | exact HB.out)⟩⟩
              ·replace c41 := Bool.eq_false_iff.mpr c41
               subst c41
               have H1 : (spec_At.j1 kj4 l1 (wrap64 ((wrap64 (a2 - a0_2)) - (wrap64 (t119 * a0_4)))) (wrap64 ((wrap64 (a3 - a0_3)) - (wrap64 (t120 * a0_4)))) ji24 (rd_F l1 (ji24)) (rd_F l1 (ji27)) (rd_F l1 (ji30)) (rd_F l1 (ji33)) false a0_0 a0_1 a0_2 a0_3 a0_4) = some r := by rw [if_neg (show ¬ (false = true) by decide)] at H; exact H
               clear H
               have H := H1
               clear H1
               have H' := Aside0.mk H
               clear H
               go_wp2_with (first | ((with_reducible refine gate_callee (f := 49) rfl ?_); refine goesL_ (some 125) rfl rfl Try.func49 (by kernel_rfl) rfl #[.float .f64 (un pf121_0 (rd_F l1 (ji24)))] rfl (by (try simp only [List.map_toArray, List.map_cons, List.map_nil]); first | done | (simp only [hji24]; rfl) | rfl | (simp only [List.length_drop, List.length_take]; rfl)) ?_; (with_reducible refine (spec_Known.calls pf121_0 (rd_F l1 (ji24)) true _ A38.out).mono ?_); rintro e w' ⟨rfl, ⟨nd, rfl⟩⟩; refine ⟨_, rfl, ?_⟩) | (go_at_call 49; (with_reducible refine (spec_Known.calls pf122_0 (rd_F l1 (ji27)) false _ A40.out).mono ?_); rintro e w' ⟨rfl, ⟨nd, rfl⟩⟩))
               go_meet
               case rel => exact ⟨_, (false), (by first | rfl | (simp; done) | (simp [*]; done)), H', ⟨by have := HJ4.out; first | omega | exact Nat.le_refl _⟩, ⟨by (with_reducible repeat (first | refine blk_drewN ?_ _ | refine blk_drew ?_ | refine blk_alloc ?_ _)); exact BK113.out⟩, ⟨by repeat (first | (with_reducible first | exact HB.out | apply below_alloc | apply pw_below_drewN | apply below_drew1 | refine below_set ?_ GE113.out) | exact HB.out)⟩⟩
             ·replace c39 := Bool.eq_false_iff.mpr c39
              subst c39
              have H1 : (spec_At.j1 kj4 l1 (wrap64 ((wrap64 (a2 - a0_2)) - (wrap64 (t119 * a0_4)))) (wrap64 ((wrap64 (a3 - a0_3)) - (wrap64 (t120 * a0_4)))) ji24 (rd_F l1 (ji24)) (rd_F l1 (ji27)) (rd_F l1 (ji30)) (rd_F l1 (ji33)) false a0_0 a0_1 a0_2 a0_3 a0_4) = some r := by rw [if_neg (show ¬ (false = true) by decide)] at H; exact H
              clear H
              have H := H1
              clear H1
              have H' := Aside0.mk H
              clear H
              go_wp2_with (first | ((with_reducible refine gate_callee (f := 49) rfl ?_); refine goesL_ (some 125) rfl rfl Try.func49 (by kernel_rfl) rfl #[.float .f64 (un pf121_0 (rd_F l1 (ji24)))] rfl (by (try simp only [List.map_toArray, List.map_cons, List.map_nil]); first | done | (simp only [hji24]; rfl) | rfl | (simp only [List.length_drop, List.length_take]; rfl)) ?_; (with_reducible refine (spec_Known.calls pf121_0 (rd_F l1 (ji24)) false _ A38.out).mono ?_); rintro e w' ⟨rfl, ⟨nd, rfl⟩⟩; refine ⟨_, rfl, ?_⟩))
              go_meet
              case rel => exact ⟨_, (false), (by first | rfl | (simp; done) | (simp [*]; done)), H', ⟨by have := HJ4.out; first | omega | exact Nat.le_refl _⟩, ⟨by (with_reducible repeat (first | refine blk_drewN ?_ _ | refine blk_drew ?_ | refine blk_alloc ?_ _)); exact BK113.out⟩, ⟨by repeat (first | (with_reducible first | exact HB.out | apply below_alloc | apply pw_below_drewN | apply below_drew1 | refine below_set ?_ GE113.out) | exact HB.out)⟩⟩
            case rest =>
             clear HC36
             try clear c1
             try clear p1
             try clear q1
             try clear hx1
             try clear c2
             try clear p2
             try clear c3
             try clear c4
             try clear p6
             try clear c8
             try clear c10
             try clear p12
             try clear q12
             try clear hx12
             try clear c20
             try clear c23
             try clear c25
             try clear c25b0
             try clear c26
             try clear c26b0
             try clear c28
             try clear c28b0
             try clear c29
             try clear c29b0
             try clear c31
             try clear c31b0
             try clear c32
             try clear c32b0
             try clear c34
             try clear c34b0
             try clear c35
             try clear c35b0
             try clear c39
             try clear c41
             try clear c42
             try clear c43
             try clear hcz12_0
             try clear hcz12_1
             try clear hcz12_2
             try clear hcz12_3
             try clear hcz12_4
             try clear hcz14_0
             try clear hcz14_1
             try clear hcz14_2
             try clear hcz14_3
             try clear hcz14_4
             try clear hcz15_0
             try clear hcz15_1
             try clear hcz15_2
             try clear hcz15_3
             try clear hcz15_4
             try clear hcz17_0
             try clear hcz17_1
             try clear hcz17_2
             try clear hcz17_3
             try clear hcz17_4
             try clear hcz18_0
             try clear hcz18_1
             try clear hcz18_2
             try clear hcz18_3
             try clear hcz18_4
             try clear hcz37_0
             try clear hcz37_1
             try clear hcz37_2
             try clear hcz37_3
             try clear hcz37_4
             try clear hfz12_0
             try clear hfz12_1
             try clear hfz12_2
             try clear hfz12_3
             try clear hfz12_4
             try clear hfz14_0
             try clear hfz14_1
             try clear hfz14_2
             try clear hfz14_3
             try clear hfz14_4
             try clear hfz15_0
             try clear hfz15_1
             try clear hfz15_2
             try clear hfz15_3
             try clear hfz15_4
             try clear hfz17_0
             try clear hfz17_1
             try clear hfz17_2
             try clear hfz17_3
             try clear hfz17_4
             try clear hfz18_0
             try clear hfz18_1
             try clear hfz18_2
             try clear hfz18_3
             try clear hfz18_4
             try clear hfz37_0
             try clear hfz37_1
             try clear hfz37_2
             try clear hfz37_3
             try clear hfz37_4
             try clear hx121_0
             try clear hx122_0
             try clear hx123_0
             try clear hx124_0
             try clear p121
             try clear p122
             try clear p123
             try clear p124
             try clear p2
             try clear p6
             try clear q121
             try clear q122
             try clear q123
             try clear q124
             obtain ⟨kq, x137_35, rfl, HA, HJ35, BK113, HB⟩ := hcut
             cases kq with
             | zero => exact absurd HA.out (by simp [spec_At.j1])
             | succ kj35 =>
              have H := HA.out
              clear HA
              simp only [spec_At.j1] at H
              by_cases c45 : x137_35 = true
              ·subst c45
               have H1 : (some (fadd (fadd (rd_F l1 (ji24)) (fmul (fsub (rd_F l1 (ji27)) (rd_F l1 (ji24))) (fdiv (foi (wrap64 ((wrap64 (a3 - a0_3)) - (wrap64 (t120 * a0_4))))) (foi a0_4)))) (fmul (fsub (fadd (rd_F l1 (ji30)) (fmul (fsub (rd_F l1 (ji33)) (rd_F l1 (ji30))) (fdiv (foi (wrap64 ((wrap64 (a3 - a0_3)) - (wrap64 (t120 * a0_4))))) (foi a0_4)))) (fadd (rd_F l1 (ji24)) (fmul (fsub (rd_F l1 (ji27)) (rd_F l1 (ji24))) (fdiv (foi (wrap64 ((wrap64 (a3 - a0_3)) - (wrap64 (t120 * a0_4))))) (foi a0_4))))) (fdiv (foi (wrap64 ((wrap64 (a2 - a0_2)) - (wrap64 (t119 * a0_4))))) (foi a0_4))))) = some r := by rw [if_pos rfl] at H; exact H
               clear H
               have H := H1
               clear H1
               obtain rfl := Option.some.inj H
               have hcz46_0 : wc.cell? ⟨gb113, 0, none⟩ = some (.int .i64 a0_0) := (blk_cell BK113.out 0).trans rfl
               have hcz46_1 : wc.cell? ⟨gb113, 1, none⟩ = some (.int .i64 a0_1) := (blk_cell BK113.out 1).trans rfl
               have hcz46_2 : wc.cell? ⟨gb113, 2, none⟩ = some (.int .i64 a0_2) := (blk_cell BK113.out 2).trans rfl
               have hcz46_3 : wc.cell? ⟨gb113, 3, none⟩ = some (.int .i64 a0_3) := (blk_cell BK113.out 3).trans rfl
               have hcz46_4 : wc.cell? ⟨gb113, 4, none⟩ = some (.int .i64 a0_4) := (blk_cell BK113.out 4).trans rfl
               have hfz46_0 := blk_frozen BK113.out 0
               have hfz46_1 := blk_frozen BK113.out 1
               have hfz46_2 := blk_frozen BK113.out 2
               have hfz46_3 := blk_frozen BK113.out 3
               have hfz46_4 := blk_frozen BK113.out 4
               go_wp2_with (first | ((with_reducible refine gate_dst (N := 143) rfl ?_); refine fop_eventB rfl (N := 143) rfl (op := .quo) rfl rfl 0 (foi (wrap64 ((wrap64 (a3 - a0_3)) - (wrap64 (t120 * a0_4))))) 0 (foi a0_4) rfl rfl ?hA ?hB fdiv rfl ?_; (case hA => first | rfl | exact (un_zero _).symm); (case hB => first | rfl | exact (un_zero _).symm); intro pb129 w47 hb; have n0_ := Aside0.mk (blk_below (g := gb113) (o := .cells #[.int .i64 a0_0, .int .i64 a0_1, .int .i64 a0_2, .int .i64 a0_3, .int .i64 a0_4] 43 (0, 0)) (by (with_reducible repeat (first | refine blk_drewN ?_ _ | refine blk_drew ?_ | refine blk_alloc ?_ _)); exact BK113.out) hb); have n1_ := Aside0.mk (below_step (by repeat (first | (with_reducible first | exact HB.out | apply below_alloc | apply pw_below_drewN | apply below_drew1 | refine below_set ?_ GE113.out) | exact HB.out)) hb); clear BK113; clear HB; have BK113 := n0_; have HB := n1_; clear n0_ n1_; (try clear hb); have hcz48_0 : w47.cell? ⟨gb113, 0, none⟩ = some (.int .i64 a0_0) := (blk_cell BK113.out 0).trans rfl; have hcz48_1 : w47.cell? ⟨gb113, 1, none⟩ = some (.int .i64 a0_1) := (blk_cell BK113.out 1).trans rfl; have hcz48_2 : w47.cell? ⟨gb113, 2, none⟩ = some (.int .i64 a0_2) := (blk_cell BK113.out 2).trans rfl; have hcz48_3 : w47.cell? ⟨gb113, 3, none⟩ = some (.int .i64 a0_3) := (blk_cell BK113.out 3).trans rfl; have hcz48_4 : w47.cell? ⟨gb113, 4, none⟩ = some (.int .i64 a0_4) := (blk_cell BK113.out 4).trans rfl; have hfz48_0 := blk_frozen BK113.out 0; have hfz48_1 := blk_frozen BK113.out 1; have hfz48_2 := blk_frozen BK113.out 2; have hfz48_3 := blk_frozen BK113.out 3; have hfz48_4 := blk_frozen BK113.out 4) | ((with_reducible refine gate_dst (N := 149) rfl ?_); refine fop_eventB rfl (N := 149) rfl (op := .quo) rfl rfl 0 (foi (wrap64 ((wrap64 (a2 - a0_2)) - (wrap64 (t119 * a0_4))))) 0 (foi a0_4) rfl rfl ?hA ?hB fdiv rfl ?_; (case hA => first | rfl | exact (un_zero _).symm); (case hB => first | rfl | exact (un_zero _).symm); intro pb130 w49 hb; have n0_ := Aside0.mk (blk_below (g := gb113) (o := .cells #[.int .i64 a0_0, .int .i64 a0_1, .int .i64 a0_2, .int .i64 a0_3, .int .i64 a0_4] 43 (0, 0)) (by (with_reducible repeat (first | refine blk_drewN ?_ _ | refine blk_drew ?_ | refine blk_alloc ?_ _)); exact BK113.out) hb); have n1_ := Aside0.mk (below_step (by repeat (first | (with_reducible first | exact HB.out | apply below_alloc | apply pw_below_drewN | apply below_drew1 | refine below_set ?_ GE113.out) | exact HB.out)) hb); clear BK113; clear HB; have BK113 := n0_; have HB := n1_; clear n0_ n1_; (try clear hb)) | ((with_reducible refine gate_dst (N := 153) rfl ?_); refine fop_eventB rfl (N := 153) rfl (op := .sub) rfl rfl pf122_0 (rd_F l1 (ji27)) pf121_0 (rd_F l1 (ji24)) rfl rfl ?hA ?hB fsub rfl ?_; (case hA => first | rfl | exact (un_zero _).symm); (case hB => first | rfl | exact (un_zero _).symm); intro pb131 w50 hb; have n0_ := Aside0.mk (blk_below (g := gb113) (o := .cells #[.int .i64 a0_0, .int .i64 a0_1, .int .i64 a0_2, .int .i64 a0_3, .int .i64 a0_4] 43 (0, 0)) (by (with_reducible repeat (first | refine blk_drewN ?_ _ | refine blk_drew ?_ | refine blk_alloc ?_ _)); exact BK113.out) hb); have n1_ := Aside0.mk (below_step (by repeat (first | (with_reducible first | exact HB.out | apply below_alloc | apply pw_below_drewN | apply below_drew1 | refine below_set ?_ GE113.out) | exact HB.out)) hb); clear BK113; clear HB; have BK113 := n0_; have HB := n1_; clear n0_ n1_; (try clear hb)) | ((with_reducible refine gate_dst (N := 155) rfl ?_); refine fop_eventB rfl (N := 155) rfl (op := .mul) rfl rfl pb131 (fsub (rd_F l1 (ji27)) (rd_F l1 (ji24))) pb129 (fdiv (foi (wrap64 ((wrap64 (a3 - a0_3)) - (wrap64 (t120 * a0_4))))) (foi a0_4)) rfl rfl ?hA ?hB fmul rfl ?_; (case hA => first | rfl | exact (un_zero _).symm); (case hB => first | rfl | exact (un_zero _).symm); intro pb132 w51 hb; have n0_ := Aside0.mk (blk_below (g := gb113) (o := .cells #[.int .i64 a0_0, .int .i64 a0_1, .int .i64 a0_2, .int .i64 a0_3, .int .i64 a0_4] 43 (0, 0)) (by (with_reducible repeat (first | refine blk_drewN ?_ _ | refine blk_drew ?_ | refine blk_alloc ?_ _)); exact BK113.out) hb); have n1_ := Aside0.mk (below_step (by repeat (first | (with_reducible first | exact HB.out | apply below_alloc | apply pw_below_drewN | apply below_drew1 | refine below_set ?_ GE113.out) | exact HB.out)) hb); clear BK113; clear HB; have BK113 := n0_; have HB := n1_; clear n0_ n1_; (try clear hb)) | ((with_reducible refine gate_dst (N := 156) rfl ?_); refine fop_eventB rfl (N := 156) rfl (op := .add) rfl rfl pf121_0 (rd_F l1 (ji24)) pb132 (fmul (fsub (rd_F l1 (ji27)) (rd_F l1 (ji24))) (fdiv (foi (wrap64 ((wrap64 (a3 - a0_3)) - (wrap64 (t120 * a0_4))))) (foi a0_4))) rfl rfl ?hA ?hB fadd rfl ?_; (case hA => first | rfl | exact (un_zero _).symm); (case hB => first | rfl | exact (un_zero _).symm); intro pb133 w52 hb; have n0_ := Aside0.mk (blk_below (g := gb113) (o := .cells #[.int .i64 a0_0, .int .i64 a0_1, .int .i64 a0_2, .int .i64 a0_3, .int .i64 a0_4] 43 (0, 0)) (by (with_reducible repeat (first | refine blk_drewN ?_ _ | refine blk_drew ?_ | refine blk_alloc ?_ _)); exact BK113.out) hb); have n1_ := Aside0.mk (below_step (by repeat (first | (with_reducible first | exact HB.out | apply below_alloc | apply pw_below_drewN | apply below_drew1 | refine below_set ?_ GE113.out) | exact HB.out)) hb); clear BK113; clear HB; have BK113 := n0_; have HB := n1_; clear n0_ n1_; (try clear hb)) | ((with_reducible refine gate_dst (N := 160) rfl ?_); refine fop_eventB rfl (N := 160) rfl (op := .sub) rfl rfl pf124_0 (rd_F l1 (ji33)) pf123_0 (rd_F l1 (ji30)) rfl rfl ?hA ?hB fsub rfl ?_; (case hA => first | rfl | exact (un_zero _).symm); (case hB => first | rfl | exact (un_zero _).symm); intro pb134 w53 hb; have n0_ := Aside0.mk (blk_below (g := gb113) (o := .cells #[.int .i64 a0_0, .int .i64 a0_1, .int .i64 a0_2, .int .i64 a0_3, .int .i64 a0_4] 43 (0, 0)) (by (with_reducible repeat (first | refine blk_drewN ?_ _ | refine blk_drew ?_ | refine blk_alloc ?_ _)); exact BK113.out) hb); have n1_ := Aside0.mk (below_step (by repeat (first | (with_reducible first | exact HB.out | apply below_alloc | apply pw_below_drewN | apply below_drew1 | refine below_set ?_ GE113.out) | exact HB.out)) hb); clear BK113; clear HB; have BK113 := n0_; have HB := n1_; clear n0_ n1_; (try clear hb)) | ((with_reducible refine gate_dst (N := 162) rfl ?_); refine fop_eventB rfl (N := 162) rfl (op := .mul) rfl rfl pb134 (fsub (rd_F l1 (ji33)) (rd_F l1 (ji30))) pb129 (fdiv (foi (wrap64 ((wrap64 (a3 - a0_3)) - (wrap64 (t120 * a0_4))))) (foi a0_4)) rfl rfl ?hA ?hB fmul rfl ?_; (case hA => first | rfl | exact (un_zero _).symm); (case hB => first | rfl | exact (un_zero _).symm); intro pb135 w54 hb; have n0_ := Aside0.mk (blk_below (g := gb113) (o := .cells #[.int .i64 a0_0, .int .i64 a0_1, .int .i64 a0_2, .int .i64 a0_3, .int .i64 a0_4] 43 (0, 0)) (by (with_reducible repeat (first | refine blk_drewN ?_ _ | refine blk_drew ?_ | refine blk_alloc ?_ _)); exact BK113.out) hb); have n1_ := Aside0.mk (below_step (by repeat (first | (with_reducible first | exact HB.out | apply below_alloc | apply pw_below_drewN | apply below_drew1 | refine below_set ?_ GE113.out) | exact HB.out)) hb); clear BK113; clear HB; have BK113 := n0_; have HB := n1_; clear n0_ n1_; (try clear hb)) | ((with_reducible refine gate_dst (N := 163) rfl ?_); refine fop_eventB rfl (N := 163) rfl (op := .add) rfl rfl pf123_0 (rd_F l1 (ji30)) pb135 (fmul (fsub (rd_F l1 (ji33)) (rd_F l1 (ji30))) (fdiv (foi (wrap64 ((wrap64 (a3 - a0_3)) - (wrap64 (t120 * a0_4))))) (foi a0_4))) rfl rfl ?hA ?hB fadd rfl ?_; (case hA => first | rfl | exact (un_zero _).symm); (case hB => first | rfl | exact (un_zero _).symm); intro pb136 w55 hb; have n0_ := Aside0.mk (blk_below (g := gb113) (o := .cells #[.int .i64 a0_0, .int .i64 a0_1, .int .i64 a0_2, .int .i64 a0_3, .int .i64 a0_4] 43 (0, 0)) (by (with_reducible repeat (first | refine blk_drewN ?_ _ | refine blk_drew ?_ | refine blk_alloc ?_ _)); exact BK113.out) hb); have n1_ := Aside0.mk (below_step (by repeat (first | (with_reducible first | exact HB.out | apply below_alloc | apply pw_below_drewN | apply below_drew1 | refine below_set ?_ GE113.out) | exact HB.out)) hb); clear BK113; clear HB; have BK113 := n0_; have HB := n1_; clear n0_ n1_; (try clear hb)) | ((with_reducible refine gate_dst (N := 167) rfl ?_); refine fop_eventB rfl (N := 167) rfl (op := .sub) rfl rfl pb136 (fadd (rd_F l1 (ji30)) (fmul (fsub (rd_F l1 (ji33)) (rd_F l1 (ji30))) (fdiv (foi (wrap64 ((wrap64 (a3 - a0_3)) - (wrap64 (t120 * a0_4))))) (foi a0_4)))) pb133 (fadd (rd_F l1 (ji24)) (fmul (fsub (rd_F l1 (ji27)) (rd_F l1 (ji24))) (fdiv (foi (wrap64 ((wrap64 (a3 - a0_3)) - (wrap64 (t120 * a0_4))))) (foi a0_4)))) rfl rfl ?hA ?hB fsub rfl ?_; (case hA => first | rfl | exact (un_zero _).symm); (case hB => first | rfl | exact (un_zero _).symm); intro pb137 w56 hb; have n0_ := Aside0.mk (blk_below (g := gb113) (o := .cells #[.int .i64 a0_0, .int .i64 a0_1, .int .i64 a0_2, .int .i64 a0_3, .int .i64 a0_4] 43 (0, 0)) (by (with_reducible repeat (first | refine blk_drewN ?_ _ | refine blk_drew ?_ | refine blk_alloc ?_ _)); exact BK113.out) hb); have n1_ := Aside0.mk (below_step (by repeat (first | (with_reducible first | exact HB.out | apply below_alloc | apply pw_below_drewN | apply below_drew1 | refine below_set ?_ GE113.out) | exact HB.out)) hb); clear BK113; clear HB; have BK113 := n0_; have HB := n1_; clear n0_ n1_; (try clear hb)) | ((with_reducible refine gate_dst (N := 169) rfl ?_); refine fop_eventB rfl (N := 169) rfl (op := .mul) rfl rfl pb137 (fsub (fadd (rd_F l1 (ji30)) (fmul (fsub (rd_F l1 (ji33)) (rd_F l1 (ji30))) (fdiv (foi (wrap64 ((wrap64 (a3 - a0_3)) - (wrap64 (t120 * a0_4))))) (foi a0_4)))) (fadd (rd_F l1 (ji24)) (fmul (fsub (rd_F l1 (ji27)) (rd_F l1 (ji24))) (fdiv (foi (wrap64 ((wrap64 (a3 - a0_3)) - (wrap64 (t120 * a0_4))))) (foi a0_4))))) pb130 (fdiv (foi (wrap64 ((wrap64 (a2 - a0_2)) - (wrap64 (t119 * a0_4))))) (foi a0_4)) rfl rfl ?hA ?hB fmul rfl ?_; (case hA => first | rfl | exact (un_zero _).symm); (case hB => first | rfl | exact (un_zero _).symm); intro pb138 w57 hb; have n0_ := Aside0.mk (blk_below (g := gb113) (o := .cells #[.int .i64 a0_0, .int .i64 a0_1, .int .i64 a0_2, .int .i64 a0_3, .int .i64 a0_4] 43 (0, 0)) (by (with_reducible repeat (first | refine blk_drewN ?_ _ | refine blk_drew ?_ | refine blk_alloc ?_ _)); exact BK113.out) hb); have n1_ := Aside0.mk (below_step (by repeat (first | (with_reducible first | exact HB.out | apply below_alloc | apply pw_below_drewN | apply below_drew1 | refine below_set ?_ GE113.out) | exact HB.out)) hb); clear BK113; clear HB; have BK113 := n0_; have HB := n1_; clear n0_ n1_; (try clear hb)) | ((with_reducible refine gate_dst (N := 170) rfl ?_); refine fop_eventB rfl (N := 170) rfl (op := .add) rfl rfl pb133 (fadd (rd_F l1 (ji24)) (fmul (fsub (rd_F l1 (ji27)) (rd_F l1 (ji24))) (fdiv (foi (wrap64 ((wrap64 (a3 - a0_3)) - (wrap64 (t120 * a0_4))))) (foi a0_4)))) pb138 (fmul (fsub (fadd (rd_F l1 (ji30)) (fmul (fsub (rd_F l1 (ji33)) (rd_F l1 (ji30))) (fdiv (foi (wrap64 ((wrap64 (a3 - a0_3)) - (wrap64 (t120 * a0_4))))) (foi a0_4)))) (fadd (rd_F l1 (ji24)) (fmul (fsub (rd_F l1 (ji27)) (rd_F l1 (ji24))) (fdiv (foi (wrap64 ((wrap64 (a3 - a0_3)) - (wrap64 (t120 * a0_4))))) (foi a0_4))))) (fdiv (foi (wrap64 ((wrap64 (a2 - a0_2)) - (wrap64 (t119 * a0_4))))) (foi a0_4))) rfl rfl ?hA ?hB fadd rfl ?_; (case hA => first | rfl | exact (un_zero _).symm); (case hB => first | rfl | exact (un_zero _).symm); intro pb139 w58 hb; have n0_ := Aside0.mk (blk_below (g := gb113) (o := .cells #[.int .i64 a0_0, .int .i64 a0_1, .int .i64 a0_2, .int .i64 a0_3, .int .i64 a0_4] 43 (0, 0)) (by (with_reducible repeat (first | refine blk_drewN ?_ _ | refine blk_drew ?_ | refine blk_alloc ?_ _)); exact BK113.out) hb); have n1_ := Aside0.mk (below_step (by repeat (first | (with_reducible first | exact HB.out | apply below_alloc | apply pw_below_drewN | apply below_drew1 | refine below_set ?_ GE113.out) | exact HB.out)) hb); clear BK113; clear HB; have BK113 := n0_; have HB := n1_; clear n0_ n1_; (try clear hb)))
               go_ret
               first | (exact ⟨pb139, by first | rfl | (simp [errW_none, errW_some] <;> rfl) | (simp only [← hji24, ← hji27, ← hji30, ← hji33]; first | rfl | (simp [errW_none, errW_some] <;> rfl)) | (simp [*, errW_none, errW_some] <;> rfl), by repeat (first | (with_reducible first | exact HB.out | apply below_alloc | apply pw_below_drewN | apply below_drew1 | refine below_set ?_ GE113.out) | exact HB.out)⟩) | (exact ⟨⟨pb139, by first | rfl | (simp [errW_none, errW_some] <;> rfl) | (simp only [← hji24, ← hji27, ← hji30, ← hji33]; first | rfl | (simp [errW_none, errW_some] <;> rfl)) | (simp [*, errW_none, errW_some] <;> rfl)⟩, by repeat (first | (with_reducible first | exact HB.out | apply below_alloc | apply pw_below_drewN | apply below_drew1 | refine below_set ?_ GE113.out) | exact HB.out)⟩)
              ·replace c45 := Bool.eq_false_iff.mpr c45
               subst c45
               have H1 : (if (wrap64 (2 * (wrap64 ((wrap64 (a2 - a0_2)) - (wrap64 (t119 * a0_4)))))) > a0_4 then (if (wrap64 (2 * (wrap64 ((wrap64 (a3 - a0_3)) - (wrap64 (t120 * a0_4)))))) > a0_4 then (if 0 ≤ (wrap64 ((wrap64 (ji24 + a0_1)) + 1)) then (if (wrap64 ((wrap64 (ji24 + a0_1)) + 1)) < (l1.length : Int) then (some (rd_F l1 (wrap64 ((wrap64 (ji24 + a0_1)) + 1)))) else (none)) else (none)) else (if 0 ≤ (wrap64 (ji24 + a0_1)) then (if (wrap64 (ji24 + a0_1)) < (l1.length : Int) then (some (rd_F l1 (wrap64 (ji24 + a0_1)))) else (none)) else (none))) else (if (wrap64 (2 * (wrap64 ((wrap64 (a3 - a0_3)) - (wrap64 (t120 * a0_4)))))) > a0_4 then (if 0 ≤ (wrap64 (ji24 + 1)) then (if (wrap64 (ji24 + 1)) < (l1.length : Int) then (some (rd_F l1 (wrap64 (ji24 + 1)))) else (none)) else (none)) else (if 0 ≤ ji24 then (if ji24 < (l1.length : Int) then (some (rd_F l1 ji24)) else (none)) else (none)))) = some r := by rw [if_neg (show ¬ (false = true) by decide)] at H; exact H
               clear H
               have H := H1
               clear H1
               by_cases c59 : (wrap64 (2 * (wrap64 ((wrap64 (a2 - a0_2)) - (wrap64 (t119 * a0_4)))))) > a0_4
               ·rw [if_pos c59] at H
                have c59b0 : decide (a0_4 < (wrap64 (2 * (wrap64 ((wrap64 (a2 - a0_2)) - (wrap64 (t119 * a0_4))))))) = true := decide_eq_true c59
                clear c59
                by_cases c60 : (wrap64 (2 * (wrap64 ((wrap64 (a3 - a0_3)) - (wrap64 (t120 * a0_4)))))) > a0_4
                ·rw [if_pos c60] at H
                 have c60b0 : decide (a0_4 < (wrap64 (2 * (wrap64 ((wrap64 (a3 - a0_3)) - (wrap64 (t120 * a0_4))))))) = true := decide_eq_true c60
                 clear c60
                 have hd_ : (wrap64 ((wrap64 (ji24 + a0_1)) + 1)) = ji33 := by simp only [hji24, hji27, hji30, hji33]
                 replace H : (if 0 ≤ (ji33) then (if (ji33) < (l1.length : Int) then (some (rd_F l1 (ji33))) else (none)) else (none)) = some r := by first | (rw [hd_] at H; exact H) | (simp only [hd_] at H ⊢; exact H)
                 clear hd_
                 by_cases c61 : 0 ≤ (ji33)
                 ·rw [if_pos c61] at H
                  have c61b0 : decide (0 ≤ (ji33)) = true := decide_eq_true c61
                  clear c61
                  by_cases c62 : (ji33) < (l1.length : Int)
                  ·rw [if_pos c62] at H
                   have c62b0 : decide ((ji33) < (l1.length : Int)) = true := decide_eq_true c62
                   clear c62
                   obtain rfl := Option.some.inj H
                   have hcz63_0 : wc.cell? ⟨gb113, 0, none⟩ = some (.int .i64 a0_0) := (blk_cell BK113.out 0).trans rfl
                   have hcz63_1 : wc.cell? ⟨gb113, 1, none⟩ = some (.int .i64 a0_1) := (blk_cell BK113.out 1).trans rfl
                   have hcz63_2 : wc.cell? ⟨gb113, 2, none⟩ = some (.int .i64 a0_2) := (blk_cell BK113.out 2).trans rfl
                   have hcz63_3 : wc.cell? ⟨gb113, 3, none⟩ = some (.int .i64 a0_3) := (blk_cell BK113.out 3).trans rfl
                   have hcz63_4 : wc.cell? ⟨gb113, 4, none⟩ = some (.int .i64 a0_4) := (blk_cell BK113.out 4).trans rfl
                   have hfz63_0 := blk_frozen BK113.out 0
                   have hfz63_1 := blk_frozen BK113.out 1
                   have hfz63_2 := blk_frozen BK113.out 2
                   have hfz63_3 := blk_frozen BK113.out 3
                   have hfz63_4 := blk_frozen BK113.out 4
                   have p140 : 0 ≤ ((ji33) : Int) := of_decide_eq_true (by first | (with_reducible assumption) | assumption)
                   have q140 : (ji33) < (l1.length : Int) := of_decide_eq_true (by first | (with_reducible assumption) | assumption)
                   obtain ⟨ad140, pf140_0, e140, hx140_0⟩ := at_F HR1.out (ji33) p140 q140
                   obtain rfl : ad121 = ad140 := (by injection e140)
                   replace hx140_0 := (HB.out.cell (World.block_lt_of_cell? w _ hx140_0)).trans hx140_0
                   replace p140 := eq_true p140
                   replace q140 := eq_true q140
                   go_wp2
                   go_ret
                   first | (exact ⟨pf140_0, by first | rfl | (simp [errW_none, errW_some] <;> rfl) | (simp only [← hji24, ← hji27, ← hji30, ← hji33]; first | rfl | (simp [errW_none, errW_some] <;> rfl)) | (simp [*, errW_none, errW_some] <;> rfl), by repeat (first | (with_reducible first | exact HB.out | apply below_alloc | apply pw_below_drewN | apply below_drew1 | refine below_set ?_ GE113.out) | exact HB.out)⟩) | (exact ⟨⟨pf140_0, by first | rfl | (simp [errW_none, errW_some] <;> rfl) | (simp only [← hji24, ← hji27, ← hji30, ← hji33]; first | rfl | (simp [errW_none, errW_some] <;> rfl)) | (simp [*, errW_none, errW_some] <;> rfl)⟩, by repeat (first | (with_reducible first | exact HB.out | apply below_alloc | apply pw_below_drewN | apply below_drew1 | refine below_set ?_ GE113.out) | exact HB.out)⟩)
                  ·rw [if_neg c62] at H
                   exact absurd H (by simp)
                 ·rw [if_neg c61] at H
                  exact absurd H (by simp)
                ·rw [if_neg c60] at H
                 have c60b0 : decide (a0_4 < (wrap64 (2 * (wrap64 ((wrap64 (a3 - a0_3)) - (wrap64 (t120 * a0_4))))))) = false := decide_eq_false c60
                 clear c60
                 have hd_ : (wrap64 (ji24 + a0_1)) = ji30 := by simp only [hji24, hji27, hji30, hji33]
                 replace H : (if 0 ≤ (ji30) then (if (ji30) < (l1.length : Int) then (some (rd_F l1 (ji30))) else (none)) else (none)) = some r := by first | (rw [hd_] at H; exact H) | (simp only [hd_] at H ⊢; exact H)
                 clear hd_
                 by_cases c64 : 0 ≤ (ji30)
                 ·rw [if_pos c64] at H
                  have c64b0 : decide (0 ≤ (ji30)) = true := decide_eq_true c64
                  clear c64
                  by_cases c65 : (ji30) < (l1.length : Int)
                  ·rw [if_pos c65] at H
                   have c65b0 : decide ((ji30) < (l1.length : Int)) = true := decide_eq_true c65
                   clear c65
                   obtain rfl := Option.some.inj H
                   have hcz66_0 : wc.cell? ⟨gb113, 0, none⟩ = some (.int .i64 a0_0) := (blk_cell BK113.out 0).trans rfl
                   have hcz66_1 : wc.cell? ⟨gb113, 1, none⟩ = some (.int .i64 a0_1) := (blk_cell BK113.out 1).trans rfl
                   have hcz66_2 : wc.cell? ⟨gb113, 2, none⟩ = some (.int .i64 a0_2) := (blk_cell BK113.out 2).trans rfl
                   have hcz66_3 : wc.cell? ⟨gb113, 3, none⟩ = some (.int .i64 a0_3) := (blk_cell BK113.out 3).trans rfl
                   have hcz66_4 : wc.cell? ⟨gb113, 4, none⟩ = some (.int .i64 a0_4) := (blk_cell BK113.out 4).trans rfl
                   have hfz66_0 := blk_frozen BK113.out 0
                   have hfz66_1 := blk_frozen BK113.out 1
                   have hfz66_2 := blk_frozen BK113.out 2
                   have hfz66_3 := blk_frozen BK113.out 3
                   have hfz66_4 := blk_frozen BK113.out 4
                   have p141 : 0 ≤ ((ji30) : Int) := of_decide_eq_true (by first | (with_reducible assumption) | assumption)
                   have q141 : (ji30) < (l1.length : Int) := of_decide_eq_true (by first | (with_reducible assumption) | assumption)
                   obtain ⟨ad141, pf141_0, e141, hx141_0⟩ := at_F HR1.out (ji30) p141 q141
                   obtain rfl : ad121 = ad141 := (by injection e141)
                   replace hx141_0 := (HB.out.cell (World.block_lt_of_cell? w _ hx141_0)).trans hx141_0
                   replace p141 := eq_true p141
                   replace q141 := eq_true q141
                   go_wp2
                   go_ret
                   first | (exact ⟨pf141_0, by first | rfl | (simp [errW_none, errW_some] <;> rfl) | (simp only [← hji24, ← hji27, ← hji30, ← hji33]; first | rfl | (simp [errW_none, errW_some] <;> rfl)) | (simp [*, errW_none, errW_some] <;> rfl), by repeat (first | (with_reducible first | exact HB.out | apply below_alloc | apply pw_below_drewN | apply below_drew1 | refine below_set ?_ GE113.out) | exact HB.out)⟩) | (exact ⟨⟨pf141_0, by first | rfl | (simp [errW_none, errW_some] <;> rfl) | (simp only [← hji24, ← hji27, ← hji30, ← hji33]; first | rfl | (simp [errW_none, errW_some] <;> rfl)) | (simp [*, errW_none, errW_some] <;> rfl)⟩, by repeat (first | (with_reducible first | exact HB.out | apply below_alloc | apply pw_below_drewN | apply below_drew1 | refine below_set ?_ GE113.out) | exact HB.out)⟩)
                  ·rw [if_neg c65] at H
                   exact absurd H (by simp)
                 ·rw [if_neg c64] at H
                  exact absurd H (by simp)
               ·rw [if_neg c59] at H
                have c59b0 : decide (a0_4 < (wrap64 (2 * (wrap64 ((wrap64 (a2 - a0_2)) - (wrap64 (t119 * a0_4))))))) = false := decide_eq_false c59
                clear c59
                by_cases c67 : (wrap64 (2 * (wrap64 ((wrap64 (a3 - a0_3)) - (wrap64 (t120 * a0_4)))))) > a0_4
                ·rw [if_pos c67] at H
                 have c67b0 : decide (a0_4 < (wrap64 (2 * (wrap64 ((wrap64 (a3 - a0_3)) - (wrap64 (t120 * a0_4))))))) = true := decide_eq_true c67
                 clear c67
                 have hd_ : (wrap64 (ji24 + 1)) = ji27 := by simp only [hji24, hji27, hji30, hji33]
                 replace H : (if 0 ≤ (ji27) then (if (ji27) < (l1.length : Int) then (some (rd_F l1 (ji27))) else (none)) else (none)) = some r := by first | (rw [hd_] at H; exact H) | (simp only [hd_] at H ⊢; exact H)
                 clear hd_
                 by_cases c68 : 0 ≤ (ji27)
                 ·rw [if_pos c68] at H
                  have c68b0 : decide (0 ≤ (ji27)) = true := decide_eq_true c68
                  clear c68
                  by_cases c69 : (ji27) < (l1.length : Int)
                  ·rw [if_pos c69] at H
                   have c69b0 : decide ((ji27) < (l1.length : Int)) = true := decide_eq_true c69
                   clear c69
                   obtain rfl := Option.some.inj H
                   have hcz70_0 : wc.cell? ⟨gb113, 0, none⟩ = some (.int .i64 a0_0) := (blk_cell BK113.out 0).trans rfl
                   have hcz70_1 : wc.cell? ⟨gb113, 1, none⟩ = some (.int .i64 a0_1) := (blk_cell BK113.out 1).trans rfl
                   have hcz70_2 : wc.cell? ⟨gb113, 2, none⟩ = some (.int .i64 a0_2) := (blk_cell BK113.out 2).trans rfl
                   have hcz70_3 : wc.cell? ⟨gb113, 3, none⟩ = some (.int .i64 a0_3) := (blk_cell BK113.out 3).trans rfl
                   have hcz70_4 : wc.cell? ⟨gb113, 4, none⟩ = some (.int .i64 a0_4) := (blk_cell BK113.out 4).trans rfl
                   have hfz70_0 := blk_frozen BK113.out 0
                   have hfz70_1 := blk_frozen BK113.out 1
                   have hfz70_2 := blk_frozen BK113.out 2
                   have hfz70_3 := blk_frozen BK113.out 3
                   have hfz70_4 := blk_frozen BK113.out 4
                   have p142 : 0 ≤ ((ji27) : Int) := of_decide_eq_true (by first | (with_reducible assumption) | assumption)
                   have q142 : (ji27) < (l1.length : Int) := of_decide_eq_true (by first | (with_reducible assumption) | assumption)
                   obtain ⟨ad142, pf142_0, e142, hx142_0⟩ := at_F HR1.out (ji27) p142 q142
                   obtain rfl : ad121 = ad142 := (by injection e142)
                   replace hx142_0 := (HB.out.cell (World.block_lt_of_cell? w _ hx142_0)).trans hx142_0
                   replace p142 := eq_true p142
                   replace q142 := eq_true q142
                   go_wp2
                   go_ret
                   first | (exact ⟨pf142_0, by first | rfl | (simp [errW_none, errW_some] <;> rfl) | (simp only [← hji24, ← hji27, ← hji30, ← hji33]; first | rfl | (simp [errW_none, errW_some] <;> rfl)) | (simp [*, errW_none, errW_some] <;> rfl), by repeat (first | (with_reducible first | exact HB.out | apply below_alloc | apply pw_below_drewN | apply below_drew1 | refine below_set ?_ GE113.out) | exact HB.out)⟩) | (exact ⟨⟨pf142_0, by first | rfl | (simp [errW_none, errW_some] <;> rfl) | (simp only [← hji24, ← hji27, ← hji30, ← hji33]; first | rfl | (simp [errW_none, errW_some] <;> rfl)) | (simp [*, errW_none, errW_some] <;> rfl)⟩, by repeat (first | (with_reducible first | exact HB.out | apply below_alloc | apply pw_below_drewN | apply below_drew1 | refine below_set ?_ GE113.out) | exact HB.out)⟩)
                  ·rw [if_neg c69] at H
                   exact absurd H (by simp)
                 ·rw [if_neg c68] at H
                  exact absurd H (by simp)
                ·rw [if_neg c67] at H
                 have c67b0 : decide (a0_4 < (wrap64 (2 * (wrap64 ((wrap64 (a3 - a0_3)) - (wrap64 (t120 * a0_4))))))) = false := decide_eq_false c67
                 clear c67
                 by_cases c71 : 0 ≤ ji24
                 ·rw [if_pos c71] at H
                  have c71b0 : decide (0 ≤ ji24) = true := decide_eq_true c71
                  clear c71
                  by_cases c72 : ji24 < (l1.length : Int)
                  ·rw [if_pos c72] at H
                   have c72b0 : decide (ji24 < (l1.length : Int)) = true := decide_eq_true c72
                   clear c72
                   obtain rfl := Option.some.inj H
                   have hcz73_0 : wc.cell? ⟨gb113, 0, none⟩ = some (.int .i64 a0_0) := (blk_cell BK113.out 0).trans rfl
                   have hcz73_1 : wc.cell? ⟨gb113, 1, none⟩ = some (.int .i64 a0_1) := (blk_cell BK113.out 1).trans rfl
                   have hcz73_2 : wc.cell? ⟨gb113, 2, none⟩ = some (.int .i64 a0_2) := (blk_cell BK113.out 2).trans rfl
                   have hcz73_3 : wc.cell? ⟨gb113, 3, none⟩ = some (.int .i64 a0_3) := (blk_cell BK113.out 3).trans rfl
                   have hcz73_4 : wc.cell? ⟨gb113, 4, none⟩ = some (.int .i64 a0_4) := (blk_cell BK113.out 4).trans rfl
                   have hfz73_0 := blk_frozen BK113.out 0
                   have hfz73_1 := blk_frozen BK113.out 1
                   have hfz73_2 := blk_frozen BK113.out 2
                   have hfz73_3 := blk_frozen BK113.out 3
                   have hfz73_4 := blk_frozen BK113.out 4
                   have p143 : 0 ≤ (ji24 : Int) := of_decide_eq_true (by first | (with_reducible assumption) | assumption)
                   have q143 : ji24 < (l1.length : Int) := of_decide_eq_true (by first | (with_reducible assumption) | assumption)
                   obtain ⟨ad143, pf143_0, e143, hx143_0⟩ := at_F HR1.out ji24 p143 q143
                   obtain rfl : ad121 = ad143 := (by injection e143)
                   replace hx143_0 := (HB.out.cell (World.block_lt_of_cell? w _ hx143_0)).trans hx143_0
                   replace p143 := eq_true p143
                   replace q143 := eq_true q143
                   go_wp2
                   go_ret
                   first | (exact ⟨pf143_0, by first | rfl | (simp [errW_none, errW_some] <;> rfl) | (simp only [← hji24, ← hji27, ← hji30, ← hji33]; first | rfl | (simp [errW_none, errW_some] <;> rfl)) | (simp [*, errW_none, errW_some] <;> rfl), by repeat (first | (with_reducible first | exact HB.out | apply below_alloc | apply pw_below_drewN | apply below_drew1 | refine below_set ?_ GE113.out) | exact HB.out)⟩) | (exact ⟨⟨pf143_0, by first | rfl | (simp [errW_none, errW_some] <;> rfl) | (simp only [← hji24, ← hji27, ← hji30, ← hji33]; first | rfl | (simp [errW_none, errW_some] <;> rfl)) | (simp [*, errW_none, errW_some] <;> rfl)⟩, by repeat (first | (with_reducible first | exact HB.out | apply below_alloc | apply pw_below_drewN | apply below_drew1 | refine below_set ?_ GE113.out) | exact HB.out)⟩)
                  ·rw [if_neg c72] at H
                   exact absurd H (by simp)
                 ·rw [if_neg c71] at H
                  exact absurd H (by simp)
           ·rw [if_neg c35] at H
            exact absurd H (by simp)
          ·rw [if_neg c34] at H
           exact absurd H (by simp)
         ·rw [if_neg c32] at H
          exact absurd H (by simp)
        ·rw [if_neg c31] at H
         exact absurd H (by simp)
       ·rw [if_neg c29] at H
        exact absurd H (by simp)
      ·rw [if_neg c28] at H
       exact absurd H (by simp)
     ·rw [if_neg c26] at H
      exact absurd H (by simp)
    ·rw [if_neg c25] at H
     exact absurd H (by simp)

end Go.Proofs.Ytaophbkedbphnaa.Q
