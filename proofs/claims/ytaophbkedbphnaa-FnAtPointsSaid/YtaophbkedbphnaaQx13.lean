/- Plain Lean functions with the same answers as the Go functions of this seat, and a proof for each that the Go code comes to just these answers; no condition. Written by a program of this session (the kit's printer, turned). -/
import Derived.Test.YtaophbkedbphnaaQx0
import Derived.Test.YtaophbkedbphnaaQx3
import Derived.Test.YtaophbkedbphnaaQx4
import Derived.Test.YtaophbkedbphnaaQx6
import Derived.Test.YtaophbkedbphnaaQx7
import Derived.Test.YtaophbkedbphnaaQx12
namespace Go.Proofs.Ytaophbkedbphnaa.Q
open Go.RowKit Go.Proofs.YtaophbkedbphnaaW.PrintWords Go.Proofs.YtaophbkedbphnaaW.PrintLast Go.Proofs.YtaophbkedbphnaaW.PrintMore Go.Proofs.YtaophbkedbphnaaW.PrintFlt
attribute [local go_sem] cmp_lss cmp_leq cmp_gtr cmp_geq cmp_eql cmp_neq flt_l flt_r fgt_l fgt_r feq_l feq_r fne_l fne_r ord_lt ord_gt ord_eq ord_ne conv_int foi_fold run_store_flt
attribute [local go_sem] max2_int min2_int max_two min_two max_three min_three max_four min_four   -- for this text's walks alone
set_option linter.unusedVariables false
set_option linter.unusedSimpArgs false

/-! ### impl_At: function 26 -/
mutual
def impl_At.j0 : Nat → Int → Int → Bool → Int → Int → Int → Int → Int → List (Nat) → Option (Nat)
 | 0, _, _, _, _, _, _, _, _, _ => none
 | k + 1, x2, x3, x57, x120000, x120001, x120002, x120003, x120004, x121000 => if x57 = true then ((impl_nan.f).bind fun t124 => (some t124)) else (if x120004 = 0 then (none) else ((impl_At_1.f (mn (wrap64 (Int.tdiv (wrap64 (x2 - x120002)) x120004)) (wrap64 (x120000 - 2))) (mn (wrap64 (Int.tdiv (wrap64 (x3 - x120003)) x120004)) (wrap64 (x120001 - 2))) [x121000] [(⟨x120000, x120001, x120002, x120003, x120004⟩ : S43)]).bind fun t126 => ((impl_At_1.f (mn (wrap64 (Int.tdiv (wrap64 (x2 - x120002)) x120004)) (wrap64 (x120000 - 2))) (wrap64 ((mn (wrap64 (Int.tdiv (wrap64 (x3 - x120003)) x120004)) (wrap64 (x120001 - 2))) + 1)) [x121000] [(⟨x120000, x120001, x120002, x120003, x120004⟩ : S43)]).bind fun t128 => ((impl_At_1.f (wrap64 ((mn (wrap64 (Int.tdiv (wrap64 (x2 - x120002)) x120004)) (wrap64 (x120000 - 2))) + 1)) (mn (wrap64 (Int.tdiv (wrap64 (x3 - x120003)) x120004)) (wrap64 (x120001 - 2))) [x121000] [(⟨x120000, x120001, x120002, x120003, x120004⟩ : S43)]).bind fun t130 => ((impl_At_1.f (wrap64 ((mn (wrap64 (Int.tdiv (wrap64 (x2 - x120002)) x120004)) (wrap64 (x120000 - 2))) + 1)) (wrap64 ((mn (wrap64 (Int.tdiv (wrap64 (x3 - x120003)) x120004)) (wrap64 (x120001 - 2))) + 1)) [x121000] [(⟨x120000, x120001, x120002, x120003, x120004⟩ : S43)]).bind fun t132 => ((impl_Known.f t126).bind fun t134 => (if t134 = true then ((impl_Known.f t128).bind fun t135 => (if t135 = true then ((impl_Known.f t130).bind fun t136 => (if t136 = true then ((impl_Known.f t132).bind fun t137 => (impl_At.j1 k (mn (wrap64 (Int.tdiv (wrap64 (x2 - x120002)) x120004)) (wrap64 (x120000 - 2))) (mn (wrap64 (Int.tdiv (wrap64 (x3 - x120003)) x120004)) (wrap64 (x120001 - 2))) t126 t128 t130 t132 (wrap64 ((wrap64 (x2 - x120002)) - (wrap64 ((mn (wrap64 (Int.tdiv (wrap64 (x2 - x120002)) x120004)) (wrap64 (x120000 - 2))) * x120004)))) (wrap64 ((wrap64 (x3 - x120003)) - (wrap64 ((mn (wrap64 (Int.tdiv (wrap64 (x3 - x120003)) x120004)) (wrap64 (x120001 - 2))) * x120004)))) t137 x120000 x120001 x120002 x120003 x120004 x121000)) else (impl_At.j1 k (mn (wrap64 (Int.tdiv (wrap64 (x2 - x120002)) x120004)) (wrap64 (x120000 - 2))) (mn (wrap64 (Int.tdiv (wrap64 (x3 - x120003)) x120004)) (wrap64 (x120001 - 2))) t126 t128 t130 t132 (wrap64 ((wrap64 (x2 - x120002)) - (wrap64 ((mn (wrap64 (Int.tdiv (wrap64 (x2 - x120002)) x120004)) (wrap64 (x120000 - 2))) * x120004)))) (wrap64 ((wrap64 (x3 - x120003)) - (wrap64 ((mn (wrap64 (Int.tdiv (wrap64 (x3 - x120003)) x120004)) (wrap64 (x120001 - 2))) * x120004)))) false x120000 x120001 x120002 x120003 x120004 x121000))) else (impl_At.j1 k (mn (wrap64 (Int.tdiv (wrap64 (x2 - x120002)) x120004)) (wrap64 (x120000 - 2))) (mn (wrap64 (Int.tdiv (wrap64 (x3 - x120003)) x120004)) (wrap64 (x120001 - 2))) t126 t128 t130 t132 (wrap64 ((wrap64 (x2 - x120002)) - (wrap64 ((mn (wrap64 (Int.tdiv (wrap64 (x2 - x120002)) x120004)) (wrap64 (x120000 - 2))) * x120004)))) (wrap64 ((wrap64 (x3 - x120003)) - (wrap64 ((mn (wrap64 (Int.tdiv (wrap64 (x3 - x120003)) x120004)) (wrap64 (x120001 - 2))) * x120004)))) false x120000 x120001 x120002 x120003 x120004 x121000))) else (impl_At.j1 k (mn (wrap64 (Int.tdiv (wrap64 (x2 - x120002)) x120004)) (wrap64 (x120000 - 2))) (mn (wrap64 (Int.tdiv (wrap64 (x3 - x120003)) x120004)) (wrap64 (x120001 - 2))) t126 t128 t130 t132 (wrap64 ((wrap64 (x2 - x120002)) - (wrap64 ((mn (wrap64 (Int.tdiv (wrap64 (x2 - x120002)) x120004)) (wrap64 (x120000 - 2))) * x120004)))) (wrap64 ((wrap64 (x3 - x120003)) - (wrap64 ((mn (wrap64 (Int.tdiv (wrap64 (x3 - x120003)) x120004)) (wrap64 (x120001 - 2))) * x120004)))) false x120000 x120001 x120002 x120003 x120004 x121000))))))))
def impl_At.j1 : Nat → Int → Int → Nat → Nat → Nat → Nat → Int → Int → Bool → Int → Int → Int → Int → Int → List (Nat) → Option (Nat)
 | 0, _, _, _, _, _, _, _, _, _, _, _, _, _, _, _ => none
 | k + 1, x9, x10, x12, x13, x14, x15, x16, x17, x133, x120000, x120001, x120002, x120003, x120004, x121000 => if x133 = true then (some (fadd (fadd x12 (fmul (fsub x13 x12) (fdiv (foi x17) (foi x120004)))) (fmul (fsub (fadd x14 (fmul (fsub x15 x14) (fdiv (foi x17) (foi x120004)))) (fadd x12 (fmul (fsub x13 x12) (fdiv (foi x17) (foi x120004))))) (fdiv (foi x16) (foi x120004))))) else (if (wrap64 (2 * x16)) > x120004 then (if (wrap64 (2 * x17)) > x120004 then ((impl_At_1.f (wrap64 (x9 + 1)) (wrap64 (x10 + 1)) [x121000] [(⟨x120000, x120001, x120002, x120003, x120004⟩ : S43)]).bind fun t149 => (some t149)) else ((impl_At_1.f (wrap64 (x9 + 1)) x10 [x121000] [(⟨x120000, x120001, x120002, x120003, x120004⟩ : S43)]).bind fun t151 => (some t151))) else (if (wrap64 (2 * x17)) > x120004 then ((impl_At_1.f x9 (wrap64 (x10 + 1)) [x121000] [(⟨x120000, x120001, x120002, x120003, x120004⟩ : S43)]).bind fun t153 => (some t153)) else ((impl_At_1.f x9 x10 [x121000] [(⟨x120000, x120001, x120002, x120003, x120004⟩ : S43)]).bind fun t155 => (some t155))))
end
def impl_At.f (k : Nat) (a0_0 : Int) (a0_1 : Int) (a0_2 : Int) (a0_3 : Int) (a0_4 : Int) (l1 : List (Nat)) (a2 : Int) (a3 : Int) : Option (Nat) := (impl_fits.f a0_0 a0_1 a0_2 a0_3 a0_4 l1).bind fun t121 => (if t121 = true then ((impl_in.f a2 a0_2 (wrap64 (a0_2 + (wrap64 ((wrap64 (a0_0 - 1)) * a0_4))))).bind fun t122 => (if t122 = true then ((impl_in.f a3 a0_3 (wrap64 (a0_3 + (wrap64 ((wrap64 (a0_1 - 1)) * a0_4))))).bind fun t123 => (impl_At.j0 k a2 a3 (!t123) a0_0 a0_1 a0_2 a0_3 a0_4 l1)) else (impl_At.j0 k a2 a3 true a0_0 a0_1 a0_2 a0_3 a0_4 l1))) else (impl_At.j0 k a2 a3 true a0_0 a0_1 a0_2 a0_3 a0_4 l1))
theorem impl_At.mono_l : ∀ k, (∀ y0 y1 y2 y3 y4 y5 y6 y7 y8, LeO (impl_At.j0 k y0 y1 y2 y3 y4 y5 y6 y7 y8) (impl_At.j0 (k + 1) y0 y1 y2 y3 y4 y5 y6 y7 y8)) ∧ (∀ y0 y1 y2 y3 y4 y5 y6 y7 y8 y9 y10 y11 y12 y13 y14, LeO (impl_At.j1 k y0 y1 y2 y3 y4 y5 y6 y7 y8 y9 y10 y11 y12 y13 y14) (impl_At.j1 (k + 1) y0 y1 y2 y3 y4 y5 y6 y7 y8 y9 y10 y11 y12 y13 y14))
 | 0 => ⟨fun _ _ _ _ _ _ _ _ _ r h => by simp [impl_At.j0] at h, fun _ _ _ _ _ _ _ _ _ _ _ _ _ _ _ r h => by simp [impl_At.j1] at h⟩
 | k + 1 => by
  obtain ⟨ih0, ih1⟩ := impl_At.mono_l k
  refine ⟨?_, ?_⟩
  ·intro y0 y1 y2 y3 y4 y5 y6 y7 y8
   unfold impl_At.j0
   repeat' first
   | (with_reducible exact ih0 _ _ _ _ _ _ _ _ _)
   | (with_reducible exact ih1 _ _ _ _ _ _ _ _ _ _ _ _ _ _ _)
   | (with_reducible exact LeO.refl _)
   | (with_reducible exact LeO.none _)
   | (with_reducible refine LeO.ite ?_ ?_)
   | (with_reducible refine LeO.bind ?_ (fun _ => ?_))
   | exact ih0 _ _ _ _ _ _ _ _ _
   | exact ih1 _ _ _ _ _ _ _ _ _ _ _ _ _ _ _
   | exact LeO.none _
   | refine LeO.ite ?_ ?_
   | refine LeO.bind ?_ (fun _ => ?_)
  ·intro y0 y1 y2 y3 y4 y5 y6 y7 y8 y9 y10 y11 y12 y13 y14
   unfold impl_At.j1
   repeat' first
   | (with_reducible exact ih0 _ _ _ _ _ _ _ _ _)
   | (with_reducible exact ih1 _ _ _ _ _ _ _ _ _ _ _ _ _ _ _)
   | (with_reducible exact LeO.refl _)
   | (with_reducible exact LeO.none _)
   | (with_reducible refine LeO.ite ?_ ?_)
   | (with_reducible refine LeO.bind ?_ (fun _ => ?_))
   | exact ih0 _ _ _ _ _ _ _ _ _
   | exact ih1 _ _ _ _ _ _ _ _ _ _ _ _ _ _ _
   | exact LeO.none _
   | refine LeO.ite ?_ ?_
   | refine LeO.bind ?_ (fun _ => ?_)
theorem impl_At.mono : ∀ a0 a1 a2 a3 a4 a5 a6 a7 k, LeO (impl_At.f k a0 a1 a2 a3 a4 a5 a6 a7) (impl_At.f (k + 1) a0 a1 a2 a3 a4 a5 a6 a7) := by
 intro a0 a1 a2 a3 a4 a5 a6 a7 k
 obtain ⟨ih0, ih1⟩ := impl_At.mono_l k
 unfold impl_At.f
 repeat' first
   | (with_reducible exact ih0 _ _ _ _ _ _ _ _ _)
   | (with_reducible exact ih1 _ _ _ _ _ _ _ _ _ _ _ _ _ _ _)
   | (with_reducible exact LeO.refl _)
   | (with_reducible exact LeO.none _)
   | (with_reducible refine LeO.ite ?_ ?_)
   | (with_reducible refine LeO.bind ?_ (fun _ => ?_))
   | exact ih0 _ _ _ _ _ _ _ _ _
   | exact ih1 _ _ _ _ _ _ _ _ _ _ _ _ _ _ _
   | exact LeO.none _
   | refine LeO.ite ?_ ?_
   | refine LeO.bind ?_ (fun _ => ?_)
def impl_At.T3 : Bool × List (List Nat × List Nat) := (true, [([], []), ([], []), ([1], [1]), ([0, 2], [0, 2]), ([], []), ([4], [4]), ([3, 5], [3, 5]), ([], []), ([7], [7]), ([8], [8]), ([6, 9], [6, 9]), ([], []), ([], []), ([12], [12]), ([11, 13], [11, 13]), ([], []), ([15], [15]), ([14, 16], [14, 16]), ([], []), ([18], [18]), ([19], [19]), ([17, 20], [17, 20]), ([10, 0, 1, 2, 3, 4, 5, 6, 7, 8, 9, 10], [10]), ([21, 22, 0, 1, 2, 3, 4, 5, 6, 7, 8, 9, 10, 11, 12, 13, 14, 15, 16, 17, 18, 19, 20, 21, 22], [21])])
def impl_At.B3 : List Nat := [0, 0, 2, 7, 0, 16, 63, 0, 128, 384, 1023, 0, 0, 4096, 14336, 0, 32768, 129024, 0, 262144, 786432, 2095104, 2047, 8388607]
theorem impl_At.tab3 : rtab .any (opsOf Try.f26 3) = impl_At.T3 := by kernel_rfl
theorem impl_At.bits3 : waitsOk impl_At.T3.2 impl_At.B3 = true := by kernel_rfl
def impl_At.T6 : Bool × List (List Nat × List Nat) := (true, [([], []), ([], []), ([1], [1]), ([0, 2], [0, 2]), ([], []), ([], []), ([5], [5]), ([4, 6], [4, 6]), ([3, 7], [3, 7]), ([], []), ([], []), ([10], [10]), ([9, 11], [9, 11]), ([], []), ([], []), ([14], [14]), ([13, 15], [13, 15]), ([12, 16], [12, 16]), ([8, 0, 1, 2, 3, 4, 5, 6, 7, 8], [8]), ([17, 18, 0, 1, 2, 3, 4, 5, 6, 7, 8, 9, 10, 11, 12, 13, 14, 15, 16, 17, 18], [17])])
def impl_At.B6 : List Nat := [0, 0, 2, 7, 0, 0, 32, 112, 255, 0, 0, 1024, 3584, 0, 0, 16384, 57344, 130560, 511, 524287]
theorem impl_At.tab6 : rtab .any (opsOf Try.f26 6) = impl_At.T6 := by kernel_rfl
theorem impl_At.bits6 : waitsOk impl_At.T6.2 impl_At.B6 = true := by kernel_rfl
def impl_At.T8 : Bool × List (List Nat × List Nat) := (true, [([], []), ([0], [0]), ([], []), ([2], [2]), ([3], [3]), ([1, 4], [1, 4]), ([], []), ([6], [6]), ([], []), ([8], [8]), ([9], [9]), ([7, 10], [7, 10]), ([5, 0, 1, 2, 3, 4, 5], [5]), ([11, 12, 0, 1, 2, 3, 4, 5, 6, 7, 8, 9, 10, 11, 12], [11])])
def impl_At.B8 : List Nat := [0, 1, 0, 4, 12, 31, 0, 64, 0, 256, 768, 1984, 63, 8191]
theorem impl_At.tab8 : rtab .any (opsOf Try.f26 8) = impl_At.T8 := by kernel_rfl
theorem impl_At.bits8 : waitsOk impl_At.T8.2 impl_At.B8 = true := by kernel_rfl
set_option maxHeartbeats 8000000 in
set_option maxRecDepth 100000 in
theorem impl_At.calls (k : Nat) (a0_0 : Int) (a0_1 : Int) (a0_2 : Int) (a0_3 : Int) (a0_4 : Int) (A1 : Option Addr) (c1 : Nat) (l1 : List (Nat)) (a2 : Int) (a3 : Int) (r : Nat) (w : World) (hr1 : Kd.C Kd.flt w A1 l1.length l1) (hc1 : l1.length ≤ c1) (h : impl_At.f k a0_0 a0_1 a0_2 a0_3 a0_4 l1 a2 a3 = some r) :
  Calls Try.prog 26 #[.agg #[.int .i64 a0_0, .int .i64 a0_1, .int .i64 a0_2, .int .i64 a0_3, .int .i64 a0_4], .slice A1 l1.length c1, .int .i64 a2, .int .i64 a3] w fun e w' => ∃ q0_ : Nat, e = .returned (.float .f64 (un q0_ r)) ∧ Below w.heap.size w w' := by
 have hu43 := Try.underlying43
 have HR1 := Aside0.mk hr1
 have HC1 := Aside0.mk hc1
 clear hr1 hc1
 have HB := Aside0.mk (Below.refl w.heap.size w)
 have H : ((impl_fits.f a0_0 a0_1 a0_2 a0_3 a0_4 l1).bind fun t121 => (if t121 = true then ((impl_in.f a2 a0_2 (wrap64 (a0_2 + (wrap64 ((wrap64 (a0_0 - 1)) * a0_4))))).bind fun t122 => (if t122 = true then ((impl_in.f a3 a0_3 (wrap64 (a0_3 + (wrap64 ((wrap64 (a0_1 - 1)) * a0_4))))).bind fun t123 => (impl_At.j0 k a2 a3 (!t123) a0_0 a0_1 a0_2 a0_3 a0_4 l1)) else (impl_At.j0 k a2 a3 true a0_0 a0_1 a0_2 a0_3 a0_4 l1))) else (impl_At.j0 k a2 a3 true a0_0 a0_1 a0_2 a0_3 a0_4 l1))) = some r := h
 clear h
 have HC5 := Aside0.mk H
 clear H
 go_enter Try.func26, Try.ntmps26
 go_upto_region 1 with (first | ((with_reducible refine gate_dst (N := 4) rfl ?_); refine box_event ?hg (N := 4) ?hd (cs := #[.int .i64 a0_0, .int .i64 a0_1, .int .i64 a0_2, .int .i64 a0_3, .int .i64 a0_4]) (t := 43) ?hr ?_; (case hd => rfl); (case hg => rfl); (case hr => first | (go_simp; done) | (go_simp; rfl)); intro gb119 hg w6 hbox hb; have n0_ := Aside0.mk (below_step (by repeat (first | (with_reducible first | exact HB.out | apply below_alloc | apply pw_below_drewN | apply below_drew1) | exact HB.out)) hb); have n1_ := Aside0.mk (hbox); have n2_ := Aside0.mk ((by rw [hg]; exact (below_size (by repeat (first | (with_reducible first | exact HB.out | apply below_alloc | apply pw_below_drewN | apply below_drew1) | exact HB.out))) : w.heap.size ≤ gb119)); have n3_ := Aside0.mk ((by rw [hg]; exact (below_size (by repeat (first | (with_reducible first | exact HB.out | apply below_alloc | apply pw_below_drewN | apply below_drew1) | exact HB.out))) : w.heap.size ≤ gb119)); clear HB; have HB := n0_; have BK119 := n1_; have GW119 := n2_; have GE119 := n3_; clear n0_ n1_ n2_ n3_; clear hb hbox hg) | ((with_reducible refine gate_dst (N := 5) rfl ?_); refine box_event ?hg (N := 5) ?hd (cs := #[.slice A1 l1.length c1]) (t := 41) ?hr ?_; (case hd => rfl); (case hg => rfl); (case hr => first | (go_simp; done) | (go_simp; rfl)); intro gb120 hg w7 hbox hb; have n0_ := Aside0.mk (blk_below (g := gb119) (o := .cells #[.int .i64 a0_0, .int .i64 a0_1, .int .i64 a0_2, .int .i64 a0_3, .int .i64 a0_4] 43 (0, 0)) (by (with_reducible repeat (first | refine blk_drewN ?_ _ | refine blk_drew ?_ | refine blk_alloc ?_ _)); exact BK119.out) hb); have n1_ := Aside0.mk (below_step (by repeat (first | (with_reducible first | exact HB.out | apply below_alloc | apply pw_below_drewN | apply below_drew1 | refine below_set ?_ GE119.out) | exact HB.out)) hb); have n2_ := Aside0.mk (hbox); have n3_ := Aside0.mk ((by rw [hg]; exact (below_size (by repeat (first | (with_reducible first | exact HB.out | apply below_alloc | apply pw_below_drewN | apply below_drew1 | refine below_set ?_ GE119.out) | exact HB.out))) : w.heap.size ≤ gb120)); have n4_ := Aside0.mk ((by rw [hg]; exact (below_size (by repeat (first | (with_reducible first | exact HB.out | apply below_alloc | apply pw_below_drewN | apply below_drew1 | refine below_set ?_ GE119.out) | exact HB.out))) : w.heap.size ≤ gb120)); have n5_ := Aside0.mk ((by rw [hg]; exact Nat.ne_of_lt (blk_lt (g := gb119) (o := .cells #[.int .i64 a0_0, .int .i64 a0_1, .int .i64 a0_2, .int .i64 a0_3, .int .i64 a0_4] 43 (0, 0)) (by (with_reducible repeat (first | refine blk_drewN ?_ _ | refine blk_drew ?_ | refine blk_alloc ?_ _)); exact BK119.out)) : gb119 ≠ gb120)); have n6_ := Aside0.mk ((by rw [hg]; exact Nat.ne_of_gt (blk_lt (g := gb119) (o := .cells #[.int .i64 a0_0, .int .i64 a0_1, .int .i64 a0_2, .int .i64 a0_3, .int .i64 a0_4] 43 (0, 0)) (by (with_reducible repeat (first | refine blk_drewN ?_ _ | refine blk_drew ?_ | refine blk_alloc ?_ _)); exact BK119.out)) : gb120 ≠ gb119)); clear BK119; clear HB; have BK119 := n0_; have HB := n1_; have BK120 := n2_; have GW120 := n3_; have GE120 := n4_; have NB119_120 := n5_; have NB120_119 := n6_; clear n0_ n1_ n2_ n3_ n4_ n5_ n6_; clear hb hbox hg))
 (try simp only [Act.put, sqA, sqZ, sqS])
 go_cut [57] (fun v57 wc => ∃ (kq : Nat) (x57_4 : Bool), v57 = .bool x57_4 ∧ Aside0 (impl_At.j0 kq a2 a3 x57_4 a0_0 a0_1 a0_2 a0_3 a0_4 l1 = some r) ∧ Aside0 (kq ≤ k) ∧ Aside0 (wc.heap[gb119]? = some (.cells #[.int .i64 a0_0, .int .i64 a0_1, .int .i64 a0_2, .int .i64 a0_3, .int .i64 a0_4] 43 (0, 0))) ∧ Aside0 (wc.heap[gb120]? = some (.cells #[(.slice A1 l1.length c1)] 41 (0, 0))) ∧ Aside0 (Below w.heap.size w wc))
 case first =>
  have H := HC5.out
  clear HC5
  replace H := Option.bind_eq_some_iff.mp H
  obtain ⟨t121, A80, H⟩ := H
  replace H : (if t121 = true then ((impl_in.f a2 a0_2 (wrap64 (a0_2 + (wrap64 ((wrap64 (a0_0 - 1)) * a0_4))))).bind fun t122 => (if t122 = true then ((impl_in.f a3 a0_3 (wrap64 (a0_3 + (wrap64 ((wrap64 (a0_1 - 1)) * a0_4))))).bind fun t123 => (impl_At.j0 k a2 a3 (!t123) a0_0 a0_1 a0_2 a0_3 a0_4 l1)) else (impl_At.j0 k a2 a3 true a0_0 a0_1 a0_2 a0_3 a0_4 l1))) else (impl_At.j0 k a2 a3 true a0_0 a0_1 a0_2 a0_3 a0_4 l1)) = some r := H
  have A8 := Aside0.mk A80
  clear A80
  by_cases c9 : t121 = true
  ·subst c9
   have H1 : ((impl_in.f a2 a0_2 (wrap64 (a0_2 + (wrap64 ((wrap64 (a0_0 - 1)) * a0_4))))).bind fun t122 => (if t122 = true then ((impl_in.f a3 a0_3 (wrap64 (a0_3 + (wrap64 ((wrap64 (a0_1 - 1)) * a0_4))))).bind fun t123 => (impl_At.j0 k a2 a3 (!t123) a0_0 a0_1 a0_2 a0_3 a0_4 l1)) else (impl_At.j0 k a2 a3 true a0_0 a0_1 a0_2 a0_3 a0_4 l1))) = some r := by rw [if_pos rfl] at H; exact H
   clear H
   have H := H1
   clear H1
   replace H := Option.bind_eq_some_iff.mp H
   obtain ⟨t122, A100, H⟩ := H
   replace H : (if t122 = true then ((impl_in.f a3 a0_3 (wrap64 (a0_3 + (wrap64 ((wrap64 (a0_1 - 1)) * a0_4))))).bind fun t123 => (impl_At.j0 k a2 a3 (!t123) a0_0 a0_1 a0_2 a0_3 a0_4 l1)) else (impl_At.j0 k a2 a3 true a0_0 a0_1 a0_2 a0_3 a0_4 l1)) = some r := H
   have A10 := Aside0.mk A100
   clear A100
   by_cases c11 : t122 = true
   ·subst c11
    have H1 : ((impl_in.f a3 a0_3 (wrap64 (a0_3 + (wrap64 ((wrap64 (a0_1 - 1)) * a0_4))))).bind fun t123 => (impl_At.j0 k a2 a3 (!t123) a0_0 a0_1 a0_2 a0_3 a0_4 l1)) = some r := by rw [if_pos rfl] at H; exact H
    clear H
    have H := H1
    clear H1
    replace H := Option.bind_eq_some_iff.mp H
    obtain ⟨t123, A120, H⟩ := H
    replace H : (impl_At.j0 k a2 a3 (!t123) a0_0 a0_1 a0_2 a0_3 a0_4 l1) = some r := H
    have A12 := Aside0.mk A120
    clear A120
    have H' := Aside0.mk H
    clear H
    have hnb13 := NB119_120.out
    have hnc13 := NB120_119.out
    have hcz14_0 : w7.cell? ⟨gb119, 0, none⟩ = some (.int .i64 a0_0) := (blk_cell BK119.out 0).trans rfl
    have hcz14_1 : w7.cell? ⟨gb119, 1, none⟩ = some (.int .i64 a0_1) := (blk_cell BK119.out 1).trans rfl
    have hcz14_2 : w7.cell? ⟨gb119, 2, none⟩ = some (.int .i64 a0_2) := (blk_cell BK119.out 2).trans rfl
    have hcz14_3 : w7.cell? ⟨gb119, 3, none⟩ = some (.int .i64 a0_3) := (blk_cell BK119.out 3).trans rfl
    have hcz14_4 : w7.cell? ⟨gb119, 4, none⟩ = some (.int .i64 a0_4) := (blk_cell BK119.out 4).trans rfl
    have hfz14_0 := blk_frozen BK119.out 0
    have hfz14_1 := blk_frozen BK119.out 1
    have hfz14_2 := blk_frozen BK119.out 2
    have hfz14_3 := blk_frozen BK119.out 3
    have hfz14_4 := blk_frozen BK119.out 4
    have hcz15_0 : w7.cell? ⟨gb120, 0, none⟩ = some (.slice A1 l1.length c1) := (blk_cell BK120.out 0).trans rfl
    have hfz15_0 := blk_frozen BK120.out 0
    go_wp2_with (first | ((with_reducible refine gate_callee (f := 50) rfl ?_); refine goesL_ (some 24) rfl rfl Try.func50 (by kernel_rfl) rfl #[.agg #[.int .i64 a0_0, .int .i64 a0_1, .int .i64 a0_2, .int .i64 a0_3, .int .i64 a0_4], .slice A1 l1.length c1] rfl (by (try simp only [List.map_toArray, List.map_cons, List.map_nil]); first | done | rfl | (simp only [List.length_drop, List.length_take]; rfl)) ?_; (with_reducible refine (impl_fits.calls a0_0 a0_1 a0_2 a0_3 a0_4 _ _ l1 true _ ?side1 ?side2 A8.out).mono ?_); (case side1 => repeat (first | exact (Kd.C_below HR1.out HB.out) | (with_reducible refine Kd.C_alloc ?_ _) | (with_reducible refine Kd.C_drewN ?_ _) | (with_reducible refine Kd.C_drew ?_))); (case side2 => exact HC1.out); rintro e w16 ⟨rfl, hb⟩; refine ⟨_, rfl, ?_⟩; have n0_ := Aside0.mk (blk_below (g := gb119) (o := .cells #[.int .i64 a0_0, .int .i64 a0_1, .int .i64 a0_2, .int .i64 a0_3, .int .i64 a0_4] 43 (0, 0)) (by (with_reducible repeat (first | refine blk_drewN ?_ _ | refine blk_drew ?_ | refine blk_alloc ?_ _)); exact BK119.out) hb); have n1_ := Aside0.mk (blk_below (g := gb120) (o := .cells #[.slice A1 l1.length c1] 41 (0, 0)) (by (with_reducible repeat (first | refine blk_drewN ?_ _ | refine blk_drew ?_ | refine blk_alloc ?_ _)); exact BK120.out) hb); have n2_ := Aside0.mk (below_step (by repeat (first | (with_reducible first | exact HB.out | apply below_alloc | apply pw_below_drewN | apply below_drew1 | refine below_set ?_ GE119.out | refine below_set ?_ GE120.out) | exact HB.out)) hb); clear BK119; clear BK120; clear HB; have BK119 := n0_; have BK120 := n1_; have HB := n2_; clear n0_ n1_ n2_; (try clear hb); (try clear hb2); (try clear hk); (try clear hi); have hcz17_0 : w16.cell? ⟨gb119, 0, none⟩ = some (.int .i64 a0_0) := (blk_cell BK119.out 0).trans rfl; have hcz17_1 : w16.cell? ⟨gb119, 1, none⟩ = some (.int .i64 a0_1) := (blk_cell BK119.out 1).trans rfl; have hcz17_2 : w16.cell? ⟨gb119, 2, none⟩ = some (.int .i64 a0_2) := (blk_cell BK119.out 2).trans rfl; have hcz17_3 : w16.cell? ⟨gb119, 3, none⟩ = some (.int .i64 a0_3) := (blk_cell BK119.out 3).trans rfl; have hcz17_4 : w16.cell? ⟨gb119, 4, none⟩ = some (.int .i64 a0_4) := (blk_cell BK119.out 4).trans rfl; have hfz17_0 := blk_frozen BK119.out 0; have hfz17_1 := blk_frozen BK119.out 1; have hfz17_2 := blk_frozen BK119.out 2; have hfz17_3 := blk_frozen BK119.out 3; have hfz17_4 := blk_frozen BK119.out 4) | (go_at_call 51; (with_reducible refine (impl_in.calls a2 a0_2 (wrap64 (a0_2 + (wrap64 ((wrap64 (a0_0 - 1)) * a0_4)))) true _ A10.out).mono ?_); rintro e w' ⟨rfl, ⟨nd, rfl⟩⟩) | (go_at_call 51; (with_reducible refine (impl_in.calls a3 a0_3 (wrap64 (a0_3 + (wrap64 ((wrap64 (a0_1 - 1)) * a0_4)))) t123 _ A12.out).mono ?_); rintro e w' ⟨rfl, ⟨nd, rfl⟩⟩))
    go_meet
    case rel => exact ⟨_, (!t123), (by first | rfl | (simp; done) | (simp [*]; done)), H', ⟨by first | omega | exact Nat.le_refl _⟩, ⟨by (with_reducible repeat (first | refine blk_drewN ?_ _ | refine blk_drew ?_ | refine blk_alloc ?_ _)); exact BK119.out⟩, ⟨by (with_reducible repeat (first | refine blk_drewN ?_ _ | refine blk_drew ?_ | refine blk_alloc ?_ _)); exact BK120.out⟩, ⟨by repeat (first | (with_reducible first | exact HB.out | apply below_alloc | apply pw_below_drewN | apply below_drew1 | refine below_set ?_ GE119.out | refine below_set ?_ GE120.out) | exact HB.out)⟩⟩
   ·replace c11 := Bool.eq_false_iff.mpr c11
    subst c11
    have H1 : (impl_At.j0 k a2 a3 true a0_0 a0_1 a0_2 a0_3 a0_4 l1) = some r := by rw [if_neg (show ¬ (false = true) by decide)] at H; exact H
    clear H
    have H := H1
    clear H1
    have H' := Aside0.mk H
    clear H
    have hnb18 := NB119_120.out
    have hnc18 := NB120_119.out
    have hcz19_0 : w7.cell? ⟨gb119, 0, none⟩ = some (.int .i64 a0_0) := (blk_cell BK119.out 0).trans rfl
    have hcz19_1 : w7.cell? ⟨gb119, 1, none⟩ = some (.int .i64 a0_1) := (blk_cell BK119.out 1).trans rfl
    have hcz19_2 : w7.cell? ⟨gb119, 2, none⟩ = some (.int .i64 a0_2) := (blk_cell BK119.out 2).trans rfl
    have hcz19_3 : w7.cell? ⟨gb119, 3, none⟩ = some (.int .i64 a0_3) := (blk_cell BK119.out 3).trans rfl
    have hcz19_4 : w7.cell? ⟨gb119, 4, none⟩ = some (.int .i64 a0_4) := (blk_cell BK119.out 4).trans rfl
    have hfz19_0 := blk_frozen BK119.out 0
    have hfz19_1 := blk_frozen BK119.out 1
    have hfz19_2 := blk_frozen BK119.out 2
    have hfz19_3 := blk_frozen BK119.out 3
    have hfz19_4 := blk_frozen BK119.out 4
    have hcz20_0 : w7.cell? ⟨gb120, 0, none⟩ = some (.slice A1 l1.length c1) := (blk_cell BK120.out 0).trans rfl
    have hfz20_0 := blk_frozen BK120.out 0
    go_wp2_with (first | ((with_reducible refine gate_callee (f := 50) rfl ?_); refine goesL_ (some 24) rfl rfl Try.func50 (by kernel_rfl) rfl #[.agg #[.int .i64 a0_0, .int .i64 a0_1, .int .i64 a0_2, .int .i64 a0_3, .int .i64 a0_4], .slice A1 l1.length c1] rfl (by (try simp only [List.map_toArray, List.map_cons, List.map_nil]); first | done | rfl | (simp only [List.length_drop, List.length_take]; rfl)) ?_; (with_reducible refine (impl_fits.calls a0_0 a0_1 a0_2 a0_3 a0_4 _ _ l1 true _ ?side1 ?side2 A8.out).mono ?_); (case side1 => repeat (first | exact (Kd.C_below HR1.out HB.out) | (with_reducible refine Kd.C_alloc ?_ _) | (with_reducible refine Kd.C_drewN ?_ _) | (with_reducible refine Kd.C_drew ?_))); (case side2 => exact HC1.out); rintro e w21 ⟨rfl, hb⟩; refine ⟨_, rfl, ?_⟩; have n0_ := Aside0.mk (blk_below (g := gb119) (o := .cells #[.int .i64 a0_0, .int .i64 a0_1, .int .i64 a0_2, .int .i64 a0_3, .int .i64 a0_4] 43 (0, 0)) (by (with_reducible repeat (first | refine blk_drewN ?_ _ | refine blk_drew ?_ | refine blk_alloc ?_ _)); exact BK119.out) hb); have n1_ := Aside0.mk (blk_below (g := gb120) (o := .cells #[.slice A1 l1.length c1] 41 (0, 0)) (by (with_reducible repeat (first | refine blk_drewN ?_ _ | refine blk_drew ?_ | refine blk_alloc ?_ _)); exact BK120.out) hb); have n2_ := Aside0.mk (below_step (by repeat (first | (with_reducible first | exact HB.out | apply below_alloc | apply pw_below_drewN | apply below_drew1 | refine below_set ?_ GE119.out | refine below_set ?_ GE120.out) | exact HB.out)) hb); clear BK119; clear BK120; clear HB; have BK119 := n0_; have BK120 := n1_; have HB := n2_; clear n0_ n1_ n2_; (try clear hb); (try clear hb2); (try clear hk); (try clear hi); have hcz22_0 : w21.cell? ⟨gb119, 0, none⟩ = some (.int .i64 a0_0) := (blk_cell BK119.out 0).trans rfl; have hcz22_1 : w21.cell? ⟨gb119, 1, none⟩ = some (.int .i64 a0_1) := (blk_cell BK119.out 1).trans rfl; have hcz22_2 : w21.cell? ⟨gb119, 2, none⟩ = some (.int .i64 a0_2) := (blk_cell BK119.out 2).trans rfl; have hcz22_3 : w21.cell? ⟨gb119, 3, none⟩ = some (.int .i64 a0_3) := (blk_cell BK119.out 3).trans rfl; have hcz22_4 : w21.cell? ⟨gb119, 4, none⟩ = some (.int .i64 a0_4) := (blk_cell BK119.out 4).trans rfl; have hfz22_0 := blk_frozen BK119.out 0; have hfz22_1 := blk_frozen BK119.out 1; have hfz22_2 := blk_frozen BK119.out 2; have hfz22_3 := blk_frozen BK119.out 3; have hfz22_4 := blk_frozen BK119.out 4) | (go_at_call 51; (with_reducible refine (impl_in.calls a2 a0_2 (wrap64 (a0_2 + (wrap64 ((wrap64 (a0_0 - 1)) * a0_4)))) false _ A10.out).mono ?_); rintro e w' ⟨rfl, ⟨nd, rfl⟩⟩))
    go_meet
    case rel => exact ⟨_, (true), (by first | rfl | (simp; done) | (simp [*]; done)), H', ⟨by first | omega | exact Nat.le_refl _⟩, ⟨by (with_reducible repeat (first | refine blk_drewN ?_ _ | refine blk_drew ?_ | refine blk_alloc ?_ _)); exact BK119.out⟩, ⟨by (with_reducible repeat (first | refine blk_drewN ?_ _ | refine blk_drew ?_ | refine blk_alloc ?_ _)); exact BK120.out⟩, ⟨by repeat (first | (with_reducible first | exact HB.out | apply below_alloc | apply pw_below_drewN | apply below_drew1 | refine below_set ?_ GE119.out | refine below_set ?_ GE120.out) | exact HB.out)⟩⟩
  ·replace c9 := Bool.eq_false_iff.mpr c9
   subst c9
   have H1 : (impl_At.j0 k a2 a3 true a0_0 a0_1 a0_2 a0_3 a0_4 l1) = some r := by rw [if_neg (show ¬ (false = true) by decide)] at H; exact H
   clear H
   have H := H1
   clear H1
   have H' := Aside0.mk H
   clear H
   have hnb23 := NB119_120.out
   have hnc23 := NB120_119.out
   have hcz24_0 : w7.cell? ⟨gb119, 0, none⟩ = some (.int .i64 a0_0) := (blk_cell BK119.out 0).trans rfl
   have hcz24_1 : w7.cell? ⟨gb119, 1, none⟩ = some (.int .i64 a0_1) := (blk_cell BK119.out 1).trans rfl
   have hcz24_2 : w7.cell? ⟨gb119, 2, none⟩ = some (.int .i64 a0_2) := (blk_cell BK119.out 2).trans rfl
   have hcz24_3 : w7.cell? ⟨gb119, 3, none⟩ = some (.int .i64 a0_3) := (blk_cell BK119.out 3).trans rfl
   have hcz24_4 : w7.cell? ⟨gb119, 4, none⟩ = some (.int .i64 a0_4) := (blk_cell BK119.out 4).trans rfl
   have hfz24_0 := blk_frozen BK119.out 0
   have hfz24_1 := blk_frozen BK119.out 1
   have hfz24_2 := blk_frozen BK119.out 2
   have hfz24_3 := blk_frozen BK119.out 3
   have hfz24_4 := blk_frozen BK119.out 4
   have hcz25_0 : w7.cell? ⟨gb120, 0, none⟩ = some (.slice A1 l1.length c1) := (blk_cell BK120.out 0).trans rfl
   have hfz25_0 := blk_frozen BK120.out 0
   go_wp2_with (first | ((with_reducible refine gate_callee (f := 50) rfl ?_); refine goesL_ (some 24) rfl rfl Try.func50 (by kernel_rfl) rfl #[.agg #[.int .i64 a0_0, .int .i64 a0_1, .int .i64 a0_2, .int .i64 a0_3, .int .i64 a0_4], .slice A1 l1.length c1] rfl (by (try simp only [List.map_toArray, List.map_cons, List.map_nil]); first | done | rfl | (simp only [List.length_drop, List.length_take]; rfl)) ?_; (with_reducible refine (impl_fits.calls a0_0 a0_1 a0_2 a0_3 a0_4 _ _ l1 false _ ?side1 ?side2 A8.out).mono ?_); (case side1 => repeat (first | exact (Kd.C_below HR1.out HB.out) | (with_reducible refine Kd.C_alloc ?_ _) | (with_reducible refine Kd.C_drewN ?_ _) | (with_reducible refine Kd.C_drew ?_))); (case side2 => exact HC1.out); rintro e w26 ⟨rfl, hb⟩; refine ⟨_, rfl, ?_⟩; have n0_ := Aside0.mk (blk_below (g := gb119) (o := .cells #[.int .i64 a0_0, .int .i64 a0_1, .int .i64 a0_2, .int .i64 a0_3, .int .i64 a0_4] 43 (0, 0)) (by (with_reducible repeat (first | refine blk_drewN ?_ _ | refine blk_drew ?_ | refine blk_alloc ?_ _)); exact BK119.out) hb); have n1_ := Aside0.mk (blk_below (g := gb120) (o := .cells #[.slice A1 l1.length c1] 41 (0, 0)) (by (with_reducible repeat (first | refine blk_drewN ?_ _ | refine blk_drew ?_ | refine blk_alloc ?_ _)); exact BK120.out) hb); have n2_ := Aside0.mk (below_step (by repeat (first | (with_reducible first | exact HB.out | apply below_alloc | apply pw_below_drewN | apply below_drew1 | refine below_set ?_ GE119.out | refine below_set ?_ GE120.out) | exact HB.out)) hb); clear BK119; clear BK120; clear HB; have BK119 := n0_; have BK120 := n1_; have HB := n2_; clear n0_ n1_ n2_; (try clear hb); (try clear hb2); (try clear hk); (try clear hi)))
   go_meet
   case rel => exact ⟨_, (true), (by first | rfl | (simp; done) | (simp [*]; done)), H', ⟨by first | omega | exact Nat.le_refl _⟩, ⟨by (with_reducible repeat (first | refine blk_drewN ?_ _ | refine blk_drew ?_ | refine blk_alloc ?_ _)); exact BK119.out⟩, ⟨by (with_reducible repeat (first | refine blk_drewN ?_ _ | refine blk_drew ?_ | refine blk_alloc ?_ _)); exact BK120.out⟩, ⟨by repeat (first | (with_reducible first | exact HB.out | apply below_alloc | apply pw_below_drewN | apply below_drew1 | refine below_set ?_ GE119.out | refine below_set ?_ GE120.out) | exact HB.out)⟩⟩
 case rest =>
  clear HC5
  try clear c1
  try clear c2
  try clear p2
  try clear c5
  try clear p6
  try clear c9
  try clear c11
  try clear c13
  try clear c18
  try clear c23
  try clear c26
  try clear hcz14_0
  try clear hcz14_1
  try clear hcz14_2
  try clear hcz14_3
  try clear hcz14_4
  try clear hcz15_0
  try clear hcz17_0
  try clear hcz17_1
  try clear hcz17_2
  try clear hcz17_3
  try clear hcz17_4
  try clear hcz19_0
  try clear hcz19_1
  try clear hcz19_2
  try clear hcz19_3
  try clear hcz19_4
  try clear hcz20_0
  try clear hcz22_0
  try clear hcz22_1
  try clear hcz22_2
  try clear hcz22_3
  try clear hcz22_4
  try clear hcz24_0
  try clear hcz24_1
  try clear hcz24_2
  try clear hcz24_3
  try clear hcz24_4
  try clear hcz25_0
  try clear hfz14_0
  try clear hfz14_1
  try clear hfz14_2
  try clear hfz14_3
  try clear hfz14_4
  try clear hfz15_0
  try clear hfz17_0
  try clear hfz17_1
  try clear hfz17_2
  try clear hfz17_3
  try clear hfz17_4
  try clear hfz19_0
  try clear hfz19_1
  try clear hfz19_2
  try clear hfz19_3
  try clear hfz19_4
  try clear hfz20_0
  try clear hfz22_0
  try clear hfz22_1
  try clear hfz22_2
  try clear hfz22_3
  try clear hfz22_4
  try clear hfz24_0
  try clear hfz24_1
  try clear hfz24_2
  try clear hfz24_3
  try clear hfz24_4
  try clear hfz25_0
  obtain ⟨kq, x57_4, rfl, HA, HJ4, BK119, BK120, HB⟩ := hcut
  cases kq with
  | zero => exact absurd HA.out (by simp [impl_At.j0])
  | succ kj4 =>
   have H := HA.out
   clear HA
   simp only [impl_At.j0] at H
   by_cases c27 : x57_4 = true
   ·subst c27
    have H1 : ((impl_nan.f).bind fun t124 => (some t124)) = some r := by rw [if_pos rfl] at H; exact H
    clear H
    have H := H1
    clear H1
    replace H := Option.bind_eq_some_iff.mp H
    obtain ⟨t124, A280, H⟩ := H
    replace H : (some t124) = some r := H
    have A28 := Aside0.mk A280
    clear A280
    obtain rfl := Option.some.inj H
    go_wp2_with (first | ((with_reducible refine gate_callee (f := 44) rfl ?_); refine goesL_ (some 58) rfl rfl Try.func44 (by kernel_rfl) rfl #[] rfl (by (try simp only [List.map_toArray, List.map_cons, List.map_nil]); first | done | rfl | (simp only [List.length_drop, List.length_take]; rfl)) ?_; (with_reducible refine (impl_nan.calls  t124 _ A28.out).mono ?_); rintro e w' ⟨pr125, rfl, ⟨nd, rfl⟩⟩; refine ⟨_, rfl, ?_⟩))
    go_ret
    first | (exact ⟨pr125, by first | rfl | (simp [errW_none, errW_some] <;> rfl) | (simp [*, errW_none, errW_some] <;> rfl), by repeat (first | (with_reducible first | exact HB.out | apply below_alloc | apply pw_below_drewN | apply below_drew1 | refine below_set ?_ GE119.out | refine below_set ?_ GE120.out) | exact HB.out)⟩) | (exact ⟨⟨pr125, by first | rfl | (simp [errW_none, errW_some] <;> rfl) | (simp [*, errW_none, errW_some] <;> rfl)⟩, by repeat (first | (with_reducible first | exact HB.out | apply below_alloc | apply pw_below_drewN | apply below_drew1 | refine below_set ?_ GE119.out | refine below_set ?_ GE120.out) | exact HB.out)⟩)
   ·replace c27 := Bool.eq_false_iff.mpr c27
    subst c27
    have H1 : (if a0_4 = 0 then (none) else ((impl_At_1.f (mn (wrap64 (Int.tdiv (wrap64 (a2 - a0_2)) a0_4)) (wrap64 (a0_0 - 2))) (mn (wrap64 (Int.tdiv (wrap64 (a3 - a0_3)) a0_4)) (wrap64 (a0_1 - 2))) [l1] [(⟨a0_0, a0_1, a0_2, a0_3, a0_4⟩ : S43)]).bind fun t126 => ((impl_At_1.f (mn (wrap64 (Int.tdiv (wrap64 (a2 - a0_2)) a0_4)) (wrap64 (a0_0 - 2))) (wrap64 ((mn (wrap64 (Int.tdiv (wrap64 (a3 - a0_3)) a0_4)) (wrap64 (a0_1 - 2))) + 1)) [l1] [(⟨a0_0, a0_1, a0_2, a0_3, a0_4⟩ : S43)]).bind fun t128 => ((impl_At_1.f (wrap64 ((mn (wrap64 (Int.tdiv (wrap64 (a2 - a0_2)) a0_4)) (wrap64 (a0_0 - 2))) + 1)) (mn (wrap64 (Int.tdiv (wrap64 (a3 - a0_3)) a0_4)) (wrap64 (a0_1 - 2))) [l1] [(⟨a0_0, a0_1, a0_2, a0_3, a0_4⟩ : S43)]).bind fun t130 => ((impl_At_1.f (wrap64 ((mn (wrap64 (Int.tdiv (wrap64 (a2 - a0_2)) a0_4)) (wrap64 (a0_0 - 2))) + 1)) (wrap64 ((mn (wrap64 (Int.tdiv (wrap64 (a3 - a0_3)) a0_4)) (wrap64 (a0_1 - 2))) + 1)) [l1] [(⟨a0_0, a0_1, a0_2, a0_3, a0_4⟩ : S43)]).bind fun t132 => ((impl_Known.f t126).bind fun t134 => (if t134 = true then ((impl_Known.f t128).bind fun t135 => (if t135 = true then ((impl_Known.f t130).bind fun t136 => (if t136 = true then ((impl_Known.f t132).bind fun t137 => (impl_At.j1 kj4 (mn (wrap64 (Int.tdiv (wrap64 (a2 - a0_2)) a0_4)) (wrap64 (a0_0 - 2))) (mn (wrap64 (Int.tdiv (wrap64 (a3 - a0_3)) a0_4)) (wrap64 (a0_1 - 2))) t126 t128 t130 t132 (wrap64 ((wrap64 (a2 - a0_2)) - (wrap64 ((mn (wrap64 (Int.tdiv (wrap64 (a2 - a0_2)) a0_4)) (wrap64 (a0_0 - 2))) * a0_4)))) (wrap64 ((wrap64 (a3 - a0_3)) - (wrap64 ((mn (wrap64 (Int.tdiv (wrap64 (a3 - a0_3)) a0_4)) (wrap64 (a0_1 - 2))) * a0_4)))) t137 a0_0 a0_1 a0_2 a0_3 a0_4 l1)) else (impl_At.j1 kj4 (mn (wrap64 (Int.tdiv (wrap64 (a2 - a0_2)) a0_4)) (wrap64 (a0_0 - 2))) (mn (wrap64 (Int.tdiv (wrap64 (a3 - a0_3)) a0_4)) (wrap64 (a0_1 - 2))) t126 t128 t130 t132 (wrap64 ((wrap64 (a2 - a0_2)) - (wrap64 ((mn (wrap64 (Int.tdiv (wrap64 (a2 - a0_2)) a0_4)) (wrap64 (a0_0 - 2))) * a0_4)))) (wrap64 ((wrap64 (a3 - a0_3)) - (wrap64 ((mn (wrap64 (Int.tdiv (wrap64 (a3 - a0_3)) a0_4)) (wrap64 (a0_1 - 2))) * a0_4)))) false a0_0 a0_1 a0_2 a0_3 a0_4 l1))) else (impl_At.j1 kj4 (mn (wrap64 (Int.tdiv (wrap64 (a2 - a0_2)) a0_4)) (wrap64 (a0_0 - 2))) (mn (wrap64 (Int.tdiv (wrap64 (a3 - a0_3)) a0_4)) (wrap64 (a0_1 - 2))) t126 t128 t130 t132 (wrap64 ((wrap64 (a2 - a0_2)) - (wrap64 ((mn (wrap64 (Int.tdiv (wrap64 (a2 - a0_2)) a0_4)) (wrap64 (a0_0 - 2))) * a0_4)))) (wrap64 ((wrap64 (a3 - a0_3)) - (wrap64 ((mn (wrap64 (Int.tdiv (wrap64 (a3 - a0_3)) a0_4)) (wrap64 (a0_1 - 2))) * a0_4)))) false a0_0 a0_1 a0_2 a0_3 a0_4 l1))) else (impl_At.j1 kj4 (mn (wrap64 (Int.tdiv (wrap64 (a2 - a0_2)) a0_4)) (wrap64 (a0_0 - 2))) (mn (wrap64 (Int.tdiv (wrap64 (a3 - a0_3)) a0_4)) (wrap64 (a0_1 - 2))) t126 t128 t130 t132 (wrap64 ((wrap64 (a2 - a0_2)) - (wrap64 ((mn (wrap64 (Int.tdiv (wrap64 (a2 - a0_2)) a0_4)) (wrap64 (a0_0 - 2))) * a0_4)))) (wrap64 ((wrap64 (a3 - a0_3)) - (wrap64 ((mn (wrap64 (Int.tdiv (wrap64 (a3 - a0_3)) a0_4)) (wrap64 (a0_1 - 2))) * a0_4)))) false a0_0 a0_1 a0_2 a0_3 a0_4 l1)))))))) = some r := by rw [if_neg (show ¬ (false = true) by decide)] at H; exact H
    clear H
    have H := H1
    clear H1
    by_cases c29 : a0_4 = 0
    ·rw [if_pos c29] at H
     exact absurd H (by simp)
    ·rw [if_neg c29] at H
     have c29b0 : (a0_4 == 0) = false := beq_eq_false_iff_ne.mpr c29
     have c29b1 : (a0_4 != 0) = true := bne_iff_ne.mpr c29
     obtain ⟨ji30, hji30⟩ : ∃ j_ : Int, (mn (wrap64 (Int.tdiv (wrap64 (a2 - a0_2)) a0_4)) (wrap64 (a0_0 - 2))) = j_ := ⟨_, rfl⟩
     replace H : ((impl_At_1.f (ji30) (mn (wrap64 (Int.tdiv (wrap64 (a3 - a0_3)) a0_4)) (wrap64 (a0_1 - 2))) [l1] [(⟨a0_0, a0_1, a0_2, a0_3, a0_4⟩ : S43)]).bind fun t126 => ((impl_At_1.f (ji30) (wrap64 ((mn (wrap64 (Int.tdiv (wrap64 (a3 - a0_3)) a0_4)) (wrap64 (a0_1 - 2))) + 1)) [l1] [(⟨a0_0, a0_1, a0_2, a0_3, a0_4⟩ : S43)]).bind fun t128 => ((impl_At_1.f (wrap64 ((ji30) + 1)) (mn (wrap64 (Int.tdiv (wrap64 (a3 - a0_3)) a0_4)) (wrap64 (a0_1 - 2))) [l1] [(⟨a0_0, a0_1, a0_2, a0_3, a0_4⟩ : S43)]).bind fun t130 => ((impl_At_1.f (wrap64 ((ji30) + 1)) (wrap64 ((mn (wrap64 (Int.tdiv (wrap64 (a3 - a0_3)) a0_4)) (wrap64 (a0_1 - 2))) + 1)) [l1] [(⟨a0_0, a0_1, a0_2, a0_3, a0_4⟩ : S43)]).bind fun t132 => ((impl_Known.f t126).bind fun t134 => (if t134 = true then ((impl_Known.f t128).bind fun t135 => (if t135 = true then ((impl_Known.f t130).bind fun t136 => (if t136 = true then ((impl_Known.f t132).bind fun t137 => (impl_At.j1 kj4 ji30 (mn (wrap64 (Int.tdiv (wrap64 (a3 - a0_3)) a0_4)) (wrap64 (a0_1 - 2))) t126 t128 t130 t132 (wrap64 ((wrap64 (a2 - a0_2)) - (wrap64 ((ji30) * a0_4)))) (wrap64 ((wrap64 (a3 - a0_3)) - (wrap64 ((mn (wrap64 (Int.tdiv (wrap64 (a3 - a0_3)) a0_4)) (wrap64 (a0_1 - 2))) * a0_4)))) t137 a0_0 a0_1 a0_2 a0_3 a0_4 l1)) else (impl_At.j1 kj4 ji30 (mn (wrap64 (Int.tdiv (wrap64 (a3 - a0_3)) a0_4)) (wrap64 (a0_1 - 2))) t126 t128 t130 t132 (wrap64 ((wrap64 (a2 - a0_2)) - (wrap64 ((ji30) * a0_4)))) (wrap64 ((wrap64 (a3 - a0_3)) - (wrap64 ((mn (wrap64 (Int.tdiv (wrap64 (a3 - a0_3)) a0_4)) (wrap64 (a0_1 - 2))) * a0_4)))) false a0_0 a0_1 a0_2 a0_3 a0_4 l1))) else (impl_At.j1 kj4 ji30 (mn (wrap64 (Int.tdiv (wrap64 (a3 - a0_3)) a0_4)) (wrap64 (a0_1 - 2))) t126 t128 t130 t132 (wrap64 ((wrap64 (a2 - a0_2)) - (wrap64 ((ji30) * a0_4)))) (wrap64 ((wrap64 (a3 - a0_3)) - (wrap64 ((mn (wrap64 (Int.tdiv (wrap64 (a3 - a0_3)) a0_4)) (wrap64 (a0_1 - 2))) * a0_4)))) false a0_0 a0_1 a0_2 a0_3 a0_4 l1))) else (impl_At.j1 kj4 ji30 (mn (wrap64 (Int.tdiv (wrap64 (a3 - a0_3)) a0_4)) (wrap64 (a0_1 - 2))) t126 t128 t130 t132 (wrap64 ((wrap64 (a2 - a0_2)) - (wrap64 ((ji30) * a0_4)))) (wrap64 ((wrap64 (a3 - a0_3)) - (wrap64 ((mn (wrap64 (Int.tdiv (wrap64 (a3 - a0_3)) a0_4)) (wrap64 (a0_1 - 2))) * a0_4)))) false a0_0 a0_1 a0_2 a0_3 a0_4 l1))))))) = some r := by first | (rw [hji30] at H; exact H) | (simp only [hji30] at H ⊢; exact H)
     have hji30_ : (if (wrap64 (a0_0 - 2)) < (wrap64 (Int.tdiv (wrap64 (a2 - a0_2)) a0_4)) then (wrap64 (a0_0 - 2)) else (wrap64 (Int.tdiv (wrap64 (a2 - a0_2)) a0_4))) = ji30 := hji30
     obtain ⟨ji31, hji31⟩ : ∃ j_ : Int, (mn (wrap64 (Int.tdiv (wrap64 (a3 - a0_3)) a0_4)) (wrap64 (a0_1 - 2))) = j_ := ⟨_, rfl⟩
     replace H : ((impl_At_1.f (ji30) (ji31) [l1] [(⟨a0_0, a0_1, a0_2, a0_3, a0_4⟩ : S43)]).bind fun t126 => ((impl_At_1.f (ji30) (wrap64 ((ji31) + 1)) [l1] [(⟨a0_0, a0_1, a0_2, a0_3, a0_4⟩ : S43)]).bind fun t128 => ((impl_At_1.f (wrap64 ((ji30) + 1)) (ji31) [l1] [(⟨a0_0, a0_1, a0_2, a0_3, a0_4⟩ : S43)]).bind fun t130 => ((impl_At_1.f (wrap64 ((ji30) + 1)) (wrap64 ((ji31) + 1)) [l1] [(⟨a0_0, a0_1, a0_2, a0_3, a0_4⟩ : S43)]).bind fun t132 => ((impl_Known.f t126).bind fun t134 => (if t134 = true then ((impl_Known.f t128).bind fun t135 => (if t135 = true then ((impl_Known.f t130).bind fun t136 => (if t136 = true then ((impl_Known.f t132).bind fun t137 => (impl_At.j1 kj4 ji30 ji31 t126 t128 t130 t132 (wrap64 ((wrap64 (a2 - a0_2)) - (wrap64 ((ji30) * a0_4)))) (wrap64 ((wrap64 (a3 - a0_3)) - (wrap64 ((ji31) * a0_4)))) t137 a0_0 a0_1 a0_2 a0_3 a0_4 l1)) else (impl_At.j1 kj4 ji30 ji31 t126 t128 t130 t132 (wrap64 ((wrap64 (a2 - a0_2)) - (wrap64 ((ji30) * a0_4)))) (wrap64 ((wrap64 (a3 - a0_3)) - (wrap64 ((ji31) * a0_4)))) false a0_0 a0_1 a0_2 a0_3 a0_4 l1))) else (impl_At.j1 kj4 ji30 ji31 t126 t128 t130 t132 (wrap64 ((wrap64 (a2 - a0_2)) - (wrap64 ((ji30) * a0_4)))) (wrap64 ((wrap64 (a3 - a0_3)) - (wrap64 ((ji31) * a0_4)))) false a0_0 a0_1 a0_2 a0_3 a0_4 l1))) else (impl_At.j1 kj4 ji30 ji31 t126 t128 t130 t132 (wrap64 ((wrap64 (a2 - a0_2)) - (wrap64 ((ji30) * a0_4)))) (wrap64 ((wrap64 (a3 - a0_3)) - (wrap64 ((ji31) * a0_4)))) false a0_0 a0_1 a0_2 a0_3 a0_4 l1))))))) = some r := by first | (rw [hji31] at H; exact H) | (simp only [hji31] at H ⊢; exact H)
     have hji31_ : (if (wrap64 (a0_1 - 2)) < (wrap64 (Int.tdiv (wrap64 (a3 - a0_3)) a0_4)) then (wrap64 (a0_1 - 2)) else (wrap64 (Int.tdiv (wrap64 (a3 - a0_3)) a0_4))) = ji31 := hji31
     replace H := Option.bind_eq_some_iff.mp H
     obtain ⟨t126, A320, H⟩ := H
     replace H : ((impl_At_1.f (ji30) (wrap64 ((ji31) + 1)) [l1] [(⟨a0_0, a0_1, a0_2, a0_3, a0_4⟩ : S43)]).bind fun t128 => ((impl_At_1.f (wrap64 ((ji30) + 1)) (ji31) [l1] [(⟨a0_0, a0_1, a0_2, a0_3, a0_4⟩ : S43)]).bind fun t130 => ((impl_At_1.f (wrap64 ((ji30) + 1)) (wrap64 ((ji31) + 1)) [l1] [(⟨a0_0, a0_1, a0_2, a0_3, a0_4⟩ : S43)]).bind fun t132 => ((impl_Known.f t126).bind fun t134 => (if t134 = true then ((impl_Known.f t128).bind fun t135 => (if t135 = true then ((impl_Known.f t130).bind fun t136 => (if t136 = true then ((impl_Known.f t132).bind fun t137 => (impl_At.j1 kj4 ji30 ji31 t126 t128 t130 t132 (wrap64 ((wrap64 (a2 - a0_2)) - (wrap64 ((ji30) * a0_4)))) (wrap64 ((wrap64 (a3 - a0_3)) - (wrap64 ((ji31) * a0_4)))) t137 a0_0 a0_1 a0_2 a0_3 a0_4 l1)) else (impl_At.j1 kj4 ji30 ji31 t126 t128 t130 t132 (wrap64 ((wrap64 (a2 - a0_2)) - (wrap64 ((ji30) * a0_4)))) (wrap64 ((wrap64 (a3 - a0_3)) - (wrap64 ((ji31) * a0_4)))) false a0_0 a0_1 a0_2 a0_3 a0_4 l1))) else (impl_At.j1 kj4 ji30 ji31 t126 t128 t130 t132 (wrap64 ((wrap64 (a2 - a0_2)) - (wrap64 ((ji30) * a0_4)))) (wrap64 ((wrap64 (a3 - a0_3)) - (wrap64 ((ji31) * a0_4)))) false a0_0 a0_1 a0_2 a0_3 a0_4 l1))) else (impl_At.j1 kj4 ji30 ji31 t126 t128 t130 t132 (wrap64 ((wrap64 (a2 - a0_2)) - (wrap64 ((ji30) * a0_4)))) (wrap64 ((wrap64 (a3 - a0_3)) - (wrap64 ((ji31) * a0_4)))) false a0_0 a0_1 a0_2 a0_3 a0_4 l1)))))) = some r := H
     have A32 := Aside0.mk A320
     clear A320
     replace H := Option.bind_eq_some_iff.mp H
     obtain ⟨t128, A330, H⟩ := H
     replace H : ((impl_At_1.f (wrap64 ((ji30) + 1)) (ji31) [l1] [(⟨a0_0, a0_1, a0_2, a0_3, a0_4⟩ : S43)]).bind fun t130 => ((impl_At_1.f (wrap64 ((ji30) + 1)) (wrap64 ((ji31) + 1)) [l1] [(⟨a0_0, a0_1, a0_2, a0_3, a0_4⟩ : S43)]).bind fun t132 => ((impl_Known.f t126).bind fun t134 => (if t134 = true then ((impl_Known.f t128).bind fun t135 => (if t135 = true then ((impl_Known.f t130).bind fun t136 => (if t136 = true then ((impl_Known.f t132).bind fun t137 => (impl_At.j1 kj4 ji30 ji31 t126 t128 t130 t132 (wrap64 ((wrap64 (a2 - a0_2)) - (wrap64 ((ji30) * a0_4)))) (wrap64 ((wrap64 (a3 - a0_3)) - (wrap64 ((ji31) * a0_4)))) t137 a0_0 a0_1 a0_2 a0_3 a0_4 l1)) else (impl_At.j1 kj4 ji30 ji31 t126 t128 t130 t132 (wrap64 ((wrap64 (a2 - a0_2)) - (wrap64 ((ji30) * a0_4)))) (wrap64 ((wrap64 (a3 - a0_3)) - (wrap64 ((ji31) * a0_4)))) false a0_0 a0_1 a0_2 a0_3 a0_4 l1))) else (impl_At.j1 kj4 ji30 ji31 t126 t128 t130 t132 (wrap64 ((wrap64 (a2 - a0_2)) - (wrap64 ((ji30) * a0_4)))) (wrap64 ((wrap64 (a3 - a0_3)) - (wrap64 ((ji31) * a0_4)))) false a0_0 a0_1 a0_2 a0_3 a0_4 l1))) else (impl_At.j1 kj4 ji30 ji31 t126 t128 t130 t132 (wrap64 ((wrap64 (a2 - a0_2)) - (wrap64 ((ji30) * a0_4)))) (wrap64 ((wrap64 (a3 - a0_3)) - (wrap64 ((ji31) * a0_4)))) false a0_0 a0_1 a0_2 a0_3 a0_4 l1))))) = some r := H
     have A33 := Aside0.mk A330
     clear A330
     replace H := Option.bind_eq_some_iff.mp H
     obtain ⟨t130, A340, H⟩ := H
     replace H : ((impl_At_1.f (wrap64 ((ji30) + 1)) (wrap64 ((ji31) + 1)) [l1] [(⟨a0_0, a0_1, a0_2, a0_3, a0_4⟩ : S43)]).bind fun t132 => ((impl_Known.f t126).bind fun t134 => (if t134 = true then ((impl_Known.f t128).bind fun t135 => (if t135 = true then ((impl_Known.f t130).bind fun t136 => (if t136 = true then ((impl_Known.f t132).bind fun t137 => (impl_At.j1 kj4 ji30 ji31 t126 t128 t130 t132 (wrap64 ((wrap64 (a2 - a0_2)) - (wrap64 ((ji30) * a0_4)))) (wrap64 ((wrap64 (a3 - a0_3)) - (wrap64 ((ji31) * a0_4)))) t137 a0_0 a0_1 a0_2 a0_3 a0_4 l1)) else (impl_At.j1 kj4 ji30 ji31 t126 t128 t130 t132 (wrap64 ((wrap64 (a2 - a0_2)) - (wrap64 ((ji30) * a0_4)))) (wrap64 ((wrap64 (a3 - a0_3)) - (wrap64 ((ji31) * a0_4)))) false a0_0 a0_1 a0_2 a0_3 a0_4 l1))) else (impl_At.j1 kj4 ji30 ji31 t126 t128 t130 t132 (wrap64 ((wrap64 (a2 - a0_2)) - (wrap64 ((ji30) * a0_4)))) (wrap64 ((wrap64 (a3 - a0_3)) - (wrap64 ((ji31) * a0_4)))) false a0_0 a0_1 a0_2 a0_3 a0_4 l1))) else (impl_At.j1 kj4 ji30 ji31 t126 t128 t130 t132 (wrap64 ((wrap64 (a2 - a0_2)) - (wrap64 ((ji30) * a0_4)))) (wrap64 ((wrap64 (a3 - a0_3)) - (wrap64 ((ji31) * a0_4)))) false a0_0 a0_1 a0_2 a0_3 a0_4 l1)))) = some r := H
     have A34 := Aside0.mk A340
     clear A340
     replace H := Option.bind_eq_some_iff.mp H
     obtain ⟨t132, A350, H⟩ := H
     replace H : ((impl_Known.f t126).bind fun t134 => (if t134 = true then ((impl_Known.f t128).bind fun t135 => (if t135 = true then ((impl_Known.f t130).bind fun t136 => (if t136 = true then ((impl_Known.f t132).bind fun t137 => (impl_At.j1 kj4 ji30 ji31 t126 t128 t130 t132 (wrap64 ((wrap64 (a2 - a0_2)) - (wrap64 ((ji30) * a0_4)))) (wrap64 ((wrap64 (a3 - a0_3)) - (wrap64 ((ji31) * a0_4)))) t137 a0_0 a0_1 a0_2 a0_3 a0_4 l1)) else (impl_At.j1 kj4 ji30 ji31 t126 t128 t130 t132 (wrap64 ((wrap64 (a2 - a0_2)) - (wrap64 ((ji30) * a0_4)))) (wrap64 ((wrap64 (a3 - a0_3)) - (wrap64 ((ji31) * a0_4)))) false a0_0 a0_1 a0_2 a0_3 a0_4 l1))) else (impl_At.j1 kj4 ji30 ji31 t126 t128 t130 t132 (wrap64 ((wrap64 (a2 - a0_2)) - (wrap64 ((ji30) * a0_4)))) (wrap64 ((wrap64 (a3 - a0_3)) - (wrap64 ((ji31) * a0_4)))) false a0_0 a0_1 a0_2 a0_3 a0_4 l1))) else (impl_At.j1 kj4 ji30 ji31 t126 t128 t130 t132 (wrap64 ((wrap64 (a2 - a0_2)) - (wrap64 ((ji30) * a0_4)))) (wrap64 ((wrap64 (a3 - a0_3)) - (wrap64 ((ji31) * a0_4)))) false a0_0 a0_1 a0_2 a0_3 a0_4 l1))) = some r := H
     have A35 := Aside0.mk A350
     clear A350
     have HC36 := Aside0.mk H
     clear H
     try go_wp2
     have n0_ := Aside0.mk (blk_drew BK119.out)
     have n1_ := Aside0.mk (blk_drew BK120.out)
     have n2_ := Aside0.mk (below_drew1 HB.out)
     clear BK119
     clear BK120
     clear HB
     have BK119 := n0_
     have BK120 := n1_
     have HB := n2_
     clear n0_ n1_ n2_
     refine start_ (n := 24) (S := fun w' => w'.cell? ⟨gb119, 0, none⟩ = some (.int .i64 a0_0) ∧ w'.cell? ⟨gb119, 1, none⟩ = some (.int .i64 a0_1) ∧ w'.cell? ⟨gb119, 2, none⟩ = some (.int .i64 a0_2) ∧ w'.cell? ⟨gb119, 3, none⟩ = some (.int .i64 a0_3) ∧ w'.cell? ⟨gb119, 4, none⟩ = some (.int .i64 a0_4)) (ds := []) #[false, false, false, false, false, false, false, false, false, false, false, false, false, false, false, false, false, false, false, false, false, false, false, false] (by kernel_rfl) rfl rfl ⟨(blk_cell BK119.out 0).trans rfl, (blk_cell BK119.out 1).trans rfl, (blk_cell BK119.out 2).trans rfl, (blk_cell BK119.out 3).trans rfl, (blk_cell BK119.out 4).trans rfl⟩ (fun hHeld => ?_); refine with_tabW impl_At.tab3 impl_At.bits3 (fun HT_ HW_ => ?_)
     generalize wc.drew = w37 at BK119 BK120 HB hHeld ⊢
     refine pure_ (i := 0) (N := some 59) (v := ?_) (a' := ?_) #[true, false, false, false, false, false, false, false, false, false, false, false, false, false, false, false, false, false, false, false, false, false, false, false] rfl rfl (any_of HT_.out (by kernel_rfl)) (fun _ _ _ h => h) (Or.inl ⟨by rfl, ?_⟩) ?_ ?_
     rotate_left
     ·intro w'
      go_simp
      with_reducible rfl
     rotate_left
     ·simp only [Act.put, sqA, sqZ, sqS, i64_w, i32_w]
      rfl
     refine pure_ (i := 1) (N := some 60) (v := ?_) (a' := ?_) #[true, true, false, false, false, false, false, false, false, false, false, false, false, false, false, false, false, false, false, false, false, false, false, false] rfl rfl (any_of HT_.out (by kernel_rfl)) (fun _ _ _ h => h) (Or.inl ⟨by rfl, ?_⟩) ?_ ?_
     rotate_left
     ·intro w'
      go_simp
      with_reducible rfl
     rotate_left
     ·simp only [Act.put, sqA, sqZ, sqS, i64_w, i32_w]
      rfl
     refine pure_ (i := 4) (N := some 63) (v := ?_) (a' := ?_) #[true, true, false, false, true, false, false, false, false, false, false, false, false, false, false, false, false, false, false, false, false, false, false, false] rfl rfl (any_of HT_.out (by kernel_rfl)) (fun _ _ _ h => h) (Or.inl ⟨by rfl, ?_⟩) ?_ ?_
     rotate_left
     ·intro w'
      go_simp
      with_reducible rfl
     rotate_left
     ·simp only [Act.put, sqA, sqZ, sqS, i64_w, i32_w]
      rfl
     refine pure_ (i := 7) (N := some 66) (v := ?_) (a' := ?_) #[true, true, false, false, true, false, false, true, false, false, false, false, false, false, false, false, false, false, false, false, false, false, false, false] rfl rfl (any_of HT_.out (by kernel_rfl)) (fun _ _ _ h => h) (Or.inl ⟨by rfl, ?_⟩) ?_ ?_
     rotate_left
     ·intro w'
      go_simp
      with_reducible rfl
     rotate_left
     ·simp only [Act.put, sqA, sqZ, sqS, i64_w, i32_w]
      rfl
     refine pure_ (i := 11) (N := some 70) (v := ?_) (a' := ?_) #[true, true, false, false, true, false, false, true, false, false, false, true, false, false, false, false, false, false, false, false, false, false, false, false] rfl rfl (any_of HT_.out (by kernel_rfl)) (fun _ _ _ h => h) (Or.inl ⟨by rfl, ?_⟩) ?_ ?_
     rotate_left
     ·intro w'
      go_simp
      with_reducible rfl
     rotate_left
     ·simp only [Act.put, sqA, sqZ, sqS, i64_w, i32_w]
      rfl
     refine pure_ (i := 12) (N := some 71) (v := ?_) (a' := ?_) #[true, true, false, false, true, false, false, true, false, false, false, true, true, false, false, false, false, false, false, false, false, false, false, false] rfl rfl (any_of HT_.out (by kernel_rfl)) (fun _ _ _ h => h) (Or.inl ⟨by rfl, ?_⟩) ?_ ?_
     rotate_left
     ·intro w'
      go_simp
      with_reducible rfl
     rotate_left
     ·simp only [Act.put, sqA, sqZ, sqS, i64_w, i32_w]
      rfl
     refine pure_ (i := 15) (N := some 74) (v := ?_) (a' := ?_) #[true, true, false, false, true, false, false, true, false, false, false, true, true, false, false, true, false, false, false, false, false, false, false, false] rfl rfl (any_of HT_.out (by kernel_rfl)) (fun _ _ _ h => h) (Or.inl ⟨by rfl, ?_⟩) ?_ ?_
     rotate_left
     ·intro w'
      go_simp
      with_reducible rfl
     rotate_left
     ·simp only [Act.put, sqA, sqZ, sqS, i64_w, i32_w]
      rfl
     refine pure_ (i := 18) (N := some 77) (v := ?_) (a' := ?_) #[true, true, false, false, true, false, false, true, false, false, false, true, true, false, false, true, false, false, true, false, false, false, false, false] rfl rfl (any_of HT_.out (by kernel_rfl)) (fun _ _ _ h => h) (Or.inl ⟨by rfl, ?_⟩) ?_ ?_
     rotate_left
     ·intro w'
      go_simp
      with_reducible rfl
     rotate_left
     ·simp only [Act.put, sqA, sqZ, sqS, i64_w, i32_w]
      rfl
     refine take_ (i := 2) (N := some 61) (v := ?_) (a' := ?_) #[true, true, true, false, true, false, false, true, false, false, false, true, true, false, false, true, false, false, true, false, false, false, false, false] rfl rfl (take_ofW HT_.out HW_.out (by kernel_rfl)) (fun _ _ _ h => h) (Or.inl ⟨by rfl, ?_⟩) hHeld ?_ ?_
     rotate_left
     ·rintro w' ⟨s0, s1, s2, s3, s4⟩
      go_simp
      with_reducible rfl
     rotate_left
     ·simp only [Act.put, sqA, sqZ, sqS, i64_w, i32_w]
      rfl
     refine pure_ (i := 3) (N := some 62) (v := ?_) (a' := ?_) #[true, true, true, true, true, false, false, true, false, false, false, true, true, false, false, true, false, false, true, false, false, false, false, false] rfl rfl (any_of HT_.out (by kernel_rfl)) (fun _ _ _ h => h) (Or.inl ⟨by rfl, ?_⟩) ?_ ?_
     rotate_left
     ·intro w'
      go_simp
      with_reducible rfl
     rotate_left
     ·simp only [Act.put, sqA, sqZ, sqS, i64_w, i32_w]
      rfl
     refine take_ (i := 5) (N := some 64) (v := ?_) (a' := ?_) #[true, true, true, true, true, true, false, true, false, false, false, true, true, false, false, true, false, false, true, false, false, false, false, false] rfl rfl (take_ofW HT_.out HW_.out (by kernel_rfl)) (fun _ _ _ h => h) (Or.inl ⟨by rfl, ?_⟩) hHeld ?_ ?_
     rotate_left
     ·rintro w' ⟨s0, s1, s2, s3, s4⟩
      go_simp
      with_reducible rfl
     rotate_left
     ·simp only [Act.put, sqA, sqZ, sqS, i64_w, i32_w]
      rfl
     refine pure_ (i := 6) (N := some 65) (v := ?_) (a' := ?_) #[true, true, true, true, true, true, true, true, false, false, false, true, true, false, false, true, false, false, true, false, false, false, false, false] rfl rfl (any_of HT_.out (by kernel_rfl)) (fun _ _ _ h => h) (Or.inl ⟨by rfl, ?_⟩) ?_ ?_
     rotate_left
     ·intro w'
      go_simp
      with_reducible rfl
     rotate_left
     ·simp only [Act.put, sqA, sqZ, sqS, i64_w, i32_w]
      rfl
     refine take_ (i := 8) (N := some 67) (v := ?_) (a' := ?_) #[true, true, true, true, true, true, true, true, true, false, false, true, true, false, false, true, false, false, true, false, false, false, false, false] rfl rfl (take_ofW HT_.out HW_.out (by kernel_rfl)) (fun _ _ _ h => h) (Or.inl ⟨by rfl, ?_⟩) hHeld ?_ ?_
     rotate_left
     ·rintro w' ⟨s0, s1, s2, s3, s4⟩
      go_simp
      with_reducible rfl
     rotate_left
     ·simp only [Act.put, sqA, sqZ, sqS, i64_w, i32_w]
      rfl
     refine pure_ (i := 9) (N := some 68) (v := ?_) (a' := ?_) #[true, true, true, true, true, true, true, true, true, true, false, true, true, false, false, true, false, false, true, false, false, false, false, false] rfl rfl (any_of HT_.out (by kernel_rfl)) (fun _ _ _ h => h) (Or.inl ⟨by rfl, ?_⟩) ?_ ?_
     rotate_left
     ·intro w'
      go_simp
      with_reducible rfl
     rotate_left
     ·simp only [Act.put, sqA, sqZ, sqS, i64_w, i32_w]
      rfl
     refine pure_ (i := 10) (N := some 69) (v := ?_) (a' := ?_) #[true, true, true, true, true, true, true, true, true, true, true, true, true, false, false, true, false, false, true, false, false, false, false, false] rfl rfl (any_of HT_.out (by kernel_rfl)) (fun _ _ _ h => h) (Or.inl ⟨by rfl, ?_⟩) ?_ ?_
     rotate_left
     ·intro w'
      go_simp
      with_reducible rfl
     rotate_left
     ·simp only [Act.put, sqA, sqZ, sqS, i64_w, i32_w]
      rfl
     refine pure_ (i := 22) (N := some 9) (v := ?_) (a' := ?_) #[true, true, true, true, true, true, true, true, true, true, true, true, true, false, false, true, false, false, true, false, false, false, true, false] rfl rfl (any_of HT_.out (by kernel_rfl)) (fun _ _ _ h => h) (Or.inl ⟨by rfl, ?_⟩) ?_ ?_
     rotate_left
     ·intro w'
      go_simp
      with_reducible rfl
     rotate_left
     ·simp only [Act.put, sqA, sqZ, sqS, i64_w, i32_w]
      rfl
     refine take_ (i := 13) (N := some 72) (v := ?_) (a' := ?_) #[true, true, true, true, true, true, true, true, true, true, true, true, true, true, false, true, false, false, true, false, false, false, true, false] rfl rfl (take_ofW HT_.out HW_.out (by kernel_rfl)) (fun _ _ _ h => h) (Or.inl ⟨by rfl, ?_⟩) hHeld ?_ ?_
     rotate_left
     ·rintro w' ⟨s0, s1, s2, s3, s4⟩
      go_simp
      with_reducible rfl
     rotate_left
     ·simp only [Act.put, sqA, sqZ, sqS, i64_w, i32_w]
      rfl
     refine pure_ (i := 14) (N := some 73) (v := ?_) (a' := ?_) #[true, true, true, true, true, true, true, true, true, true, true, true, true, true, true, true, false, false, true, false, false, false, true, false] rfl rfl (any_of HT_.out (by kernel_rfl)) (fun _ _ _ h => h) (Or.inl ⟨by rfl, ?_⟩) ?_ ?_
     rotate_left
     ·intro w'
      go_simp
      with_reducible rfl
     rotate_left
     ·simp only [Act.put, sqA, sqZ, sqS, i64_w, i32_w]
      rfl
     refine take_ (i := 16) (N := some 75) (v := ?_) (a' := ?_) #[true, true, true, true, true, true, true, true, true, true, true, true, true, true, true, true, true, false, true, false, false, false, true, false] rfl rfl (take_ofW HT_.out HW_.out (by kernel_rfl)) (fun _ _ _ h => h) (Or.inl ⟨by rfl, ?_⟩) hHeld ?_ ?_
     rotate_left
     ·rintro w' ⟨s0, s1, s2, s3, s4⟩
      go_simp
      with_reducible rfl
     rotate_left
     ·simp only [Act.put, sqA, sqZ, sqS, i64_w, i32_w]
      rfl
     refine pure_ (i := 17) (N := some 76) (v := ?_) (a' := ?_) #[true, true, true, true, true, true, true, true, true, true, true, true, true, true, true, true, true, true, true, false, false, false, true, false] rfl rfl (any_of HT_.out (by kernel_rfl)) (fun _ _ _ h => h) (Or.inl ⟨by rfl, ?_⟩) ?_ ?_
     rotate_left
     ·intro w'
      go_simp
      with_reducible rfl
     rotate_left
     ·simp only [Act.put, sqA, sqZ, sqS, i64_w, i32_w]
      rfl
     refine take_ (i := 19) (N := some 78) (v := ?_) (a' := ?_) #[true, true, true, true, true, true, true, true, true, true, true, true, true, true, true, true, true, true, true, true, false, false, true, false] rfl rfl (take_ofW HT_.out HW_.out (by kernel_rfl)) (fun _ _ _ h => h) (Or.inl ⟨by rfl, ?_⟩) hHeld ?_ ?_
     rotate_left
     ·rintro w' ⟨s0, s1, s2, s3, s4⟩
      go_simp
      with_reducible rfl
     rotate_left
     ·simp only [Act.put, sqA, sqZ, sqS, i64_w, i32_w]
      rfl
     refine pure_ (i := 20) (N := some 79) (v := ?_) (a' := ?_) #[true, true, true, true, true, true, true, true, true, true, true, true, true, true, true, true, true, true, true, true, true, false, true, false] rfl rfl (any_of HT_.out (by kernel_rfl)) (fun _ _ _ h => h) (Or.inl ⟨by rfl, ?_⟩) ?_ ?_
     rotate_left
     ·intro w'
      go_simp
      with_reducible rfl
     rotate_left
     ·simp only [Act.put, sqA, sqZ, sqS, i64_w, i32_w]
      rfl
     refine pure_ (i := 21) (N := some 80) (v := ?_) (a' := ?_) #[true, true, true, true, true, true, true, true, true, true, true, true, true, true, true, true, true, true, true, true, true, true, true, false] rfl rfl (any_of HT_.out (by kernel_rfl)) (fun _ _ _ h => h) (Or.inl ⟨by rfl, ?_⟩) ?_ ?_
     rotate_left
     ·intro w'
      go_simp
      with_reducible rfl
     rotate_left
     ·simp only [Act.put, sqA, sqZ, sqS, i64_w, i32_w]
      rfl
     refine pure_ (i := 23) (N := some 10) (v := ?_) (a' := ?_) #[true, true, true, true, true, true, true, true, true, true, true, true, true, true, true, true, true, true, true, true, true, true, true, true] rfl rfl (any_of HT_.out (by kernel_rfl)) (fun _ _ _ h => h) (Or.inl ⟨by rfl, ?_⟩) ?_ ?_
     rotate_left
     ·intro w'
      go_simp
      with_reducible rfl
     rotate_left
     ·simp only [Act.put, sqA, sqZ, sqS, i64_w, i32_w]
      rfl
     refine done_ (done_of HT_.out (by kernel_rfl)) ?_
     try go_wp2_with (first | ((with_reducible refine gate_calleeV (x := 82) rfl ?_); refine goesV_ (some 85) rfl rfl Try.func52 (by kernel_rfl) rfl #[.int .i64 ji30, .int .i64 ji31, .pointer (some ⟨gb120, 0, none⟩), .pointer (some ⟨gb119, 0, none⟩)] rfl rfl (by (try simp only [List.map_toArray, List.map_cons, List.map_nil]); first | done | (simp only [hji30, hji31]; rfl) | rfl | (simp only [List.length_drop, List.length_take]; rfl)) ?_; (with_reducible refine (impl_At_1.calls ji30 ji31 _ [l1] _ [(⟨a0_0, a0_1, a0_2, a0_3, a0_4⟩ : S43)] t126 _ ?side1 ?side2 ?side3 ?side4 A32.out).mono ?_); (case side1 => refine C_box_ (t := 41) (cs := [.slice A1 l1.length c1]) (by (with_reducible repeat (first | refine blk_drewN ?_ _ | refine blk_drew ?_ | refine blk_alloc ?_ _)); exact BK120.out) ?_; refine ⟨_, _, rfl, (by exact HC1.out), (by repeat (first | exact (Kd.C_below HR1.out HB.out) | (with_reducible refine Kd.C_alloc ?_ _) | (with_reducible refine Kd.C_drewN ?_ _) | (with_reducible refine Kd.C_drew ?_)))⟩); (case side2 => exact Nat.le_refl _); (case side3 => refine C_box_ (t := 43) (cs := [.int .i64 a0_0, .int .i64 a0_1, .int .i64 a0_2, .int .i64 a0_3, .int .i64 a0_4]) (by (with_reducible repeat (first | refine blk_drewN ?_ _ | refine blk_drew ?_ | refine blk_alloc ?_ _)); exact BK119.out) ?_; exact k43_mk _ _); (case side4 => exact Nat.le_refl _); rintro e w' ⟨pr127, rfl, ⟨nd, rfl⟩⟩; refine ⟨_, rfl, ?_⟩) | ((with_reducible refine gate_calleeV (x := 86) rfl ?_); refine goesV_ (some 90) rfl rfl Try.func52 (by kernel_rfl) rfl #[.int .i64 ji30, .int .i64 (wrap64 ((ji31) + 1)), .pointer (some ⟨gb120, 0, none⟩), .pointer (some ⟨gb119, 0, none⟩)] rfl rfl (by (try simp only [List.map_toArray, List.map_cons, List.map_nil]); first | done | (simp only [hji30, hji31]; rfl) | rfl | (simp only [List.length_drop, List.length_take]; rfl)) ?_; (with_reducible refine (impl_At_1.calls ji30 (wrap64 ((ji31) + 1)) _ [l1] _ [(⟨a0_0, a0_1, a0_2, a0_3, a0_4⟩ : S43)] t128 _ ?side1 ?side2 ?side3 ?side4 A33.out).mono ?_); (case side1 => refine C_box_ (t := 41) (cs := [.slice A1 l1.length c1]) (by (with_reducible repeat (first | refine blk_drewN ?_ _ | refine blk_drew ?_ | refine blk_alloc ?_ _)); exact BK120.out) ?_; refine ⟨_, _, rfl, (by exact HC1.out), (by repeat (first | exact (Kd.C_below HR1.out (by repeat (first | (with_reducible first | exact HB.out | apply below_alloc | apply pw_below_drewN | apply below_drew1 | refine below_set ?_ GE119.out | refine below_set ?_ GE120.out) | exact HB.out))) | (with_reducible refine Kd.C_alloc ?_ _) | (with_reducible refine Kd.C_drewN ?_ _) | (with_reducible refine Kd.C_drew ?_)))⟩); (case side2 => exact Nat.le_refl _); (case side3 => refine C_box_ (t := 43) (cs := [.int .i64 a0_0, .int .i64 a0_1, .int .i64 a0_2, .int .i64 a0_3, .int .i64 a0_4]) (by (with_reducible repeat (first | refine blk_drewN ?_ _ | refine blk_drew ?_ | refine blk_alloc ?_ _)); exact BK119.out) ?_; exact k43_mk _ _); (case side4 => exact Nat.le_refl _); rintro e w' ⟨pr129, rfl, ⟨nd, rfl⟩⟩; refine ⟨_, rfl, ?_⟩) | ((with_reducible refine gate_calleeV (x := 91) rfl ?_); refine goesV_ (some 95) rfl rfl Try.func52 (by kernel_rfl) rfl #[.int .i64 (wrap64 ((ji30) + 1)), .int .i64 ji31, .pointer (some ⟨gb120, 0, none⟩), .pointer (some ⟨gb119, 0, none⟩)] rfl rfl (by (try simp only [List.map_toArray, List.map_cons, List.map_nil]); first | done | (simp only [hji30, hji31]; rfl) | rfl | (simp only [List.length_drop, List.length_take]; rfl)) ?_; (with_reducible refine (impl_At_1.calls (wrap64 ((ji30) + 1)) ji31 _ [l1] _ [(⟨a0_0, a0_1, a0_2, a0_3, a0_4⟩ : S43)] t130 _ ?side1 ?side2 ?side3 ?side4 A34.out).mono ?_); (case side1 => refine C_box_ (t := 41) (cs := [.slice A1 l1.length c1]) (by (with_reducible repeat (first | refine blk_drewN ?_ _ | refine blk_drew ?_ | refine blk_alloc ?_ _)); exact BK120.out) ?_; refine ⟨_, _, rfl, (by exact HC1.out), (by repeat (first | exact (Kd.C_below HR1.out (by repeat (first | (with_reducible first | exact HB.out | apply below_alloc | apply pw_below_drewN | apply below_drew1 | refine below_set ?_ GE119.out | refine below_set ?_ GE120.out) | exact HB.out))) | (with_reducible refine Kd.C_alloc ?_ _) | (with_reducible refine Kd.C_drewN ?_ _) | (with_reducible refine Kd.C_drew ?_)))⟩); (case side2 => exact Nat.le_refl _); (case side3 => refine C_box_ (t := 43) (cs := [.int .i64 a0_0, .int .i64 a0_1, .int .i64 a0_2, .int .i64 a0_3, .int .i64 a0_4]) (by (with_reducible repeat (first | refine blk_drewN ?_ _ | refine blk_drew ?_ | refine blk_alloc ?_ _)); exact BK119.out) ?_; exact k43_mk _ _); (case side4 => exact Nat.le_refl _); rintro e w' ⟨pr131, rfl, ⟨nd, rfl⟩⟩; refine ⟨_, rfl, ?_⟩) | ((with_reducible refine gate_calleeV (x := 96) rfl ?_); refine goesV_ (some 101) rfl rfl Try.func52 (by kernel_rfl) rfl #[.int .i64 (wrap64 ((ji30) + 1)), .int .i64 (wrap64 ((ji31) + 1)), .pointer (some ⟨gb120, 0, none⟩), .pointer (some ⟨gb119, 0, none⟩)] rfl rfl (by (try simp only [List.map_toArray, List.map_cons, List.map_nil]); first | done | (simp only [hji30, hji31]; rfl) | rfl | (simp only [List.length_drop, List.length_take]; rfl)) ?_; (with_reducible refine (impl_At_1.calls (wrap64 ((ji30) + 1)) (wrap64 ((ji31) + 1)) _ [l1] _ [(⟨a0_0, a0_1, a0_2, a0_3, a0_4⟩ : S43)] t132 _ ?side1 ?side2 ?side3 ?side4 A35.out).mono ?_); (case side1 => refine C_box_ (t := 41) (cs := [.slice A1 l1.length c1]) (by (with_reducible repeat (first | refine blk_drewN ?_ _ | refine blk_drew ?_ | refine blk_alloc ?_ _)); exact BK120.out) ?_; refine ⟨_, _, rfl, (by exact HC1.out), (by repeat (first | exact (Kd.C_below HR1.out (by repeat (first | (with_reducible first | exact HB.out | apply below_alloc | apply pw_below_drewN | apply below_drew1 | refine below_set ?_ GE119.out | refine below_set ?_ GE120.out) | exact HB.out))) | (with_reducible refine Kd.C_alloc ?_ _) | (with_reducible refine Kd.C_drewN ?_ _) | (with_reducible refine Kd.C_drew ?_)))⟩); (case side2 => exact Nat.le_refl _); (case side3 => refine C_box_ (t := 43) (cs := [.int .i64 a0_0, .int .i64 a0_1, .int .i64 a0_2, .int .i64 a0_3, .int .i64 a0_4]) (by (with_reducible repeat (first | refine blk_drewN ?_ _ | refine blk_drew ?_ | refine blk_alloc ?_ _)); exact BK119.out) ?_; exact k43_mk _ _); (case side4 => exact Nat.le_refl _); rintro e w' ⟨pr133, rfl, ⟨nd, rfl⟩⟩; refine ⟨_, rfl, ?_⟩))
     (try (rw [drewN_self w37]; generalize hq_ : World.drewN w37 _ = w37; have n0_ : Aside0 (w37.heap[gb119]? = some (.cells #[.int .i64 a0_0, .int .i64 a0_1, .int .i64 a0_2, .int .i64 a0_3, .int .i64 a0_4] 43 (0, 0))) := ⟨by rw [← hq_]; exact (by (with_reducible repeat (first | refine blk_drewN ?_ _ | refine blk_drew ?_ | refine blk_alloc ?_ _)); exact BK119.out)⟩; have n1_ : Aside0 (w37.heap[gb120]? = some (.cells #[.slice A1 l1.length c1] 41 (0, 0))) := ⟨by rw [← hq_]; exact (by (with_reducible repeat (first | refine blk_drewN ?_ _ | refine blk_drew ?_ | refine blk_alloc ?_ _)); exact BK120.out)⟩; have n2_ : Aside0 (Below w.heap.size w w37) := ⟨by rw [← hq_]; exact (by repeat (first | (with_reducible first | exact HB.out | apply below_alloc | apply pw_below_drewN | apply below_drew1 | refine below_set ?_ GE119.out | refine below_set ?_ GE120.out) | exact HB.out))⟩; clear BK119 BK120 HB hq_; have BK119 := n0_; have BK120 := n1_; have HB := n2_; clear n0_ n1_ n2_))
     have n0_ := Aside0.mk (blk_drew BK119.out)
     have n1_ := Aside0.mk (blk_drew BK120.out)
     have n2_ := Aside0.mk (below_drew1 HB.out)
     clear BK119
     clear BK120
     clear HB
     have BK119 := n0_
     have BK120 := n1_
     have HB := n2_
     clear n0_ n1_ n2_
     refine start_ (n := 20) (S := fun w' => w'.cell? ⟨gb119, 0, none⟩ = some (.int .i64 a0_0) ∧ w'.cell? ⟨gb119, 1, none⟩ = some (.int .i64 a0_1) ∧ w'.cell? ⟨gb119, 2, none⟩ = some (.int .i64 a0_2) ∧ w'.cell? ⟨gb119, 3, none⟩ = some (.int .i64 a0_3) ∧ w'.cell? ⟨gb119, 4, none⟩ = some (.int .i64 a0_4)) (ds := []) #[false, false, false, false, false, false, false, false, false, false, false, false, false, false, false, false, false, false, false, false] (by kernel_rfl) rfl rfl ⟨(blk_cell BK119.out 0).trans rfl, (blk_cell BK119.out 1).trans rfl, (blk_cell BK119.out 2).trans rfl, (blk_cell BK119.out 3).trans rfl, (blk_cell BK119.out 4).trans rfl⟩ (fun hHeld => ?_); refine with_tabW impl_At.tab6 impl_At.bits6 (fun HT_ HW_ => ?_)
     generalize w37.drew = w38 at BK119 BK120 HB hHeld ⊢
     refine pure_ (i := 0) (N := some 102) (v := ?_) (a' := ?_) #[true, false, false, false, false, false, false, false, false, false, false, false, false, false, false, false, false, false, false, false] rfl rfl (any_of HT_.out (by kernel_rfl)) (fun _ _ _ h => h) (Or.inl ⟨by rfl, ?_⟩) ?_ ?_
     rotate_left
     ·intro w'
      go_simp
      with_reducible rfl
     rotate_left
     ·simp only [Act.put, sqA, sqZ, sqS, i64_w, i32_w]
      rfl
     refine pure_ (i := 1) (N := some 103) (v := ?_) (a' := ?_) #[true, true, false, false, false, false, false, false, false, false, false, false, false, false, false, false, false, false, false, false] rfl rfl (any_of HT_.out (by kernel_rfl)) (fun _ _ _ h => h) (Or.inl ⟨by rfl, ?_⟩) ?_ ?_
     rotate_left
     ·intro w'
      go_simp
      with_reducible rfl
     rotate_left
     ·simp only [Act.put, sqA, sqZ, sqS, i64_w, i32_w]
      rfl
     refine pure_ (i := 4) (N := some 106) (v := ?_) (a' := ?_) #[true, true, false, false, true, false, false, false, false, false, false, false, false, false, false, false, false, false, false, false] rfl rfl (any_of HT_.out (by kernel_rfl)) (fun _ _ _ h => h) (Or.inl ⟨by rfl, ?_⟩) ?_ ?_
     rotate_left
     ·intro w'
      go_simp
      with_reducible rfl
     rotate_left
     ·simp only [Act.put, sqA, sqZ, sqS, i64_w, i32_w]
      rfl
     refine pure_ (i := 5) (N := some 107) (v := ?_) (a' := ?_) #[true, true, false, false, true, true, false, false, false, false, false, false, false, false, false, false, false, false, false, false] rfl rfl (any_of HT_.out (by kernel_rfl)) (fun _ _ _ h => h) (Or.inl ⟨by rfl, ?_⟩) ?_ ?_
     rotate_left
     ·intro w'
      go_simp
      with_reducible rfl
     rotate_left
     ·simp only [Act.put, sqA, sqZ, sqS, i64_w, i32_w]
      rfl
     refine pure_ (i := 9) (N := some 111) (v := ?_) (a' := ?_) #[true, true, false, false, true, true, false, false, false, true, false, false, false, false, false, false, false, false, false, false] rfl rfl (any_of HT_.out (by kernel_rfl)) (fun _ _ _ h => h) (Or.inl ⟨by rfl, ?_⟩) ?_ ?_
     rotate_left
     ·intro w'
      go_simp
      with_reducible rfl
     rotate_left
     ·simp only [Act.put, sqA, sqZ, sqS, i64_w, i32_w]
      rfl
     refine pure_ (i := 10) (N := some 112) (v := ?_) (a' := ?_) #[true, true, false, false, true, true, false, false, false, true, true, false, false, false, false, false, false, false, false, false] rfl rfl (any_of HT_.out (by kernel_rfl)) (fun _ _ _ h => h) (Or.inl ⟨by rfl, ?_⟩) ?_ ?_
     rotate_left
     ·intro w'
      go_simp
      with_reducible rfl
     rotate_left
     ·simp only [Act.put, sqA, sqZ, sqS, i64_w, i32_w]
      rfl
     refine pure_ (i := 13) (N := some 115) (v := ?_) (a' := ?_) #[true, true, false, false, true, true, false, false, false, true, true, false, false, true, false, false, false, false, false, false] rfl rfl (any_of HT_.out (by kernel_rfl)) (fun _ _ _ h => h) (Or.inl ⟨by rfl, ?_⟩) ?_ ?_
     rotate_left
     ·intro w'
      go_simp
      with_reducible rfl
     rotate_left
     ·simp only [Act.put, sqA, sqZ, sqS, i64_w, i32_w]
      rfl
     refine pure_ (i := 14) (N := some 116) (v := ?_) (a' := ?_) #[true, true, false, false, true, true, false, false, false, true, true, false, false, true, true, false, false, false, false, false] rfl rfl (any_of HT_.out (by kernel_rfl)) (fun _ _ _ h => h) (Or.inl ⟨by rfl, ?_⟩) ?_ ?_
     rotate_left
     ·intro w'
      go_simp
      with_reducible rfl
     rotate_left
     ·simp only [Act.put, sqA, sqZ, sqS, i64_w, i32_w]
      rfl
     refine take_ (i := 2) (N := some 104) (v := ?_) (a' := ?_) #[true, true, true, false, true, true, false, false, false, true, true, false, false, true, true, false, false, false, false, false] rfl rfl (take_ofW HT_.out HW_.out (by kernel_rfl)) (fun _ _ _ h => h) (Or.inl ⟨by rfl, ?_⟩) hHeld ?_ ?_
     rotate_left
     ·rintro w' ⟨s0, s1, s2, s3, s4⟩
      go_simp
      with_reducible rfl
     rotate_left
     ·simp only [Act.put, sqA, sqZ, sqS, i64_w, i32_w]
      rfl
     refine pure_ (i := 3) (N := some 105) (v := ?_) (a' := ?_) #[true, true, true, true, true, true, false, false, false, true, true, false, false, true, true, false, false, false, false, false] rfl rfl (any_of HT_.out (by kernel_rfl)) (fun _ _ _ h => h) (Or.inl ⟨by rfl, ?_⟩) ?_ ?_
     rotate_left
     ·intro w'
      go_simp
      with_reducible rfl
     rotate_left
     ·simp only [Act.put, sqA, sqZ, sqS, i64_w, i32_w]
      rfl
     refine take_ (i := 6) (N := some 108) (v := ?_) (a' := ?_) #[true, true, true, true, true, true, true, false, false, true, true, false, false, true, true, false, false, false, false, false] rfl rfl (take_ofW HT_.out HW_.out (by kernel_rfl)) (fun _ _ _ h => h) (Or.inl ⟨by rfl, ?_⟩) hHeld ?_ ?_
     rotate_left
     ·rintro w' ⟨s0, s1, s2, s3, s4⟩
      go_simp
      with_reducible rfl
     rotate_left
     ·simp only [Act.put, sqA, sqZ, sqS, i64_w, i32_w]
      rfl
     refine pure_ (i := 7) (N := some 109) (v := ?_) (a' := ?_) #[true, true, true, true, true, true, true, true, false, true, true, false, false, true, true, false, false, false, false, false] rfl rfl (any_of HT_.out (by kernel_rfl)) (fun _ _ _ h => h) (Or.inl ⟨by rfl, ?_⟩) ?_ ?_
     rotate_left
     ·intro w'
      go_simp
      with_reducible rfl
     rotate_left
     ·simp only [Act.put, sqA, sqZ, sqS, i64_w, i32_w]
      rfl
     refine pure_ (i := 8) (N := some 110) (v := ?_) (a' := ?_) #[true, true, true, true, true, true, true, true, true, true, true, false, false, true, true, false, false, false, false, false] rfl rfl (any_of HT_.out (by kernel_rfl)) (fun _ _ _ h => h) (Or.inl ⟨by rfl, ?_⟩) ?_ ?_
     rotate_left
     ·intro w'
      go_simp
      with_reducible rfl
     rotate_left
     ·simp only [Act.put, sqA, sqZ, sqS, i64_w, i32_w]
      rfl
     refine pure_ (i := 18) (N := some 16) (v := ?_) (a' := ?_) #[true, true, true, true, true, true, true, true, true, true, true, false, false, true, true, false, false, false, true, false] rfl rfl (any_of HT_.out (by kernel_rfl)) (fun _ _ _ h => h) (Or.inl ⟨by rfl, ?_⟩) ?_ ?_
     rotate_left
     ·intro w'
      go_simp
      with_reducible rfl
     rotate_left
     ·simp only [Act.put, sqA, sqZ, sqS, i64_w, i32_w]
      rfl
     refine take_ (i := 11) (N := some 113) (v := ?_) (a' := ?_) #[true, true, true, true, true, true, true, true, true, true, true, true, false, true, true, false, false, false, true, false] rfl rfl (take_ofW HT_.out HW_.out (by kernel_rfl)) (fun _ _ _ h => h) (Or.inl ⟨by rfl, ?_⟩) hHeld ?_ ?_
     rotate_left
     ·rintro w' ⟨s0, s1, s2, s3, s4⟩
      go_simp
      with_reducible rfl
     rotate_left
     ·simp only [Act.put, sqA, sqZ, sqS, i64_w, i32_w]
      rfl
     refine pure_ (i := 12) (N := some 114) (v := ?_) (a' := ?_) #[true, true, true, true, true, true, true, true, true, true, true, true, true, true, true, false, false, false, true, false] rfl rfl (any_of HT_.out (by kernel_rfl)) (fun _ _ _ h => h) (Or.inl ⟨by rfl, ?_⟩) ?_ ?_
     rotate_left
     ·intro w'
      go_simp
      with_reducible rfl
     rotate_left
     ·simp only [Act.put, sqA, sqZ, sqS, i64_w, i32_w]
      rfl
     refine take_ (i := 15) (N := some 117) (v := ?_) (a' := ?_) #[true, true, true, true, true, true, true, true, true, true, true, true, true, true, true, true, false, false, true, false] rfl rfl (take_ofW HT_.out HW_.out (by kernel_rfl)) (fun _ _ _ h => h) (Or.inl ⟨by rfl, ?_⟩) hHeld ?_ ?_
     rotate_left
     ·rintro w' ⟨s0, s1, s2, s3, s4⟩
      go_simp
      with_reducible rfl
     rotate_left
     ·simp only [Act.put, sqA, sqZ, sqS, i64_w, i32_w]
      rfl
     refine pure_ (i := 16) (N := some 118) (v := ?_) (a' := ?_) #[true, true, true, true, true, true, true, true, true, true, true, true, true, true, true, true, true, false, true, false] rfl rfl (any_of HT_.out (by kernel_rfl)) (fun _ _ _ h => h) (Or.inl ⟨by rfl, ?_⟩) ?_ ?_
     rotate_left
     ·intro w'
      go_simp
      with_reducible rfl
     rotate_left
     ·simp only [Act.put, sqA, sqZ, sqS, i64_w, i32_w]
      rfl
     refine pure_ (i := 17) (N := some 119) (v := ?_) (a' := ?_) #[true, true, true, true, true, true, true, true, true, true, true, true, true, true, true, true, true, true, true, false] rfl rfl (any_of HT_.out (by kernel_rfl)) (fun _ _ _ h => h) (Or.inl ⟨by rfl, ?_⟩) ?_ ?_
     rotate_left
     ·intro w'
      go_simp
      with_reducible rfl
     rotate_left
     ·simp only [Act.put, sqA, sqZ, sqS, i64_w, i32_w]
      rfl
     refine pure_ (i := 19) (N := some 17) (v := ?_) (a' := ?_) #[true, true, true, true, true, true, true, true, true, true, true, true, true, true, true, true, true, true, true, true] rfl rfl (any_of HT_.out (by kernel_rfl)) (fun _ _ _ h => h) (Or.inl ⟨by rfl, ?_⟩) ?_ ?_
     rotate_left
     ·intro w'
      go_simp
      with_reducible rfl
     rotate_left
     ·simp only [Act.put, sqA, sqZ, sqS, i64_w, i32_w]
      rfl
     refine done_ (done_of HT_.out (by kernel_rfl)) ?_
     go_upto_region 7 with (fail)
     go_cut [133] (fun v133 wc => ∃ (kq : Nat) (x133_35 : Bool), v133 = .bool x133_35 ∧ Aside0 (impl_At.j1 kq ji30 ji31 t126 t128 t130 t132 (wrap64 ((wrap64 (a2 - a0_2)) - (wrap64 ((ji30) * a0_4)))) (wrap64 ((wrap64 (a3 - a0_3)) - (wrap64 ((ji31) * a0_4)))) x133_35 a0_0 a0_1 a0_2 a0_3 a0_4 l1 = some r) ∧ Aside0 (kq ≤ kj4) ∧ Aside0 (wc.heap[gb119]? = some (.cells #[.int .i64 a0_0, .int .i64 a0_1, .int .i64 a0_2, .int .i64 a0_3, .int .i64 a0_4] 43 (0, 0))) ∧ Aside0 (wc.heap[gb120]? = some (.cells #[(.slice A1 l1.length c1)] 41 (0, 0))) ∧ Aside0 (Below w.heap.size w wc))
     case first =>
      have H := HC36.out
      clear HC36
      replace H := Option.bind_eq_some_iff.mp H
      obtain ⟨t134, A390, H⟩ := H
      replace H : (if t134 = true then ((impl_Known.f t128).bind fun t135 => (if t135 = true then ((impl_Known.f t130).bind fun t136 => (if t136 = true then ((impl_Known.f t132).bind fun t137 => (impl_At.j1 kj4 ji30 ji31 t126 t128 t130 t132 (wrap64 ((wrap64 (a2 - a0_2)) - (wrap64 ((ji30) * a0_4)))) (wrap64 ((wrap64 (a3 - a0_3)) - (wrap64 ((ji31) * a0_4)))) t137 a0_0 a0_1 a0_2 a0_3 a0_4 l1)) else (impl_At.j1 kj4 ji30 ji31 t126 t128 t130 t132 (wrap64 ((wrap64 (a2 - a0_2)) - (wrap64 ((ji30) * a0_4)))) (wrap64 ((wrap64 (a3 - a0_3)) - (wrap64 ((ji31) * a0_4)))) false a0_0 a0_1 a0_2 a0_3 a0_4 l1))) else (impl_At.j1 kj4 ji30 ji31 t126 t128 t130 t132 (wrap64 ((wrap64 (a2 - a0_2)) - (wrap64 ((ji30) * a0_4)))) (wrap64 ((wrap64 (a3 - a0_3)) - (wrap64 ((ji31) * a0_4)))) false a0_0 a0_1 a0_2 a0_3 a0_4 l1))) else (impl_At.j1 kj4 ji30 ji31 t126 t128 t130 t132 (wrap64 ((wrap64 (a2 - a0_2)) - (wrap64 ((ji30) * a0_4)))) (wrap64 ((wrap64 (a3 - a0_3)) - (wrap64 ((ji31) * a0_4)))) false a0_0 a0_1 a0_2 a0_3 a0_4 l1)) = some r := H
      have A39 := Aside0.mk A390
      clear A390
      by_cases c40 : t134 = true
      ·subst c40
       have H1 : ((impl_Known.f t128).bind fun t135 => (if t135 = true then ((impl_Known.f t130).bind fun t136 => (if t136 = true then ((impl_Known.f t132).bind fun t137 => (impl_At.j1 kj4 ji30 ji31 t126 t128 t130 t132 (wrap64 ((wrap64 (a2 - a0_2)) - (wrap64 ((ji30) * a0_4)))) (wrap64 ((wrap64 (a3 - a0_3)) - (wrap64 ((ji31) * a0_4)))) t137 a0_0 a0_1 a0_2 a0_3 a0_4 l1)) else (impl_At.j1 kj4 ji30 ji31 t126 t128 t130 t132 (wrap64 ((wrap64 (a2 - a0_2)) - (wrap64 ((ji30) * a0_4)))) (wrap64 ((wrap64 (a3 - a0_3)) - (wrap64 ((ji31) * a0_4)))) false a0_0 a0_1 a0_2 a0_3 a0_4 l1))) else (impl_At.j1 kj4 ji30 ji31 t126 t128 t130 t132 (wrap64 ((wrap64 (a2 - a0_2)) - (wrap64 ((ji30) * a0_4)))) (wrap64 ((wrap64 (a3 - a0_3)) - (wrap64 ((ji31) * a0_4)))) false a0_0 a0_1 a0_2 a0_3 a0_4 l1))) = some r := by rw [if_pos rfl] at H; exact H
       clear H
       have H := H1
       clear H1
       replace H := Option.bind_eq_some_iff.mp H
       obtain ⟨t135, A410, H⟩ := H
       replace H : (if t135 = true then ((impl_Known.f t130).bind fun t136 => (if t136 = true then ((impl_Known.f t132).bind fun t137 => (impl_At.j1 kj4 ji30 ji31 t126 t128 t130 t132 (wrap64 ((wrap64 (a2 - a0_2)) - (wrap64 ((ji30) * a0_4)))) (wrap64 ((wrap64 (a3 - a0_3)) - (wrap64 ((ji31) * a0_4)))) t137 a0_0 a0_1 a0_2 a0_3 a0_4 l1)) else (impl_At.j1 kj4 ji30 ji31 t126 t128 t130 t132 (wrap64 ((wrap64 (a2 - a0_2)) - (wrap64 ((ji30) * a0_4)))) (wrap64 ((wrap64 (a3 - a0_3)) - (wrap64 ((ji31) * a0_4)))) false a0_0 a0_1 a0_2 a0_3 a0_4 l1))) else (impl_At.j1 kj4 ji30 ji31 t126 t128 t130 t132 (wrap64 ((wrap64 (a2 - a0_2)) - (wrap64 ((ji30) * a0_4)))) (wrap64 ((wrap64 (a3 - a0_3)) - (wrap64 ((ji31) * a0_4)))) false a0_0 a0_1 a0_2 a0_3 a0_4 l1)) = some r := H
       have A41 := Aside0.mk A410
       clear A410
       by_cases c42 : t135 = true
       ·subst c42
        have H1 : ((impl_Known.f t130).bind fun t136 => (if t136 = true then ((impl_Known.f t132).bind fun t137 => (impl_At.j1 kj4 ji30 ji31 t126 t128 t130 t132 (wrap64 ((wrap64 (a2 - a0_2)) - (wrap64 ((ji30) * a0_4)))) (wrap64 ((wrap64 (a3 - a0_3)) - (wrap64 ((ji31) * a0_4)))) t137 a0_0 a0_1 a0_2 a0_3 a0_4 l1)) else (impl_At.j1 kj4 ji30 ji31 t126 t128 t130 t132 (wrap64 ((wrap64 (a2 - a0_2)) - (wrap64 ((ji30) * a0_4)))) (wrap64 ((wrap64 (a3 - a0_3)) - (wrap64 ((ji31) * a0_4)))) false a0_0 a0_1 a0_2 a0_3 a0_4 l1))) = some r := by rw [if_pos rfl] at H; exact H
        clear H
        have H := H1
        clear H1
        replace H := Option.bind_eq_some_iff.mp H
        obtain ⟨t136, A430, H⟩ := H
        replace H : (if t136 = true then ((impl_Known.f t132).bind fun t137 => (impl_At.j1 kj4 ji30 ji31 t126 t128 t130 t132 (wrap64 ((wrap64 (a2 - a0_2)) - (wrap64 ((ji30) * a0_4)))) (wrap64 ((wrap64 (a3 - a0_3)) - (wrap64 ((ji31) * a0_4)))) t137 a0_0 a0_1 a0_2 a0_3 a0_4 l1)) else (impl_At.j1 kj4 ji30 ji31 t126 t128 t130 t132 (wrap64 ((wrap64 (a2 - a0_2)) - (wrap64 ((ji30) * a0_4)))) (wrap64 ((wrap64 (a3 - a0_3)) - (wrap64 ((ji31) * a0_4)))) false a0_0 a0_1 a0_2 a0_3 a0_4 l1)) = some r := H
        have A43 := Aside0.mk A430
        clear A430
        by_cases c44 : t136 = true
        ·subst c44
         have H1 : ((impl_Known.f t132).bind fun t137 => (impl_At.j1 kj4 ji30 ji31 t126 t128 t130 t132 (wrap64 ((wrap64 (a2 - a0_2)) - (wrap64 ((ji30) * a0_4)))) (wrap64 ((wrap64 (a3 - a0_3)) - (wrap64 ((ji31) * a0_4)))) t137 a0_0 a0_1 a0_2 a0_3 a0_4 l1)) = some r := by rw [if_pos rfl] at H; exact H
         clear H
         have H := H1
         clear H1
         replace H := Option.bind_eq_some_iff.mp H
         obtain ⟨t137, A450, H⟩ := H
         replace H : (impl_At.j1 kj4 ji30 ji31 t126 t128 t130 t132 (wrap64 ((wrap64 (a2 - a0_2)) - (wrap64 ((ji30) * a0_4)))) (wrap64 ((wrap64 (a3 - a0_3)) - (wrap64 ((ji31) * a0_4)))) t137 a0_0 a0_1 a0_2 a0_3 a0_4 l1) = some r := H
         have A45 := Aside0.mk A450
         clear A450
         have H' := Aside0.mk H
         clear H
         go_wp2_with (first | ((with_reducible refine gate_callee (f := 53) rfl ?_); refine goesL_ (some 121) rfl rfl Try.func53 (by kernel_rfl) rfl #[.float .f64 (un pr127 t126)] rfl (by (try simp only [List.map_toArray, List.map_cons, List.map_nil]); first | done | rfl | (simp only [List.length_drop, List.length_take]; rfl)) ?_; (with_reducible refine (impl_Known.calls pr127 t126 true _ A39.out).mono ?_); rintro e w' ⟨rfl, ⟨nd, rfl⟩⟩; refine ⟨_, rfl, ?_⟩) | (go_at_call 53; (with_reducible refine (impl_Known.calls pr129 t128 true _ A41.out).mono ?_); rintro e w' ⟨rfl, ⟨nd, rfl⟩⟩) | (go_at_call 53; (with_reducible refine (impl_Known.calls pr131 t130 true _ A43.out).mono ?_); rintro e w' ⟨rfl, ⟨nd, rfl⟩⟩) | (go_at_call 53; (with_reducible refine (impl_Known.calls pr133 t132 t137 _ A45.out).mono ?_); rintro e w' ⟨rfl, ⟨nd, rfl⟩⟩))
         go_meet
         case rel => exact ⟨_, (t137), (by first | rfl | (simp; done) | (simp [*]; done)), H', ⟨by have := HJ4.out; first | omega | exact Nat.le_refl _⟩, ⟨by (with_reducible repeat (first | refine blk_drewN ?_ _ | refine blk_drew ?_ | refine blk_alloc ?_ _)); exact BK119.out⟩, ⟨by (with_reducible repeat (first | refine blk_drewN ?_ _ | refine blk_drew ?_ | refine blk_alloc ?_ _)); exact BK120.out⟩, ⟨by repeat (first | (with_reducible first | exact HB.out | apply below_alloc | apply pw_below_drewN | apply below_drew1 | refine below_set ?_ GE119.out | refine below_set ?_ GE120.out) | exact HB.out)⟩⟩
        ·replace c44 := Bool.eq_false_iff.mpr c44
         subst c44
         have H1 : (impl_At.j1 kj4 ji30 ji31 t126 t128 t130 t132 (wrap64 ((wrap64 (a2 - a0_2)) - (wrap64 ((ji30) * a0_4)))) (wrap64 ((wrap64 (a3 - a0_3)) - (wrap64 ((ji31) * a0_4)))) false a0_0 a0_1 a0_2 a0_3 a0_4 l1) = some r := by rw [if_neg (show ¬ (false = true) by decide)] at H; exact H
         clear H
         have H := H1
         clear H1
         have H' := Aside0.mk H
         clear H
         go_wp2_with (first | ((with_reducible refine gate_callee (f := 53) rfl ?_); refine goesL_ (some 121) rfl rfl Try.func53 (by kernel_rfl) rfl #[.float .f64 (un pr127 t126)] rfl (by (try simp only [List.map_toArray, List.map_cons, List.map_nil]); first | done | rfl | (simp only [List.length_drop, List.length_take]; rfl)) ?_; (with_reducible refine (impl_Known.calls pr127 t126 true _ A39.out).mono ?_); rintro e w' ⟨rfl, ⟨nd, rfl⟩⟩; refine ⟨_, rfl, ?_⟩) | (go_at_call 53; (with_reducible refine (impl_Known.calls pr129 t128 true _ A41.out).mono ?_); rintro e w' ⟨rfl, ⟨nd, rfl⟩⟩) | (go_at_call 53; (with_reducible refine (impl_Known.calls pr131 t130 false _ A43.out).mono ?_); rintro e w' ⟨rfl, ⟨nd, rfl⟩⟩))
         go_meet
         case rel => exact ⟨_, (false), (by first | rfl | (simp; done) | (simp [*]; done)), H', ⟨by have := HJ4.out; first | omega | exact Nat.le_refl _⟩, ⟨by (with_reducible repeat (first | refine blk_drewN ?_ _ | refine blk_drew ?_ | refine blk_alloc ?_ _)); exact BK119.out⟩, ⟨by (with_reducible repeat (first | refine blk_drewN ?_ _ | refine blk_drew ?_ | refine blk_alloc ?_ _)); exact BK120.out⟩, ⟨by repeat (first | (with_reducible first | exact HB.out | apply below_alloc | apply pw_below_drewN | apply below_drew1 | refine below_set ?_ GE119.out | refine below_set ?_ GE120.out) | exact HB.out)⟩⟩
       ·replace c42 := Bool.eq_false_iff.mpr c42
        subst c42
        have H1 : (impl_At.j1 kj4 ji30 ji31 t126 t128 t130 t132 (wrap64 ((wrap64 (a2 - a0_2)) - (wrap64 ((ji30) * a0_4)))) (wrap64 ((wrap64 (a3 - a0_3)) - (wrap64 ((ji31) * a0_4)))) false a0_0 a0_1 a0_2 a0_3 a0_4 l1) = some r := by rw [if_neg (show ¬ (false = true) by decide)] at H; exact H
        clear H
        have H := H1
        clear H1
        have H' := Aside0.mk H
        clear H
        go_wp2_with (first | ((with_reducible refine gate_callee (f := 53) rfl ?_); refine goesL_ (some 121) rfl rfl Try.func53 (by kernel_rfl) rfl #[.float .f64 (un pr127 t126)] rfl (by (try simp only [List.map_toArray, List.map_cons, List.map_nil]); first | done | rfl | (simp only [List.length_drop, List.length_take]; rfl)) ?_; (with_reducible refine (impl_Known.calls pr127 t126 true _ A39.out).mono ?_); rintro e w' ⟨rfl, ⟨nd, rfl⟩⟩; refine ⟨_, rfl, ?_⟩) | (go_at_call 53; (with_reducible refine (impl_Known.calls pr129 t128 false _ A41.out).mono ?_); rintro e w' ⟨rfl, ⟨nd, rfl⟩⟩))
        go_meet
        case rel => exact ⟨_, (false), (by first | rfl | (simp; done) | (simp [*]; done)), H', ⟨by have := HJ4.out; first | omega | exact Nat.le_refl _⟩, ⟨by (with_reducible repeat (first | refine blk_drewN ?_ _ | refine blk_drew ?_ | refine blk_alloc ?_ _)); exact BK119.out⟩, ⟨by (with_reducible repeat (first | refine blk_drewN ?_ _ | refine blk_drew ?_ | refine blk_alloc ?_ _)); exact BK120.out⟩, ⟨by repeat (first | (with_reducible first | exact HB.out | apply below_alloc | apply pw_below_drewN | apply below_drew1 | refine below_set ?_ GE119.out | refine below_set ?_ GE120.out) | exact HB.out)⟩⟩
      ·replace c40 := Bool.eq_false_iff.mpr c40
       subst c40
       have H1 : (impl_At.j1 kj4 ji30 ji31 t126 t128 t130 t132 (wrap64 ((wrap64 (a2 - a0_2)) - (wrap64 ((ji30) * a0_4)))) (wrap64 ((wrap64 (a3 - a0_3)) - (wrap64 ((ji31) * a0_4)))) false a0_0 a0_1 a0_2 a0_3 a0_4 l1) = some r := by rw [if_neg (show ¬ (false = true) by decide)] at H; exact H
       clear H
       have H := H1
       clear H1
       have H' := Aside0.mk H
       clear H
       go_wp2_with (first | ((with_reducible refine gate_callee (f := 53) rfl ?_); refine goesL_ (some 121) rfl rfl Try.func53 (by kernel_rfl) rfl #[.float .f64 (un pr127 t126)] rfl (by (try simp only [List.map_toArray, List.map_cons, List.map_nil]); first | done | rfl | (simp only [List.length_drop, List.length_take]; rfl)) ?_; (with_reducible refine (impl_Known.calls pr127 t126 false _ A39.out).mono ?_); rintro e w' ⟨rfl, ⟨nd, rfl⟩⟩; refine ⟨_, rfl, ?_⟩))
       go_meet
       case rel => exact ⟨_, (false), (by first | rfl | (simp; done) | (simp [*]; done)), H', ⟨by have := HJ4.out; first | omega | exact Nat.le_refl _⟩, ⟨by (with_reducible repeat (first | refine blk_drewN ?_ _ | refine blk_drew ?_ | refine blk_alloc ?_ _)); exact BK119.out⟩, ⟨by (with_reducible repeat (first | refine blk_drewN ?_ _ | refine blk_drew ?_ | refine blk_alloc ?_ _)); exact BK120.out⟩, ⟨by repeat (first | (with_reducible first | exact HB.out | apply below_alloc | apply pw_below_drewN | apply below_drew1 | refine below_set ?_ GE119.out | refine below_set ?_ GE120.out) | exact HB.out)⟩⟩
     case rest =>
      clear HC36
      try clear c1
      try clear c2
      try clear p2
      try clear c4
      try clear c5
      try clear p6
      try clear c9
      try clear c11
      try clear c13
      try clear c18
      try clear c23
      try clear c26
      try clear c27
      try clear c29
      try clear c29b0
      try clear c29b1
      try clear c40
      try clear c42
      try clear c44
      try clear hcz14_0
      try clear hcz14_1
      try clear hcz14_2
      try clear hcz14_3
      try clear hcz14_4
      try clear hcz15_0
      try clear hcz17_0
      try clear hcz17_1
      try clear hcz17_2
      try clear hcz17_3
      try clear hcz17_4
      try clear hcz19_0
      try clear hcz19_1
      try clear hcz19_2
      try clear hcz19_3
      try clear hcz19_4
      try clear hcz20_0
      try clear hcz22_0
      try clear hcz22_1
      try clear hcz22_2
      try clear hcz22_3
      try clear hcz22_4
      try clear hcz24_0
      try clear hcz24_1
      try clear hcz24_2
      try clear hcz24_3
      try clear hcz24_4
      try clear hcz25_0
      try clear hfz14_0
      try clear hfz14_1
      try clear hfz14_2
      try clear hfz14_3
      try clear hfz14_4
      try clear hfz15_0
      try clear hfz17_0
      try clear hfz17_1
      try clear hfz17_2
      try clear hfz17_3
      try clear hfz17_4
      try clear hfz19_0
      try clear hfz19_1
      try clear hfz19_2
      try clear hfz19_3
      try clear hfz19_4
      try clear hfz20_0
      try clear hfz22_0
      try clear hfz22_1
      try clear hfz22_2
      try clear hfz22_3
      try clear hfz22_4
      try clear hfz24_0
      try clear hfz24_1
      try clear hfz24_2
      try clear hfz24_3
      try clear hfz24_4
      try clear hfz25_0
      try clear p2
      try clear p6
      obtain ⟨kq, x133_35, rfl, HA, HJ35, BK119, BK120, HB⟩ := hcut
      cases kq with
      | zero => exact absurd HA.out (by simp [impl_At.j1])
      | succ kj35 =>
       have H := HA.out
       clear HA
       simp only [impl_At.j1] at H
       by_cases c46 : x133_35 = true
       ·subst c46
        have H1 : (some (fadd (fadd t126 (fmul (fsub t128 t126) (fdiv (foi (wrap64 ((wrap64 (a3 - a0_3)) - (wrap64 ((ji31) * a0_4))))) (foi a0_4)))) (fmul (fsub (fadd t130 (fmul (fsub t132 t130) (fdiv (foi (wrap64 ((wrap64 (a3 - a0_3)) - (wrap64 ((ji31) * a0_4))))) (foi a0_4)))) (fadd t126 (fmul (fsub t128 t126) (fdiv (foi (wrap64 ((wrap64 (a3 - a0_3)) - (wrap64 ((ji31) * a0_4))))) (foi a0_4))))) (fdiv (foi (wrap64 ((wrap64 (a2 - a0_2)) - (wrap64 ((ji30) * a0_4))))) (foi a0_4))))) = some r := by rw [if_pos rfl] at H; exact H
        clear H
        have H := H1
        clear H1
        obtain rfl := Option.some.inj H
        try go_wp2
        have n0_ := Aside0.mk (blk_drew BK119.out)
        have n1_ := Aside0.mk (blk_drew BK120.out)
        have n2_ := Aside0.mk (below_drew1 HB.out)
        clear BK119
        clear BK120
        clear HB
        have BK119 := n0_
        have BK120 := n1_
        have HB := n2_
        clear n0_ n1_ n2_
        refine start_ (n := 14) (S := fun w' => True) (ds := []) #[false, false, false, false, false, false, false, false, false, false, false, false, false, false] (by kernel_rfl) rfl rfl trivial (fun hHeld => ?_); refine with_tabW impl_At.tab8 impl_At.bits8 (fun HT_ HW_ => ?_)
        generalize wc.drew = w47 at BK119 BK120 HB hHeld ⊢
        refine pure_ (i := 0) (N := some 134) (v := ?_) (a' := ?_) #[true, false, false, false, false, false, false, false, false, false, false, false, false, false] rfl rfl (any_of HT_.out (by kernel_rfl)) (fun _ _ _ h => h) (Or.inl ⟨by rfl, ?_⟩) ?_ ?_
        rotate_left
        ·intro w'
         go_simp
         with_reducible rfl
        rotate_left
        ·simp only [Act.put, sqA, sqZ, sqS, i64_w, i32_w]
         rfl
        refine pure_ (i := 2) (N := some 136) (v := ?_) (a' := ?_) #[true, false, true, false, false, false, false, false, false, false, false, false, false, false] rfl rfl (any_of HT_.out (by kernel_rfl)) (fun _ _ _ h => h) (Or.inl ⟨by rfl, ?_⟩) ?_ ?_
        rotate_left
        ·intro w'
         go_simp
         with_reducible rfl
        rotate_left
        ·simp only [Act.put, sqA, sqZ, sqS, i64_w, i32_w]
         rfl
        refine pure_ (i := 6) (N := some 140) (v := ?_) (a' := ?_) #[true, false, true, false, false, false, true, false, false, false, false, false, false, false] rfl rfl (any_of HT_.out (by kernel_rfl)) (fun _ _ _ h => h) (Or.inl ⟨by rfl, ?_⟩) ?_ ?_
        rotate_left
        ·intro w'
         go_simp
         with_reducible rfl
        rotate_left
        ·simp only [Act.put, sqA, sqZ, sqS, i64_w, i32_w]
         rfl
        refine pure_ (i := 8) (N := some 142) (v := ?_) (a' := ?_) #[true, false, true, false, false, false, true, false, true, false, false, false, false, false] rfl rfl (any_of HT_.out (by kernel_rfl)) (fun _ _ _ h => h) (Or.inl ⟨by rfl, ?_⟩) ?_ ?_
        rotate_left
        ·intro w'
         go_simp
         with_reducible rfl
        rotate_left
        ·simp only [Act.put, sqA, sqZ, sqS, i64_w, i32_w]
         rfl
        refine inv_at [1, 3, 4, 5, 7, 9, 10, 11, 12, 13] (fun a0_ b a w' => ∃ (pb138 : Nat) (pb139 : Nat) (m5_ : Value) (m11_ : Value) (m12_ : Value) (m13_ : Value), a = putSel a0_ b [(1, 135, .float .f64 (un 0 (foi (wrap64 ((wrap64 (a3 - a0_3)) - (wrap64 ((ji31) * a0_4))))))), (3, 137, .int .i64 a0_4), (4, 138, .float .f64 (un 0 (foi a0_4))), (5, 139, m5_), (7, 141, .float .f64 (un 0 (foi (wrap64 ((wrap64 (a2 - a0_2)) - (wrap64 ((ji30) * a0_4))))))), (9, 143, .int .i64 a0_4), (10, 144, .float .f64 (un 0 (foi a0_4))), (11, 145, m11_), (12, 18, m12_), (13, 19, m13_)] ∧ (w'.heap[gb119]? = some (.cells #[.int .i64 a0_0, .int .i64 a0_1, .int .i64 a0_2, .int .i64 a0_3, .int .i64 a0_4] 43 (0, 0))) ∧ (w'.heap[gb120]? = some (.cells #[.slice A1 l1.length c1] 41 (0, 0))) ∧ (Below w.heap.size w w') ∧ (b 5 = true → (m5_ : Value) = .float .f64 (un pb138 (fdiv (foi (wrap64 ((wrap64 (a3 - a0_3)) - (wrap64 ((ji31) * a0_4))))) (foi a0_4)))) ∧ (b 11 = true → (m11_ : Value) = .float .f64 (un pb139 (fdiv (foi (wrap64 ((wrap64 (a2 - a0_2)) - (wrap64 ((ji30) * a0_4))))) (foi a0_4)))) ∧ (b 12 = true → (m12_ : Value) = .float .f64 (un pb138 (fdiv (foi (wrap64 ((wrap64 (a3 - a0_3)) - (wrap64 ((ji31) * a0_4))))) (foi a0_4)))) ∧ (b 13 = true → (m13_ : Value) = .float .f64 (un pb139 (fdiv (foi (wrap64 ((wrap64 (a2 - a0_2)) - (wrap64 ((ji30) * a0_4))))) (foi a0_4))))) HT_.out HW_.out (by kernel_rfl) (by kernel_rfl) ?_ ?_ ?_
        ·exact ⟨0, 0, .bool false, .bool false, .bool false, .bool false, by simp only [putSel, Bool.false_eq_true, if_false], BK119.out, BK120.out, HB.out, fun h_ => absurd h_ (by decide), fun h_ => absurd h_ (by decide), fun h_ => absurd h_ (by decide), fun h_ => absurd h_ (by decide)⟩
        ·skip
         clear BK119 BK120 HB
         refine steps_cons ?_ ?_
         ·rintro b a w' ⟨pb138, pb139, m5_, m11_, m12_, m13_, ha, Q_BK119, Q_BK120, Q_HB, Q_X5_, Q_X11_, Q_X12_, Q_X13_⟩ hb_ hon hoff
          refine ⟨_, rfl, fun K hK => ?_⟩
          have e134 : a.tmps[134]? = some (.int .i64 (wrap64 ((wrap64 (a3 - a0_3)) - (wrap64 ((ji31) * a0_4))))) := by rw [ha]; exact (putSel_off rfl).trans rfl
          replace ha := Aside0.mk ha
          have BK119 := Aside0.mk Q_BK119
          have BK120 := Aside0.mk Q_BK120
          have HB := Aside0.mk Q_HB
          refine value_ (w1 := w') (v := .float .f64 (un 0 (foi (wrap64 ((wrap64 (a3 - a0_3)) - (wrap64 ((ji31) * a0_4))))))) (by rfl) rfl ?_ ?_
          ·go_simp
           (try simp only [i64_w])
           try rfl
          refine hK.out _ _ ⟨pb138, pb139, m5_, m11_, m12_, m13_, (by rw [ha.out]; exact putSel_upk 0 hb_ rfl rfl rfl), Q_BK119, Q_BK120, Q_HB, fun h0_ => absurd ((hoff 5 (by kernel_rfl)).symm.trans h0_) (by decide), Q_X11_, fun h0_ => absurd ((hoff 12 (by kernel_rfl)).symm.trans h0_) (by decide), fun h0_ => absurd ((hoff 13 (by kernel_rfl)).symm.trans h0_) (by decide)⟩
         refine steps_cons ?_ ?_
         ·rintro b a w' ⟨pb138, pb139, m5_, m11_, m12_, m13_, ha, Q_BK119, Q_BK120, Q_HB, Q_X5_, Q_X11_, Q_X12_, Q_X13_⟩ hb_ hon hoff
          refine ⟨_, rfl, fun K hK => ?_⟩
          have e136 : a.tmps[136]? = some (.pointer (some ⟨gb119, 4, none⟩)) := by rw [ha]; exact (putSel_off rfl).trans rfl
          replace ha := Aside0.mk ha
          have BK119 := Aside0.mk Q_BK119
          have BK120 := Aside0.mk Q_BK120
          have HB := Aside0.mk Q_HB
          have hc0_ : w'.cell? ⟨gb119, 0, none⟩ = some (.int .i64 a0_0) := (blk_cell BK119.out 0).trans rfl
          have hc1_ : w'.cell? ⟨gb119, 1, none⟩ = some (.int .i64 a0_1) := (blk_cell BK119.out 1).trans rfl
          have hc2_ : w'.cell? ⟨gb119, 2, none⟩ = some (.int .i64 a0_2) := (blk_cell BK119.out 2).trans rfl
          have hc3_ : w'.cell? ⟨gb119, 3, none⟩ = some (.int .i64 a0_3) := (blk_cell BK119.out 3).trans rfl
          have hc4_ : w'.cell? ⟨gb119, 4, none⟩ = some (.int .i64 a0_4) := (blk_cell BK119.out 4).trans rfl
          refine value_ (w1 := w') (v := .int .i64 a0_4) (by rfl) rfl ?_ ?_
          ·go_simp
           (try simp only [i64_w])
           try rfl
          refine hK.out _ _ ⟨pb138, pb139, m5_, m11_, m12_, m13_, (by rw [ha.out]; exact putSel_upk 1 hb_ rfl rfl rfl), Q_BK119, Q_BK120, Q_HB, fun h0_ => absurd ((hoff 5 (by kernel_rfl)).symm.trans h0_) (by decide), Q_X11_, fun h0_ => absurd ((hoff 12 (by kernel_rfl)).symm.trans h0_) (by decide), fun h0_ => absurd ((hoff 13 (by kernel_rfl)).symm.trans h0_) (by decide)⟩
         refine steps_cons ?_ ?_
         ·rintro b a w' ⟨pb138, pb139, m5_, m11_, m12_, m13_, ha, Q_BK119, Q_BK120, Q_HB, Q_X5_, Q_X11_, Q_X12_, Q_X13_⟩ hb_ hon hoff
          refine ⟨_, rfl, fun K hK => ?_⟩
          have e137 : a.tmps[137]? = some (.int .i64 a0_4) := by rw [ha]; exact putSel_on (e := (3, 137, .int .i64 a0_4)) 1 rfl rfl (hon 3 (by kernel_rfl)) rfl
          replace ha := Aside0.mk ha
          have BK119 := Aside0.mk Q_BK119
          have BK120 := Aside0.mk Q_BK120
          have HB := Aside0.mk Q_HB
          refine value_ (w1 := w') (v := .float .f64 (un 0 (foi a0_4))) (by rfl) rfl ?_ ?_
          ·go_simp
           (try simp only [i64_w])
           try rfl
          refine hK.out _ _ ⟨pb138, pb139, m5_, m11_, m12_, m13_, (by rw [ha.out]; exact putSel_upk 2 hb_ rfl rfl rfl), Q_BK119, Q_BK120, Q_HB, fun h0_ => absurd ((hoff 5 (by kernel_rfl)).symm.trans h0_) (by decide), Q_X11_, fun h0_ => absurd ((hoff 12 (by kernel_rfl)).symm.trans h0_) (by decide), fun h0_ => absurd ((hoff 13 (by kernel_rfl)).symm.trans h0_) (by decide)⟩
         refine steps_cons ?_ ?_
         ·rintro b a w' ⟨pb138, pb139, m5_, m11_, m12_, m13_, ha, Q_BK119, Q_BK120, Q_HB, Q_X5_, Q_X11_, Q_X12_, Q_X13_⟩ hb_ hon hoff
          refine ⟨_, rfl, fun K hK => ?_⟩
          have e135 : a.tmps[135]? = some (.float .f64 (un 0 (foi (wrap64 ((wrap64 (a3 - a0_3)) - (wrap64 ((ji31) * a0_4))))))) := by rw [ha]; exact putSel_on (e := (1, 135, .float .f64 (un 0 (foi (wrap64 ((wrap64 (a3 - a0_3)) - (wrap64 ((ji31) * a0_4)))))))) 0 rfl rfl (hon 1 (by kernel_rfl)) rfl
          have e138 : a.tmps[138]? = some (.float .f64 (un 0 (foi a0_4))) := by rw [ha]; exact putSel_on (e := (4, 138, .float .f64 (un 0 (foi a0_4)))) 2 rfl rfl (hon 4 (by kernel_rfl)) rfl
          replace ha := Aside0.mk ha
          have BK119 := Aside0.mk Q_BK119
          have BK120 := Aside0.mk Q_BK120
          have HB := Aside0.mk Q_HB
          refine fop_stepB (by rfl) (N := 139) rfl (op := .quo) rfl rfl 0 (foi (wrap64 ((wrap64 (a3 - a0_3)) - (wrap64 ((ji31) * a0_4))))) 0 (foi a0_4) (by first | (simp only [Act.eval, Array.getD_eq_getD_getElem?, Option.getD_some, e135, e138]; rfl) | (simp only [Act.eval, Array.getD_eq_getD_getElem?, Option.getD_some, e135, e138]; done) | rfl) (by first | (simp only [Act.eval, Array.getD_eq_getD_getElem?, Option.getD_some, e135, e138]; rfl) | (simp only [Act.eval, Array.getD_eq_getD_getElem?, Option.getD_some, e135, e138]; done) | rfl) ?hA ?hB fdiv rfl ?_; (case hA => first | rfl | exact (un_zero _).symm); (case hB => first | rfl | exact (un_zero _).symm)
          intro pb138 w48 hb
          have n0_ := Aside0.mk (blk_below (g := gb119) (o := .cells #[.int .i64 a0_0, .int .i64 a0_1, .int .i64 a0_2, .int .i64 a0_3, .int .i64 a0_4] 43 (0, 0)) (by (with_reducible repeat (first | refine blk_drewN ?_ _ | refine blk_drew ?_ | refine blk_alloc ?_ _)); exact BK119.out) hb)
          have n1_ := Aside0.mk (blk_below (g := gb120) (o := .cells #[.slice A1 l1.length c1] 41 (0, 0)) (by (with_reducible repeat (first | refine blk_drewN ?_ _ | refine blk_drew ?_ | refine blk_alloc ?_ _)); exact BK120.out) hb)
          have n2_ := Aside0.mk (below_step (by repeat (first | (with_reducible first | exact HB.out | apply below_alloc | apply pw_below_drewN | apply below_drew1 | refine below_set ?_ GE119.out | refine below_set ?_ GE120.out) | exact HB.out)) hb)
          clear BK119
          clear BK120
          clear HB
          have BK119 := n0_
          have BK120 := n1_
          have HB := n2_
          clear n0_ n1_ n2_
          (try clear hb)
          refine hK.out _ _ ⟨pb138, pb139, (.float .f64 (un pb138 (fdiv (foi (wrap64 ((wrap64 (a3 - a0_3)) - (wrap64 ((ji31) * a0_4))))) (foi a0_4)))), m11_, m12_, m13_, (by rw [ha.out]; exact putSel_upk 3 hb_ rfl rfl rfl), (by (with_reducible repeat (first | refine blk_drewN ?_ _ | refine blk_drew ?_ | refine blk_alloc ?_ _)); exact BK119.out), (by (with_reducible repeat (first | refine blk_drewN ?_ _ | refine blk_drew ?_ | refine blk_alloc ?_ _)); exact BK120.out), (by repeat (first | (with_reducible first | exact HB.out | apply below_alloc | apply pw_below_drewN | apply below_drew1 | refine below_set ?_ GE119.out | refine below_set ?_ GE120.out) | exact HB.out)), fun _ => rfl, Q_X11_, fun h0_ => absurd ((hoff 12 (by kernel_rfl)).symm.trans h0_) (by decide), fun h0_ => absurd ((hoff 13 (by kernel_rfl)).symm.trans h0_) (by decide)⟩
         refine steps_cons ?_ ?_
         ·rintro b a w' ⟨pb138, pb139, m5_, m11_, m12_, m13_, ha, Q_BK119, Q_BK120, Q_HB, Q_X5_, Q_X11_, Q_X12_, Q_X13_⟩ hb_ hon hoff
          refine ⟨_, rfl, fun K hK => ?_⟩
          have e140 : a.tmps[140]? = some (.int .i64 (wrap64 ((wrap64 (a2 - a0_2)) - (wrap64 ((ji30) * a0_4))))) := by rw [ha]; exact (putSel_off rfl).trans rfl
          replace ha := Aside0.mk ha
          have BK119 := Aside0.mk Q_BK119
          have BK120 := Aside0.mk Q_BK120
          have HB := Aside0.mk Q_HB
          refine value_ (w1 := w') (v := .float .f64 (un 0 (foi (wrap64 ((wrap64 (a2 - a0_2)) - (wrap64 ((ji30) * a0_4))))))) (by rfl) rfl ?_ ?_
          ·go_simp
           (try simp only [i64_w])
           try rfl
          refine hK.out _ _ ⟨pb138, pb139, m5_, m11_, m12_, m13_, (by rw [ha.out]; exact putSel_upk 4 hb_ rfl rfl rfl), Q_BK119, Q_BK120, Q_HB, Q_X5_, fun h0_ => absurd ((hoff 11 (by kernel_rfl)).symm.trans h0_) (by decide), Q_X12_, fun h0_ => absurd ((hoff 13 (by kernel_rfl)).symm.trans h0_) (by decide)⟩
         refine steps_cons ?_ ?_
         ·rintro b a w' ⟨pb138, pb139, m5_, m11_, m12_, m13_, ha, Q_BK119, Q_BK120, Q_HB, Q_X5_, Q_X11_, Q_X12_, Q_X13_⟩ hb_ hon hoff
          refine ⟨_, rfl, fun K hK => ?_⟩
          have e142 : a.tmps[142]? = some (.pointer (some ⟨gb119, 4, none⟩)) := by rw [ha]; exact (putSel_off rfl).trans rfl
          replace ha := Aside0.mk ha
          have BK119 := Aside0.mk Q_BK119
          have BK120 := Aside0.mk Q_BK120
          have HB := Aside0.mk Q_HB
          have hc0_ : w'.cell? ⟨gb119, 0, none⟩ = some (.int .i64 a0_0) := (blk_cell BK119.out 0).trans rfl
          have hc1_ : w'.cell? ⟨gb119, 1, none⟩ = some (.int .i64 a0_1) := (blk_cell BK119.out 1).trans rfl
          have hc2_ : w'.cell? ⟨gb119, 2, none⟩ = some (.int .i64 a0_2) := (blk_cell BK119.out 2).trans rfl
          have hc3_ : w'.cell? ⟨gb119, 3, none⟩ = some (.int .i64 a0_3) := (blk_cell BK119.out 3).trans rfl
          have hc4_ : w'.cell? ⟨gb119, 4, none⟩ = some (.int .i64 a0_4) := (blk_cell BK119.out 4).trans rfl
          refine value_ (w1 := w') (v := .int .i64 a0_4) (by rfl) rfl ?_ ?_
          ·go_simp
           (try simp only [i64_w])
           try rfl
          refine hK.out _ _ ⟨pb138, pb139, m5_, m11_, m12_, m13_, (by rw [ha.out]; exact putSel_upk 5 hb_ rfl rfl rfl), Q_BK119, Q_BK120, Q_HB, Q_X5_, fun h0_ => absurd ((hoff 11 (by kernel_rfl)).symm.trans h0_) (by decide), Q_X12_, fun h0_ => absurd ((hoff 13 (by kernel_rfl)).symm.trans h0_) (by decide)⟩
         refine steps_cons ?_ ?_
         ·rintro b a w' ⟨pb138, pb139, m5_, m11_, m12_, m13_, ha, Q_BK119, Q_BK120, Q_HB, Q_X5_, Q_X11_, Q_X12_, Q_X13_⟩ hb_ hon hoff
          refine ⟨_, rfl, fun K hK => ?_⟩
          have e143 : a.tmps[143]? = some (.int .i64 a0_4) := by rw [ha]; exact putSel_on (e := (9, 143, .int .i64 a0_4)) 5 rfl rfl (hon 9 (by kernel_rfl)) rfl
          replace ha := Aside0.mk ha
          have BK119 := Aside0.mk Q_BK119
          have BK120 := Aside0.mk Q_BK120
          have HB := Aside0.mk Q_HB
          refine value_ (w1 := w') (v := .float .f64 (un 0 (foi a0_4))) (by rfl) rfl ?_ ?_
          ·go_simp
           (try simp only [i64_w])
           try rfl
          refine hK.out _ _ ⟨pb138, pb139, m5_, m11_, m12_, m13_, (by rw [ha.out]; exact putSel_upk 6 hb_ rfl rfl rfl), Q_BK119, Q_BK120, Q_HB, Q_X5_, fun h0_ => absurd ((hoff 11 (by kernel_rfl)).symm.trans h0_) (by decide), Q_X12_, fun h0_ => absurd ((hoff 13 (by kernel_rfl)).symm.trans h0_) (by decide)⟩
         refine steps_cons ?_ ?_
         ·rintro b a w' ⟨pb138, pb139, m5_, m11_, m12_, m13_, ha, Q_BK119, Q_BK120, Q_HB, Q_X5_, Q_X11_, Q_X12_, Q_X13_⟩ hb_ hon hoff
          refine ⟨_, rfl, fun K hK => ?_⟩
          have e141 : a.tmps[141]? = some (.float .f64 (un 0 (foi (wrap64 ((wrap64 (a2 - a0_2)) - (wrap64 ((ji30) * a0_4))))))) := by rw [ha]; exact putSel_on (e := (7, 141, .float .f64 (un 0 (foi (wrap64 ((wrap64 (a2 - a0_2)) - (wrap64 ((ji30) * a0_4)))))))) 4 rfl rfl (hon 7 (by kernel_rfl)) rfl
          have e144 : a.tmps[144]? = some (.float .f64 (un 0 (foi a0_4))) := by rw [ha]; exact putSel_on (e := (10, 144, .float .f64 (un 0 (foi a0_4)))) 6 rfl rfl (hon 10 (by kernel_rfl)) rfl
          replace ha := Aside0.mk ha
          have BK119 := Aside0.mk Q_BK119
          have BK120 := Aside0.mk Q_BK120
          have HB := Aside0.mk Q_HB
          refine fop_stepB (by rfl) (N := 145) rfl (op := .quo) rfl rfl 0 (foi (wrap64 ((wrap64 (a2 - a0_2)) - (wrap64 ((ji30) * a0_4))))) 0 (foi a0_4) (by first | (simp only [Act.eval, Array.getD_eq_getD_getElem?, Option.getD_some, e141, e144]; rfl) | (simp only [Act.eval, Array.getD_eq_getD_getElem?, Option.getD_some, e141, e144]; done) | rfl) (by first | (simp only [Act.eval, Array.getD_eq_getD_getElem?, Option.getD_some, e141, e144]; rfl) | (simp only [Act.eval, Array.getD_eq_getD_getElem?, Option.getD_some, e141, e144]; done) | rfl) ?hA ?hB fdiv rfl ?_; (case hA => first | rfl | exact (un_zero _).symm); (case hB => first | rfl | exact (un_zero _).symm)
          intro pb139 w48 hb
          have n0_ := Aside0.mk (blk_below (g := gb119) (o := .cells #[.int .i64 a0_0, .int .i64 a0_1, .int .i64 a0_2, .int .i64 a0_3, .int .i64 a0_4] 43 (0, 0)) (by (with_reducible repeat (first | refine blk_drewN ?_ _ | refine blk_drew ?_ | refine blk_alloc ?_ _)); exact BK119.out) hb)
          have n1_ := Aside0.mk (blk_below (g := gb120) (o := .cells #[.slice A1 l1.length c1] 41 (0, 0)) (by (with_reducible repeat (first | refine blk_drewN ?_ _ | refine blk_drew ?_ | refine blk_alloc ?_ _)); exact BK120.out) hb)
          have n2_ := Aside0.mk (below_step (by repeat (first | (with_reducible first | exact HB.out | apply below_alloc | apply pw_below_drewN | apply below_drew1 | refine below_set ?_ GE119.out | refine below_set ?_ GE120.out) | exact HB.out)) hb)
          clear BK119
          clear BK120
          clear HB
          have BK119 := n0_
          have BK120 := n1_
          have HB := n2_
          clear n0_ n1_ n2_
          (try clear hb)
          refine hK.out _ _ ⟨pb138, pb139, m5_, (.float .f64 (un pb139 (fdiv (foi (wrap64 ((wrap64 (a2 - a0_2)) - (wrap64 ((ji30) * a0_4))))) (foi a0_4)))), m12_, m13_, (by rw [ha.out]; exact putSel_upk 7 hb_ rfl rfl rfl), (by (with_reducible repeat (first | refine blk_drewN ?_ _ | refine blk_drew ?_ | refine blk_alloc ?_ _)); exact BK119.out), (by (with_reducible repeat (first | refine blk_drewN ?_ _ | refine blk_drew ?_ | refine blk_alloc ?_ _)); exact BK120.out), (by repeat (first | (with_reducible first | exact HB.out | apply below_alloc | apply pw_below_drewN | apply below_drew1 | refine below_set ?_ GE119.out | refine below_set ?_ GE120.out) | exact HB.out)), Q_X5_, fun _ => rfl, Q_X12_, fun h0_ => absurd ((hoff 13 (by kernel_rfl)).symm.trans h0_) (by decide)⟩
         refine steps_cons ?_ ?_
         ·rintro b a w' ⟨pb138, pb139, m5_, m11_, m12_, m13_, ha, Q_BK119, Q_BK120, Q_HB, Q_X5_, Q_X11_, Q_X12_, Q_X13_⟩ hb_ hon hoff
          refine ⟨_, rfl, fun K hK => ?_⟩
          have e139 : a.tmps[139]? = some (m5_) := by rw [ha]; exact putSel_on (e := (5, 139, m5_)) 3 rfl rfl (hon 5 (by kernel_rfl)) rfl
          rw [Q_X5_ (hon 5 (by kernel_rfl))] at e139
          replace ha := Aside0.mk ha
          have BK119 := Aside0.mk Q_BK119
          have BK120 := Aside0.mk Q_BK120
          have HB := Aside0.mk Q_HB
          refine value_ (w1 := w') (v := .float .f64 (un pb138 (fdiv (foi (wrap64 ((wrap64 (a3 - a0_3)) - (wrap64 ((ji31) * a0_4))))) (foi a0_4)))) (by rfl) rfl ?_ ?_
          ·go_simp
           (try simp only [i64_w])
           try rfl
          refine hK.out _ _ ⟨pb138, pb139, m5_, m11_, (.float .f64 (un pb138 (fdiv (foi (wrap64 ((wrap64 (a3 - a0_3)) - (wrap64 ((ji31) * a0_4))))) (foi a0_4)))), m13_, (by rw [ha.out]; exact putSel_upk 8 hb_ rfl rfl rfl), Q_BK119, Q_BK120, Q_HB, Q_X5_, Q_X11_, fun _ => rfl, fun h0_ => absurd ((hoff 13 (by kernel_rfl)).symm.trans h0_) (by decide)⟩
         refine steps_cons ?_ ?_
         ·rintro b a w' ⟨pb138, pb139, m5_, m11_, m12_, m13_, ha, Q_BK119, Q_BK120, Q_HB, Q_X5_, Q_X11_, Q_X12_, Q_X13_⟩ hb_ hon hoff
          refine ⟨_, rfl, fun K hK => ?_⟩
          have e145 : a.tmps[145]? = some (m11_) := by rw [ha]; exact putSel_on (e := (11, 145, m11_)) 7 rfl rfl (hon 11 (by kernel_rfl)) rfl
          rw [Q_X11_ (hon 11 (by kernel_rfl))] at e145
          replace ha := Aside0.mk ha
          have BK119 := Aside0.mk Q_BK119
          have BK120 := Aside0.mk Q_BK120
          have HB := Aside0.mk Q_HB
          refine value_ (w1 := w') (v := .float .f64 (un pb139 (fdiv (foi (wrap64 ((wrap64 (a2 - a0_2)) - (wrap64 ((ji30) * a0_4))))) (foi a0_4)))) (by rfl) rfl ?_ ?_
          ·go_simp
           (try simp only [i64_w])
           try rfl
          refine hK.out _ _ ⟨pb138, pb139, m5_, m11_, m12_, (.float .f64 (un pb139 (fdiv (foi (wrap64 ((wrap64 (a2 - a0_2)) - (wrap64 ((ji30) * a0_4))))) (foi a0_4)))), (by rw [ha.out]; exact putSel_upk 9 hb_ rfl rfl rfl), Q_BK119, Q_BK120, Q_HB, Q_X5_, Q_X11_, Q_X12_, fun _ => rfl⟩
         exact steps_nil
        rintro b a w50 hall ⟨pb138, pb139, m5_, m11_, m12_, m13_, ha, Q_BK119, Q_BK120, Q_HB, Q_X5_, Q_X11_, Q_X12_, Q_X13_⟩
        clear BK119 BK120 HB
        have hb1_ := hall 1 (by kernel_rfl)
        have hb3_ := hall 3 (by kernel_rfl)
        have hb4_ := hall 4 (by kernel_rfl)
        have hb5_ := hall 5 (by kernel_rfl)
        have hb7_ := hall 7 (by kernel_rfl)
        have hb9_ := hall 9 (by kernel_rfl)
        have hb10_ := hall 10 (by kernel_rfl)
        have hb11_ := hall 11 (by kernel_rfl)
        have hb12_ := hall 12 (by kernel_rfl)
        have hb13_ := hall 13 (by kernel_rfl)
        subst ha
        obtain rfl := Q_X5_ hb5_
        obtain rfl := Q_X11_ hb11_
        obtain rfl := Q_X12_ hb12_
        obtain rfl := Q_X13_ hb13_
        simp only [putSel, hb1_, hb3_, hb4_, hb5_, hb7_, hb9_, hb10_, hb11_, hb12_, hb13_, if_true, Act.put, sqA, sqZ, sqS]
        have BK119 := Aside0.mk Q_BK119
        clear Q_BK119
        have BK120 := Aside0.mk Q_BK120
        clear Q_BK120
        have HB := Aside0.mk Q_HB
        clear Q_HB
        clear hall hb1_ hb3_ hb4_ hb5_ hb7_ hb9_ hb10_ hb11_ hb12_ hb13_
        try go_wp2_with (first | ((with_reducible refine gate_dst (N := 149) rfl ?_); refine fop_eventB rfl (N := 149) rfl (op := .sub) rfl rfl pr129 t128 pr127 t126 rfl rfl ?hA ?hB fsub rfl ?_; (case hA => first | rfl | exact (un_zero _).symm); (case hB => first | rfl | exact (un_zero _).symm); intro pb140 w51 hb; have n0_ := Aside0.mk (blk_below (g := gb119) (o := .cells #[.int .i64 a0_0, .int .i64 a0_1, .int .i64 a0_2, .int .i64 a0_3, .int .i64 a0_4] 43 (0, 0)) (by (with_reducible repeat (first | refine blk_drewN ?_ _ | refine blk_drew ?_ | refine blk_alloc ?_ _)); exact BK119.out) hb); have n1_ := Aside0.mk (blk_below (g := gb120) (o := .cells #[.slice A1 l1.length c1] 41 (0, 0)) (by (with_reducible repeat (first | refine blk_drewN ?_ _ | refine blk_drew ?_ | refine blk_alloc ?_ _)); exact BK120.out) hb); have n2_ := Aside0.mk (below_step (by repeat (first | (with_reducible first | exact HB.out | apply below_alloc | apply pw_below_drewN | apply below_drew1 | refine below_set ?_ GE119.out | refine below_set ?_ GE120.out) | exact HB.out)) hb); clear BK119; clear BK120; clear HB; have BK119 := n0_; have BK120 := n1_; have HB := n2_; clear n0_ n1_ n2_; (try clear hb)) | ((with_reducible refine gate_dst (N := 151) rfl ?_); refine fop_eventB rfl (N := 151) rfl (op := .mul) rfl rfl pb140 (fsub t128 t126) pb138 (fdiv (foi (wrap64 ((wrap64 (a3 - a0_3)) - (wrap64 ((ji31) * a0_4))))) (foi a0_4)) rfl rfl ?hA ?hB fmul rfl ?_; (case hA => first | rfl | exact (un_zero _).symm); (case hB => first | rfl | exact (un_zero _).symm); intro pb141 w52 hb; have n0_ := Aside0.mk (blk_below (g := gb119) (o := .cells #[.int .i64 a0_0, .int .i64 a0_1, .int .i64 a0_2, .int .i64 a0_3, .int .i64 a0_4] 43 (0, 0)) (by (with_reducible repeat (first | refine blk_drewN ?_ _ | refine blk_drew ?_ | refine blk_alloc ?_ _)); exact BK119.out) hb); have n1_ := Aside0.mk (blk_below (g := gb120) (o := .cells #[.slice A1 l1.length c1] 41 (0, 0)) (by (with_reducible repeat (first | refine blk_drewN ?_ _ | refine blk_drew ?_ | refine blk_alloc ?_ _)); exact BK120.out) hb); have n2_ := Aside0.mk (below_step (by repeat (first | (with_reducible first | exact HB.out | apply below_alloc | apply pw_below_drewN | apply below_drew1 | refine below_set ?_ GE119.out | refine below_set ?_ GE120.out) | exact HB.out)) hb); clear BK119; clear BK120; clear HB; have BK119 := n0_; have BK120 := n1_; have HB := n2_; clear n0_ n1_ n2_; (try clear hb)) | ((with_reducible refine gate_dst (N := 152) rfl ?_); refine fop_eventB rfl (N := 152) rfl (op := .add) rfl rfl pr127 t126 pb141 (fmul (fsub t128 t126) (fdiv (foi (wrap64 ((wrap64 (a3 - a0_3)) - (wrap64 ((ji31) * a0_4))))) (foi a0_4))) rfl rfl ?hA ?hB fadd rfl ?_; (case hA => first | rfl | exact (un_zero _).symm); (case hB => first | rfl | exact (un_zero _).symm); intro pb142 w53 hb; have n0_ := Aside0.mk (blk_below (g := gb119) (o := .cells #[.int .i64 a0_0, .int .i64 a0_1, .int .i64 a0_2, .int .i64 a0_3, .int .i64 a0_4] 43 (0, 0)) (by (with_reducible repeat (first | refine blk_drewN ?_ _ | refine blk_drew ?_ | refine blk_alloc ?_ _)); exact BK119.out) hb); have n1_ := Aside0.mk (blk_below (g := gb120) (o := .cells #[.slice A1 l1.length c1] 41 (0, 0)) (by (with_reducible repeat (first | refine blk_drewN ?_ _ | refine blk_drew ?_ | refine blk_alloc ?_ _)); exact BK120.out) hb); have n2_ := Aside0.mk (below_step (by repeat (first | (with_reducible first | exact HB.out | apply below_alloc | apply pw_below_drewN | apply below_drew1 | refine below_set ?_ GE119.out | refine below_set ?_ GE120.out) | exact HB.out)) hb); clear BK119; clear BK120; clear HB; have BK119 := n0_; have BK120 := n1_; have HB := n2_; clear n0_ n1_ n2_; (try clear hb)) | ((with_reducible refine gate_dst (N := 156) rfl ?_); refine fop_eventB rfl (N := 156) rfl (op := .sub) rfl rfl pr133 t132 pr131 t130 rfl rfl ?hA ?hB fsub rfl ?_; (case hA => first | rfl | exact (un_zero _).symm); (case hB => first | rfl | exact (un_zero _).symm); intro pb143 w54 hb; have n0_ := Aside0.mk (blk_below (g := gb119) (o := .cells #[.int .i64 a0_0, .int .i64 a0_1, .int .i64 a0_2, .int .i64 a0_3, .int .i64 a0_4] 43 (0, 0)) (by (with_reducible repeat (first | refine blk_drewN ?_ _ | refine blk_drew ?_ | refine blk_alloc ?_ _)); exact BK119.out) hb); have n1_ := Aside0.mk (blk_below (g := gb120) (o := .cells #[.slice A1 l1.length c1] 41 (0, 0)) (by (with_reducible repeat (first | refine blk_drewN ?_ _ | refine blk_drew ?_ | refine blk_alloc ?_ _)); exact BK120.out) hb); have n2_ := Aside0.mk (below_step (by repeat (first | (with_reducible first | exact HB.out | apply below_alloc | apply pw_below_drewN | apply below_drew1 | refine below_set ?_ GE119.out | refine below_set ?_ GE120.out) | exact HB.out)) hb); clear BK119; clear BK120; clear HB; have BK119 := n0_; have BK120 := n1_; have HB := n2_; clear n0_ n1_ n2_; (try clear hb)) | ((with_reducible refine gate_dst (N := 158) rfl ?_); refine fop_eventB rfl (N := 158) rfl (op := .mul) rfl rfl pb143 (fsub t132 t130) pb138 (fdiv (foi (wrap64 ((wrap64 (a3 - a0_3)) - (wrap64 ((ji31) * a0_4))))) (foi a0_4)) rfl rfl ?hA ?hB fmul rfl ?_; (case hA => first | rfl | exact (un_zero _).symm); (case hB => first | rfl | exact (un_zero _).symm); intro pb144 w55 hb; have n0_ := Aside0.mk (blk_below (g := gb119) (o := .cells #[.int .i64 a0_0, .int .i64 a0_1, .int .i64 a0_2, .int .i64 a0_3, .int .i64 a0_4] 43 (0, 0)) (by (with_reducible repeat (first | refine blk_drewN ?_ _ | refine blk_drew ?_ | refine blk_alloc ?_ _)); exact BK119.out) hb); have n1_ := Aside0.mk (blk_below (g := gb120) (o := .cells #[.slice A1 l1.length c1] 41 (0, 0)) (by (with_reducible repeat (first | refine blk_drewN ?_ _ | refine blk_drew ?_ | refine blk_alloc ?_ _)); exact BK120.out) hb); have n2_ := Aside0.mk (below_step (by repeat (first | (with_reducible first | exact HB.out | apply below_alloc | apply pw_below_drewN | apply below_drew1 | refine below_set ?_ GE119.out | refine below_set ?_ GE120.out) | exact HB.out)) hb); clear BK119; clear BK120; clear HB; have BK119 := n0_; have BK120 := n1_; have HB := n2_; clear n0_ n1_ n2_; (try clear hb)) | ((with_reducible refine gate_dst (N := 159) rfl ?_); refine fop_eventB rfl (N := 159) rfl (op := .add) rfl rfl pr131 t130 pb144 (fmul (fsub t132 t130) (fdiv (foi (wrap64 ((wrap64 (a3 - a0_3)) - (wrap64 ((ji31) * a0_4))))) (foi a0_4))) rfl rfl ?hA ?hB fadd rfl ?_; (case hA => first | rfl | exact (un_zero _).symm); (case hB => first | rfl | exact (un_zero _).symm); intro pb145 w56 hb; have n0_ := Aside0.mk (blk_below (g := gb119) (o := .cells #[.int .i64 a0_0, .int .i64 a0_1, .int .i64 a0_2, .int .i64 a0_3, .int .i64 a0_4] 43 (0, 0)) (by (with_reducible repeat (first | refine blk_drewN ?_ _ | refine blk_drew ?_ | refine blk_alloc ?_ _)); exact BK119.out) hb); have n1_ := Aside0.mk (blk_below (g := gb120) (o := .cells #[.slice A1 l1.length c1] 41 (0, 0)) (by (with_reducible repeat (first | refine blk_drewN ?_ _ | refine blk_drew ?_ | refine blk_alloc ?_ _)); exact BK120.out) hb); have n2_ := Aside0.mk (below_step (by repeat (first | (with_reducible first | exact HB.out | apply below_alloc | apply pw_below_drewN | apply below_drew1 | refine below_set ?_ GE119.out | refine below_set ?_ GE120.out) | exact HB.out)) hb); clear BK119; clear BK120; clear HB; have BK119 := n0_; have BK120 := n1_; have HB := n2_; clear n0_ n1_ n2_; (try clear hb)) | ((with_reducible refine gate_dst (N := 163) rfl ?_); refine fop_eventB rfl (N := 163) rfl (op := .sub) rfl rfl pb145 (fadd t130 (fmul (fsub t132 t130) (fdiv (foi (wrap64 ((wrap64 (a3 - a0_3)) - (wrap64 ((ji31) * a0_4))))) (foi a0_4)))) pb142 (fadd t126 (fmul (fsub t128 t126) (fdiv (foi (wrap64 ((wrap64 (a3 - a0_3)) - (wrap64 ((ji31) * a0_4))))) (foi a0_4)))) rfl rfl ?hA ?hB fsub rfl ?_; (case hA => first | rfl | exact (un_zero _).symm); (case hB => first | rfl | exact (un_zero _).symm); intro pb146 w57 hb; have n0_ := Aside0.mk (blk_below (g := gb119) (o := .cells #[.int .i64 a0_0, .int .i64 a0_1, .int .i64 a0_2, .int .i64 a0_3, .int .i64 a0_4] 43 (0, 0)) (by (with_reducible repeat (first | refine blk_drewN ?_ _ | refine blk_drew ?_ | refine blk_alloc ?_ _)); exact BK119.out) hb); have n1_ := Aside0.mk (blk_below (g := gb120) (o := .cells #[.slice A1 l1.length c1] 41 (0, 0)) (by (with_reducible repeat (first | refine blk_drewN ?_ _ | refine blk_drew ?_ | refine blk_alloc ?_ _)); exact BK120.out) hb); have n2_ := Aside0.mk (below_step (by repeat (first | (with_reducible first | exact HB.out | apply below_alloc | apply pw_below_drewN | apply below_drew1 | refine below_set ?_ GE119.out | refine below_set ?_ GE120.out) | exact HB.out)) hb); clear BK119; clear BK120; clear HB; have BK119 := n0_; have BK120 := n1_; have HB := n2_; clear n0_ n1_ n2_; (try clear hb)) | ((with_reducible refine gate_dst (N := 165) rfl ?_); refine fop_eventB rfl (N := 165) rfl (op := .mul) rfl rfl pb146 (fsub (fadd t130 (fmul (fsub t132 t130) (fdiv (foi (wrap64 ((wrap64 (a3 - a0_3)) - (wrap64 ((ji31) * a0_4))))) (foi a0_4)))) (fadd t126 (fmul (fsub t128 t126) (fdiv (foi (wrap64 ((wrap64 (a3 - a0_3)) - (wrap64 ((ji31) * a0_4))))) (foi a0_4))))) pb139 (fdiv (foi (wrap64 ((wrap64 (a2 - a0_2)) - (wrap64 ((ji30) * a0_4))))) (foi a0_4)) rfl rfl ?hA ?hB fmul rfl ?_; (case hA => first | rfl | exact (un_zero _).symm); (case hB => first | rfl | exact (un_zero _).symm); intro pb147 w58 hb; have n0_ := Aside0.mk (blk_below (g := gb119) (o := .cells #[.int .i64 a0_0, .int .i64 a0_1, .int .i64 a0_2, .int .i64 a0_3, .int .i64 a0_4] 43 (0, 0)) (by (with_reducible repeat (first | refine blk_drewN ?_ _ | refine blk_drew ?_ | refine blk_alloc ?_ _)); exact BK119.out) hb); have n1_ := Aside0.mk (blk_below (g := gb120) (o := .cells #[.slice A1 l1.length c1] 41 (0, 0)) (by (with_reducible repeat (first | refine blk_drewN ?_ _ | refine blk_drew ?_ | refine blk_alloc ?_ _)); exact BK120.out) hb); have n2_ := Aside0.mk (below_step (by repeat (first | (with_reducible first | exact HB.out | apply below_alloc | apply pw_below_drewN | apply below_drew1 | refine below_set ?_ GE119.out | refine below_set ?_ GE120.out) | exact HB.out)) hb); clear BK119; clear BK120; clear HB; have BK119 := n0_; have BK120 := n1_; have HB := n2_; clear n0_ n1_ n2_; (try clear hb)) | ((with_reducible refine gate_dst (N := 166) rfl ?_); refine fop_eventB rfl (N := 166) rfl (op := .add) rfl rfl pb142 (fadd t126 (fmul (fsub t128 t126) (fdiv (foi (wrap64 ((wrap64 (a3 - a0_3)) - (wrap64 ((ji31) * a0_4))))) (foi a0_4)))) pb147 (fmul (fsub (fadd t130 (fmul (fsub t132 t130) (fdiv (foi (wrap64 ((wrap64 (a3 - a0_3)) - (wrap64 ((ji31) * a0_4))))) (foi a0_4)))) (fadd t126 (fmul (fsub t128 t126) (fdiv (foi (wrap64 ((wrap64 (a3 - a0_3)) - (wrap64 ((ji31) * a0_4))))) (foi a0_4))))) (fdiv (foi (wrap64 ((wrap64 (a2 - a0_2)) - (wrap64 ((ji30) * a0_4))))) (foi a0_4))) rfl rfl ?hA ?hB fadd rfl ?_; (case hA => first | rfl | exact (un_zero _).symm); (case hB => first | rfl | exact (un_zero _).symm); intro pb148 w59 hb; have n0_ := Aside0.mk (blk_below (g := gb119) (o := .cells #[.int .i64 a0_0, .int .i64 a0_1, .int .i64 a0_2, .int .i64 a0_3, .int .i64 a0_4] 43 (0, 0)) (by (with_reducible repeat (first | refine blk_drewN ?_ _ | refine blk_drew ?_ | refine blk_alloc ?_ _)); exact BK119.out) hb); have n1_ := Aside0.mk (blk_below (g := gb120) (o := .cells #[.slice A1 l1.length c1] 41 (0, 0)) (by (with_reducible repeat (first | refine blk_drewN ?_ _ | refine blk_drew ?_ | refine blk_alloc ?_ _)); exact BK120.out) hb); have n2_ := Aside0.mk (below_step (by repeat (first | (with_reducible first | exact HB.out | apply below_alloc | apply pw_below_drewN | apply below_drew1 | refine below_set ?_ GE119.out | refine below_set ?_ GE120.out) | exact HB.out)) hb); clear BK119; clear BK120; clear HB; have BK119 := n0_; have BK120 := n1_; have HB := n2_; clear n0_ n1_ n2_; (try clear hb)))
        go_ret
        first | (exact ⟨pb148, by first | rfl | (simp [errW_none, errW_some] <;> rfl) | (simp only [← hji30, ← hji31]; first | rfl | (simp [errW_none, errW_some] <;> rfl)) | (simp [*, errW_none, errW_some] <;> rfl), by repeat (first | (with_reducible first | exact HB.out | apply below_alloc | apply pw_below_drewN | apply below_drew1 | refine below_set ?_ GE119.out | refine below_set ?_ GE120.out) | exact HB.out)⟩) | (exact ⟨⟨pb148, by first | rfl | (simp [errW_none, errW_some] <;> rfl) | (simp only [← hji30, ← hji31]; first | rfl | (simp [errW_none, errW_some] <;> rfl)) | (simp [*, errW_none, errW_some] <;> rfl)⟩, by repeat (first | (with_reducible first | exact HB.out | apply below_alloc | apply pw_below_drewN | apply below_drew1 | refine below_set ?_ GE119.out | refine below_set ?_ GE120.out) | exact HB.out)⟩)
       ·replace c46 := Bool.eq_false_iff.mpr c46
        subst c46
        have H1 : (if (wrap64 (2 * (wrap64 ((wrap64 (a2 - a0_2)) - (wrap64 ((ji30) * a0_4)))))) > a0_4 then (if (wrap64 (2 * (wrap64 ((wrap64 (a3 - a0_3)) - (wrap64 ((ji31) * a0_4)))))) > a0_4 then ((impl_At_1.f (wrap64 (ji30 + 1)) (wrap64 (ji31 + 1)) [l1] [(⟨a0_0, a0_1, a0_2, a0_3, a0_4⟩ : S43)]).bind fun t149 => (some t149)) else ((impl_At_1.f (wrap64 (ji30 + 1)) ji31 [l1] [(⟨a0_0, a0_1, a0_2, a0_3, a0_4⟩ : S43)]).bind fun t151 => (some t151))) else (if (wrap64 (2 * (wrap64 ((wrap64 (a3 - a0_3)) - (wrap64 ((ji31) * a0_4)))))) > a0_4 then ((impl_At_1.f ji30 (wrap64 (ji31 + 1)) [l1] [(⟨a0_0, a0_1, a0_2, a0_3, a0_4⟩ : S43)]).bind fun t153 => (some t153)) else ((impl_At_1.f ji30 ji31 [l1] [(⟨a0_0, a0_1, a0_2, a0_3, a0_4⟩ : S43)]).bind fun t155 => (some t155)))) = some r := by rw [if_neg (show ¬ (false = true) by decide)] at H; exact H
        clear H
        have H := H1
        clear H1
        by_cases c60 : (wrap64 (2 * (wrap64 ((wrap64 (a2 - a0_2)) - (wrap64 ((ji30) * a0_4)))))) > a0_4
        ·rw [if_pos c60] at H
         have c60b0 : decide (a0_4 < (wrap64 (2 * (wrap64 ((wrap64 (a2 - a0_2)) - (wrap64 ((ji30) * a0_4))))))) = true := decide_eq_true c60
         clear c60
         by_cases c61 : (wrap64 (2 * (wrap64 ((wrap64 (a3 - a0_3)) - (wrap64 ((ji31) * a0_4)))))) > a0_4
         ·rw [if_pos c61] at H
          have c61b0 : decide (a0_4 < (wrap64 (2 * (wrap64 ((wrap64 (a3 - a0_3)) - (wrap64 ((ji31) * a0_4))))))) = true := decide_eq_true c61
          clear c61
          replace H := Option.bind_eq_some_iff.mp H
          obtain ⟨t149, A620, H⟩ := H
          replace H : (some t149) = some r := H
          have A62 := Aside0.mk A620
          clear A620
          obtain rfl := Option.some.inj H
          have hnb63 := NB119_120.out
          have hnc63 := NB120_119.out
          have hcz64_0 : wc.cell? ⟨gb119, 0, none⟩ = some (.int .i64 a0_0) := (blk_cell BK119.out 0).trans rfl
          have hcz64_1 : wc.cell? ⟨gb119, 1, none⟩ = some (.int .i64 a0_1) := (blk_cell BK119.out 1).trans rfl
          have hcz64_2 : wc.cell? ⟨gb119, 2, none⟩ = some (.int .i64 a0_2) := (blk_cell BK119.out 2).trans rfl
          have hcz64_3 : wc.cell? ⟨gb119, 3, none⟩ = some (.int .i64 a0_3) := (blk_cell BK119.out 3).trans rfl
          have hcz64_4 : wc.cell? ⟨gb119, 4, none⟩ = some (.int .i64 a0_4) := (blk_cell BK119.out 4).trans rfl
          have hfz64_0 := blk_frozen BK119.out 0
          have hfz64_1 := blk_frozen BK119.out 1
          have hfz64_2 := blk_frozen BK119.out 2
          have hfz64_3 := blk_frozen BK119.out 3
          have hfz64_4 := blk_frozen BK119.out 4
          go_wp2_with (first | ((with_reducible refine gate_calleeV (x := 181) rfl ?_); refine goesV_ (some 184) rfl rfl Try.func52 (by kernel_rfl) rfl #[.int .i64 (wrap64 (ji30 + 1)), .int .i64 (wrap64 (ji31 + 1)), .pointer (some ⟨gb120, 0, none⟩), .pointer (some ⟨gb119, 0, none⟩)] rfl rfl (by (try simp only [List.map_toArray, List.map_cons, List.map_nil]); first | done | (simp only [hji30, hji31]; rfl) | rfl | (simp only [List.length_drop, List.length_take]; rfl)) ?_; (with_reducible refine (impl_At_1.calls (wrap64 (ji30 + 1)) (wrap64 (ji31 + 1)) _ [l1] _ [(⟨a0_0, a0_1, a0_2, a0_3, a0_4⟩ : S43)] t149 _ ?side1 ?side2 ?side3 ?side4 A62.out).mono ?_); (case side1 => refine C_box_ (t := 41) (cs := [.slice A1 l1.length c1]) (by (with_reducible repeat (first | refine blk_drewN ?_ _ | refine blk_drew ?_ | refine blk_alloc ?_ _)); exact BK120.out) ?_; refine ⟨_, _, rfl, (by exact HC1.out), (by repeat (first | exact (Kd.C_below HR1.out HB.out) | (with_reducible refine Kd.C_alloc ?_ _) | (with_reducible refine Kd.C_drewN ?_ _) | (with_reducible refine Kd.C_drew ?_)))⟩); (case side2 => exact Nat.le_refl _); (case side3 => refine C_box_ (t := 43) (cs := [.int .i64 a0_0, .int .i64 a0_1, .int .i64 a0_2, .int .i64 a0_3, .int .i64 a0_4]) (by (with_reducible repeat (first | refine blk_drewN ?_ _ | refine blk_drew ?_ | refine blk_alloc ?_ _)); exact BK119.out) ?_; exact k43_mk _ _); (case side4 => exact Nat.le_refl _); rintro e w' ⟨pr150, rfl, ⟨nd, rfl⟩⟩; refine ⟨_, rfl, ?_⟩))
          go_ret
          first | (exact ⟨pr150, by first | rfl | (simp [errW_none, errW_some] <;> rfl) | (simp only [← hji30, ← hji31]; first | rfl | (simp [errW_none, errW_some] <;> rfl)) | (simp [*, errW_none, errW_some] <;> rfl), by repeat (first | (with_reducible first | exact HB.out | apply below_alloc | apply pw_below_drewN | apply below_drew1 | refine below_set ?_ GE119.out | refine below_set ?_ GE120.out) | exact HB.out)⟩) | (exact ⟨⟨pr150, by first | rfl | (simp [errW_none, errW_some] <;> rfl) | (simp only [← hji30, ← hji31]; first | rfl | (simp [errW_none, errW_some] <;> rfl)) | (simp [*, errW_none, errW_some] <;> rfl)⟩, by repeat (first | (with_reducible first | exact HB.out | apply below_alloc | apply pw_below_drewN | apply below_drew1 | refine below_set ?_ GE119.out | refine below_set ?_ GE120.out) | exact HB.out)⟩)
         ·rw [if_neg c61] at H
          have c61b0 : decide (a0_4 < (wrap64 (2 * (wrap64 ((wrap64 (a3 - a0_3)) - (wrap64 ((ji31) * a0_4))))))) = false := decide_eq_false c61
          clear c61
          replace H := Option.bind_eq_some_iff.mp H
          obtain ⟨t151, A650, H⟩ := H
          replace H : (some t151) = some r := H
          have A65 := Aside0.mk A650
          clear A650
          obtain rfl := Option.some.inj H
          have hnb66 := NB119_120.out
          have hnc66 := NB120_119.out
          have hcz67_0 : wc.cell? ⟨gb119, 0, none⟩ = some (.int .i64 a0_0) := (blk_cell BK119.out 0).trans rfl
          have hcz67_1 : wc.cell? ⟨gb119, 1, none⟩ = some (.int .i64 a0_1) := (blk_cell BK119.out 1).trans rfl
          have hcz67_2 : wc.cell? ⟨gb119, 2, none⟩ = some (.int .i64 a0_2) := (blk_cell BK119.out 2).trans rfl
          have hcz67_3 : wc.cell? ⟨gb119, 3, none⟩ = some (.int .i64 a0_3) := (blk_cell BK119.out 3).trans rfl
          have hcz67_4 : wc.cell? ⟨gb119, 4, none⟩ = some (.int .i64 a0_4) := (blk_cell BK119.out 4).trans rfl
          have hfz67_0 := blk_frozen BK119.out 0
          have hfz67_1 := blk_frozen BK119.out 1
          have hfz67_2 := blk_frozen BK119.out 2
          have hfz67_3 := blk_frozen BK119.out 3
          have hfz67_4 := blk_frozen BK119.out 4
          go_wp2_with (first | ((with_reducible refine gate_calleeV (x := 181) rfl ?_); refine goesV_ (some 184) rfl rfl Try.func52 (by kernel_rfl) rfl #[.int .i64 (wrap64 (ji30 + 1)), .int .i64 ji31, .pointer (some ⟨gb120, 0, none⟩), .pointer (some ⟨gb119, 0, none⟩)] rfl rfl (by (try simp only [List.map_toArray, List.map_cons, List.map_nil]); first | done | (simp only [hji30, hji31]; rfl) | rfl | (simp only [List.length_drop, List.length_take]; rfl)) ?_; (with_reducible refine (impl_At_1.calls (wrap64 (ji30 + 1)) ji31 _ [l1] _ [(⟨a0_0, a0_1, a0_2, a0_3, a0_4⟩ : S43)] t151 _ ?side1 ?side2 ?side3 ?side4 A65.out).mono ?_); (case side1 => refine C_box_ (t := 41) (cs := [.slice A1 l1.length c1]) (by (with_reducible repeat (first | refine blk_drewN ?_ _ | refine blk_drew ?_ | refine blk_alloc ?_ _)); exact BK120.out) ?_; refine ⟨_, _, rfl, (by exact HC1.out), (by repeat (first | exact (Kd.C_below HR1.out HB.out) | (with_reducible refine Kd.C_alloc ?_ _) | (with_reducible refine Kd.C_drewN ?_ _) | (with_reducible refine Kd.C_drew ?_)))⟩); (case side2 => exact Nat.le_refl _); (case side3 => refine C_box_ (t := 43) (cs := [.int .i64 a0_0, .int .i64 a0_1, .int .i64 a0_2, .int .i64 a0_3, .int .i64 a0_4]) (by (with_reducible repeat (first | refine blk_drewN ?_ _ | refine blk_drew ?_ | refine blk_alloc ?_ _)); exact BK119.out) ?_; exact k43_mk _ _); (case side4 => exact Nat.le_refl _); rintro e w' ⟨pr152, rfl, ⟨nd, rfl⟩⟩; refine ⟨_, rfl, ?_⟩))
          go_ret
          first | (exact ⟨pr152, by first | rfl | (simp [errW_none, errW_some] <;> rfl) | (simp only [← hji30, ← hji31]; first | rfl | (simp [errW_none, errW_some] <;> rfl)) | (simp [*, errW_none, errW_some] <;> rfl), by repeat (first | (with_reducible first | exact HB.out | apply below_alloc | apply pw_below_drewN | apply below_drew1 | refine below_set ?_ GE119.out | refine below_set ?_ GE120.out) | exact HB.out)⟩) | (exact ⟨⟨pr152, by first | rfl | (simp [errW_none, errW_some] <;> rfl) | (simp only [← hji30, ← hji31]; first | rfl | (simp [errW_none, errW_some] <;> rfl)) | (simp [*, errW_none, errW_some] <;> rfl)⟩, by repeat (first | (with_reducible first | exact HB.out | apply below_alloc | apply pw_below_drewN | apply below_drew1 | refine below_set ?_ GE119.out | refine below_set ?_ GE120.out) | exact HB.out)⟩)
        ·rw [if_neg c60] at H
         have c60b0 : decide (a0_4 < (wrap64 (2 * (wrap64 ((wrap64 (a2 - a0_2)) - (wrap64 ((ji30) * a0_4))))))) = false := decide_eq_false c60
         clear c60
         by_cases c68 : (wrap64 (2 * (wrap64 ((wrap64 (a3 - a0_3)) - (wrap64 ((ji31) * a0_4)))))) > a0_4
         ·rw [if_pos c68] at H
          have c68b0 : decide (a0_4 < (wrap64 (2 * (wrap64 ((wrap64 (a3 - a0_3)) - (wrap64 ((ji31) * a0_4))))))) = true := decide_eq_true c68
          clear c68
          replace H := Option.bind_eq_some_iff.mp H
          obtain ⟨t153, A690, H⟩ := H
          replace H : (some t153) = some r := H
          have A69 := Aside0.mk A690
          clear A690
          obtain rfl := Option.some.inj H
          have hnb70 := NB119_120.out
          have hnc70 := NB120_119.out
          have hcz71_0 : wc.cell? ⟨gb119, 0, none⟩ = some (.int .i64 a0_0) := (blk_cell BK119.out 0).trans rfl
          have hcz71_1 : wc.cell? ⟨gb119, 1, none⟩ = some (.int .i64 a0_1) := (blk_cell BK119.out 1).trans rfl
          have hcz71_2 : wc.cell? ⟨gb119, 2, none⟩ = some (.int .i64 a0_2) := (blk_cell BK119.out 2).trans rfl
          have hcz71_3 : wc.cell? ⟨gb119, 3, none⟩ = some (.int .i64 a0_3) := (blk_cell BK119.out 3).trans rfl
          have hcz71_4 : wc.cell? ⟨gb119, 4, none⟩ = some (.int .i64 a0_4) := (blk_cell BK119.out 4).trans rfl
          have hfz71_0 := blk_frozen BK119.out 0
          have hfz71_1 := blk_frozen BK119.out 1
          have hfz71_2 := blk_frozen BK119.out 2
          have hfz71_3 := blk_frozen BK119.out 3
          have hfz71_4 := blk_frozen BK119.out 4
          go_wp2_with (first | ((with_reducible refine gate_calleeV (x := 181) rfl ?_); refine goesV_ (some 184) rfl rfl Try.func52 (by kernel_rfl) rfl #[.int .i64 ji30, .int .i64 (wrap64 (ji31 + 1)), .pointer (some ⟨gb120, 0, none⟩), .pointer (some ⟨gb119, 0, none⟩)] rfl rfl (by (try simp only [List.map_toArray, List.map_cons, List.map_nil]); first | done | (simp only [hji30, hji31]; rfl) | rfl | (simp only [List.length_drop, List.length_take]; rfl)) ?_; (with_reducible refine (impl_At_1.calls ji30 (wrap64 (ji31 + 1)) _ [l1] _ [(⟨a0_0, a0_1, a0_2, a0_3, a0_4⟩ : S43)] t153 _ ?side1 ?side2 ?side3 ?side4 A69.out).mono ?_); (case side1 => refine C_box_ (t := 41) (cs := [.slice A1 l1.length c1]) (by (with_reducible repeat (first | refine blk_drewN ?_ _ | refine blk_drew ?_ | refine blk_alloc ?_ _)); exact BK120.out) ?_; refine ⟨_, _, rfl, (by exact HC1.out), (by repeat (first | exact (Kd.C_below HR1.out HB.out) | (with_reducible refine Kd.C_alloc ?_ _) | (with_reducible refine Kd.C_drewN ?_ _) | (with_reducible refine Kd.C_drew ?_)))⟩); (case side2 => exact Nat.le_refl _); (case side3 => refine C_box_ (t := 43) (cs := [.int .i64 a0_0, .int .i64 a0_1, .int .i64 a0_2, .int .i64 a0_3, .int .i64 a0_4]) (by (with_reducible repeat (first | refine blk_drewN ?_ _ | refine blk_drew ?_ | refine blk_alloc ?_ _)); exact BK119.out) ?_; exact k43_mk _ _); (case side4 => exact Nat.le_refl _); rintro e w' ⟨pr154, rfl, ⟨nd, rfl⟩⟩; refine ⟨_, rfl, ?_⟩))
          go_ret
          first | (exact ⟨pr154, by first | rfl | (simp [errW_none, errW_some] <;> rfl) | (simp only [← hji30, ← hji31]; first | rfl | (simp [errW_none, errW_some] <;> rfl)) | (simp [*, errW_none, errW_some] <;> rfl), by repeat (first | (with_reducible first | exact HB.out | apply below_alloc | apply pw_below_drewN | apply below_drew1 | refine below_set ?_ GE119.out | refine below_set ?_ GE120.out) | exact HB.out)⟩) | (exact ⟨⟨pr154, by first | rfl | (simp [errW_none, errW_some] <;> rfl) | (simp only [← hji30, ← hji31]; first | rfl | (simp [errW_none, errW_some] <;> rfl)) | (simp [*, errW_none, errW_some] <;> rfl)⟩, by repeat (first | (with_reducible first | exact HB.out | apply below_alloc | apply pw_below_drewN | apply below_drew1 | refine below_set ?_ GE119.out | refine below_set ?_ GE120.out) | exact HB.out)⟩)
         ·rw [if_neg c68] at H
          have c68b0 : decide (a0_4 < (wrap64 (2 * (wrap64 ((wrap64 (a3 - a0_3)) - (wrap64 ((ji31) * a0_4))))))) = false := decide_eq_false c68
          clear c68
          replace H := Option.bind_eq_some_iff.mp H
          obtain ⟨t155, A720, H⟩ := H
          replace H : (some t155) = some r := H
          have A72 := Aside0.mk A720
          clear A720
          obtain rfl := Option.some.inj H
          have hnb73 := NB119_120.out
          have hnc73 := NB120_119.out
          have hcz74_0 : wc.cell? ⟨gb119, 0, none⟩ = some (.int .i64 a0_0) := (blk_cell BK119.out 0).trans rfl
          have hcz74_1 : wc.cell? ⟨gb119, 1, none⟩ = some (.int .i64 a0_1) := (blk_cell BK119.out 1).trans rfl
          have hcz74_2 : wc.cell? ⟨gb119, 2, none⟩ = some (.int .i64 a0_2) := (blk_cell BK119.out 2).trans rfl
          have hcz74_3 : wc.cell? ⟨gb119, 3, none⟩ = some (.int .i64 a0_3) := (blk_cell BK119.out 3).trans rfl
          have hcz74_4 : wc.cell? ⟨gb119, 4, none⟩ = some (.int .i64 a0_4) := (blk_cell BK119.out 4).trans rfl
          have hfz74_0 := blk_frozen BK119.out 0
          have hfz74_1 := blk_frozen BK119.out 1
          have hfz74_2 := blk_frozen BK119.out 2
          have hfz74_3 := blk_frozen BK119.out 3
          have hfz74_4 := blk_frozen BK119.out 4
          go_wp2_with (first | ((with_reducible refine gate_calleeV (x := 181) rfl ?_); refine goesV_ (some 184) rfl rfl Try.func52 (by kernel_rfl) rfl #[.int .i64 ji30, .int .i64 ji31, .pointer (some ⟨gb120, 0, none⟩), .pointer (some ⟨gb119, 0, none⟩)] rfl rfl (by (try simp only [List.map_toArray, List.map_cons, List.map_nil]); first | done | (simp only [hji30, hji31]; rfl) | rfl | (simp only [List.length_drop, List.length_take]; rfl)) ?_; (with_reducible refine (impl_At_1.calls ji30 ji31 _ [l1] _ [(⟨a0_0, a0_1, a0_2, a0_3, a0_4⟩ : S43)] t155 _ ?side1 ?side2 ?side3 ?side4 A72.out).mono ?_); (case side1 => refine C_box_ (t := 41) (cs := [.slice A1 l1.length c1]) (by (with_reducible repeat (first | refine blk_drewN ?_ _ | refine blk_drew ?_ | refine blk_alloc ?_ _)); exact BK120.out) ?_; refine ⟨_, _, rfl, (by exact HC1.out), (by repeat (first | exact (Kd.C_below HR1.out HB.out) | (with_reducible refine Kd.C_alloc ?_ _) | (with_reducible refine Kd.C_drewN ?_ _) | (with_reducible refine Kd.C_drew ?_)))⟩); (case side2 => exact Nat.le_refl _); (case side3 => refine C_box_ (t := 43) (cs := [.int .i64 a0_0, .int .i64 a0_1, .int .i64 a0_2, .int .i64 a0_3, .int .i64 a0_4]) (by (with_reducible repeat (first | refine blk_drewN ?_ _ | refine blk_drew ?_ | refine blk_alloc ?_ _)); exact BK119.out) ?_; exact k43_mk _ _); (case side4 => exact Nat.le_refl _); rintro e w' ⟨pr156, rfl, ⟨nd, rfl⟩⟩; refine ⟨_, rfl, ?_⟩))
          go_ret
          first | (exact ⟨pr156, by first | rfl | (simp [errW_none, errW_some] <;> rfl) | (simp only [← hji30, ← hji31]; first | rfl | (simp [errW_none, errW_some] <;> rfl)) | (simp [*, errW_none, errW_some] <;> rfl), by repeat (first | (with_reducible first | exact HB.out | apply below_alloc | apply pw_below_drewN | apply below_drew1 | refine below_set ?_ GE119.out | refine below_set ?_ GE120.out) | exact HB.out)⟩) | (exact ⟨⟨pr156, by first | rfl | (simp [errW_none, errW_some] <;> rfl) | (simp only [← hji30, ← hji31]; first | rfl | (simp [errW_none, errW_some] <;> rfl)) | (simp [*, errW_none, errW_some] <;> rfl)⟩, by repeat (first | (with_reducible first | exact HB.out | apply below_alloc | apply pw_below_drewN | apply below_drew1 | refine below_set ?_ GE119.out | refine below_set ?_ GE120.out) | exact HB.out)⟩)

end Go.Proofs.Ytaophbkedbphnaa.Q
