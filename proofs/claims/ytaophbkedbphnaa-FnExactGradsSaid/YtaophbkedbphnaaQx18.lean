/- Plain Lean functions with the same answers as the Go functions of this seat, and a proof for each that the Go code comes to just these answers; no condition. Written by a program of this session (the kit's printer, turned). -/
import Derived.Test.YtaophbkedbphnaaQx0
import Derived.Test.YtaophbkedbphnaaQx13
import Derived.Test.YtaophbkedbphnaaQx16
import Derived.Test.YtaophbkedbphnaaQx17
namespace Go.Proofs.Ytaophbkedbphnaa.Q
open Go.RowKit Go.Proofs.YtaophbkedbphnaaW.PrintWords Go.Proofs.YtaophbkedbphnaaW.PrintLast Go.Proofs.YtaophbkedbphnaaW.PrintMore Go.Proofs.YtaophbkedbphnaaW.PrintFlt
attribute [local go_sem] cmp_lss cmp_leq cmp_gtr cmp_geq cmp_eql cmp_neq flt_l flt_r fgt_l fgt_r feq_l feq_r fne_l fne_r ord_lt ord_gt ord_eq ord_ne conv_int foi_fold run_store_flt
attribute [local go_sem] max2_int min2_int max_two min_two max_three min_three max_four min_four   -- for this text's walks alone
set_option linter.unusedVariables false
set_option linter.unusedSimpArgs false

/-! ### impl_Grads: function 32 -/
mutual
def impl_Grads.l0 : Nat → List (Nat) → List (S84) → Int → Int → Int → Int → Int → Int → Option ((List (S84)))
 | 0, _, _, _, _, _, _, _, _ => none
 | k + 1, x1, x5, x6, x179000, x179001, x179002, x179003, x179004 => if x6 < x179000 then (impl_Grads.l1 k x1 x5 x6 0 x179000 x179001 x179002 x179003 x179004) else (some x5)
def impl_Grads.l1 : Nat → List (Nat) → List (S84) → Int → Int → Int → Int → Int → Int → Int → Option ((List (S84)))
 | 0, _, _, _, _, _, _, _, _, _ => none
 | k + 1, x1, x5, x6, x7, x179000, x179001, x179002, x179003, x179004 => if x7 < x179001 then (if x6 = 0 then (impl_Grads.j2 k x1 x5 x6 x7 true x179000 x179001 x179002 x179003 x179004) else (if x7 = 0 then (impl_Grads.j2 k x1 x5 x6 x7 true x179000 x179001 x179002 x179003 x179004) else (if x6 = (wrap64 (x179000 - 1)) then (impl_Grads.j2 k x1 x5 x6 x7 true x179000 x179001 x179002 x179003 x179004) else (impl_Grads.j2 k x1 x5 x6 x7 (x7 == (wrap64 (x179001 - 1))) x179000 x179001 x179002 x179003 x179004)))) else (impl_Grads.l0 k x1 x5 (wrap64 (x6 + 1)) x179000 x179001 x179002 x179003 x179004)
def impl_Grads.j2 : Nat → List (Nat) → List (S84) → Int → Int → Bool → Int → Int → Int → Int → Int → Option ((List (S84)))
 | 0, _, _, _, _, _, _, _, _, _, _ => none
 | k + 1, x1, x5, x6, x7, x49, x179000, x179001, x179002, x179003, x179004 => if x49 = true then ((impl_nan.f).bind fun t183 => ((impl_nan.f).bind fun t185 => (if x5.length < 8796093022208 then (impl_Grads.l1 k x1 (x5 ++ [(⟨t183, t185⟩ : S84)]) x6 (wrap64 (x7 + 1)) x179000 x179001 x179002 x179003 x179004) else (none)))) else (if 0 ≤ (wrap64 ((wrap64 ((wrap64 (x6 * x179001)) + x7)) + 1)) then (if (wrap64 ((wrap64 ((wrap64 (x6 * x179001)) + x7)) + 1)) < (x1.length : Int) then (if 0 ≤ (wrap64 ((wrap64 ((wrap64 (x6 * x179001)) + x7)) - 1)) then (if (wrap64 ((wrap64 ((wrap64 (x6 * x179001)) + x7)) - 1)) < (x1.length : Int) then (if 0 ≤ (wrap64 ((wrap64 ((wrap64 (x6 * x179001)) + x7)) + x179001)) then (if (wrap64 ((wrap64 ((wrap64 (x6 * x179001)) + x7)) + x179001)) < (x1.length : Int) then (if 0 ≤ (wrap64 ((wrap64 ((wrap64 (x6 * x179001)) + x7)) - x179001)) then (if (wrap64 ((wrap64 ((wrap64 (x6 * x179001)) + x7)) - x179001)) < (x1.length : Int) then ((impl_missing.f (rd_F x1 (wrap64 ((wrap64 ((wrap64 (x6 * x179001)) + x7)) + 1)))).bind fun t194 => (if t194 = true then (impl_Grads.j3 k x1 x5 x6 x7 (rd_F x1 (wrap64 ((wrap64 ((wrap64 (x6 * x179001)) + x7)) + 1))) (rd_F x1 (wrap64 ((wrap64 ((wrap64 (x6 * x179001)) + x7)) - 1))) (rd_F x1 (wrap64 ((wrap64 ((wrap64 (x6 * x179001)) + x7)) + x179001))) (rd_F x1 (wrap64 ((wrap64 ((wrap64 (x6 * x179001)) + x7)) - x179001))) true x179000 x179001 x179002 x179003 x179004) else ((impl_missing.f (rd_F x1 (wrap64 ((wrap64 ((wrap64 (x6 * x179001)) + x7)) - 1)))).bind fun t195 => (if t195 = true then (impl_Grads.j3 k x1 x5 x6 x7 (rd_F x1 (wrap64 ((wrap64 ((wrap64 (x6 * x179001)) + x7)) + 1))) (rd_F x1 (wrap64 ((wrap64 ((wrap64 (x6 * x179001)) + x7)) - 1))) (rd_F x1 (wrap64 ((wrap64 ((wrap64 (x6 * x179001)) + x7)) + x179001))) (rd_F x1 (wrap64 ((wrap64 ((wrap64 (x6 * x179001)) + x7)) - x179001))) true x179000 x179001 x179002 x179003 x179004) else ((impl_missing.f (rd_F x1 (wrap64 ((wrap64 ((wrap64 (x6 * x179001)) + x7)) + x179001)))).bind fun t196 => (if t196 = true then (impl_Grads.j3 k x1 x5 x6 x7 (rd_F x1 (wrap64 ((wrap64 ((wrap64 (x6 * x179001)) + x7)) + 1))) (rd_F x1 (wrap64 ((wrap64 ((wrap64 (x6 * x179001)) + x7)) - 1))) (rd_F x1 (wrap64 ((wrap64 ((wrap64 (x6 * x179001)) + x7)) + x179001))) (rd_F x1 (wrap64 ((wrap64 ((wrap64 (x6 * x179001)) + x7)) - x179001))) true x179000 x179001 x179002 x179003 x179004) else ((impl_missing.f (rd_F x1 (wrap64 ((wrap64 ((wrap64 (x6 * x179001)) + x7)) - x179001)))).bind fun t197 => (impl_Grads.j3 k x1 x5 x6 x7 (rd_F x1 (wrap64 ((wrap64 ((wrap64 (x6 * x179001)) + x7)) + 1))) (rd_F x1 (wrap64 ((wrap64 ((wrap64 (x6 * x179001)) + x7)) - 1))) (rd_F x1 (wrap64 ((wrap64 ((wrap64 (x6 * x179001)) + x7)) + x179001))) (rd_F x1 (wrap64 ((wrap64 ((wrap64 (x6 * x179001)) + x7)) - x179001))) t197 x179000 x179001 x179002 x179003 x179004)))))))) else (none)) else (none)) else (none)) else (none)) else (none)) else (none)) else (none)) else (none))
def impl_Grads.j3 : Nat → List (Nat) → List (S84) → Int → Int → Nat → Nat → Nat → Nat → Bool → Int → Int → Int → Int → Int → Option ((List (S84)))
 | 0, _, _, _, _, _, _, _, _, _, _, _, _, _, _ => none
 | k + 1, x1, x5, x6, x7, x9, x10, x11, x12, x99, x179000, x179001, x179002, x179003, x179004 => if x99 = true then ((impl_nan.f).bind fun t198 => ((impl_nan.f).bind fun t200 => (if x5.length < 8796093022208 then (impl_Grads.l1 k x1 (x5 ++ [(⟨t198, t200⟩ : S84)]) x6 (wrap64 (x7 + 1)) x179000 x179001 x179002 x179003 x179004) else (none)))) else (if x5.length < 8796093022208 then (impl_Grads.l1 k x1 (x5 ++ [(⟨fdiv (fsub x9 x10) 4611686018427387904, fdiv (fsub x11 x12) 4611686018427387904⟩ : S84)]) x6 (wrap64 (x7 + 1)) x179000 x179001 x179002 x179003 x179004) else (none))
end
def impl_Grads.f (k : Nat) (a0_0 : Int) (a0_1 : Int) (a0_2 : Int) (a0_3 : Int) (a0_4 : Int) (l1 : List (Nat)) : Option ((List (S84))) := (impl_fits.f a0_0 a0_1 a0_2 a0_3 a0_4 l1).bind fun t179 => (if t179 = true then (impl_Grads.l0 k l1 (([] : List (S84))) 0 a0_0 a0_1 a0_2 a0_3 a0_4) else (some ([] : List (S84))))
theorem impl_Grads.mono_l : ∀ k, (∀ y0 y1 y2 y3 y4 y5 y6 y7, LeO (impl_Grads.l0 k y0 y1 y2 y3 y4 y5 y6 y7) (impl_Grads.l0 (k + 1) y0 y1 y2 y3 y4 y5 y6 y7)) ∧ (∀ y0 y1 y2 y3 y4 y5 y6 y7 y8, LeO (impl_Grads.l1 k y0 y1 y2 y3 y4 y5 y6 y7 y8) (impl_Grads.l1 (k + 1) y0 y1 y2 y3 y4 y5 y6 y7 y8)) ∧ (∀ y0 y1 y2 y3 y4 y5 y6 y7 y8 y9, LeO (impl_Grads.j2 k y0 y1 y2 y3 y4 y5 y6 y7 y8 y9) (impl_Grads.j2 (k + 1) y0 y1 y2 y3 y4 y5 y6 y7 y8 y9)) ∧ (∀ y0 y1 y2 y3 y4 y5 y6 y7 y8 y9 y10 y11 y12 y13, LeO (impl_Grads.j3 k y0 y1 y2 y3 y4 y5 y6 y7 y8 y9 y10 y11 y12 y13) (impl_Grads.j3 (k + 1) y0 y1 y2 y3 y4 y5 y6 y7 y8 y9 y10 y11 y12 y13))
 | 0 => ⟨fun _ _ _ _ _ _ _ _ r h => by simp [impl_Grads.l0] at h, fun _ _ _ _ _ _ _ _ _ r h => by simp [impl_Grads.l1] at h, fun _ _ _ _ _ _ _ _ _ _ r h => by simp [impl_Grads.j2] at h, fun _ _ _ _ _ _ _ _ _ _ _ _ _ _ r h => by simp [impl_Grads.j3] at h⟩
 | k + 1 => by
  obtain ⟨ih0, ih1, ih2, ih3⟩ := impl_Grads.mono_l k
  refine ⟨?_, ?_, ?_, ?_⟩
  ·intro y0 y1 y2 y3 y4 y5 y6 y7
   unfold impl_Grads.l0
   repeat' first
   | (with_reducible exact ih0 _ _ _ _ _ _ _ _)
   | (with_reducible exact ih1 _ _ _ _ _ _ _ _ _)
   | (with_reducible exact ih2 _ _ _ _ _ _ _ _ _ _)
   | (with_reducible exact ih3 _ _ _ _ _ _ _ _ _ _ _ _ _ _)
   | (with_reducible exact LeO.refl _)
   | (with_reducible exact LeO.none _)
   | (with_reducible refine LeO.ite ?_ ?_)
   | (with_reducible refine LeO.bind ?_ (fun _ => ?_))
   | exact ih0 _ _ _ _ _ _ _ _
   | exact ih1 _ _ _ _ _ _ _ _ _
   | exact ih2 _ _ _ _ _ _ _ _ _ _
   | exact ih3 _ _ _ _ _ _ _ _ _ _ _ _ _ _
   | exact LeO.none _
   | refine LeO.ite ?_ ?_
   | refine LeO.bind ?_ (fun _ => ?_)
  ·intro y0 y1 y2 y3 y4 y5 y6 y7 y8
   unfold impl_Grads.l1
   repeat' first
   | (with_reducible exact ih0 _ _ _ _ _ _ _ _)
   | (with_reducible exact ih1 _ _ _ _ _ _ _ _ _)
   | (with_reducible exact ih2 _ _ _ _ _ _ _ _ _ _)
   | (with_reducible exact ih3 _ _ _ _ _ _ _ _ _ _ _ _ _ _)
   | (with_reducible exact LeO.refl _)
   | (with_reducible exact LeO.none _)
   | (with_reducible refine LeO.ite ?_ ?_)
   | (with_reducible refine LeO.bind ?_ (fun _ => ?_))
   | exact ih0 _ _ _ _ _ _ _ _
   | exact ih1 _ _ _ _ _ _ _ _ _
   | exact ih2 _ _ _ _ _ _ _ _ _ _
   | exact ih3 _ _ _ _ _ _ _ _ _ _ _ _ _ _
   | exact LeO.none _
   | refine LeO.ite ?_ ?_
   | refine LeO.bind ?_ (fun _ => ?_)
  ·intro y0 y1 y2 y3 y4 y5 y6 y7 y8 y9
   unfold impl_Grads.j2
   repeat' first
   | (with_reducible exact ih0 _ _ _ _ _ _ _ _)
   | (with_reducible exact ih1 _ _ _ _ _ _ _ _ _)
   | (with_reducible exact ih2 _ _ _ _ _ _ _ _ _ _)
   | (with_reducible exact ih3 _ _ _ _ _ _ _ _ _ _ _ _ _ _)
   | (with_reducible exact LeO.refl _)
   | (with_reducible exact LeO.none _)
   | (with_reducible refine LeO.ite ?_ ?_)
   | (with_reducible refine LeO.bind ?_ (fun _ => ?_))
   | exact ih0 _ _ _ _ _ _ _ _
   | exact ih1 _ _ _ _ _ _ _ _ _
   | exact ih2 _ _ _ _ _ _ _ _ _ _
   | exact ih3 _ _ _ _ _ _ _ _ _ _ _ _ _ _
   | exact LeO.none _
   | refine LeO.ite ?_ ?_
   | refine LeO.bind ?_ (fun _ => ?_)
  ·intro y0 y1 y2 y3 y4 y5 y6 y7 y8 y9 y10 y11 y12 y13
   unfold impl_Grads.j3
   repeat' first
   | (with_reducible exact ih0 _ _ _ _ _ _ _ _)
   | (with_reducible exact ih1 _ _ _ _ _ _ _ _ _)
   | (with_reducible exact ih2 _ _ _ _ _ _ _ _ _ _)
   | (with_reducible exact ih3 _ _ _ _ _ _ _ _ _ _ _ _ _ _)
   | (with_reducible exact LeO.refl _)
   | (with_reducible exact LeO.none _)
   | (with_reducible refine LeO.ite ?_ ?_)
   | (with_reducible refine LeO.bind ?_ (fun _ => ?_))
   | exact ih0 _ _ _ _ _ _ _ _
   | exact ih1 _ _ _ _ _ _ _ _ _
   | exact ih2 _ _ _ _ _ _ _ _ _ _
   | exact ih3 _ _ _ _ _ _ _ _ _ _ _ _ _ _
   | exact LeO.none _
   | refine LeO.ite ?_ ?_
   | refine LeO.bind ?_ (fun _ => ?_)
theorem impl_Grads.mono : ∀ a0 a1 a2 a3 a4 a5 k, LeO (impl_Grads.f k a0 a1 a2 a3 a4 a5) (impl_Grads.f (k + 1) a0 a1 a2 a3 a4 a5) := by
 intro a0 a1 a2 a3 a4 a5 k
 obtain ⟨ih0, ih1, ih2, ih3⟩ := impl_Grads.mono_l k
 unfold impl_Grads.f
 repeat' first
   | (with_reducible exact ih0 _ _ _ _ _ _ _ _)
   | (with_reducible exact ih1 _ _ _ _ _ _ _ _ _)
   | (with_reducible exact ih2 _ _ _ _ _ _ _ _ _ _)
   | (with_reducible exact ih3 _ _ _ _ _ _ _ _ _ _ _ _ _ _)
   | (with_reducible exact LeO.refl _)
   | (with_reducible exact LeO.none _)
   | (with_reducible refine LeO.ite ?_ ?_)
   | (with_reducible refine LeO.bind ?_ (fun _ => ?_))
   | exact ih0 _ _ _ _ _ _ _ _
   | exact ih1 _ _ _ _ _ _ _ _ _
   | exact ih2 _ _ _ _ _ _ _ _ _ _
   | exact ih3 _ _ _ _ _ _ _ _ _ _ _ _ _ _
   | exact LeO.none _
   | refine LeO.ite ?_ ?_
   | refine LeO.bind ?_ (fun _ => ?_)
set_option maxHeartbeats 8000000 in
set_option maxRecDepth 100000 in
theorem impl_Grads.calls (k : Nat) (a0_0 : Int) (a0_1 : Int) (a0_2 : Int) (a0_3 : Int) (a0_4 : Int) (A1 : Option Addr) (c1 : Nat) (l1 : List (Nat)) (r : List (S84)) (w : World) (hr1 : Kd.C Kd.flt w A1 l1.length l1) (hc1 : l1.length ≤ c1) (h : impl_Grads.f k a0_0 a0_1 a0_2 a0_3 a0_4 l1 = some r) :
  Calls Try.prog 32 #[.agg #[.int .i64 a0_0, .int .i64 a0_1, .int .i64 a0_2, .int .i64 a0_3, .int .i64 a0_4], .slice A1 l1.length c1] w fun e w' => ∃ v0_ : Value, e = .returned (v0_) ∧ Kd.R k84 84 w' w.heap.size (fun _ => True) v0_ r ∧ Below w.heap.size w w' := by
 have hu43 := Try.underlying43
 have hu84 := Try.underlying84
 have HR1 := Aside0.mk hr1
 have HC1 := Aside0.mk hc1
 clear hr1 hc1
 have HB := Aside0.mk (Below.refl w.heap.size w)
 have H : ((impl_fits.f a0_0 a0_1 a0_2 a0_3 a0_4 l1).bind fun t179 => (if t179 = true then (impl_Grads.l0 k l1 (([] : List (S84))) 0 a0_0 a0_1 a0_2 a0_3 a0_4) else (some ([] : List (S84))))) = some r := h
 clear h
 replace H := Option.bind_eq_some_iff.mp H
 obtain ⟨t179, A30, H⟩ := H
 replace H : (if t179 = true then (impl_Grads.l0 k l1 (([] : List (S84))) 0 a0_0 a0_1 a0_2 a0_3 a0_4) else (some ([] : List (S84)))) = some r := H
 have A3 := Aside0.mk A30
 clear A30
 by_cases c4 : t179 = true
 ·subst c4
  have H1 : (impl_Grads.l0 k l1 (([] : List (S84))) 0 a0_0 a0_1 a0_2 a0_3 a0_4) = some r := by rw [if_pos rfl] at H; exact H
  clear H
  have H := H1
  clear H1
  obtain ⟨y180, hy180⟩ : ∃ y_ : List (S84), y_ = (([] : List (S84))) := ⟨_, rfl⟩
  replace H : (impl_Grads.l0 k l1 y180 0 a0_0 a0_1 a0_2 a0_3 a0_4) = some r := by first | (rw [hy180]; with_reducible exact H) | (have H2_ := (Option.bind_some _ _).symm.trans H; rw [hy180]; with_reducible exact H2_) | (have H2_ := (Option.bind_some _ _).symm.trans H; with_reducible exact H2_) | with_reducible exact H | (rw [hy180]; exact H) | exact H
  have Ny180 := Aside0.mk hy180
  clear hy180
  have H' := Aside0.mk H
  clear H
  go_enter Try.func32, Try.ntmps32
  go_wp2_with (first | ((with_reducible refine gate_dst (N := 2) rfl ?_); refine box_event ?hg (N := 2) ?hd (cs := #[.int .i64 a0_0, .int .i64 a0_1, .int .i64 a0_2, .int .i64 a0_3, .int .i64 a0_4]) (t := 43) ?hr ?_; (case hd => rfl); (case hg => rfl); (case hr => first | (go_simp; done) | (go_simp; rfl)); intro gb178 hg w5 hbox hb; have n0_ := Aside0.mk (below_step (by repeat (first | (with_reducible first | exact HB.out | apply below_alloc | apply pw_below_drewN | apply below_drew1) | exact HB.out)) hb); have n1_ := Aside0.mk (hbox); have n2_ := Aside0.mk ((by rw [hg]; exact (below_size (by repeat (first | (with_reducible first | exact HB.out | apply below_alloc | apply pw_below_drewN | apply below_drew1) | exact HB.out))) : w.heap.size ≤ gb178)); have n3_ := Aside0.mk ((by rw [hg]; exact (below_size (by repeat (first | (with_reducible first | exact HB.out | apply below_alloc | apply pw_below_drewN | apply below_drew1) | exact HB.out))) : w.heap.size ≤ gb178)); clear HB; have HB := n0_; have BK178 := n1_; have GW178 := n2_; have GE178 := n3_; clear n0_ n1_ n2_ n3_; clear hb hbox hg; have hcz6_0 : w5.cell? ⟨gb178, 0, none⟩ = some (.int .i64 a0_0) := (blk_cell BK178.out 0).trans rfl; have hcz6_1 : w5.cell? ⟨gb178, 1, none⟩ = some (.int .i64 a0_1) := (blk_cell BK178.out 1).trans rfl; have hcz6_2 : w5.cell? ⟨gb178, 2, none⟩ = some (.int .i64 a0_2) := (blk_cell BK178.out 2).trans rfl; have hcz6_3 : w5.cell? ⟨gb178, 3, none⟩ = some (.int .i64 a0_3) := (blk_cell BK178.out 3).trans rfl; have hcz6_4 : w5.cell? ⟨gb178, 4, none⟩ = some (.int .i64 a0_4) := (blk_cell BK178.out 4).trans rfl; have hfz6_0 := blk_frozen BK178.out 0; have hfz6_1 := blk_frozen BK178.out 1; have hfz6_2 := blk_frozen BK178.out 2; have hfz6_3 := blk_frozen BK178.out 3; have hfz6_4 := blk_frozen BK178.out 4) | (go_at_call 50; (with_reducible refine (impl_fits.calls a0_0 a0_1 a0_2 a0_3 a0_4 _ _ l1 true _ ?side1 ?side2 A3.out).mono ?_); (case side1 => repeat (first | exact (Kd.C_below HR1.out HB.out) | (with_reducible refine Kd.C_alloc ?_ _) | (with_reducible refine Kd.C_drewN ?_ _) | (with_reducible refine Kd.C_drew ?_))); (case side2 => exact HC1.out); rintro e w7 ⟨rfl, hb⟩; have n0_ := Aside0.mk (blk_below (g := gb178) (o := .cells #[.int .i64 a0_0, .int .i64 a0_1, .int .i64 a0_2, .int .i64 a0_3, .int .i64 a0_4] 43 (0, 0)) (by (with_reducible repeat (first | refine blk_drewN ?_ _ | refine blk_drew ?_ | refine blk_alloc ?_ _)); exact BK178.out) hb); have n1_ := Aside0.mk (below_step (by repeat (first | (with_reducible first | exact HB.out | apply below_alloc | apply pw_below_drewN | apply below_drew1 | refine below_set ?_ GE178.out) | exact HB.out)) hb); clear BK178; clear HB; have BK178 := n0_; have HB := n1_; clear n0_ n1_; (try clear hb); (try clear hb2); (try clear hk); (try clear hi)) | ((with_reducible refine gate_dst (N := 17) rfl ?_); refine Kd.R_lit k84 _ 84 ?hg (N := 17) ?hd (xs := ([] : List (S84))) (inner := []) (ok := fun _ => True) (okp := fun _ => True) ?hr ?hp (fun _ hk => hk) trivial (Below.refl _ _) (Nat.le_refl _) (by simp) ?_; (case hd => rfl); (case hg => rfl); (case hr => first | (go_simp; done) | (go_simp; rfl)); (case hp => exact (Reps.none _ _)); intro v181 w8 ho9 hb hg_ hnew_; clear hg_ hnew_; (first | rw [← Ny180.out] at ho9 | (simp only [Int.reduceToNat] at ho9; rw [← Ny180.out] at ho9)); have n0_ := Aside0.mk (Kd.R_lower ho9 (below_size (by repeat (first | (with_reducible first | exact HB.out | apply below_alloc | apply pw_below_drewN | apply below_drew1 | refine below_set ?_ GE178.out) | exact HB.out)))); have n1_ := Aside0.mk (blk_below (g := gb178) (o := .cells #[.int .i64 a0_0, .int .i64 a0_1, .int .i64 a0_2, .int .i64 a0_3, .int .i64 a0_4] 43 (0, 0)) (by (with_reducible repeat (first | refine blk_drewN ?_ _ | refine blk_drew ?_ | refine blk_alloc ?_ _)); exact BK178.out) hb); have n2_ := Aside0.mk (below_step (by repeat (first | (with_reducible first | exact HB.out | apply below_alloc | apply pw_below_drewN | apply below_drew1 | refine below_set ?_ GE178.out) | exact HB.out)) hb); clear BK178; clear HB; have HO182 := n0_; have BK178 := n1_; have HB := n2_; clear n0_ n1_ n2_; clear hb ho9))
  repeat (go_quiet (first | ((with_reducible refine gate_dst (N := 2) rfl ?_); refine box_event ?hg (N := 2) ?hd (cs := #[.int .i64 a0_0, .int .i64 a0_1, .int .i64 a0_2, .int .i64 a0_3, .int .i64 a0_4]) (t := 43) ?hr ?_; (case hd => rfl); (case hg => rfl); (case hr => first | (go_simp; done) | (go_simp; rfl)); intro gb178 hg w5 hbox hb; have n0_ := Aside0.mk (below_step (by repeat (first | (with_reducible first | exact HB.out | apply below_alloc | apply pw_below_drewN | apply below_drew1) | exact HB.out)) hb); have n1_ := Aside0.mk (hbox); have n2_ := Aside0.mk ((by rw [hg]; exact (below_size (by repeat (first | (with_reducible first | exact HB.out | apply below_alloc | apply pw_below_drewN | apply below_drew1) | exact HB.out))) : w.heap.size ≤ gb178)); have n3_ := Aside0.mk ((by rw [hg]; exact (below_size (by repeat (first | (with_reducible first | exact HB.out | apply below_alloc | apply pw_below_drewN | apply below_drew1) | exact HB.out))) : w.heap.size ≤ gb178)); clear HB; have HB := n0_; have BK178 := n1_; have GW178 := n2_; have GE178 := n3_; clear n0_ n1_ n2_ n3_; clear hb hbox hg; have hcz6_0 : w5.cell? ⟨gb178, 0, none⟩ = some (.int .i64 a0_0) := (blk_cell BK178.out 0).trans rfl; have hcz6_1 : w5.cell? ⟨gb178, 1, none⟩ = some (.int .i64 a0_1) := (blk_cell BK178.out 1).trans rfl; have hcz6_2 : w5.cell? ⟨gb178, 2, none⟩ = some (.int .i64 a0_2) := (blk_cell BK178.out 2).trans rfl; have hcz6_3 : w5.cell? ⟨gb178, 3, none⟩ = some (.int .i64 a0_3) := (blk_cell BK178.out 3).trans rfl; have hcz6_4 : w5.cell? ⟨gb178, 4, none⟩ = some (.int .i64 a0_4) := (blk_cell BK178.out 4).trans rfl; have hfz6_0 := blk_frozen BK178.out 0; have hfz6_1 := blk_frozen BK178.out 1; have hfz6_2 := blk_frozen BK178.out 2; have hfz6_3 := blk_frozen BK178.out 3; have hfz6_4 := blk_frozen BK178.out 4) | (go_at_call 50; (with_reducible refine (impl_fits.calls a0_0 a0_1 a0_2 a0_3 a0_4 _ _ l1 true _ ?side1 ?side2 A3.out).mono ?_); (case side1 => repeat (first | exact (Kd.C_below HR1.out HB.out) | (with_reducible refine Kd.C_alloc ?_ _) | (with_reducible refine Kd.C_drewN ?_ _) | (with_reducible refine Kd.C_drew ?_))); (case side2 => exact HC1.out); rintro e w7 ⟨rfl, hb⟩; have n0_ := Aside0.mk (blk_below (g := gb178) (o := .cells #[.int .i64 a0_0, .int .i64 a0_1, .int .i64 a0_2, .int .i64 a0_3, .int .i64 a0_4] 43 (0, 0)) (by (with_reducible repeat (first | refine blk_drewN ?_ _ | refine blk_drew ?_ | refine blk_alloc ?_ _)); exact BK178.out) hb); have n1_ := Aside0.mk (below_step (by repeat (first | (with_reducible first | exact HB.out | apply below_alloc | apply pw_below_drewN | apply below_drew1 | refine below_set ?_ GE178.out) | exact HB.out)) hb); clear BK178; clear HB; have BK178 := n0_; have HB := n1_; clear n0_ n1_; (try clear hb); (try clear hb2); (try clear hk); (try clear hi)) | ((with_reducible refine gate_dst (N := 17) rfl ?_); refine Kd.R_lit k84 _ 84 ?hg (N := 17) ?hd (xs := ([] : List (S84))) (inner := []) (ok := fun _ => True) (okp := fun _ => True) ?hr ?hp (fun _ hk => hk) trivial (Below.refl _ _) (Nat.le_refl _) (by simp) ?_; (case hd => rfl); (case hg => rfl); (case hr => first | (go_simp; done) | (go_simp; rfl)); (case hp => exact (Reps.none _ _)); intro v181 w8 ho9 hb hg_ hnew_; clear hg_ hnew_; (first | rw [← Ny180.out] at ho9 | (simp only [Int.reduceToNat] at ho9; rw [← Ny180.out] at ho9)); have n0_ := Aside0.mk (Kd.R_lower ho9 (below_size (by repeat (first | (with_reducible first | exact HB.out | apply below_alloc | apply pw_below_drewN | apply below_drew1 | refine below_set ?_ GE178.out) | exact HB.out)))); have n1_ := Aside0.mk (blk_below (g := gb178) (o := .cells #[.int .i64 a0_0, .int .i64 a0_1, .int .i64 a0_2, .int .i64 a0_3, .int .i64 a0_4] 43 (0, 0)) (by (with_reducible repeat (first | refine blk_drewN ?_ _ | refine blk_drew ?_ | refine blk_alloc ?_ _)); exact BK178.out) hb); have n2_ := Aside0.mk (below_step (by repeat (first | (with_reducible first | exact HB.out | apply below_alloc | apply pw_below_drewN | apply below_drew1 | refine below_set ?_ GE178.out) | exact HB.out)) hb); clear BK178; clear HB; have HO182 := n0_; have BK178 := n1_; have HB := n2_; clear n0_ n1_ n2_; clear hb ho9)); try go_wp2_with (first | ((with_reducible refine gate_dst (N := 2) rfl ?_); refine box_event ?hg (N := 2) ?hd (cs := #[.int .i64 a0_0, .int .i64 a0_1, .int .i64 a0_2, .int .i64 a0_3, .int .i64 a0_4]) (t := 43) ?hr ?_; (case hd => rfl); (case hg => rfl); (case hr => first | (go_simp; done) | (go_simp; rfl)); intro gb178 hg w5 hbox hb; have n0_ := Aside0.mk (below_step (by repeat (first | (with_reducible first | exact HB.out | apply below_alloc | apply pw_below_drewN | apply below_drew1) | exact HB.out)) hb); have n1_ := Aside0.mk (hbox); have n2_ := Aside0.mk ((by rw [hg]; exact (below_size (by repeat (first | (with_reducible first | exact HB.out | apply below_alloc | apply pw_below_drewN | apply below_drew1) | exact HB.out))) : w.heap.size ≤ gb178)); have n3_ := Aside0.mk ((by rw [hg]; exact (below_size (by repeat (first | (with_reducible first | exact HB.out | apply below_alloc | apply pw_below_drewN | apply below_drew1) | exact HB.out))) : w.heap.size ≤ gb178)); clear HB; have HB := n0_; have BK178 := n1_; have GW178 := n2_; have GE178 := n3_; clear n0_ n1_ n2_ n3_; clear hb hbox hg; have hcz6_0 : w5.cell? ⟨gb178, 0, none⟩ = some (.int .i64 a0_0) := (blk_cell BK178.out 0).trans rfl; have hcz6_1 : w5.cell? ⟨gb178, 1, none⟩ = some (.int .i64 a0_1) := (blk_cell BK178.out 1).trans rfl; have hcz6_2 : w5.cell? ⟨gb178, 2, none⟩ = some (.int .i64 a0_2) := (blk_cell BK178.out 2).trans rfl; have hcz6_3 : w5.cell? ⟨gb178, 3, none⟩ = some (.int .i64 a0_3) := (blk_cell BK178.out 3).trans rfl; have hcz6_4 : w5.cell? ⟨gb178, 4, none⟩ = some (.int .i64 a0_4) := (blk_cell BK178.out 4).trans rfl; have hfz6_0 := blk_frozen BK178.out 0; have hfz6_1 := blk_frozen BK178.out 1; have hfz6_2 := blk_frozen BK178.out 2; have hfz6_3 := blk_frozen BK178.out 3; have hfz6_4 := blk_frozen BK178.out 4) | (go_at_call 50; (with_reducible refine (impl_fits.calls a0_0 a0_1 a0_2 a0_3 a0_4 _ _ l1 true _ ?side1 ?side2 A3.out).mono ?_); (case side1 => repeat (first | exact (Kd.C_below HR1.out HB.out) | (with_reducible refine Kd.C_alloc ?_ _) | (with_reducible refine Kd.C_drewN ?_ _) | (with_reducible refine Kd.C_drew ?_))); (case side2 => exact HC1.out); rintro e w7 ⟨rfl, hb⟩; have n0_ := Aside0.mk (blk_below (g := gb178) (o := .cells #[.int .i64 a0_0, .int .i64 a0_1, .int .i64 a0_2, .int .i64 a0_3, .int .i64 a0_4] 43 (0, 0)) (by (with_reducible repeat (first | refine blk_drewN ?_ _ | refine blk_drew ?_ | refine blk_alloc ?_ _)); exact BK178.out) hb); have n1_ := Aside0.mk (below_step (by repeat (first | (with_reducible first | exact HB.out | apply below_alloc | apply pw_below_drewN | apply below_drew1 | refine below_set ?_ GE178.out) | exact HB.out)) hb); clear BK178; clear HB; have BK178 := n0_; have HB := n1_; clear n0_ n1_; (try clear hb); (try clear hb2); (try clear hk); (try clear hi)) | ((with_reducible refine gate_dst (N := 17) rfl ?_); refine Kd.R_lit k84 _ 84 ?hg (N := 17) ?hd (xs := ([] : List (S84))) (inner := []) (ok := fun _ => True) (okp := fun _ => True) ?hr ?hp (fun _ hk => hk) trivial (Below.refl _ _) (Nat.le_refl _) (by simp) ?_; (case hd => rfl); (case hg => rfl); (case hr => first | (go_simp; done) | (go_simp; rfl)); (case hp => exact (Reps.none _ _)); intro v181 w8 ho9 hb hg_ hnew_; clear hg_ hnew_; (first | rw [← Ny180.out] at ho9 | (simp only [Int.reduceToNat] at ho9; rw [← Ny180.out] at ho9)); have n0_ := Aside0.mk (Kd.R_lower ho9 (below_size (by repeat (first | (with_reducible first | exact HB.out | apply below_alloc | apply pw_below_drewN | apply below_drew1 | refine below_set ?_ GE178.out) | exact HB.out)))); have n1_ := Aside0.mk (blk_below (g := gb178) (o := .cells #[.int .i64 a0_0, .int .i64 a0_1, .int .i64 a0_2, .int .i64 a0_3, .int .i64 a0_4] 43 (0, 0)) (by (with_reducible repeat (first | refine blk_drewN ?_ _ | refine blk_drew ?_ | refine blk_alloc ?_ _)); exact BK178.out) hb); have n2_ := Aside0.mk (below_step (by repeat (first | (with_reducible first | exact HB.out | apply below_alloc | apply pw_below_drewN | apply below_drew1 | refine below_set ?_ GE178.out) | exact HB.out)) hb); clear BK178; clear HB; have HO182 := n0_; have BK178 := n1_; have HB := n2_; clear n0_ n1_ n2_; clear hb ho9)))
  go_loopg [5, 6] k (fun kq v5 v6 w' => ∃ (x5_1 : List (S84)) (x6_1 : Int), v6 = .int .i64 x6_1 ∧ Aside0 (impl_Grads.l0 kq l1 x5_1 x6_1 a0_0 a0_1 a0_2 a0_3 a0_4 = some r) ∧ Aside0 (kq ≤ k) ∧ Aside0 (Kd.R k84 84 w' w.heap.size (fun _ => True) v5 x5_1) ∧ Aside0 (w'.heap[gb178]? = some (.cells #[.int .i64 a0_0, .int .i64 a0_1, .int .i64 a0_2, .int .i64 a0_3, .int .i64 a0_4] 43 (0, 0))) ∧ Aside0 (Below w.heap.size w w'))
  case atStart => exact ⟨(y180), (0), (by first | rfl | (simp; done) | (simp [*]; done)), H', ⟨Nat.le_refl _⟩, ⟨by (with_reducible repeat (first | apply Kd.R_alloc | apply Kd.R_drewN | apply Kd.R_drew)); exact HO182.out⟩, ⟨by (with_reducible repeat (first | refine blk_drewN ?_ _ | refine blk_drew ?_ | refine blk_alloc ?_ _)); exact BK178.out⟩, ⟨by repeat (first | (with_reducible first | exact HB.out | apply below_alloc | apply pw_below_drewN | apply below_drew1 | refine below_set ?_ GE178.out) | exact HB.out)⟩⟩
  case round =>
   clear H'
   try clear c1
   try clear p2
   try clear c3
   try clear c4
   try clear hcz6_0
   try clear hcz6_1
   try clear hcz6_2
   try clear hcz6_3
   try clear hcz6_4
   try clear hfz6_0
   try clear hfz6_1
   try clear hfz6_2
   try clear hfz6_3
   try clear hfz6_4
   obtain ⟨x5_1, x6_1, rfl, HA, HK1, HO_5, BK178, HB⟩ := hrel
   cases gk with
   | zero => exact absurd HA.out (by simp [impl_Grads.l0])
   | succ k1 =>
    have H := HA.out
    clear HA
    simp only [impl_Grads.l0] at H
    by_cases c10 : x6_1 < a0_0
    ·rw [if_pos c10] at H
     have c10b0 : decide (x6_1 < a0_0) = true := decide_eq_true c10
     clear c10
     have H' := Aside0.mk H
     clear H
     have hcz11_0 : wr.cell? ⟨gb178, 0, none⟩ = some (.int .i64 a0_0) := (blk_cell BK178.out 0).trans rfl
     have hcz11_1 : wr.cell? ⟨gb178, 1, none⟩ = some (.int .i64 a0_1) := (blk_cell BK178.out 1).trans rfl
     have hcz11_2 : wr.cell? ⟨gb178, 2, none⟩ = some (.int .i64 a0_2) := (blk_cell BK178.out 2).trans rfl
     have hcz11_3 : wr.cell? ⟨gb178, 3, none⟩ = some (.int .i64 a0_3) := (blk_cell BK178.out 3).trans rfl
     have hcz11_4 : wr.cell? ⟨gb178, 4, none⟩ = some (.int .i64 a0_4) := (blk_cell BK178.out 4).trans rfl
     have hfz11_0 := blk_frozen BK178.out 0
     have hfz11_1 := blk_frozen BK178.out 1
     have hfz11_2 := blk_frozen BK178.out 2
     have hfz11_3 := blk_frozen BK178.out 3
     have hfz11_4 := blk_frozen BK178.out 4
     go_wp2
     repeat (go_quiet (fail); try go_wp2)
     go_loopg [5, 7] k1 (fun kq v5 v7 w' => ∃ (x5_2 : List (S84)) (x7_2 : Int), v7 = .int .i64 x7_2 ∧ Aside0 (impl_Grads.l1 kq l1 x5_2 x6_1 x7_2 a0_0 a0_1 a0_2 a0_3 a0_4 = some r) ∧ Aside0 (kq ≤ k1) ∧ Aside0 (Kd.R k84 84 w' w.heap.size (fun _ => True) v5 x5_2) ∧ Aside0 (w'.heap[gb178]? = some (.cells #[.int .i64 a0_0, .int .i64 a0_1, .int .i64 a0_2, .int .i64 a0_3, .int .i64 a0_4] 43 (0, 0))) ∧ Aside0 (Below w.heap.size w w'))
     case atStart => exact ⟨(x5_1), (0), (by first | rfl | (simp; done) | (simp [*]; done)), H', ⟨Nat.le_refl _⟩, ⟨by (with_reducible repeat (first | apply Kd.R_alloc | apply Kd.R_drewN | apply Kd.R_drew)); exact HO_5.out⟩, ⟨by (with_reducible repeat (first | refine blk_drewN ?_ _ | refine blk_drew ?_ | refine blk_alloc ?_ _)); exact BK178.out⟩, ⟨by repeat (first | (with_reducible first | exact HB.out | apply below_alloc | apply pw_below_drewN | apply below_drew1 | refine below_set ?_ GE178.out) | exact HB.out)⟩⟩
     case round =>
      clear H'
      try clear c1
      try clear p2
      try clear c3
      try clear c4
      try clear c10
      try clear c10b0
      try clear hcz11_0
      try clear hcz11_1
      try clear hcz11_2
      try clear hcz11_3
      try clear hcz11_4
      try clear hcz6_0
      try clear hcz6_1
      try clear hcz6_2
      try clear hcz6_3
      try clear hcz6_4
      try clear hfz11_0
      try clear hfz11_1
      try clear hfz11_2
      try clear hfz11_3
      try clear hfz11_4
      try clear hfz6_0
      try clear hfz6_1
      try clear hfz6_2
      try clear hfz6_3
      try clear hfz6_4
      try clear p2
      obtain ⟨x5_2, x7_2, rfl, HA, HK2, HO_5, BK178, HB⟩ := hrel
      cases gk with
      | zero => exact absurd HA.out (by simp [impl_Grads.l1])
      | succ k2 =>
       have H := HA.out
       clear HA
       simp only [impl_Grads.l1] at H
       by_cases c12 : x7_2 < a0_1
       ·rw [if_pos c12] at H
        have c12b0 : decide (x7_2 < a0_1) = true := decide_eq_true c12
        clear c12
        have HC13 := Aside0.mk H
        clear H
        have hcz14_0 : wr.cell? ⟨gb178, 0, none⟩ = some (.int .i64 a0_0) := (blk_cell BK178.out 0).trans rfl
        have hcz14_1 : wr.cell? ⟨gb178, 1, none⟩ = some (.int .i64 a0_1) := (blk_cell BK178.out 1).trans rfl
        have hcz14_2 : wr.cell? ⟨gb178, 2, none⟩ = some (.int .i64 a0_2) := (blk_cell BK178.out 2).trans rfl
        have hcz14_3 : wr.cell? ⟨gb178, 3, none⟩ = some (.int .i64 a0_3) := (blk_cell BK178.out 3).trans rfl
        have hcz14_4 : wr.cell? ⟨gb178, 4, none⟩ = some (.int .i64 a0_4) := (blk_cell BK178.out 4).trans rfl
        have hfz14_0 := blk_frozen BK178.out 0
        have hfz14_1 := blk_frozen BK178.out 1
        have hfz14_2 := blk_frozen BK178.out 2
        have hfz14_3 := blk_frozen BK178.out 3
        have hfz14_4 := blk_frozen BK178.out 4
        go_upto_region 10 with (fail)
        repeat (go_quiet (fail); go_upto_region 10 with (fail))
        go_cut [49] (fun v49 wc => ∃ (kq : Nat) (x49_12 : Bool), v49 = .bool x49_12 ∧ Aside0 (impl_Grads.j2 kq l1 x5_2 x6_1 x7_2 x49_12 a0_0 a0_1 a0_2 a0_3 a0_4 = some r) ∧ Aside0 (kq ≤ k2) ∧ Aside0 (Kd.R k84 84 wc w.heap.size (fun _ => True) u5 x5_2) ∧ Aside0 (wc.heap[gb178]? = some (.cells #[.int .i64 a0_0, .int .i64 a0_1, .int .i64 a0_2, .int .i64 a0_3, .int .i64 a0_4] 43 (0, 0))) ∧ Aside0 (Below w.heap.size w wc))
        case first =>
         have H := HC13.out
         clear HC13
         by_cases c15 : x6_1 = 0
         ·rw [if_pos c15] at H
          have c15b0 : (x6_1 == 0) = true := beq_iff_eq.mpr c15
          have c15b1 : (x6_1 != 0) = false := bne_eq_false_iff_eq.mpr c15
          clear c15
          (first | rw [c15b0] | (simp only [i64_w, i32_w]; rw [c15b0]) | skip)
          have H' := Aside0.mk H
          clear H
          go_wp2
          repeat (go_quiet (fail); try go_wp2)
          go_meet
          case rel => exact ⟨_, (true), (by first | rfl | (simp; done) | (simp [*]; done)), H', ⟨by have := HK1.out; have := HK2.out; first | omega | exact Nat.le_refl _⟩, ⟨by (with_reducible repeat (first | apply Kd.R_alloc | apply Kd.R_drewN | apply Kd.R_drew)); exact HO_5.out⟩, ⟨by (with_reducible repeat (first | refine blk_drewN ?_ _ | refine blk_drew ?_ | refine blk_alloc ?_ _)); exact BK178.out⟩, ⟨by repeat (first | (with_reducible first | exact HB.out | apply below_alloc | apply pw_below_drewN | apply below_drew1 | refine below_set ?_ GE178.out) | exact HB.out)⟩⟩
         ·rw [if_neg c15] at H
          have c15b0 : (x6_1 == 0) = false := beq_eq_false_iff_ne.mpr c15
          have c15b1 : (x6_1 != 0) = true := bne_iff_ne.mpr c15
          (first | rw [c15b0] | (simp only [i64_w, i32_w]; rw [c15b0]) | skip)
          by_cases c16 : x7_2 = 0
          ·rw [if_pos c16] at H
           have c16b0 : (x7_2 == 0) = true := beq_iff_eq.mpr c16
           have c16b1 : (x7_2 != 0) = false := bne_eq_false_iff_eq.mpr c16
           clear c16
           have H' := Aside0.mk H
           clear H
           go_wp2
           repeat (go_quiet (fail); try go_wp2)
           go_meet
           case rel => exact ⟨_, (true), (by first | rfl | (simp; done) | (simp [*]; done)), H', ⟨by have := HK1.out; have := HK2.out; first | omega | exact Nat.le_refl _⟩, ⟨by (with_reducible repeat (first | apply Kd.R_alloc | apply Kd.R_drewN | apply Kd.R_drew)); exact HO_5.out⟩, ⟨by (with_reducible repeat (first | refine blk_drewN ?_ _ | refine blk_drew ?_ | refine blk_alloc ?_ _)); exact BK178.out⟩, ⟨by repeat (first | (with_reducible first | exact HB.out | apply below_alloc | apply pw_below_drewN | apply below_drew1 | refine below_set ?_ GE178.out) | exact HB.out)⟩⟩
          ·rw [if_neg c16] at H
           have c16b0 : (x7_2 == 0) = false := beq_eq_false_iff_ne.mpr c16
           have c16b1 : (x7_2 != 0) = true := bne_iff_ne.mpr c16
           by_cases c17 : x6_1 = (wrap64 (a0_0 - 1))
           ·rw [if_pos c17] at H
            have c17b0 : (x6_1 == (wrap64 (a0_0 - 1))) = true := beq_iff_eq.mpr c17
            have c17b1 : (x6_1 != (wrap64 (a0_0 - 1))) = false := bne_eq_false_iff_eq.mpr c17
            clear c17
            have H' := Aside0.mk H
            clear H
            have hcz18_0 : wr.cell? ⟨gb178, 0, none⟩ = some (.int .i64 a0_0) := (blk_cell BK178.out 0).trans rfl
            have hcz18_1 : wr.cell? ⟨gb178, 1, none⟩ = some (.int .i64 a0_1) := (blk_cell BK178.out 1).trans rfl
            have hcz18_2 : wr.cell? ⟨gb178, 2, none⟩ = some (.int .i64 a0_2) := (blk_cell BK178.out 2).trans rfl
            have hcz18_3 : wr.cell? ⟨gb178, 3, none⟩ = some (.int .i64 a0_3) := (blk_cell BK178.out 3).trans rfl
            have hcz18_4 : wr.cell? ⟨gb178, 4, none⟩ = some (.int .i64 a0_4) := (blk_cell BK178.out 4).trans rfl
            have hfz18_0 := blk_frozen BK178.out 0
            have hfz18_1 := blk_frozen BK178.out 1
            have hfz18_2 := blk_frozen BK178.out 2
            have hfz18_3 := blk_frozen BK178.out 3
            have hfz18_4 := blk_frozen BK178.out 4
            go_wp2
            repeat (go_quiet (fail); try go_wp2)
            go_meet
            case rel => exact ⟨_, (true), (by first | rfl | (simp; done) | (simp [*]; done)), H', ⟨by have := HK1.out; have := HK2.out; first | omega | exact Nat.le_refl _⟩, ⟨by (with_reducible repeat (first | apply Kd.R_alloc | apply Kd.R_drewN | apply Kd.R_drew)); exact HO_5.out⟩, ⟨by (with_reducible repeat (first | refine blk_drewN ?_ _ | refine blk_drew ?_ | refine blk_alloc ?_ _)); exact BK178.out⟩, ⟨by repeat (first | (with_reducible first | exact HB.out | apply below_alloc | apply pw_below_drewN | apply below_drew1 | refine below_set ?_ GE178.out) | exact HB.out)⟩⟩
           ·rw [if_neg c17] at H
            have c17b0 : (x6_1 == (wrap64 (a0_0 - 1))) = false := beq_eq_false_iff_ne.mpr c17
            have c17b1 : (x6_1 != (wrap64 (a0_0 - 1))) = true := bne_iff_ne.mpr c17
            have H' := Aside0.mk H
            clear H
            have hcz19_0 : wr.cell? ⟨gb178, 0, none⟩ = some (.int .i64 a0_0) := (blk_cell BK178.out 0).trans rfl
            have hcz19_1 : wr.cell? ⟨gb178, 1, none⟩ = some (.int .i64 a0_1) := (blk_cell BK178.out 1).trans rfl
            have hcz19_2 : wr.cell? ⟨gb178, 2, none⟩ = some (.int .i64 a0_2) := (blk_cell BK178.out 2).trans rfl
            have hcz19_3 : wr.cell? ⟨gb178, 3, none⟩ = some (.int .i64 a0_3) := (blk_cell BK178.out 3).trans rfl
            have hcz19_4 : wr.cell? ⟨gb178, 4, none⟩ = some (.int .i64 a0_4) := (blk_cell BK178.out 4).trans rfl
            have hfz19_0 := blk_frozen BK178.out 0
            have hfz19_1 := blk_frozen BK178.out 1
            have hfz19_2 := blk_frozen BK178.out 2
            have hfz19_3 := blk_frozen BK178.out 3
            have hfz19_4 := blk_frozen BK178.out 4
            go_wp2
            repeat (go_quiet (fail); try go_wp2)
            go_meet
            case rel => exact ⟨_, ((x7_2 == (wrap64 (a0_1 - 1)))), (by first | rfl | (simp; done) | (simp [*]; done)), H', ⟨by have := HK1.out; have := HK2.out; first | omega | exact Nat.le_refl _⟩, ⟨by (with_reducible repeat (first | apply Kd.R_alloc | apply Kd.R_drewN | apply Kd.R_drew)); exact HO_5.out⟩, ⟨by (with_reducible repeat (first | refine blk_drewN ?_ _ | refine blk_drew ?_ | refine blk_alloc ?_ _)); exact BK178.out⟩, ⟨by repeat (first | (with_reducible first | exact HB.out | apply below_alloc | apply pw_below_drewN | apply below_drew1 | refine below_set ?_ GE178.out) | exact HB.out)⟩⟩
        case rest =>
         clear HC13
         try clear c1
         try clear p2
         try clear c3
         try clear c4
         try clear p6
         try clear c10
         try clear c10b0
         try clear c12
         try clear c12b0
         try clear c15
         try clear c15b0
         try clear c15b1
         try clear c16
         try clear c16b0
         try clear c16b1
         try clear c17
         try clear c17b0
         try clear c17b1
         try clear hcz11_0
         try clear hcz11_1
         try clear hcz11_2
         try clear hcz11_3
         try clear hcz11_4
         try clear hcz14_0
         try clear hcz14_1
         try clear hcz14_2
         try clear hcz14_3
         try clear hcz14_4
         try clear hcz18_0
         try clear hcz18_1
         try clear hcz18_2
         try clear hcz18_3
         try clear hcz18_4
         try clear hcz19_0
         try clear hcz19_1
         try clear hcz19_2
         try clear hcz19_3
         try clear hcz19_4
         try clear hcz6_0
         try clear hcz6_1
         try clear hcz6_2
         try clear hcz6_3
         try clear hcz6_4
         try clear hfz11_0
         try clear hfz11_1
         try clear hfz11_2
         try clear hfz11_3
         try clear hfz11_4
         try clear hfz14_0
         try clear hfz14_1
         try clear hfz14_2
         try clear hfz14_3
         try clear hfz14_4
         try clear hfz18_0
         try clear hfz18_1
         try clear hfz18_2
         try clear hfz18_3
         try clear hfz18_4
         try clear hfz19_0
         try clear hfz19_1
         try clear hfz19_2
         try clear hfz19_3
         try clear hfz19_4
         try clear hfz6_0
         try clear hfz6_1
         try clear hfz6_2
         try clear hfz6_3
         try clear hfz6_4
         try clear p2
         obtain ⟨kq, x49_12, rfl, HA, HJ12, HO_5, BK178, HB⟩ := hcut
         cases kq with
         | zero => exact absurd HA.out (by simp [impl_Grads.j2])
         | succ kj12 =>
          have H := HA.out
          clear HA
          simp only [impl_Grads.j2] at H
          by_cases c20 : x49_12 = true
          ·subst c20
           have H1 : ((impl_nan.f).bind fun t183 => ((impl_nan.f).bind fun t185 => (if x5_2.length < 8796093022208 then (impl_Grads.l1 kj12 l1 (x5_2 ++ [(⟨t183, t185⟩ : S84)]) x6_1 (wrap64 (x7_2 + 1)) a0_0 a0_1 a0_2 a0_3 a0_4) else (none)))) = some r := by rw [if_pos rfl] at H; exact H
           clear H
           have H := H1
           clear H1
           replace H := Option.bind_eq_some_iff.mp H
           obtain ⟨t183, A210, H⟩ := H
           replace H : ((impl_nan.f).bind fun t185 => (if x5_2.length < 8796093022208 then (impl_Grads.l1 kj12 l1 (x5_2 ++ [(⟨t183, t185⟩ : S84)]) x6_1 (wrap64 (x7_2 + 1)) a0_0 a0_1 a0_2 a0_3 a0_4) else (none))) = some r := H
           have A21 := Aside0.mk A210
           clear A210
           replace H := Option.bind_eq_some_iff.mp H
           obtain ⟨t185, A220, H⟩ := H
           replace H : (if x5_2.length < 8796093022208 then (impl_Grads.l1 kj12 l1 (x5_2 ++ [(⟨t183, t185⟩ : S84)]) x6_1 (wrap64 (x7_2 + 1)) a0_0 a0_1 a0_2 a0_3 a0_4) else (none)) = some r := H
           have A22 := Aside0.mk A220
           clear A220
           by_cases c23 : x5_2.length < 8796093022208
           ·rw [if_pos c23] at H
            have LMc23 := Aside0.mk c23
            clear c23
            obtain ⟨y187, hy187⟩ : ∃ y_ : List (S84), y_ = (x5_2 ++ [(⟨t183, t185⟩ : S84)]) := ⟨_, rfl⟩
            replace H : (impl_Grads.l1 kj12 l1 y187 x6_1 (wrap64 (x7_2 + 1)) a0_0 a0_1 a0_2 a0_3 a0_4) = some r := by first | (rw [hy187]; with_reducible exact H) | (have H2_ := (Option.bind_some _ _).symm.trans H; rw [hy187]; with_reducible exact H2_) | (have H2_ := (Option.bind_some _ _).symm.trans H; with_reducible exact H2_) | with_reducible exact H | (rw [hy187]; exact H) | exact H
            have Ny187 := Aside0.mk hy187
            clear hy187
            have H' := Aside0.mk H
            clear H
            go_wp2_with (first | ((fail_if_success (have zz_ := pr184)); go_at_call 44; (with_reducible refine (impl_nan.calls  t183 _ A21.out).mono ?_); rintro e w' ⟨pr184, rfl, ⟨nd, rfl⟩⟩; (try first | exact ⟨rfl, _, World.drewN_drewN _ _ _⟩ | exact ⟨rfl, _, Eq.trans (World.drewN_drewN _ _ _) (congrArg (World.drewN _) (Nat.add_assoc _ _ _))⟩)) | ((fail_if_success (have zz_ := pr186)); go_at_call 44; (with_reducible refine (impl_nan.calls  t185 _ A22.out).mono ?_); rintro e w' ⟨pr186, rfl, ⟨nd, rfl⟩⟩; (try first | exact ⟨rfl, _, World.drewN_drewN _ _ _⟩ | exact ⟨rfl, _, Eq.trans (World.drewN_drewN _ _ _) (congrArg (World.drewN _) (Nat.add_assoc _ _ _))⟩)) | ((with_reducible refine gate_builtin (b := .append) (xs := #[.tmp 50, .tmp 54]) rfl ?_); at_builtin; refine Kd.R_append k84 (w0 := w) w.heap.size rfl (.tmp 50) (.tmp 54) 54 84 (.agg #[(.float .f64 0), (.float .f64 0)]) 16 rfl Try.underlying54 info84 rfl (by decide) (by omega) u5 x5_2 (⟨t183, t185⟩ : S84) [.float .f64 (un pr184 t183), .float .f64 (un pr186 t185)] (fun _ => True) (fun _ => False) rfl rfl ?aP (fun _ hk => hk.elim) ?aF ?aO ?aB ?aS ?aL ?_; (case aP => exact k84_mkM _ _ _ (⟨t183, t185⟩ : S84)); (case aB => exact (by repeat (first | (with_reducible first | exact HB.out | apply below_alloc | apply pw_below_drewN | apply below_drew1 | refine below_set ?_ GE178.out) | exact HB.out))); (case aF => exact (fun _ _ => trivial)); (case aO => exact (by (with_reducible repeat (first | apply Kd.R_alloc | apply Kd.R_drewN | apply Kd.R_drew)); exact HO_5.out)); (case aS => exact (below_size (by repeat (first | (with_reducible first | exact HB.out | apply below_alloc | apply pw_below_drewN | apply below_drew1 | refine below_set ?_ GE178.out) | exact HB.out)))); (case aL => have := LMc23.out; omega); intro v188 w24 ho hb hg hat; rw [← Ny187.out] at ho; have n0_ := Aside0.mk (blk_grown (g := gb178) (o := .cells #[.int .i64 a0_0, .int .i64 a0_1, .int .i64 a0_2, .int .i64 a0_3, .int .i64 a0_4] 43 (0, 0)) (by (with_reducible repeat (first | refine blk_drewN ?_ _ | refine blk_drew ?_ | refine blk_alloc ?_ _)); exact BK178.out) hg (Kd.R_ne HO_5.out BK178.out (by decide))); have n1_ := Aside0.mk (hb); have n2_ := Aside0.mk (ho); clear BK178; clear HB; clear HO_5; have BK178 := n0_; have HB := n1_; have HO189 := n2_; clear n0_ n1_ n2_; clear ho hb hg hat))
            repeat (go_quiet (first | ((fail_if_success (have zz_ := pr184)); go_at_call 44; (with_reducible refine (impl_nan.calls  t183 _ A21.out).mono ?_); rintro e w' ⟨pr184, rfl, ⟨nd, rfl⟩⟩; (try first | exact ⟨rfl, _, World.drewN_drewN _ _ _⟩ | exact ⟨rfl, _, Eq.trans (World.drewN_drewN _ _ _) (congrArg (World.drewN _) (Nat.add_assoc _ _ _))⟩)) | ((fail_if_success (have zz_ := pr186)); go_at_call 44; (with_reducible refine (impl_nan.calls  t185 _ A22.out).mono ?_); rintro e w' ⟨pr186, rfl, ⟨nd, rfl⟩⟩; (try first | exact ⟨rfl, _, World.drewN_drewN _ _ _⟩ | exact ⟨rfl, _, Eq.trans (World.drewN_drewN _ _ _) (congrArg (World.drewN _) (Nat.add_assoc _ _ _))⟩)) | ((with_reducible refine gate_builtin (b := .append) (xs := #[.tmp 50, .tmp 54]) rfl ?_); at_builtin; refine Kd.R_append k84 (w0 := w) w.heap.size rfl (.tmp 50) (.tmp 54) 54 84 (.agg #[(.float .f64 0), (.float .f64 0)]) 16 rfl Try.underlying54 info84 rfl (by decide) (by omega) u5 x5_2 (⟨t183, t185⟩ : S84) [.float .f64 (un pr184 t183), .float .f64 (un pr186 t185)] (fun _ => True) (fun _ => False) rfl rfl ?aP (fun _ hk => hk.elim) ?aF ?aO ?aB ?aS ?aL ?_; (case aP => exact k84_mkM _ _ _ (⟨t183, t185⟩ : S84)); (case aB => exact (by repeat (first | (with_reducible first | exact HB.out | apply below_alloc | apply pw_below_drewN | apply below_drew1 | refine below_set ?_ GE178.out) | exact HB.out))); (case aF => exact (fun _ _ => trivial)); (case aO => exact (by (with_reducible repeat (first | apply Kd.R_alloc | apply Kd.R_drewN | apply Kd.R_drew)); exact HO_5.out)); (case aS => exact (below_size (by repeat (first | (with_reducible first | exact HB.out | apply below_alloc | apply pw_below_drewN | apply below_drew1 | refine below_set ?_ GE178.out) | exact HB.out)))); (case aL => have := LMc23.out; omega); intro v188 w24 ho hb hg hat; rw [← Ny187.out] at ho; have n0_ := Aside0.mk (blk_grown (g := gb178) (o := .cells #[.int .i64 a0_0, .int .i64 a0_1, .int .i64 a0_2, .int .i64 a0_3, .int .i64 a0_4] 43 (0, 0)) (by (with_reducible repeat (first | refine blk_drewN ?_ _ | refine blk_drew ?_ | refine blk_alloc ?_ _)); exact BK178.out) hg (Kd.R_ne HO_5.out BK178.out (by decide))); have n1_ := Aside0.mk (hb); have n2_ := Aside0.mk (ho); clear BK178; clear HB; clear HO_5; have BK178 := n0_; have HB := n1_; have HO189 := n2_; clear n0_ n1_ n2_; clear ho hb hg hat)); try go_wp2_with (first | ((fail_if_success (have zz_ := pr184)); go_at_call 44; (with_reducible refine (impl_nan.calls  t183 _ A21.out).mono ?_); rintro e w' ⟨pr184, rfl, ⟨nd, rfl⟩⟩; (try first | exact ⟨rfl, _, World.drewN_drewN _ _ _⟩ | exact ⟨rfl, _, Eq.trans (World.drewN_drewN _ _ _) (congrArg (World.drewN _) (Nat.add_assoc _ _ _))⟩)) | ((fail_if_success (have zz_ := pr186)); go_at_call 44; (with_reducible refine (impl_nan.calls  t185 _ A22.out).mono ?_); rintro e w' ⟨pr186, rfl, ⟨nd, rfl⟩⟩; (try first | exact ⟨rfl, _, World.drewN_drewN _ _ _⟩ | exact ⟨rfl, _, Eq.trans (World.drewN_drewN _ _ _) (congrArg (World.drewN _) (Nat.add_assoc _ _ _))⟩)) | ((with_reducible refine gate_builtin (b := .append) (xs := #[.tmp 50, .tmp 54]) rfl ?_); at_builtin; refine Kd.R_append k84 (w0 := w) w.heap.size rfl (.tmp 50) (.tmp 54) 54 84 (.agg #[(.float .f64 0), (.float .f64 0)]) 16 rfl Try.underlying54 info84 rfl (by decide) (by omega) u5 x5_2 (⟨t183, t185⟩ : S84) [.float .f64 (un pr184 t183), .float .f64 (un pr186 t185)] (fun _ => True) (fun _ => False) rfl rfl ?aP (fun _ hk => hk.elim) ?aF ?aO ?aB ?aS ?aL ?_; (case aP => exact k84_mkM _ _ _ (⟨t183, t185⟩ : S84)); (case aB => exact (by repeat (first | (with_reducible first | exact HB.out | apply below_alloc | apply pw_below_drewN | apply below_drew1 | refine below_set ?_ GE178.out) | exact HB.out))); (case aF => exact (fun _ _ => trivial)); (case aO => exact (by (with_reducible repeat (first | apply Kd.R_alloc | apply Kd.R_drewN | apply Kd.R_drew)); exact HO_5.out)); (case aS => exact (below_size (by repeat (first | (with_reducible first | exact HB.out | apply below_alloc | apply pw_below_drewN | apply below_drew1 | refine below_set ?_ GE178.out) | exact HB.out)))); (case aL => have := LMc23.out; omega); intro v188 w24 ho hb hg hat; rw [← Ny187.out] at ho; have n0_ := Aside0.mk (blk_grown (g := gb178) (o := .cells #[.int .i64 a0_0, .int .i64 a0_1, .int .i64 a0_2, .int .i64 a0_3, .int .i64 a0_4] 43 (0, 0)) (by (with_reducible repeat (first | refine blk_drewN ?_ _ | refine blk_drew ?_ | refine blk_alloc ?_ _)); exact BK178.out) hg (Kd.R_ne HO_5.out BK178.out (by decide))); have n1_ := Aside0.mk (hb); have n2_ := Aside0.mk (ho); clear BK178; clear HB; clear HO_5; have BK178 := n0_; have HB := n1_; have HO189 := n2_; clear n0_ n1_ n2_; clear ho hb hg hat)))
            go_roundg kj12
            case measure => have := HK1.out; have := HK2.out; have := HJ12.out; omega
            case rel => exact ⟨(y187), (wrap64 (x7_2 + 1)), (by first | rfl | (simp; done) | (simp [*]; done)), H', ⟨by have := HK1.out; have := HK2.out; have := HJ12.out; omega⟩, ⟨by (with_reducible repeat (first | apply Kd.R_alloc | apply Kd.R_drewN | apply Kd.R_drew)); exact HO189.out⟩, ⟨by (with_reducible repeat (first | refine blk_drewN ?_ _ | refine blk_drew ?_ | refine blk_alloc ?_ _)); exact BK178.out⟩, ⟨by repeat (first | (with_reducible first | exact HB.out | apply below_alloc | apply pw_below_drewN | apply below_drew1 | refine below_set ?_ GE178.out) | exact HB.out)⟩⟩
           ·rw [if_neg c23] at H
            exact absurd H (by simp)
          ·replace c20 := Bool.eq_false_iff.mpr c20
           subst c20
           have H1 : (if 0 ≤ (wrap64 ((wrap64 ((wrap64 (x6_1 * a0_1)) + x7_2)) + 1)) then (if (wrap64 ((wrap64 ((wrap64 (x6_1 * a0_1)) + x7_2)) + 1)) < (l1.length : Int) then (if 0 ≤ (wrap64 ((wrap64 ((wrap64 (x6_1 * a0_1)) + x7_2)) - 1)) then (if (wrap64 ((wrap64 ((wrap64 (x6_1 * a0_1)) + x7_2)) - 1)) < (l1.length : Int) then (if 0 ≤ (wrap64 ((wrap64 ((wrap64 (x6_1 * a0_1)) + x7_2)) + a0_1)) then (if (wrap64 ((wrap64 ((wrap64 (x6_1 * a0_1)) + x7_2)) + a0_1)) < (l1.length : Int) then (if 0 ≤ (wrap64 ((wrap64 ((wrap64 (x6_1 * a0_1)) + x7_2)) - a0_1)) then (if (wrap64 ((wrap64 ((wrap64 (x6_1 * a0_1)) + x7_2)) - a0_1)) < (l1.length : Int) then ((impl_missing.f (rd_F l1 (wrap64 ((wrap64 ((wrap64 (x6_1 * a0_1)) + x7_2)) + 1)))).bind fun t194 => (if t194 = true then (impl_Grads.j3 kj12 l1 x5_2 x6_1 x7_2 (rd_F l1 (wrap64 ((wrap64 ((wrap64 (x6_1 * a0_1)) + x7_2)) + 1))) (rd_F l1 (wrap64 ((wrap64 ((wrap64 (x6_1 * a0_1)) + x7_2)) - 1))) (rd_F l1 (wrap64 ((wrap64 ((wrap64 (x6_1 * a0_1)) + x7_2)) + a0_1))) (rd_F l1 (wrap64 ((wrap64 ((wrap64 (x6_1 * a0_1)) + x7_2)) - a0_1))) true a0_0 a0_1 a0_2 a0_3 a0_4) else ((impl_missing.f (rd_F l1 (wrap64 ((wrap64 ((wrap64 (x6_1 * a0_1)) + x7_2)) - 1)))).bind fun t195 => (if t195 = true then (impl_Grads.j3 kj12 l1 x5_2 x6_1 x7_2 (rd_F l1 (wrap64 ((wrap64 ((wrap64 (x6_1 * a0_1)) + x7_2)) + 1))) (rd_F l1 (wrap64 ((wrap64 ((wrap64 (x6_1 * a0_1)) + x7_2)) - 1))) (rd_F l1 (wrap64 ((wrap64 ((wrap64 (x6_1 * a0_1)) + x7_2)) + a0_1))) (rd_F l1 (wrap64 ((wrap64 ((wrap64 (x6_1 * a0_1)) + x7_2)) - a0_1))) true a0_0 a0_1 a0_2 a0_3 a0_4) else ((impl_missing.f (rd_F l1 (wrap64 ((wrap64 ((wrap64 (x6_1 * a0_1)) + x7_2)) + a0_1)))).bind fun t196 => (if t196 = true then (impl_Grads.j3 kj12 l1 x5_2 x6_1 x7_2 (rd_F l1 (wrap64 ((wrap64 ((wrap64 (x6_1 * a0_1)) + x7_2)) + 1))) (rd_F l1 (wrap64 ((wrap64 ((wrap64 (x6_1 * a0_1)) + x7_2)) - 1))) (rd_F l1 (wrap64 ((wrap64 ((wrap64 (x6_1 * a0_1)) + x7_2)) + a0_1))) (rd_F l1 (wrap64 ((wrap64 ((wrap64 (x6_1 * a0_1)) + x7_2)) - a0_1))) true a0_0 a0_1 a0_2 a0_3 a0_4) else ((impl_missing.f (rd_F l1 (wrap64 ((wrap64 ((wrap64 (x6_1 * a0_1)) + x7_2)) - a0_1)))).bind fun t197 => (impl_Grads.j3 kj12 l1 x5_2 x6_1 x7_2 (rd_F l1 (wrap64 ((wrap64 ((wrap64 (x6_1 * a0_1)) + x7_2)) + 1))) (rd_F l1 (wrap64 ((wrap64 ((wrap64 (x6_1 * a0_1)) + x7_2)) - 1))) (rd_F l1 (wrap64 ((wrap64 ((wrap64 (x6_1 * a0_1)) + x7_2)) + a0_1))) (rd_F l1 (wrap64 ((wrap64 ((wrap64 (x6_1 * a0_1)) + x7_2)) - a0_1))) t197 a0_0 a0_1 a0_2 a0_3 a0_4)))))))) else (none)) else (none)) else (none)) else (none)) else (none)) else (none)) else (none)) else (none)) = some r := by rw [if_neg (show ¬ (false = true) by decide)] at H; exact H
           clear H
           have H := H1
           clear H1
           obtain ⟨ji25, hji25⟩ : ∃ j_ : Int, (wrap64 ((wrap64 ((wrap64 (x6_1 * a0_1)) + x7_2)) + 1)) = j_ := ⟨_, rfl⟩
           replace H : (if 0 ≤ (ji25) then (if (ji25) < (l1.length : Int) then (if 0 ≤ (wrap64 ((wrap64 ((wrap64 (x6_1 * a0_1)) + x7_2)) - 1)) then (if (wrap64 ((wrap64 ((wrap64 (x6_1 * a0_1)) + x7_2)) - 1)) < (l1.length : Int) then (if 0 ≤ (wrap64 ((wrap64 ((wrap64 (x6_1 * a0_1)) + x7_2)) + a0_1)) then (if (wrap64 ((wrap64 ((wrap64 (x6_1 * a0_1)) + x7_2)) + a0_1)) < (l1.length : Int) then (if 0 ≤ (wrap64 ((wrap64 ((wrap64 (x6_1 * a0_1)) + x7_2)) - a0_1)) then (if (wrap64 ((wrap64 ((wrap64 (x6_1 * a0_1)) + x7_2)) - a0_1)) < (l1.length : Int) then ((impl_missing.f (rd_F l1 (ji25))).bind fun t194 => (if t194 = true then (impl_Grads.j3 kj12 l1 x5_2 x6_1 x7_2 (rd_F l1 (ji25)) (rd_F l1 (wrap64 ((wrap64 ((wrap64 (x6_1 * a0_1)) + x7_2)) - 1))) (rd_F l1 (wrap64 ((wrap64 ((wrap64 (x6_1 * a0_1)) + x7_2)) + a0_1))) (rd_F l1 (wrap64 ((wrap64 ((wrap64 (x6_1 * a0_1)) + x7_2)) - a0_1))) true a0_0 a0_1 a0_2 a0_3 a0_4) else ((impl_missing.f (rd_F l1 (wrap64 ((wrap64 ((wrap64 (x6_1 * a0_1)) + x7_2)) - 1)))).bind fun t195 => (if t195 = true then (impl_Grads.j3 kj12 l1 x5_2 x6_1 x7_2 (rd_F l1 (ji25)) (rd_F l1 (wrap64 ((wrap64 ((wrap64 (x6_1 * a0_1)) + x7_2)) - 1))) (rd_F l1 (wrap64 ((wrap64 ((wrap64 (x6_1 * a0_1)) + x7_2)) + a0_1))) (rd_F l1 (wrap64 ((wrap64 ((wrap64 (x6_1 * a0_1)) + x7_2)) - a0_1))) true a0_0 a0_1 a0_2 a0_3 a0_4) else ((impl_missing.f (rd_F l1 (wrap64 ((wrap64 ((wrap64 (x6_1 * a0_1)) + x7_2)) + a0_1)))).bind fun t196 => (if t196 = true then (impl_Grads.j3 kj12 l1 x5_2 x6_1 x7_2 (rd_F l1 (ji25)) (rd_F l1 (wrap64 ((wrap64 ((wrap64 (x6_1 * a0_1)) + x7_2)) - 1))) (rd_F l1 (wrap64 ((wrap64 ((wrap64 (x6_1 * a0_1)) + x7_2)) + a0_1))) (rd_F l1 (wrap64 ((wrap64 ((wrap64 (x6_1 * a0_1)) + x7_2)) - a0_1))) true a0_0 a0_1 a0_2 a0_3 a0_4) else ((impl_missing.f (rd_F l1 (wrap64 ((wrap64 ((wrap64 (x6_1 * a0_1)) + x7_2)) - a0_1)))).bind fun t197 => (impl_Grads.j3 kj12 l1 x5_2 x6_1 x7_2 (rd_F l1 (ji25)) (rd_F l1 (wrap64 ((wrap64 ((wrap64 (x6_1 * a0_1)) + x7_2)) - 1))) (rd_F l1 (wrap64 ((wrap64 ((wrap64 (x6_1 * a0_1)) + x7_2)) + a0_1))) (rd_F l1 (wrap64 ((wrap64 ((wrap64 (x6_1 * a0_1)) + x7_2)) - a0_1))) t197 a0_0 a0_1 a0_2 a0_3 a0_4)))))))) else (none)) else (none)) else (none)) else (none)) else (none)) else (none)) else (none)) else (none)) = some r := by first | (rw [hji25] at H; exact H) | (simp only [hji25] at H ⊢; exact H)
           have hji25w : (IntKind.i64.wrap ((wrap64 ((wrap64 (x6_1 * a0_1)) + x7_2)) + 1)) = ji25 := (i64_w _).trans hji25
           by_cases c26 : 0 ≤ (ji25)
           ·rw [if_pos c26] at H
            have c26b0 : decide (0 ≤ (ji25)) = true := decide_eq_true c26
            clear c26
            by_cases c27 : (ji25) < (l1.length : Int)
            ·rw [if_pos c27] at H
             have c27b0 : decide ((ji25) < (l1.length : Int)) = true := decide_eq_true c27
             clear c27
             obtain ⟨ji28, hji28⟩ : ∃ j_ : Int, (wrap64 ((wrap64 ((wrap64 (x6_1 * a0_1)) + x7_2)) - 1)) = j_ := ⟨_, rfl⟩
             replace H : (if 0 ≤ (ji28) then (if (ji28) < (l1.length : Int) then (if 0 ≤ (wrap64 ((wrap64 ((wrap64 (x6_1 * a0_1)) + x7_2)) + a0_1)) then (if (wrap64 ((wrap64 ((wrap64 (x6_1 * a0_1)) + x7_2)) + a0_1)) < (l1.length : Int) then (if 0 ≤ (wrap64 ((wrap64 ((wrap64 (x6_1 * a0_1)) + x7_2)) - a0_1)) then (if (wrap64 ((wrap64 ((wrap64 (x6_1 * a0_1)) + x7_2)) - a0_1)) < (l1.length : Int) then ((impl_missing.f (rd_F l1 (ji25))).bind fun t194 => (if t194 = true then (impl_Grads.j3 kj12 l1 x5_2 x6_1 x7_2 (rd_F l1 (ji25)) (rd_F l1 (ji28)) (rd_F l1 (wrap64 ((wrap64 ((wrap64 (x6_1 * a0_1)) + x7_2)) + a0_1))) (rd_F l1 (wrap64 ((wrap64 ((wrap64 (x6_1 * a0_1)) + x7_2)) - a0_1))) true a0_0 a0_1 a0_2 a0_3 a0_4) else ((impl_missing.f (rd_F l1 (ji28))).bind fun t195 => (if t195 = true then (impl_Grads.j3 kj12 l1 x5_2 x6_1 x7_2 (rd_F l1 (ji25)) (rd_F l1 (ji28)) (rd_F l1 (wrap64 ((wrap64 ((wrap64 (x6_1 * a0_1)) + x7_2)) + a0_1))) (rd_F l1 (wrap64 ((wrap64 ((wrap64 (x6_1 * a0_1)) + x7_2)) - a0_1))) true a0_0 a0_1 a0_2 a0_3 a0_4) else ((impl_missing.f (rd_F l1 (wrap64 ((wrap64 ((wrap64 (x6_1 * a0_1)) + x7_2)) + a0_1)))).bind fun t196 => (if t196 = true then (impl_Grads.j3 kj12 l1 x5_2 x6_1 x7_2 (rd_F l1 (ji25)) (rd_F l1 (ji28)) (rd_F l1 (wrap64 ((wrap64 ((wrap64 (x6_1 * a0_1)) + x7_2)) + a0_1))) (rd_F l1 (wrap64 ((wrap64 ((wrap64 (x6_1 * a0_1)) + x7_2)) - a0_1))) true a0_0 a0_1 a0_2 a0_3 a0_4) else ((impl_missing.f (rd_F l1 (wrap64 ((wrap64 ((wrap64 (x6_1 * a0_1)) + x7_2)) - a0_1)))).bind fun t197 => (impl_Grads.j3 kj12 l1 x5_2 x6_1 x7_2 (rd_F l1 (ji25)) (rd_F l1 (ji28)) (rd_F l1 (wrap64 ((wrap64 ((wrap64 (x6_1 * a0_1)) + x7_2)) + a0_1))) (rd_F l1 (wrap64 ((wrap64 ((wrap64 (x6_1 * a0_1)) + x7_2)) - a0_1))) t197 a0_0 a0_1 a0_2 a0_3 a0_4)))))))) else (none)) else (none)) else (none)) else (none)) else (none)) else (none)) = some r := by first | (rw [hji28] at H; exact H) | (simp only [hji28] at H ⊢; exact H)
             have hji28w : (IntKind.i64.wrap ((wrap64 ((wrap64 (x6_1 * a0_1)) + x7_2)) - 1)) = ji28 := (i64_w _).trans hji28
             by_cases c29 : 0 ≤ (ji28)
             ·rw [if_pos c29] at H
              have c29b0 : decide (0 ≤ (ji28)) = true := decide_eq_true c29
              clear c29
              by_cases c30 : (ji28) < (l1.length : Int)
              ·rw [if_pos c30] at H
               have c30b0 : decide ((ji28) < (l1.length : Int)) = true := decide_eq_true c30
               clear c30
               obtain ⟨ji31, hji31⟩ : ∃ j_ : Int, (wrap64 ((wrap64 ((wrap64 (x6_1 * a0_1)) + x7_2)) + a0_1)) = j_ := ⟨_, rfl⟩
               replace H : (if 0 ≤ (ji31) then (if (ji31) < (l1.length : Int) then (if 0 ≤ (wrap64 ((wrap64 ((wrap64 (x6_1 * a0_1)) + x7_2)) - a0_1)) then (if (wrap64 ((wrap64 ((wrap64 (x6_1 * a0_1)) + x7_2)) - a0_1)) < (l1.length : Int) then ((impl_missing.f (rd_F l1 (ji25))).bind fun t194 => (if t194 = true then (impl_Grads.j3 kj12 l1 x5_2 x6_1 x7_2 (rd_F l1 (ji25)) (rd_F l1 (ji28)) (rd_F l1 (ji31)) (rd_F l1 (wrap64 ((wrap64 ((wrap64 (x6_1 * a0_1)) + x7_2)) - a0_1))) true a0_0 a0_1 a0_2 a0_3 a0_4) else ((impl_missing.f (rd_F l1 (ji28))).bind fun t195 => (if t195 = true then (impl_Grads.j3 kj12 l1 x5_2 x6_1 x7_2 (rd_F l1 (ji25)) (rd_F l1 (ji28)) (rd_F l1 (ji31)) (rd_F l1 (wrap64 ((wrap64 ((wrap64 (x6_1 * a0_1)) + x7_2)) - a0_1))) true a0_0 a0_1 a0_2 a0_3 a0_4) else ((impl_missing.f (rd_F l1 (ji31))).bind fun t196 => (if t196 = true then (impl_Grads.j3 kj12 l1 x5_2 x6_1 x7_2 (rd_F l1 (ji25)) (rd_F l1 (ji28)) (rd_F l1 (ji31)) (rd_F l1 (wrap64 ((wrap64 ((wrap64 (x6_1 * a0_1)) + x7_2)) - a0_1))) true a0_0 a0_1 a0_2 a0_3 a0_4) else ((impl_missing.f (rd_F l1 (wrap64 ((wrap64 ((wrap64 (x6_1 * a0_1)) + x7_2)) - a0_1)))).bind fun t197 => (impl_Grads.j3 kj12 l1 x5_2 x6_1 x7_2 (rd_F l1 (ji25)) (rd_F l1 (ji28)) (rd_F l1 (ji31)) (rd_F l1 (wrap64 ((wrap64 ((wrap64 (x6_1 * a0_1)) + x7_2)) - a0_1))) t197 a0_0 a0_1 a0_2 a0_3 a0_4)))))))) else (none)) else (none)) else (none)) else (none)) = some r := by first | (rw [hji31] at H; exact H) | (simp only [hji31] at H ⊢; exact H)
               have hji31w : (IntKind.i64.wrap ((wrap64 ((wrap64 (x6_1 * a0_1)) + x7_2)) + a0_1)) = ji31 := (i64_w _).trans hji31
               by_cases c32 : 0 ≤ (ji31)
               ·rw [if_pos c32] at H
                have c32b0 : decide (0 ≤ (ji31)) = true := decide_eq_true c32
                clear c32
                by_cases c33 : (ji31) < (l1.length : Int)
                ·rw [if_pos c33] at H
                 have c33b0 : decide ((ji31) < (l1.length : Int)) = true := decide_eq_true c33
                 clear c33
                 obtain ⟨ji34, hji34⟩ : ∃ j_ : Int, (wrap64 ((wrap64 ((wrap64 (x6_1 * a0_1)) + x7_2)) - a0_1)) = j_ := ⟨_, rfl⟩
                 replace H : (if 0 ≤ (ji34) then (if (ji34) < (l1.length : Int) then ((impl_missing.f (rd_F l1 (ji25))).bind fun t194 => (if t194 = true then (impl_Grads.j3 kj12 l1 x5_2 x6_1 x7_2 (rd_F l1 (ji25)) (rd_F l1 (ji28)) (rd_F l1 (ji31)) (rd_F l1 (ji34)) true a0_0 a0_1 a0_2 a0_3 a0_4) else ((impl_missing.f (rd_F l1 (ji28))).bind fun t195 => (if t195 = true then (impl_Grads.j3 kj12 l1 x5_2 x6_1 x7_2 (rd_F l1 (ji25)) (rd_F l1 (ji28)) (rd_F l1 (ji31)) (rd_F l1 (ji34)) true a0_0 a0_1 a0_2 a0_3 a0_4) else ((impl_missing.f (rd_F l1 (ji31))).bind fun t196 => (if t196 = true then (impl_Grads.j3 kj12 l1 x5_2 x6_1 x7_2 (rd_F l1 (ji25)) (rd_F l1 (ji28)) (rd_F l1 (ji31)) (rd_F l1 (ji34)) true a0_0 a0_1 a0_2 a0_3 a0_4) else ((impl_missing.f (rd_F l1 (ji34))).bind fun t197 => (impl_Grads.j3 kj12 l1 x5_2 x6_1 x7_2 (rd_F l1 (ji25)) (rd_F l1 (ji28)) (rd_F l1 (ji31)) (rd_F l1 (ji34)) t197 a0_0 a0_1 a0_2 a0_3 a0_4)))))))) else (none)) else (none)) = some r := by first | (rw [hji34] at H; exact H) | (simp only [hji34] at H ⊢; exact H)
                 have hji34w : (IntKind.i64.wrap ((wrap64 ((wrap64 (x6_1 * a0_1)) + x7_2)) - a0_1)) = ji34 := (i64_w _).trans hji34
                 by_cases c35 : 0 ≤ (ji34)
                 ·rw [if_pos c35] at H
                  have c35b0 : decide (0 ≤ (ji34)) = true := decide_eq_true c35
                  clear c35
                  by_cases c36 : (ji34) < (l1.length : Int)
                  ·rw [if_pos c36] at H
                   have c36b0 : decide ((ji34) < (l1.length : Int)) = true := decide_eq_true c36
                   clear c36
                   have HC37 := Aside0.mk H
                   clear H
                   have hcz38_0 : wc.cell? ⟨gb178, 0, none⟩ = some (.int .i64 a0_0) := (blk_cell BK178.out 0).trans rfl
                   have hcz38_1 : wc.cell? ⟨gb178, 1, none⟩ = some (.int .i64 a0_1) := (blk_cell BK178.out 1).trans rfl
                   have hcz38_2 : wc.cell? ⟨gb178, 2, none⟩ = some (.int .i64 a0_2) := (blk_cell BK178.out 2).trans rfl
                   have hcz38_3 : wc.cell? ⟨gb178, 3, none⟩ = some (.int .i64 a0_3) := (blk_cell BK178.out 3).trans rfl
                   have hcz38_4 : wc.cell? ⟨gb178, 4, none⟩ = some (.int .i64 a0_4) := (blk_cell BK178.out 4).trans rfl
                   have hfz38_0 := blk_frozen BK178.out 0
                   have hfz38_1 := blk_frozen BK178.out 1
                   have hfz38_2 := blk_frozen BK178.out 2
                   have hfz38_3 := blk_frozen BK178.out 3
                   have hfz38_4 := blk_frozen BK178.out 4
                   have p190 : 0 ≤ ((ji25) : Int) := of_decide_eq_true (by first | (with_reducible assumption) | assumption)
                   have q190 : (ji25) < (l1.length : Int) := of_decide_eq_true (by first | (with_reducible assumption) | assumption)
                   obtain ⟨ad190, pf190_0, e190, hx190_0⟩ := at_F HR1.out (ji25) p190 q190
                   cases e190
                   replace hx190_0 := (HB.out.cell (World.block_lt_of_cell? w _ hx190_0)).trans hx190_0
                   replace p190 := eq_true p190
                   replace q190 := eq_true q190
                   have p191 : 0 ≤ ((ji28) : Int) := of_decide_eq_true (by first | (with_reducible assumption) | assumption)
                   have q191 : (ji28) < (l1.length : Int) := of_decide_eq_true (by first | (with_reducible assumption) | assumption)
                   obtain ⟨ad191, pf191_0, e191, hx191_0⟩ := at_F HR1.out (ji28) p191 q191
                   obtain rfl : ad190 = ad191 := (by injection e191)
                   replace hx191_0 := (HB.out.cell (World.block_lt_of_cell? w _ hx191_0)).trans hx191_0
                   replace p191 := eq_true p191
                   replace q191 := eq_true q191
                   have p192 : 0 ≤ ((ji31) : Int) := of_decide_eq_true (by first | (with_reducible assumption) | assumption)
                   have q192 : (ji31) < (l1.length : Int) := of_decide_eq_true (by first | (with_reducible assumption) | assumption)
                   obtain ⟨ad192, pf192_0, e192, hx192_0⟩ := at_F HR1.out (ji31) p192 q192
                   obtain rfl : ad190 = ad192 := (by injection e192)
                   replace hx192_0 := (HB.out.cell (World.block_lt_of_cell? w _ hx192_0)).trans hx192_0
                   replace p192 := eq_true p192
                   replace q192 := eq_true q192
                   have p193 : 0 ≤ ((ji34) : Int) := of_decide_eq_true (by first | (with_reducible assumption) | assumption)
                   have q193 : (ji34) < (l1.length : Int) := of_decide_eq_true (by first | (with_reducible assumption) | assumption)
                   obtain ⟨ad193, pf193_0, e193, hx193_0⟩ := at_F HR1.out (ji34) p193 q193
                   obtain rfl : ad190 = ad193 := (by injection e193)
                   replace hx193_0 := (HB.out.cell (World.block_lt_of_cell? w _ hx193_0)).trans hx193_0
                   replace p193 := eq_true p193
                   replace q193 := eq_true q193
                   go_upto_region 14 with (fail)
                   repeat (go_quiet (fail); go_upto_region 14 with (fail))
                   go_cut [99] (fun v99 wc => ∃ (kq : Nat) (x99_36 : Bool), v99 = .bool x99_36 ∧ Aside0 (impl_Grads.j3 kq l1 x5_2 x6_1 x7_2 (rd_F l1 (ji25)) (rd_F l1 (ji28)) (rd_F l1 (ji31)) (rd_F l1 (ji34)) x99_36 a0_0 a0_1 a0_2 a0_3 a0_4 = some r) ∧ Aside0 (kq ≤ kj12) ∧ Aside0 (Kd.R k84 84 wc w.heap.size (fun _ => True) u5 x5_2) ∧ Aside0 (wc.heap[gb178]? = some (.cells #[.int .i64 a0_0, .int .i64 a0_1, .int .i64 a0_2, .int .i64 a0_3, .int .i64 a0_4] 43 (0, 0))) ∧ Aside0 (Below w.heap.size w wc))
                   case first =>
                    have H := HC37.out
                    clear HC37
                    replace H := Option.bind_eq_some_iff.mp H
                    obtain ⟨t194, A390, H⟩ := H
                    replace H : (if t194 = true then (impl_Grads.j3 kj12 l1 x5_2 x6_1 x7_2 (rd_F l1 (ji25)) (rd_F l1 (ji28)) (rd_F l1 (ji31)) (rd_F l1 (ji34)) true a0_0 a0_1 a0_2 a0_3 a0_4) else ((impl_missing.f (rd_F l1 (ji28))).bind fun t195 => (if t195 = true then (impl_Grads.j3 kj12 l1 x5_2 x6_1 x7_2 (rd_F l1 (ji25)) (rd_F l1 (ji28)) (rd_F l1 (ji31)) (rd_F l1 (ji34)) true a0_0 a0_1 a0_2 a0_3 a0_4) else ((impl_missing.f (rd_F l1 (ji31))).bind fun t196 => (if t196 = true then (impl_Grads.j3 kj12 l1 x5_2 x6_1 x7_2 (rd_F l1 (ji25)) (rd_F l1 (ji28)) (rd_F l1 (ji31)) (rd_F l1 (ji34)) true a0_0 a0_1 a0_2 a0_3 a0_4) else ((impl_missing.f (rd_F l1 (ji34))).bind fun t197 => (impl_Grads.j3 kj12 l1 x5_2 x6_1 x7_2 (rd_F l1 (ji25)) (rd_F l1 (ji28)) (rd_F l1 (ji31)) (rd_F l1 (ji34)) t197 a0_0 a0_1 a0_2 a0_3 a0_4))))))) = some r := H
                    have A39 := Aside0.mk A390
                    clear A390
                    by_cases c40 : t194 = true
                    ·subst c40
                     have H1 : (impl_Grads.j3 kj12 l1 x5_2 x6_1 x7_2 (rd_F l1 (ji25)) (rd_F l1 (ji28)) (rd_F l1 (ji31)) (rd_F l1 (ji34)) true a0_0 a0_1 a0_2 a0_3 a0_4) = some r := by rw [if_pos rfl] at H; exact H
                     clear H
                     have H := H1
                     clear H1
                     have H' := Aside0.mk H
                     clear H
                     go_wp2_with (first | (go_at_call 59; (with_reducible refine (impl_missing.calls pf190_0 (rd_F l1 (ji25)) true _ A39.out).mono ?_); rintro e w' ⟨rfl, ⟨nd, rfl⟩⟩; (try first | exact ⟨rfl, _, World.drewN_drewN _ _ _⟩ | exact ⟨rfl, _, Eq.trans (World.drewN_drewN _ _ _) (congrArg (World.drewN _) (Nat.add_assoc _ _ _))⟩)))
                     repeat (go_quiet (first | (go_at_call 59; (with_reducible refine (impl_missing.calls pf190_0 (rd_F l1 (ji25)) true _ A39.out).mono ?_); rintro e w' ⟨rfl, ⟨nd, rfl⟩⟩; (try first | exact ⟨rfl, _, World.drewN_drewN _ _ _⟩ | exact ⟨rfl, _, Eq.trans (World.drewN_drewN _ _ _) (congrArg (World.drewN _) (Nat.add_assoc _ _ _))⟩))); try go_wp2_with (first | (go_at_call 59; (with_reducible refine (impl_missing.calls pf190_0 (rd_F l1 (ji25)) true _ A39.out).mono ?_); rintro e w' ⟨rfl, ⟨nd, rfl⟩⟩; (try first | exact ⟨rfl, _, World.drewN_drewN _ _ _⟩ | exact ⟨rfl, _, Eq.trans (World.drewN_drewN _ _ _) (congrArg (World.drewN _) (Nat.add_assoc _ _ _))⟩))))
                     go_meet
                     case rel => exact ⟨_, (true), (by first | rfl | (simp; done) | (simp [*]; done)), H', ⟨by have := HK1.out; have := HK2.out; have := HJ12.out; first | omega | exact Nat.le_refl _⟩, ⟨by (with_reducible repeat (first | apply Kd.R_alloc | apply Kd.R_drewN | apply Kd.R_drew)); exact HO_5.out⟩, ⟨by (with_reducible repeat (first | refine blk_drewN ?_ _ | refine blk_drew ?_ | refine blk_alloc ?_ _)); exact BK178.out⟩, ⟨by repeat (first | (with_reducible first | exact HB.out | apply below_alloc | apply pw_below_drewN | apply below_drew1 | refine below_set ?_ GE178.out) | exact HB.out)⟩⟩
                    ·replace c40 := Bool.eq_false_iff.mpr c40
                     subst c40
                     have H1 : ((impl_missing.f (rd_F l1 (ji28))).bind fun t195 => (if t195 = true then (impl_Grads.j3 kj12 l1 x5_2 x6_1 x7_2 (rd_F l1 (ji25)) (rd_F l1 (ji28)) (rd_F l1 (ji31)) (rd_F l1 (ji34)) true a0_0 a0_1 a0_2 a0_3 a0_4) else ((impl_missing.f (rd_F l1 (ji31))).bind fun t196 => (if t196 = true then (impl_Grads.j3 kj12 l1 x5_2 x6_1 x7_2 (rd_F l1 (ji25)) (rd_F l1 (ji28)) (rd_F l1 (ji31)) (rd_F l1 (ji34)) true a0_0 a0_1 a0_2 a0_3 a0_4) else ((impl_missing.f (rd_F l1 (ji34))).bind fun t197 => (impl_Grads.j3 kj12 l1 x5_2 x6_1 x7_2 (rd_F l1 (ji25)) (rd_F l1 (ji28)) (rd_F l1 (ji31)) (rd_F l1 (ji34)) t197 a0_0 a0_1 a0_2 a0_3 a0_4)))))) = some r := by rw [if_neg (show ¬ (false = true) by decide)] at H; exact H
                     clear H
                     have H := H1
                     clear H1
                     replace H := Option.bind_eq_some_iff.mp H
                     obtain ⟨t195, A410, H⟩ := H
                     replace H : (if t195 = true then (impl_Grads.j3 kj12 l1 x5_2 x6_1 x7_2 (rd_F l1 (ji25)) (rd_F l1 (ji28)) (rd_F l1 (ji31)) (rd_F l1 (ji34)) true a0_0 a0_1 a0_2 a0_3 a0_4) else ((impl_missing.f (rd_F l1 (ji31))).bind fun t196 => (if t196 = true then (impl_Grads.j3 kj12 l1 x5_2 x6_1 x7_2 (rd_F l1 (ji25)) (rd_F l1 (ji28)) (rd_F l1 (ji31)) (rd_F l1 (ji34)) true a0_0 a0_1 a0_2 a0_3 a0_4) else ((impl_missing.f (rd_F l1 (ji34))).bind fun t197 => (impl_Grads.j3 kj12 l1 x5_2 x6_1 x7_2 (rd_F l1 (ji25)) (rd_F l1 (ji28)) (rd_F l1 (ji31)) (rd_F l1 (ji34)) t197 a0_0 a0_1 a0_2 a0_3 a0_4))))) = some r := H
                     have A41 := Aside0.mk A410
                     clear A410
                     by_cases c42 : t195 = true
                     ·subst c42
                      have H1 : (impl_Grads.j3 kj12 l1 x5_2 x6_1 x7_2 (rd_F l1 (ji25)) (rd_F l1 (ji28)) (rd_F l1 (ji31)) (rd_F l1 (ji34)) true a0_0 a0_1 a0_2 a0_3 a0_4) = some r := by rw [if_pos rfl] at H; exact H
                      clear H
                      have H := H1
                      clear H1
                      have H' := Aside0.mk H
                      clear H
                      go_wp2_with (first | (go_at_call 59; (with_reducible refine (impl_missing.calls pf190_0 (rd_F l1 (ji25)) false _ A39.out).mono ?_); rintro e w' ⟨rfl, ⟨nd, rfl⟩⟩; (try first | exact ⟨rfl, _, World.drewN_drewN _ _ _⟩ | exact ⟨rfl, _, Eq.trans (World.drewN_drewN _ _ _) (congrArg (World.drewN _) (Nat.add_assoc _ _ _))⟩)) | (go_at_call 59; (with_reducible refine (impl_missing.calls pf191_0 (rd_F l1 (ji28)) true _ A41.out).mono ?_); rintro e w' ⟨rfl, ⟨nd, rfl⟩⟩; (try first | exact ⟨rfl, _, World.drewN_drewN _ _ _⟩ | exact ⟨rfl, _, Eq.trans (World.drewN_drewN _ _ _) (congrArg (World.drewN _) (Nat.add_assoc _ _ _))⟩)))
                      repeat (go_quiet (first | (go_at_call 59; (with_reducible refine (impl_missing.calls pf190_0 (rd_F l1 (ji25)) false _ A39.out).mono ?_); rintro e w' ⟨rfl, ⟨nd, rfl⟩⟩; (try first | exact ⟨rfl, _, World.drewN_drewN _ _ _⟩ | exact ⟨rfl, _, Eq.trans (World.drewN_drewN _ _ _) (congrArg (World.drewN _) (Nat.add_assoc _ _ _))⟩)) | (go_at_call 59; (with_reducible refine (impl_missing.calls pf191_0 (rd_F l1 (ji28)) true _ A41.out).mono ?_); rintro e w' ⟨rfl, ⟨nd, rfl⟩⟩; (try first | exact ⟨rfl, _, World.drewN_drewN _ _ _⟩ | exact ⟨rfl, _, Eq.trans (World.drewN_drewN _ _ _) (congrArg (World.drewN _) (Nat.add_assoc _ _ _))⟩))); try go_wp2_with (first | (go_at_call 59; (with_reducible refine (impl_missing.calls pf190_0 (rd_F l1 (ji25)) false _ A39.out).mono ?_); rintro e w' ⟨rfl, ⟨nd, rfl⟩⟩; (try first | exact ⟨rfl, _, World.drewN_drewN _ _ _⟩ | exact ⟨rfl, _, Eq.trans (World.drewN_drewN _ _ _) (congrArg (World.drewN _) (Nat.add_assoc _ _ _))⟩)) | (go_at_call 59; (with_reducible refine (impl_missing.calls pf191_0 (rd_F l1 (ji28)) true _ A41.out).mono ?_); rintro e w' ⟨rfl, ⟨nd, rfl⟩⟩; (try first | exact ⟨rfl, _, World.drewN_drewN _ _ _⟩ | exact ⟨rfl, _, Eq.trans (World.drewN_drewN _ _ _) (congrArg (World.drewN _) (Nat.add_assoc _ _ _))⟩))))
                      go_meet
                      case rel => exact ⟨_, (true), (by first | rfl | (simp; done) | (simp [*]; done)), H', ⟨by have := HK1.out; have := HK2.out; have := HJ12.out; first | omega | exact Nat.le_refl _⟩, ⟨by (with_reducible repeat (first | apply Kd.R_alloc | apply Kd.R_drewN | apply Kd.R_drew)); exact HO_5.out⟩, ⟨by (with_reducible repeat (first | refine blk_drewN ?_ _ | refine blk_drew ?_ | refine blk_alloc ?_ _)); exact BK178.out⟩, ⟨by repeat (first | (with_reducible first | exact HB.out | apply below_alloc | apply pw_below_drewN | apply below_drew1 | refine below_set ?_ GE178.out) | exact HB.out)⟩⟩
                     ·replace c42 := Bool.eq_false_iff.mpr c42
                      subst c42
                      have H1 : ((impl_missing.f (rd_F l1 (ji31))).bind fun t196 => (if t196 = true then (impl_Grads.j3 kj12 l1 x5_2 x6_1 x7_2 (rd_F l1 (ji25)) (rd_F l1 (ji28)) (rd_F l1 (ji31)) (rd_F l1 (ji34)) true a0_0 a0_1 a0_2 a0_3 a0_4) else ((impl_missing.f (rd_F l1 (ji34))).bind fun t197 => (impl_Grads.j3 kj12 l1 x5_2 x6_1 x7_2 (rd_F l1 (ji25)) (rd_F l1 (ji28)) (rd_F l1 (ji31)) (rd_F l1 (ji34)) t197 a0_0 a0_1 a0_2 a0_3 a0_4)))) = some r := by rw [if_neg (show ¬ (false = true) by decide)] at H; exact H
                      clear H
                      have H := H1
                      clear H1
                      replace H := Option.bind_eq_some_iff.mp H
                      obtain ⟨t196, A430, H⟩ := H
                      replace H : (if t196 = true then (impl_Grads.j3 kj12 l1 x5_2 x6_1 x7_2 (rd_F l1 (ji25)) (rd_F l1 (ji28)) (rd_F l1 (ji31)) (rd_F l1 (ji34)) true a0_0 a0_1 a0_2 a0_3 a0_4) else ((impl_missing.f (rd_F l1 (ji34))).bind fun t197 => (impl_Grads.j3 kj12 l1 x5_2 x6_1 x7_2 (rd_F l1 (ji25)) (rd_F l1 (ji28)) (rd_F l1 (ji31)) (rd_F l1 (ji34)) t197 a0_0 a0_1 a0_2 a0_3 a0_4))) = some r := H
                      have A43 := Aside0.mk A430
                      clear A430
                      by_cases c44 : t196 = true
                      ·subst c44
                       have H1 : (impl_Grads.j3 kj12 l1 x5_2 x6_1 x7_2 (rd_F l1 (ji25)) (rd_F l1 (ji28)) (rd_F l1 (ji31)) (rd_F l1 (ji34)) true a0_0 a0_1 a0_2 a0_3 a0_4) = some r := by rw [if_pos rfl] at H; exact H
                       clear H
                       have H := H1
                       clear H1
                       have H' := Aside0.mk H
                       clear H
                       go_wp2_with (first | (go_at_call 59; (with_reducible refine (impl_missing.calls pf190_0 (rd_F l1 (ji25)) false _ A39.out).mono ?_); rintro e w' ⟨rfl, ⟨nd, rfl⟩⟩; (try first | exact ⟨rfl, _, World.drewN_drewN _ _ _⟩ | exact ⟨rfl, _, Eq.trans (World.drewN_drewN _ _ _) (congrArg (World.drewN _) (Nat.add_assoc _ _ _))⟩)) | (go_at_call 59; (with_reducible refine (impl_missing.calls pf191_0 (rd_F l1 (ji28)) false _ A41.out).mono ?_); rintro e w' ⟨rfl, ⟨nd, rfl⟩⟩; (try first | exact ⟨rfl, _, World.drewN_drewN _ _ _⟩ | exact ⟨rfl, _, Eq.trans (World.drewN_drewN _ _ _) (congrArg (World.drewN _) (Nat.add_assoc _ _ _))⟩)) | (go_at_call 59; (with_reducible refine (impl_missing.calls pf192_0 (rd_F l1 (ji31)) true _ A43.out).mono ?_); rintro e w' ⟨rfl, ⟨nd, rfl⟩⟩; (try first | exact ⟨rfl, _, World.drewN_drewN _ _ _⟩ | exact ⟨rfl, _, Eq.trans (World.drewN_drewN _ _ _) (congrArg (World.drewN _) (Nat.add_assoc _ _ _))⟩)))
                       repeat (go_quiet (first | (go_at_call 59; (with_reducible refine (impl_missing.calls pf190_0 (rd_F l1 (ji25)) false _ A39.out).mono ?_); rintro e w' ⟨rfl, ⟨nd, rfl⟩⟩; (try first | exact ⟨rfl, _, World.drewN_drewN _ _ _⟩ | exact ⟨rfl, _, Eq.trans (World.drewN_drewN _ _ _) (congrArg (World.drewN _) (Nat.add_assoc _ _ _))⟩)) | (go_at_call 59; (with_reducible refine (impl_missing.calls pf191_0 (rd_F l1 (ji28)) false _ A41.out).mono ?_); rintro e w' ⟨rfl, ⟨nd, rfl⟩⟩; (try first | exact ⟨rfl, _, World.drewN_drewN _ _ _⟩ | exact ⟨rfl, _, Eq.trans (World.drewN_drewN _ _ _) (congrArg (World.drewN _) (Nat.add_assoc _ _ _))⟩)) | (go_at_call 59; (with_reducible refine (impl_missing.calls pf192_0 (rd_F l1 (ji31)) true _ A43.out).mono ?_); rintro e w' ⟨rfl, ⟨nd, rfl⟩⟩; (try first | exact ⟨rfl, _, World.drewN_drewN _ _ _⟩ | exact ⟨rfl, _, Eq.trans (World.drewN_drewN _ _ _) (congrArg (World.drewN _) (Nat.add_assoc _ _ _))⟩))); try go_wp2_with (first | (go_at_call 59; (with_reducible refine (impl_missing.calls pf190_0 (rd_F l1 (ji25)) false _ A39.out).mono ?_); rintro e w' ⟨rfl, ⟨nd, rfl⟩⟩; (try first | exact ⟨rfl, _, World.drewN_drewN _ _ _⟩ | exact ⟨rfl, _, Eq.trans (World.drewN_drewN _ _ _) (congrArg (World.drewN _) (Nat.add_assoc _ _ _))⟩)) | (go_at_call 59; (with_reducible refine (impl_missing.calls pf191_0 (rd_F l1 (ji28)) false _ A41.out).mono ?_); rintro e w' ⟨rfl, ⟨nd, rfl⟩⟩; (try first | exact ⟨rfl, _, World.drewN_drewN _ _ _⟩ | exact ⟨rfl, _, Eq.trans (World.drewN_drewN _ _ _) (congrArg (World.drewN _) (Nat.add_assoc _ _ _))⟩)) | (go_at_call 59; (with_reducible refine (impl_missing.calls pf192_0 (rd_F l1 (ji31)) true _ A43.out).mono ?_); rintro e w' ⟨rfl, ⟨nd, rfl⟩⟩; (try first | exact ⟨rfl, _, World.drewN_drewN _ _ _⟩ | exact ⟨rfl, _, Eq.trans (World.drewN_drewN _ _ _) (congrArg (World.drewN _) (Nat.add_assoc _ _ _))⟩))))
                       go_meet
                       case rel => exact ⟨_, (true), (by first | rfl | (simp; done) | (simp [*]; done)), H', ⟨by have := HK1.out; have := HK2.out; have := HJ12.out; first | omega | exact Nat.le_refl _⟩, ⟨by (with_reducible repeat (first | apply Kd.R_alloc | apply Kd.R_drewN | apply Kd.R_drew)); exact HO_5.out⟩, ⟨by (with_reducible repeat (first | refine blk_drewN ?_ _ | refine blk_drew ?_ | refine blk_alloc ?_ _)); exact BK178.out⟩, ⟨by repeat (first | (with_reducible first | exact HB.out | apply below_alloc | apply pw_below_drewN | apply below_drew1 | refine below_set ?_ GE178.out) | exact HB.out)⟩⟩
                      ·replace c44 := Bool.eq_false_iff.mpr c44
                       subst c44
                       have H1 : ((impl_missing.f (rd_F l1 (ji34))).bind fun t197 => (impl_Grads.j3 kj12 l1 x5_2 x6_1 x7_2 (rd_F l1 (ji25)) (rd_F l1 (ji28)) (rd_F l1 (ji31)) (rd_F l1 (ji34)) t197 a0_0 a0_1 a0_2 a0_3 a0_4)) = some r := by rw [if_neg (show ¬ (false = true) by decide)] at H; exact H
                       clear H
                       have H := H1
                       clear H1
                       replace H := Option.bind_eq_some_iff.mp H
                       obtain ⟨t197, A450, H⟩ := H
                       replace H : (impl_Grads.j3 kj12 l1 x5_2 x6_1 x7_2 (rd_F l1 (ji25)) (rd_F l1 (ji28)) (rd_F l1 (ji31)) (rd_F l1 (ji34)) t197 a0_0 a0_1 a0_2 a0_3 a0_4) = some r := H
                       have A45 := Aside0.mk A450
                       clear A450
                       have H' := Aside0.mk H
                       clear H
                       go_wp2_with (first | (go_at_call 59; (with_reducible refine (impl_missing.calls pf190_0 (rd_F l1 (ji25)) false _ A39.out).mono ?_); rintro e w' ⟨rfl, ⟨nd, rfl⟩⟩; (try first | exact ⟨rfl, _, World.drewN_drewN _ _ _⟩ | exact ⟨rfl, _, Eq.trans (World.drewN_drewN _ _ _) (congrArg (World.drewN _) (Nat.add_assoc _ _ _))⟩)) | (go_at_call 59; (with_reducible refine (impl_missing.calls pf191_0 (rd_F l1 (ji28)) false _ A41.out).mono ?_); rintro e w' ⟨rfl, ⟨nd, rfl⟩⟩; (try first | exact ⟨rfl, _, World.drewN_drewN _ _ _⟩ | exact ⟨rfl, _, Eq.trans (World.drewN_drewN _ _ _) (congrArg (World.drewN _) (Nat.add_assoc _ _ _))⟩)) | (go_at_call 59; (with_reducible refine (impl_missing.calls pf192_0 (rd_F l1 (ji31)) false _ A43.out).mono ?_); rintro e w' ⟨rfl, ⟨nd, rfl⟩⟩; (try first | exact ⟨rfl, _, World.drewN_drewN _ _ _⟩ | exact ⟨rfl, _, Eq.trans (World.drewN_drewN _ _ _) (congrArg (World.drewN _) (Nat.add_assoc _ _ _))⟩)) | (go_at_call 59; (with_reducible refine (impl_missing.calls pf193_0 (rd_F l1 (ji34)) t197 _ A45.out).mono ?_); rintro e w' ⟨rfl, ⟨nd, rfl⟩⟩; (try first | exact ⟨rfl, _, World.drewN_drewN _ _ _⟩ | exact ⟨rfl, _, Eq.trans (World.drewN_drewN _ _ _) (congrArg (World.drewN _) (Nat.add_assoc _ _ _))⟩)))
                       repeat (go_quiet (first | (go_at_call 59; (with_reducible refine (impl_missing.calls pf190_0 (rd_F l1 (ji25)) false _ A39.out).mono ?_); rintro e w' ⟨rfl, ⟨nd, rfl⟩⟩; (try first | exact ⟨rfl, _, World.drewN_drewN _ _ _⟩ | exact ⟨rfl, _, Eq.trans (World.drewN_drewN _ _ _) (congrArg (World.drewN _) (Nat.add_assoc _ _ _))⟩)) | (go_at_call 59; (with_reducible refine (impl_missing.calls pf191_0 (rd_F l1 (ji28)) false _ A41.out).mono ?_); rintro e w' ⟨rfl, ⟨nd, rfl⟩⟩; (try first | exact ⟨rfl, _, World.drewN_drewN _ _ _⟩ | exact ⟨rfl, _, Eq.trans (World.drewN_drewN _ _ _) (congrArg (World.drewN _) (Nat.add_assoc _ _ _))⟩)) | (go_at_call 59; (with_reducible refine (impl_missing.calls pf192_0 (rd_F l1 (ji31)) false _ A43.out).mono ?_); rintro e w' ⟨rfl, ⟨nd, rfl⟩⟩; (try first | exact ⟨rfl, _, World.drewN_drewN _ _ _⟩ | exact ⟨rfl, _, Eq.trans (World.drewN_drewN _ _ _) (congrArg (World.drewN _) (Nat.add_assoc _ _ _))⟩)) | (go_at_call 59; (with_reducible refine (impl_missing.calls pf193_0 (rd_F l1 (ji34)) t197 _ A45.out).mono ?_); rintro e w' ⟨rfl, ⟨nd, rfl⟩⟩; (try first | exact ⟨rfl, _, World.drewN_drewN _ _ _⟩ | exact ⟨rfl, _, Eq.trans (World.drewN_drewN _ _ _) (congrArg (World.drewN _) (Nat.add_assoc _ _ _))⟩))); try go_wp2_with (first | (go_at_call 59; (with_reducible refine (impl_missing.calls pf190_0 (rd_F l1 (ji25)) false _ A39.out).mono ?_); rintro e w' ⟨rfl, ⟨nd, rfl⟩⟩; (try first | exact ⟨rfl, _, World.drewN_drewN _ _ _⟩ | exact ⟨rfl, _, Eq.trans (World.drewN_drewN _ _ _) (congrArg (World.drewN _) (Nat.add_assoc _ _ _))⟩)) | (go_at_call 59; (with_reducible refine (impl_missing.calls pf191_0 (rd_F l1 (ji28)) false _ A41.out).mono ?_); rintro e w' ⟨rfl, ⟨nd, rfl⟩⟩; (try first | exact ⟨rfl, _, World.drewN_drewN _ _ _⟩ | exact ⟨rfl, _, Eq.trans (World.drewN_drewN _ _ _) (congrArg (World.drewN _) (Nat.add_assoc _ _ _))⟩)) | (go_at_call 59; (with_reducible refine (impl_missing.calls pf192_0 (rd_F l1 (ji31)) false _ A43.out).mono ?_); rintro e w' ⟨rfl, ⟨nd, rfl⟩⟩; (try first | exact ⟨rfl, _, World.drewN_drewN _ _ _⟩ | exact ⟨rfl, _, Eq.trans (World.drewN_drewN _ _ _) (congrArg (World.drewN _) (Nat.add_assoc _ _ _))⟩)) | (go_at_call 59; (with_reducible refine (impl_missing.calls pf193_0 (rd_F l1 (ji34)) t197 _ A45.out).mono ?_); rintro e w' ⟨rfl, ⟨nd, rfl⟩⟩; (try first | exact ⟨rfl, _, World.drewN_drewN _ _ _⟩ | exact ⟨rfl, _, Eq.trans (World.drewN_drewN _ _ _) (congrArg (World.drewN _) (Nat.add_assoc _ _ _))⟩))))
                       go_meet
                       case rel => exact ⟨_, (t197), (by first | rfl | (simp; done) | (simp [*]; done)), H', ⟨by have := HK1.out; have := HK2.out; have := HJ12.out; first | omega | exact Nat.le_refl _⟩, ⟨by (with_reducible repeat (first | apply Kd.R_alloc | apply Kd.R_drewN | apply Kd.R_drew)); exact HO_5.out⟩, ⟨by (with_reducible repeat (first | refine blk_drewN ?_ _ | refine blk_drew ?_ | refine blk_alloc ?_ _)); exact BK178.out⟩, ⟨by repeat (first | (with_reducible first | exact HB.out | apply below_alloc | apply pw_below_drewN | apply below_drew1 | refine below_set ?_ GE178.out) | exact HB.out)⟩⟩
                   case rest =>
                    clear HC37
                    try clear c1
                    try clear p1
                    try clear q1
                    try clear hx1
                    try clear c2
                    try clear p2
                    try clear c3
                    try clear c4
                    try clear p6
                    try clear c10
                    try clear c10b0
                    try clear c12
                    try clear c12b0
                    try clear c15
                    try clear c15b0
                    try clear c15b1
                    try clear c16
                    try clear c16b0
                    try clear c16b1
                    try clear c17
                    try clear c17b0
                    try clear c17b1
                    try clear p19
                    try clear q19
                    try clear hx19
                    try clear c20
                    try clear c23
                    try clear c26
                    try clear c26b0
                    try clear c27
                    try clear c27b0
                    try clear c29
                    try clear c29b0
                    try clear c30
                    try clear c30b0
                    try clear c32
                    try clear c32b0
                    try clear c33
                    try clear c33b0
                    try clear c35
                    try clear c35b0
                    try clear c36
                    try clear c36b0
                    try clear c40
                    try clear c42
                    try clear c44
                    try clear hcz11_0
                    try clear hcz11_1
                    try clear hcz11_2
                    try clear hcz11_3
                    try clear hcz11_4
                    try clear hcz14_0
                    try clear hcz14_1
                    try clear hcz14_2
                    try clear hcz14_3
                    try clear hcz14_4
                    try clear hcz18_0
                    try clear hcz18_1
                    try clear hcz18_2
                    try clear hcz18_3
                    try clear hcz18_4
                    try clear hcz19_0
                    try clear hcz19_1
                    try clear hcz19_2
                    try clear hcz19_3
                    try clear hcz19_4
                    try clear hcz38_0
                    try clear hcz38_1
                    try clear hcz38_2
                    try clear hcz38_3
                    try clear hcz38_4
                    try clear hcz6_0
                    try clear hcz6_1
                    try clear hcz6_2
                    try clear hcz6_3
                    try clear hcz6_4
                    try clear hfz11_0
                    try clear hfz11_1
                    try clear hfz11_2
                    try clear hfz11_3
                    try clear hfz11_4
                    try clear hfz14_0
                    try clear hfz14_1
                    try clear hfz14_2
                    try clear hfz14_3
                    try clear hfz14_4
                    try clear hfz18_0
                    try clear hfz18_1
                    try clear hfz18_2
                    try clear hfz18_3
                    try clear hfz18_4
                    try clear hfz19_0
                    try clear hfz19_1
                    try clear hfz19_2
                    try clear hfz19_3
                    try clear hfz19_4
                    try clear hfz38_0
                    try clear hfz38_1
                    try clear hfz38_2
                    try clear hfz38_3
                    try clear hfz38_4
                    try clear hfz6_0
                    try clear hfz6_1
                    try clear hfz6_2
                    try clear hfz6_3
                    try clear hfz6_4
                    try clear hx190_0
                    try clear hx191_0
                    try clear hx192_0
                    try clear hx193_0
                    try clear p190
                    try clear p191
                    try clear p192
                    try clear p193
                    try clear p2
                    try clear p6
                    try clear q190
                    try clear q191
                    try clear q192
                    try clear q193
                    obtain ⟨kq, x99_36, rfl, HA, HJ36, HO_5, BK178, HB⟩ := hcut
                    cases kq with
                    | zero => exact absurd HA.out (by simp [impl_Grads.j3])
                    | succ kj36 =>
                     have H := HA.out
                     clear HA
                     simp only [impl_Grads.j3] at H
                     by_cases c46 : x99_36 = true
                     ·subst c46
                      have H1 : ((impl_nan.f).bind fun t198 => ((impl_nan.f).bind fun t200 => (if x5_2.length < 8796093022208 then (impl_Grads.l1 kj36 l1 (x5_2 ++ [(⟨t198, t200⟩ : S84)]) x6_1 (wrap64 (x7_2 + 1)) a0_0 a0_1 a0_2 a0_3 a0_4) else (none)))) = some r := by rw [if_pos rfl] at H; exact H
                      clear H
                      have H := H1
                      clear H1
                      replace H := Option.bind_eq_some_iff.mp H
                      obtain ⟨t198, A470, H⟩ := H
                      replace H : ((impl_nan.f).bind fun t200 => (if x5_2.length < 8796093022208 then (impl_Grads.l1 kj36 l1 (x5_2 ++ [(⟨t198, t200⟩ : S84)]) x6_1 (wrap64 (x7_2 + 1)) a0_0 a0_1 a0_2 a0_3 a0_4) else (none))) = some r := H
                      have A47 := Aside0.mk A470
                      clear A470
                      replace H := Option.bind_eq_some_iff.mp H
                      obtain ⟨t200, A480, H⟩ := H
                      replace H : (if x5_2.length < 8796093022208 then (impl_Grads.l1 kj36 l1 (x5_2 ++ [(⟨t198, t200⟩ : S84)]) x6_1 (wrap64 (x7_2 + 1)) a0_0 a0_1 a0_2 a0_3 a0_4) else (none)) = some r := H
                      have A48 := Aside0.mk A480
                      clear A480
                      by_cases c49 : x5_2.length < 8796093022208
                      ·rw [if_pos c49] at H
                       have LMc49 := Aside0.mk c49
                       clear c49
                       obtain ⟨y202, hy202⟩ : ∃ y_ : List (S84), y_ = (x5_2 ++ [(⟨t198, t200⟩ : S84)]) := ⟨_, rfl⟩
                       replace H : (impl_Grads.l1 kj36 l1 y202 x6_1 (wrap64 (x7_2 + 1)) a0_0 a0_1 a0_2 a0_3 a0_4) = some r := by first | (rw [hy202]; with_reducible exact H) | (have H2_ := (Option.bind_some _ _).symm.trans H; rw [hy202]; with_reducible exact H2_) | (have H2_ := (Option.bind_some _ _).symm.trans H; with_reducible exact H2_) | with_reducible exact H | (rw [hy202]; exact H) | exact H
                       have Ny202 := Aside0.mk hy202
                       clear hy202
                       have H' := Aside0.mk H
                       clear H
                       go_wp2_with (first | ((fail_if_success (have zz_ := pr199)); go_at_call 44; (with_reducible refine (impl_nan.calls  t198 _ A47.out).mono ?_); rintro e w' ⟨pr199, rfl, ⟨nd, rfl⟩⟩; (try first | exact ⟨rfl, _, World.drewN_drewN _ _ _⟩ | exact ⟨rfl, _, Eq.trans (World.drewN_drewN _ _ _) (congrArg (World.drewN _) (Nat.add_assoc _ _ _))⟩)) | ((fail_if_success (have zz_ := pr201)); go_at_call 44; (with_reducible refine (impl_nan.calls  t200 _ A48.out).mono ?_); rintro e w' ⟨pr201, rfl, ⟨nd, rfl⟩⟩; (try first | exact ⟨rfl, _, World.drewN_drewN _ _ _⟩ | exact ⟨rfl, _, Eq.trans (World.drewN_drewN _ _ _) (congrArg (World.drewN _) (Nat.add_assoc _ _ _))⟩)) | ((with_reducible refine gate_builtin (b := .append) (xs := #[.tmp 100, .tmp 104]) rfl ?_); at_builtin; refine Kd.R_append k84 (w0 := w) w.heap.size rfl (.tmp 100) (.tmp 104) 54 84 (.agg #[(.float .f64 0), (.float .f64 0)]) 16 rfl Try.underlying54 info84 rfl (by decide) (by omega) u5 x5_2 (⟨t198, t200⟩ : S84) [.float .f64 (un pr199 t198), .float .f64 (un pr201 t200)] (fun _ => True) (fun _ => False) rfl rfl ?aP (fun _ hk => hk.elim) ?aF ?aO ?aB ?aS ?aL ?_; (case aP => exact k84_mkM _ _ _ (⟨t198, t200⟩ : S84)); (case aB => exact (by repeat (first | (with_reducible first | exact HB.out | apply below_alloc | apply pw_below_drewN | apply below_drew1 | refine below_set ?_ GE178.out) | exact HB.out))); (case aF => exact (fun _ _ => trivial)); (case aO => exact (by (with_reducible repeat (first | apply Kd.R_alloc | apply Kd.R_drewN | apply Kd.R_drew)); exact HO_5.out)); (case aS => exact (below_size (by repeat (first | (with_reducible first | exact HB.out | apply below_alloc | apply pw_below_drewN | apply below_drew1 | refine below_set ?_ GE178.out) | exact HB.out)))); (case aL => have := LMc49.out; omega); intro v203 w50 ho hb hg hat; rw [← Ny202.out] at ho; have n0_ := Aside0.mk (blk_grown (g := gb178) (o := .cells #[.int .i64 a0_0, .int .i64 a0_1, .int .i64 a0_2, .int .i64 a0_3, .int .i64 a0_4] 43 (0, 0)) (by (with_reducible repeat (first | refine blk_drewN ?_ _ | refine blk_drew ?_ | refine blk_alloc ?_ _)); exact BK178.out) hg (Kd.R_ne HO_5.out BK178.out (by decide))); have n1_ := Aside0.mk (hb); have n2_ := Aside0.mk (ho); clear BK178; clear HB; clear HO_5; have BK178 := n0_; have HB := n1_; have HO204 := n2_; clear n0_ n1_ n2_; clear ho hb hg hat))
                       repeat (go_quiet (first | ((fail_if_success (have zz_ := pr199)); go_at_call 44; (with_reducible refine (impl_nan.calls  t198 _ A47.out).mono ?_); rintro e w' ⟨pr199, rfl, ⟨nd, rfl⟩⟩; (try first | exact ⟨rfl, _, World.drewN_drewN _ _ _⟩ | exact ⟨rfl, _, Eq.trans (World.drewN_drewN _ _ _) (congrArg (World.drewN _) (Nat.add_assoc _ _ _))⟩)) | ((fail_if_success (have zz_ := pr201)); go_at_call 44; (with_reducible refine (impl_nan.calls  t200 _ A48.out).mono ?_); rintro e w' ⟨pr201, rfl, ⟨nd, rfl⟩⟩; (try first | exact ⟨rfl, _, World.drewN_drewN _ _ _⟩ | exact ⟨rfl, _, Eq.trans (World.drewN_drewN _ _ _) (congrArg (World.drewN _) (Nat.add_assoc _ _ _))⟩)) | ((with_reducible refine gate_builtin (b := .append) (xs := #[.tmp 100, .tmp 104]) rfl ?_); at_builtin; refine Kd.R_append k84 (w0 := w) w.heap.size rfl (.tmp 100) (.tmp 104) 54 84 (.agg #[(.float .f64 0), (.float .f64 0)]) 16 rfl Try.underlying54 info84 rfl (by decide) (by omega) u5 x5_2 (⟨t198, t200⟩ : S84) [.float .f64 (un pr199 t198), .float .f64 (un pr201 t200)] (fun _ => True) (fun _ => False) rfl rfl ?aP (fun _ hk => hk.elim) ?aF ?aO ?aB ?aS ?aL ?_; (case aP => exact k84_mkM _ _ _ (⟨t198, t200⟩ : S84)); (case aB => exact (by repeat (first | (with_reducible first | exact HB.out | apply below_alloc | apply pw_below_drewN | apply below_drew1 | refine below_set ?_ GE178.out) | exact HB.out))); (case aF => exact (fun _ _ => trivial)); (case aO => exact (by (with_reducible repeat (first | apply Kd.R_alloc | apply Kd.R_drewN | apply Kd.R_drew)); exact HO_5.out)); (case aS => exact (below_size (by repeat (first | (with_reducible first | exact HB.out | apply below_alloc | apply pw_below_drewN | apply below_drew1 | refine below_set ?_ GE178.out) | exact HB.out)))); (case aL => have := LMc49.out; omega); intro v203 w50 ho hb hg hat; rw [← Ny202.out] at ho; have n0_ := Aside0.mk (blk_grown (g := gb178) (o := .cells #[.int .i64 a0_0, .int .i64 a0_1, .int .i64 a0_2, .int .i64 a0_3, .int .i64 a0_4] 43 (0, 0)) (by (with_reducible repeat (first | refine blk_drewN ?_ _ | refine blk_drew ?_ | refine blk_alloc ?_ _)); exact BK178.out) hg (Kd.R_ne HO_5.out BK178.out (by decide))); have n1_ := Aside0.mk (hb); have n2_ := Aside0.mk (ho); clear BK178; clear HB; clear HO_5; have BK178 := n0_; have HB := n1_; have HO204 := n2_; clear n0_ n1_ n2_; clear ho hb hg hat)); try go_wp2_with (first | ((fail_if_success (have zz_ := pr199)); go_at_call 44; (with_reducible refine (impl_nan.calls  t198 _ A47.out).mono ?_); rintro e w' ⟨pr199, rfl, ⟨nd, rfl⟩⟩; (try first | exact ⟨rfl, _, World.drewN_drewN _ _ _⟩ | exact ⟨rfl, _, Eq.trans (World.drewN_drewN _ _ _) (congrArg (World.drewN _) (Nat.add_assoc _ _ _))⟩)) | ((fail_if_success (have zz_ := pr201)); go_at_call 44; (with_reducible refine (impl_nan.calls  t200 _ A48.out).mono ?_); rintro e w' ⟨pr201, rfl, ⟨nd, rfl⟩⟩; (try first | exact ⟨rfl, _, World.drewN_drewN _ _ _⟩ | exact ⟨rfl, _, Eq.trans (World.drewN_drewN _ _ _) (congrArg (World.drewN _) (Nat.add_assoc _ _ _))⟩)) | ((with_reducible refine gate_builtin (b := .append) (xs := #[.tmp 100, .tmp 104]) rfl ?_); at_builtin; refine Kd.R_append k84 (w0 := w) w.heap.size rfl (.tmp 100) (.tmp 104) 54 84 (.agg #[(.float .f64 0), (.float .f64 0)]) 16 rfl Try.underlying54 info84 rfl (by decide) (by omega) u5 x5_2 (⟨t198, t200⟩ : S84) [.float .f64 (un pr199 t198), .float .f64 (un pr201 t200)] (fun _ => True) (fun _ => False) rfl rfl ?aP (fun _ hk => hk.elim) ?aF ?aO ?aB ?aS ?aL ?_; (case aP => exact k84_mkM _ _ _ (⟨t198, t200⟩ : S84)); (case aB => exact (by repeat (first | (with_reducible first | exact HB.out | apply below_alloc | apply pw_below_drewN | apply below_drew1 | refine below_set ?_ GE178.out) | exact HB.out))); (case aF => exact (fun _ _ => trivial)); (case aO => exact (by (with_reducible repeat (first | apply Kd.R_alloc | apply Kd.R_drewN | apply Kd.R_drew)); exact HO_5.out)); (case aS => exact (below_size (by repeat (first | (with_reducible first | exact HB.out | apply below_alloc | apply pw_below_drewN | apply below_drew1 | refine below_set ?_ GE178.out) | exact HB.out)))); (case aL => have := LMc49.out; omega); intro v203 w50 ho hb hg hat; rw [← Ny202.out] at ho; have n0_ := Aside0.mk (blk_grown (g := gb178) (o := .cells #[.int .i64 a0_0, .int .i64 a0_1, .int .i64 a0_2, .int .i64 a0_3, .int .i64 a0_4] 43 (0, 0)) (by (with_reducible repeat (first | refine blk_drewN ?_ _ | refine blk_drew ?_ | refine blk_alloc ?_ _)); exact BK178.out) hg (Kd.R_ne HO_5.out BK178.out (by decide))); have n1_ := Aside0.mk (hb); have n2_ := Aside0.mk (ho); clear BK178; clear HB; clear HO_5; have BK178 := n0_; have HB := n1_; have HO204 := n2_; clear n0_ n1_ n2_; clear ho hb hg hat)))
                       go_roundg kj36
                       case measure => have := HK1.out; have := HK2.out; have := HJ12.out; have := HJ36.out; omega
                       case rel => exact ⟨(y202), (wrap64 (x7_2 + 1)), (by first | rfl | (simp; done) | (simp [*]; done)), H', ⟨by have := HK1.out; have := HK2.out; have := HJ12.out; have := HJ36.out; omega⟩, ⟨by (with_reducible repeat (first | apply Kd.R_alloc | apply Kd.R_drewN | apply Kd.R_drew)); exact HO204.out⟩, ⟨by (with_reducible repeat (first | refine blk_drewN ?_ _ | refine blk_drew ?_ | refine blk_alloc ?_ _)); exact BK178.out⟩, ⟨by repeat (first | (with_reducible first | exact HB.out | apply below_alloc | apply pw_below_drewN | apply below_drew1 | refine below_set ?_ GE178.out) | exact HB.out)⟩⟩
                      ·rw [if_neg c49] at H
                       exact absurd H (by simp)
                     ·replace c46 := Bool.eq_false_iff.mpr c46
                      subst c46
                      have H1 : (if x5_2.length < 8796093022208 then (impl_Grads.l1 kj36 l1 (x5_2 ++ [(⟨fdiv (fsub (rd_F l1 (ji25)) (rd_F l1 (ji28))) 4611686018427387904, fdiv (fsub (rd_F l1 (ji31)) (rd_F l1 (ji34))) 4611686018427387904⟩ : S84)]) x6_1 (wrap64 (x7_2 + 1)) a0_0 a0_1 a0_2 a0_3 a0_4) else (none)) = some r := by rw [if_neg (show ¬ (false = true) by decide)] at H; exact H
                      clear H
                      have H := H1
                      clear H1
                      by_cases c51 : x5_2.length < 8796093022208
                      ·rw [if_pos c51] at H
                       have LMc51 := Aside0.mk c51
                       clear c51
                       obtain ⟨y209, hy209⟩ : ∃ y_ : List (S84), y_ = (x5_2 ++ [(⟨fdiv (fsub (rd_F l1 (ji25)) (rd_F l1 (ji28))) 4611686018427387904, fdiv (fsub (rd_F l1 (ji31)) (rd_F l1 (ji34))) 4611686018427387904⟩ : S84)]) := ⟨_, rfl⟩
                       replace H : (impl_Grads.l1 kj36 l1 y209 x6_1 (wrap64 (x7_2 + 1)) a0_0 a0_1 a0_2 a0_3 a0_4) = some r := by first | (rw [hy209]; with_reducible exact H) | (have H2_ := (Option.bind_some _ _).symm.trans H; rw [hy209]; with_reducible exact H2_) | (have H2_ := (Option.bind_some _ _).symm.trans H; with_reducible exact H2_) | with_reducible exact H | (rw [hy209]; exact H) | exact H
                       have Ny209 := Aside0.mk hy209
                       clear hy209
                       have H' := Aside0.mk H
                       clear H
                       go_wp2_with (first | ((with_reducible refine gate_dst (N := 109) rfl ?_); refine fop_eventB rfl (N := 109) rfl (op := .sub) rfl rfl pf190_0 (rd_F l1 (ji25)) pf191_0 (rd_F l1 (ji28)) rfl rfl ?hA ?hB fsub rfl ?_; (case hA => first | rfl | exact (un_zero _).symm); (case hB => first | rfl | exact (un_zero _).symm); intro pb205 w52 hb; have n0_ := Aside0.mk (Kd.R_below (by (with_reducible repeat (first | apply Kd.R_alloc | apply Kd.R_drewN | apply Kd.R_drew)); exact HO_5.out) hb); have n1_ := Aside0.mk (blk_below (g := gb178) (o := .cells #[.int .i64 a0_0, .int .i64 a0_1, .int .i64 a0_2, .int .i64 a0_3, .int .i64 a0_4] 43 (0, 0)) (by (with_reducible repeat (first | refine blk_drewN ?_ _ | refine blk_drew ?_ | refine blk_alloc ?_ _)); exact BK178.out) hb); have n2_ := Aside0.mk (below_step (by repeat (first | (with_reducible first | exact HB.out | apply below_alloc | apply pw_below_drewN | apply below_drew1 | refine below_set ?_ GE178.out) | exact HB.out)) hb); clear HO_5; clear BK178; clear HB; have HO_5 := n0_; have BK178 := n1_; have HB := n2_; clear n0_ n1_ n2_; (try clear hb)) | ((with_reducible refine gate_dst (N := 110) rfl ?_); refine fop_eventB rfl (N := 110) rfl (op := .quo) rfl rfl pb205 (fsub (rd_F l1 (ji25)) (rd_F l1 (ji28))) 0 4611686018427387904 rfl rfl ?hA ?hB fdiv rfl ?_; (case hA => first | rfl | exact (un_zero _).symm); (case hB => first | rfl | exact (un_zero _).symm); intro pb206 w53 hb; have n0_ := Aside0.mk (Kd.R_below (by (with_reducible repeat (first | apply Kd.R_alloc | apply Kd.R_drewN | apply Kd.R_drew)); exact HO_5.out) hb); have n1_ := Aside0.mk (blk_below (g := gb178) (o := .cells #[.int .i64 a0_0, .int .i64 a0_1, .int .i64 a0_2, .int .i64 a0_3, .int .i64 a0_4] 43 (0, 0)) (by (with_reducible repeat (first | refine blk_drewN ?_ _ | refine blk_drew ?_ | refine blk_alloc ?_ _)); exact BK178.out) hb); have n2_ := Aside0.mk (below_step (by repeat (first | (with_reducible first | exact HB.out | apply below_alloc | apply pw_below_drewN | apply below_drew1 | refine below_set ?_ GE178.out) | exact HB.out)) hb); clear HO_5; clear BK178; clear HB; have HO_5 := n0_; have BK178 := n1_; have HB := n2_; clear n0_ n1_ n2_; (try clear hb)) | ((with_reducible refine gate_dst (N := 113) rfl ?_); refine fop_eventB rfl (N := 113) rfl (op := .sub) rfl rfl pf192_0 (rd_F l1 (ji31)) pf193_0 (rd_F l1 (ji34)) rfl rfl ?hA ?hB fsub rfl ?_; (case hA => first | rfl | exact (un_zero _).symm); (case hB => first | rfl | exact (un_zero _).symm); intro pb207 w54 hb; have n0_ := Aside0.mk (Kd.R_below (by (with_reducible repeat (first | apply Kd.R_alloc | apply Kd.R_drewN | apply Kd.R_drew)); exact HO_5.out) hb); have n1_ := Aside0.mk (blk_below (g := gb178) (o := .cells #[.int .i64 a0_0, .int .i64 a0_1, .int .i64 a0_2, .int .i64 a0_3, .int .i64 a0_4] 43 (0, 0)) (by (with_reducible repeat (first | refine blk_drewN ?_ _ | refine blk_drew ?_ | refine blk_alloc ?_ _)); exact BK178.out) hb); have n2_ := Aside0.mk (below_step (by repeat (first | (with_reducible first | exact HB.out | apply below_alloc | apply pw_below_drewN | apply below_drew1 | refine below_set ?_ GE178.out) | exact HB.out)) hb); clear HO_5; clear BK178; clear HB; have HO_5 := n0_; have BK178 := n1_; have HB := n2_; clear n0_ n1_ n2_; (try clear hb)) | ((with_reducible refine gate_dst (N := 114) rfl ?_); refine fop_eventB rfl (N := 114) rfl (op := .quo) rfl rfl pb207 (fsub (rd_F l1 (ji31)) (rd_F l1 (ji34))) 0 4611686018427387904 rfl rfl ?hA ?hB fdiv rfl ?_; (case hA => first | rfl | exact (un_zero _).symm); (case hB => first | rfl | exact (un_zero _).symm); intro pb208 w55 hb; have n0_ := Aside0.mk (Kd.R_below (by (with_reducible repeat (first | apply Kd.R_alloc | apply Kd.R_drewN | apply Kd.R_drew)); exact HO_5.out) hb); have n1_ := Aside0.mk (blk_below (g := gb178) (o := .cells #[.int .i64 a0_0, .int .i64 a0_1, .int .i64 a0_2, .int .i64 a0_3, .int .i64 a0_4] 43 (0, 0)) (by (with_reducible repeat (first | refine blk_drewN ?_ _ | refine blk_drew ?_ | refine blk_alloc ?_ _)); exact BK178.out) hb); have n2_ := Aside0.mk (below_step (by repeat (first | (with_reducible first | exact HB.out | apply below_alloc | apply pw_below_drewN | apply below_drew1 | refine below_set ?_ GE178.out) | exact HB.out)) hb); clear HO_5; clear BK178; clear HB; have HO_5 := n0_; have BK178 := n1_; have HB := n2_; clear n0_ n1_ n2_; (try clear hb)) | ((with_reducible refine gate_builtin (b := .append) (xs := #[.tmp 106, .tmp 116]) rfl ?_); at_builtin; refine Kd.R_append k84 (w0 := w) w.heap.size rfl (.tmp 106) (.tmp 116) 54 84 (.agg #[(.float .f64 0), (.float .f64 0)]) 16 rfl Try.underlying54 info84 rfl (by decide) (by omega) u5 x5_2 (⟨fdiv (fsub (rd_F l1 (ji25)) (rd_F l1 (ji28))) 4611686018427387904, fdiv (fsub (rd_F l1 (ji31)) (rd_F l1 (ji34))) 4611686018427387904⟩ : S84) [.float .f64 (un pb206 (fdiv (fsub (rd_F l1 (ji25)) (rd_F l1 (ji28))) 4611686018427387904)), .float .f64 (un pb208 (fdiv (fsub (rd_F l1 (ji31)) (rd_F l1 (ji34))) 4611686018427387904))] (fun _ => True) (fun _ => False) rfl rfl ?aP (fun _ hk => hk.elim) ?aF ?aO ?aB ?aS ?aL ?_; (case aP => exact k84_mkM _ _ _ (⟨fdiv (fsub (rd_F l1 (ji25)) (rd_F l1 (ji28))) 4611686018427387904, fdiv (fsub (rd_F l1 (ji31)) (rd_F l1 (ji34))) 4611686018427387904⟩ : S84)); (case aB => exact (by repeat (first | (with_reducible first | exact HB.out | apply below_alloc | apply pw_below_drewN | apply below_drew1 | refine below_set ?_ GE178.out) | exact HB.out))); (case aF => exact (fun _ _ => trivial)); (case aO => exact (by (with_reducible repeat (first | apply Kd.R_alloc | apply Kd.R_drewN | apply Kd.R_drew)); exact HO_5.out)); (case aS => exact (below_size (by repeat (first | (with_reducible first | exact HB.out | apply below_alloc | apply pw_below_drewN | apply below_drew1 | refine below_set ?_ GE178.out) | exact HB.out)))); (case aL => have := LMc51.out; omega); intro v210 w56 ho hb hg hat; rw [← Ny209.out] at ho; have n0_ := Aside0.mk (blk_grown (g := gb178) (o := .cells #[.int .i64 a0_0, .int .i64 a0_1, .int .i64 a0_2, .int .i64 a0_3, .int .i64 a0_4] 43 (0, 0)) (by (with_reducible repeat (first | refine blk_drewN ?_ _ | refine blk_drew ?_ | refine blk_alloc ?_ _)); exact BK178.out) hg (Kd.R_ne HO_5.out BK178.out (by decide))); have n1_ := Aside0.mk (hb); have n2_ := Aside0.mk (ho); clear BK178; clear HB; clear HO_5; have BK178 := n0_; have HB := n1_; have HO211 := n2_; clear n0_ n1_ n2_; clear ho hb hg hat))
                       repeat (go_quiet (first | ((with_reducible refine gate_dst (N := 109) rfl ?_); refine fop_eventB rfl (N := 109) rfl (op := .sub) rfl rfl pf190_0 (rd_F l1 (ji25)) pf191_0 (rd_F l1 (ji28)) rfl rfl ?hA ?hB fsub rfl ?_; (case hA => first | rfl | exact (un_zero _).symm); (case hB => first | rfl | exact (un_zero _).symm); intro pb205 w52 hb; have n0_ := Aside0.mk (Kd.R_below (by (with_reducible repeat (first | apply Kd.R_alloc | apply Kd.R_drewN | apply Kd.R_drew)); exact HO_5.out) hb); have n1_ := Aside0.mk (blk_below (g := gb178) (o := .cells #[.int .i64 a0_0, .int .i64 a0_1, .int .i64 a0_2, .int .i64 a0_3, .int .i64 a0_4] 43 (0, 0)) (by (with_reducible repeat (first | refine blk_drewN ?_ _ | refine blk_drew ?_ | refine blk_alloc ?_ _)); exact BK178.out) hb); have n2_ := Aside0.mk (below_step (by repeat (first | (with_reducible first | exact HB.out | apply below_alloc | apply pw_below_drewN | apply below_drew1 | refine below_set ?_ GE178.out) | exact HB.out)) hb); clear HO_5; clear BK178; clear HB; have HO_5 := n0_; have BK178 := n1_; have HB := n2_; clear n0_ n1_ n2_; (try clear hb)) | ((with_reducible refine gate_dst (N := 110) rfl ?_); refine fop_eventB rfl (N := 110) rfl (op := .quo) rfl rfl pb205 (fsub (rd_F l1 (ji25)) (rd_F l1 (ji28))) 0 4611686018427387904 rfl rfl ?hA ?hB fdiv rfl ?_; (case hA => first | rfl | exact (un_zero _).symm); (case hB => first | rfl | exact (un_zero _).symm); intro pb206 w53 hb; have n0_ := Aside0.mk (Kd.R_below (by (with_reducible repeat (first | apply Kd.R_alloc | apply Kd.R_drewN | apply Kd.R_drew)); exact HO_5.out) hb); have n1_ := Aside0.mk (blk_below (g := gb178) (o := .cells #[.int .i64 a0_0, .int .i64 a0_1, .int .i64 a0_2, .int .i64 a0_3, .int .i64 a0_4] 43 (0, 0)) (by (with_reducible repeat (first | refine blk_drewN ?_ _ | refine blk_drew ?_ | refine blk_alloc ?_ _)); exact BK178.out) hb); have n2_ := Aside0.mk (below_step (by repeat (first | (with_reducible first | exact HB.out | apply below_alloc | apply pw_below_drewN | apply below_drew1 | refine below_set ?_ GE178.out) | exact HB.out)) hb); clear HO_5; clear BK178; clear HB; have HO_5 := n0_; have BK178 := n1_; have HB := n2_; clear n0_ n1_ n2_; (try clear hb)) | ((with_reducible refine gate_dst (N := 113) rfl ?_); refine fop_eventB rfl (N := 113) rfl (op := .sub) rfl rfl pf192_0 (rd_F l1 (ji31)) pf193_0 (rd_F l1 (ji34)) rfl rfl ?hA ?hB fsub rfl ?_; (case hA => first | rfl | exact (un_zero _).symm); (case hB => first | rfl | exact (un_zero _).symm); intro pb207 w54 hb; have n0_ := Aside0.mk (Kd.R_below (by (with_reducible repeat (first | apply Kd.R_alloc | apply Kd.R_drewN | apply Kd.R_drew)); exact HO_5.out) hb); have n1_ := Aside0.mk (blk_below (g := gb178) (o := .cells #[.int .i64 a0_0, .int .i64 a0_1, .int .i64 a0_2, .int .i64 a0_3, .int .i64 a0_4] 43 (0, 0)) (by (with_reducible repeat (first | refine blk_drewN ?_ _ | refine blk_drew ?_ | refine blk_alloc ?_ _)); exact BK178.out) hb); have n2_ := Aside0.mk (below_step (by repeat (first | (with_reducible first | exact HB.out | apply below_alloc | apply pw_below_drewN | apply below_drew1 | refine below_set ?_ GE178.out) | exact HB.out)) hb); clear HO_5; clear BK178; clear HB; have HO_5 := n0_; have BK178 := n1_; have HB := n2_; clear n0_ n1_ n2_; (try clear hb)) | ((with_reducible refine gate_dst (N := 114) rfl ?_); refine fop_eventB rfl (N := 114) rfl (op := .quo) rfl rfl pb207 (fsub (rd_F l1 (ji31)) (rd_F l1 (ji34))) 0 4611686018427387904 rfl rfl ?hA ?hB fdiv rfl ?_; (case hA => first | rfl | exact (un_zero _).symm); (case hB => first | rfl | exact (un_zero _).symm); intro pb208 w55 hb; have n0_ := Aside0.mk (Kd.R_below (by (with_reducible repeat (first | apply Kd.R_alloc | apply Kd.R_drewN | apply Kd.R_drew)); exact HO_5.out) hb); have n1_ := Aside0.mk (blk_below (g := gb178) (o := .cells #[.int .i64 a0_0, .int .i64 a0_1, .int .i64 a0_2, .int .i64 a0_3, .int .i64 a0_4] 43 (0, 0)) (by (with_reducible repeat (first | refine blk_drewN ?_ _ | refine blk_drew ?_ | refine blk_alloc ?_ _)); exact BK178.out) hb); have n2_ := Aside0.mk (below_step (by repeat (first | (with_reducible first | exact HB.out | apply below_alloc | apply pw_below_drewN | apply below_drew1 | refine below_set ?_ GE178.out) | exact HB.out)) hb); clear HO_5; clear BK178; clear HB; have HO_5 := n0_; have BK178 := n1_; have HB := n2_; clear n0_ n1_ n2_; (try clear hb)) | ((with_reducible refine gate_builtin (b := .append) (xs := #[.tmp 106, .tmp 116]) rfl ?_); at_builtin; refine Kd.R_append k84 (w0 := w) w.heap.size rfl (.tmp 106) (.tmp 116) 54 84 (.agg #[(.float .f64 0), (.float .f64 0)]) 16 rfl Try.underlying54 info84 rfl (by decide) (by omega) u5 x5_2 (⟨fdiv (fsub (rd_F l1 (ji25)) (rd_F l1 (ji28))) 4611686018427387904, fdiv (fsub (rd_F l1 (ji31)) (rd_F l1 (ji34))) 4611686018427387904⟩ : S84) [.float .f64 (un pb206 (fdiv (fsub (rd_F l1 (ji25)) (rd_F l1 (ji28))) 4611686018427387904)), .float .f64 (un pb208 (fdiv (fsub (rd_F l1 (ji31)) (rd_F l1 (ji34))) 4611686018427387904))] (fun _ => True) (fun _ => False) rfl rfl ?aP (fun _ hk => hk.elim) ?aF ?aO ?aB ?aS ?aL ?_; (case aP => exact k84_mkM _ _ _ (⟨fdiv (fsub (rd_F l1 (ji25)) (rd_F l1 (ji28))) 4611686018427387904, fdiv (fsub (rd_F l1 (ji31)) (rd_F l1 (ji34))) 4611686018427387904⟩ : S84)); (case aB => exact (by repeat (first | (with_reducible first | exact HB.out | apply below_alloc | apply pw_below_drewN | apply below_drew1 | refine below_set ?_ GE178.out) | exact HB.out))); (case aF => exact (fun _ _ => trivial)); (case aO => exact (by (with_reducible repeat (first | apply Kd.R_alloc | apply Kd.R_drewN | apply Kd.R_drew)); exact HO_5.out)); (case aS => exact (below_size (by repeat (first | (with_reducible first | exact HB.out | apply below_alloc | apply pw_below_drewN | apply below_drew1 | refine below_set ?_ GE178.out) | exact HB.out)))); (case aL => have := LMc51.out; omega); intro v210 w56 ho hb hg hat; rw [← Ny209.out] at ho; have n0_ := Aside0.mk (blk_grown (g := gb178) (o := .cells #[.int .i64 a0_0, .int .i64 a0_1, .int .i64 a0_2, .int .i64 a0_3, .int .i64 a0_4] 43 (0, 0)) (by (with_reducible repeat (first | refine blk_drewN ?_ _ | refine blk_drew ?_ | refine blk_alloc ?_ _)); exact BK178.out) hg (Kd.R_ne HO_5.out BK178.out (by decide))); have n1_ := Aside0.mk (hb); have n2_ := Aside0.mk (ho); clear BK178; clear HB; clear HO_5; have BK178 := n0_; have HB := n1_; have HO211 := n2_; clear n0_ n1_ n2_; clear ho hb hg hat)); try go_wp2_with (first | ((with_reducible refine gate_dst (N := 109) rfl ?_); refine fop_eventB rfl (N := 109) rfl (op := .sub) rfl rfl pf190_0 (rd_F l1 (ji25)) pf191_0 (rd_F l1 (ji28)) rfl rfl ?hA ?hB fsub rfl ?_; (case hA => first | rfl | exact (un_zero _).symm); (case hB => first | rfl | exact (un_zero _).symm); intro pb205 w52 hb; have n0_ := Aside0.mk (Kd.R_below (by (with_reducible repeat (first | apply Kd.R_alloc | apply Kd.R_drewN | apply Kd.R_drew)); exact HO_5.out) hb); have n1_ := Aside0.mk (blk_below (g := gb178) (o := .cells #[.int .i64 a0_0, .int .i64 a0_1, .int .i64 a0_2, .int .i64 a0_3, .int .i64 a0_4] 43 (0, 0)) (by (with_reducible repeat (first | refine blk_drewN ?_ _ | refine blk_drew ?_ | refine blk_alloc ?_ _)); exact BK178.out) hb); have n2_ := Aside0.mk (below_step (by repeat (first | (with_reducible first | exact HB.out | apply below_alloc | apply pw_below_drewN | apply below_drew1 | refine below_set ?_ GE178.out) | exact HB.out)) hb); clear HO_5; clear BK178; clear HB; have HO_5 := n0_; have BK178 := n1_; have HB := n2_; clear n0_ n1_ n2_; (try clear hb)) | ((with_reducible refine gate_dst (N := 110) rfl ?_); refine fop_eventB rfl (N := 110) rfl (op := .quo) rfl rfl pb205 (fsub (rd_F l1 (ji25)) (rd_F l1 (ji28))) 0 4611686018427387904 rfl rfl ?hA ?hB fdiv rfl ?_; (case hA => first | rfl | exact (un_zero _).symm); (case hB => first | rfl | exact (un_zero _).symm); intro pb206 w53 hb; have n0_ := Aside0.mk (Kd.R_below (by (with_reducible repeat (first | apply Kd.R_alloc | apply Kd.R_drewN | apply Kd.R_drew)); exact HO_5.out) hb); have n1_ := Aside0.mk (blk_below (g := gb178) (o := .cells #[.int .i64 a0_0, .int .i64 a0_1, .int .i64 a0_2, .int .i64 a0_3, .int .i64 a0_4] 43 (0, 0)) (by (with_reducible repeat (first | refine blk_drewN ?_ _ | refine blk_drew ?_ | refine blk_alloc ?_ _)); exact BK178.out) hb); have n2_ := Aside0.mk (below_step (by repeat (first | (with_reducible first | exact HB.out | apply below_alloc | apply pw_below_drewN | apply below_drew1 | refine below_set ?_ GE178.out) | exact HB.out)) hb); clear HO_5; clear BK178; clear HB; have HO_5 := n0_; have BK178 := n1_; have HB := n2_; clear n0_ n1_ n2_; (try clear hb)) | ((with_reducible refine gate_dst (N := 113) rfl ?_); refine fop_eventB rfl (N := 113) rfl (op := .sub) rfl rfl pf192_0 (rd_F l1 (ji31)) pf193_0 (rd_F l1 (ji34)) rfl rfl ?hA ?hB fsub rfl ?_; (case hA => first | rfl | exact (un_zero _).symm); (case hB => first | rfl | exact (un_zero _).symm); intro pb207 w54 hb; have n0_ := Aside0.mk (Kd.R_below (by (with_reducible repeat (first | apply Kd.R_alloc | apply Kd.R_drewN | apply Kd.R_drew)); exact HO_5.out) hb); have n1_ := Aside0.mk (blk_below (g := gb178) (o := .cells #[.int .i64 a0_0, .int .i64 a0_1, .int .i64 a0_2, .int .i64 a0_3, .int .i64 a0_4] 43 (0, 0)) (by (with_reducible repeat (first | refine blk_drewN ?_ _ | refine blk_drew ?_ | refine blk_alloc ?_ _)); exact BK178.out) hb); have n2_ := Aside0.mk (below_step (by repeat (first | (with_reducible first | exact HB.out | apply below_alloc | apply pw_below_drewN | apply below_drew1 | refine below_set ?_ GE178.out) | exact HB.out)) hb); clear HO_5; clear BK178; clear HB; have HO_5 := n0_; have BK178 := n1_; have HB := n2_; clear n0_ n1_ n2_; (try clear hb)) | ((with_reducible refine gate_dst (N := 114) rfl ?_); refine fop_eventB rfl (N := 114) rfl (op := .quo) rfl rfl pb207 (fsub (rd_F l1 (ji31)) (rd_F l1 (ji34))) 0 4611686018427387904 rfl rfl ?hA ?hB fdiv rfl ?_; (case hA => first | rfl | exact (un_zero _).symm); (case hB => first | rfl | exact (un_zero _).symm); intro pb208 w55 hb; have n0_ := Aside0.mk (Kd.R_below (by (with_reducible repeat (first | apply Kd.R_alloc | apply Kd.R_drewN | apply Kd.R_drew)); exact HO_5.out) hb); have n1_ := Aside0.mk (blk_below (g := gb178) (o := .cells #[.int .i64 a0_0, .int .i64 a0_1, .int .i64 a0_2, .int .i64 a0_3, .int .i64 a0_4] 43 (0, 0)) (by (with_reducible repeat (first | refine blk_drewN ?_ _ | refine blk_drew ?_ | refine blk_alloc ?_ _)); exact BK178.out) hb); have n2_ := Aside0.mk (below_step (by repeat (first | (with_reducible first | exact HB.out | apply below_alloc | apply pw_below_drewN | apply below_drew1 | refine below_set ?_ GE178.out) | exact HB.out)) hb); clear HO_5; clear BK178; clear HB; have HO_5 := n0_; have BK178 := n1_; have HB := n2_; clear n0_ n1_ n2_; (try clear hb)) | ((with_reducible refine gate_builtin (b := .append) (xs := #[.tmp 106, .tmp 116]) rfl ?_); at_builtin; refine Kd.R_append k84 (w0 := w) w.heap.size rfl (.tmp 106) (.tmp 116) 54 84 (.agg #[(.float .f64 0), (.float .f64 0)]) 16 rfl Try.underlying54 info84 rfl (by decide) (by omega) u5 x5_2 (⟨fdiv (fsub (rd_F l1 (ji25)) (rd_F l1 (ji28))) 4611686018427387904, fdiv (fsub (rd_F l1 (ji31)) (rd_F l1 (ji34))) 4611686018427387904⟩ : S84) [.float .f64 (un pb206 (fdiv (fsub (rd_F l1 (ji25)) (rd_F l1 (ji28))) 4611686018427387904)), .float .f64 (un pb208 (fdiv (fsub (rd_F l1 (ji31)) (rd_F l1 (ji34))) 4611686018427387904))] (fun _ => True) (fun _ => False) rfl rfl ?aP (fun _ hk => hk.elim) ?aF ?aO ?aB ?aS ?aL ?_; (case aP => exact k84_mkM _ _ _ (⟨fdiv (fsub (rd_F l1 (ji25)) (rd_F l1 (ji28))) 4611686018427387904, fdiv (fsub (rd_F l1 (ji31)) (rd_F l1 (ji34))) 4611686018427387904⟩ : S84)); (case aB => exact (by repeat (first | (with_reducible first | exact HB.out | apply below_alloc | apply pw_below_drewN | apply below_drew1 | refine below_set ?_ GE178.out) | exact HB.out))); (case aF => exact (fun _ _ => trivial)); (case aO => exact (by (with_reducible repeat (first | apply Kd.R_alloc | apply Kd.R_drewN | apply Kd.R_drew)); exact HO_5.out)); (case aS => exact (below_size (by repeat (first | (with_reducible first | exact HB.out | apply below_alloc | apply pw_below_drewN | apply below_drew1 | refine below_set ?_ GE178.out) | exact HB.out)))); (case aL => have := LMc51.out; omega); intro v210 w56 ho hb hg hat; rw [← Ny209.out] at ho; have n0_ := Aside0.mk (blk_grown (g := gb178) (o := .cells #[.int .i64 a0_0, .int .i64 a0_1, .int .i64 a0_2, .int .i64 a0_3, .int .i64 a0_4] 43 (0, 0)) (by (with_reducible repeat (first | refine blk_drewN ?_ _ | refine blk_drew ?_ | refine blk_alloc ?_ _)); exact BK178.out) hg (Kd.R_ne HO_5.out BK178.out (by decide))); have n1_ := Aside0.mk (hb); have n2_ := Aside0.mk (ho); clear BK178; clear HB; clear HO_5; have BK178 := n0_; have HB := n1_; have HO211 := n2_; clear n0_ n1_ n2_; clear ho hb hg hat)))
                       go_roundg kj36
                       case measure => have := HK1.out; have := HK2.out; have := HJ12.out; have := HJ36.out; omega
                       case rel => exact ⟨(y209), (wrap64 (x7_2 + 1)), (by first | rfl | (simp; done) | (simp [*]; done)), H', ⟨by have := HK1.out; have := HK2.out; have := HJ12.out; have := HJ36.out; omega⟩, ⟨by (with_reducible repeat (first | apply Kd.R_alloc | apply Kd.R_drewN | apply Kd.R_drew)); exact HO211.out⟩, ⟨by (with_reducible repeat (first | refine blk_drewN ?_ _ | refine blk_drew ?_ | refine blk_alloc ?_ _)); exact BK178.out⟩, ⟨by repeat (first | (with_reducible first | exact HB.out | apply below_alloc | apply pw_below_drewN | apply below_drew1 | refine below_set ?_ GE178.out) | exact HB.out)⟩⟩
                      ·rw [if_neg c51] at H
                       exact absurd H (by simp)
                  ·rw [if_neg c36] at H
                   exact absurd H (by simp)
                 ·rw [if_neg c35] at H
                  exact absurd H (by simp)
                ·rw [if_neg c33] at H
                 exact absurd H (by simp)
               ·rw [if_neg c32] at H
                exact absurd H (by simp)
              ·rw [if_neg c30] at H
               exact absurd H (by simp)
             ·rw [if_neg c29] at H
              exact absurd H (by simp)
            ·rw [if_neg c27] at H
             exact absurd H (by simp)
           ·rw [if_neg c26] at H
            exact absurd H (by simp)
       ·rw [if_neg c12] at H
        have c12b0 : decide (x7_2 < a0_1) = false := decide_eq_false c12
        clear c12
        have H' := Aside0.mk H
        clear H
        have hcz57_0 : wr.cell? ⟨gb178, 0, none⟩ = some (.int .i64 a0_0) := (blk_cell BK178.out 0).trans rfl
        have hcz57_1 : wr.cell? ⟨gb178, 1, none⟩ = some (.int .i64 a0_1) := (blk_cell BK178.out 1).trans rfl
        have hcz57_2 : wr.cell? ⟨gb178, 2, none⟩ = some (.int .i64 a0_2) := (blk_cell BK178.out 2).trans rfl
        have hcz57_3 : wr.cell? ⟨gb178, 3, none⟩ = some (.int .i64 a0_3) := (blk_cell BK178.out 3).trans rfl
        have hcz57_4 : wr.cell? ⟨gb178, 4, none⟩ = some (.int .i64 a0_4) := (blk_cell BK178.out 4).trans rfl
        have hfz57_0 := blk_frozen BK178.out 0
        have hfz57_1 := blk_frozen BK178.out 1
        have hfz57_2 := blk_frozen BK178.out 2
        have hfz57_3 := blk_frozen BK178.out 3
        have hfz57_4 := blk_frozen BK178.out 4
        go_wp2
        repeat (go_quiet (fail); try go_wp2)
        go_roundg k2
        case measure => have := HK1.out; have := HK2.out; omega
        case rel => exact ⟨(x5_2), (wrap64 (x6_1 + 1)), (by first | rfl | (simp; done) | (simp [*]; done)), H', ⟨by have := HK1.out; have := HK2.out; omega⟩, ⟨by (with_reducible repeat (first | apply Kd.R_alloc | apply Kd.R_drewN | apply Kd.R_drew)); exact HO_5.out⟩, ⟨by (with_reducible repeat (first | refine blk_drewN ?_ _ | refine blk_drew ?_ | refine blk_alloc ?_ _)); exact BK178.out⟩, ⟨by repeat (first | (with_reducible first | exact HB.out | apply below_alloc | apply pw_below_drewN | apply below_drew1 | refine below_set ?_ GE178.out) | exact HB.out)⟩⟩
    ·rw [if_neg c10] at H
     have c10b0 : decide (x6_1 < a0_0) = false := decide_eq_false c10
     clear c10
     obtain rfl := Option.some.inj H
     have hcz58_0 : wr.cell? ⟨gb178, 0, none⟩ = some (.int .i64 a0_0) := (blk_cell BK178.out 0).trans rfl
     have hcz58_1 : wr.cell? ⟨gb178, 1, none⟩ = some (.int .i64 a0_1) := (blk_cell BK178.out 1).trans rfl
     have hcz58_2 : wr.cell? ⟨gb178, 2, none⟩ = some (.int .i64 a0_2) := (blk_cell BK178.out 2).trans rfl
     have hcz58_3 : wr.cell? ⟨gb178, 3, none⟩ = some (.int .i64 a0_3) := (blk_cell BK178.out 3).trans rfl
     have hcz58_4 : wr.cell? ⟨gb178, 4, none⟩ = some (.int .i64 a0_4) := (blk_cell BK178.out 4).trans rfl
     have hfz58_0 := blk_frozen BK178.out 0
     have hfz58_1 := blk_frozen BK178.out 1
     have hfz58_2 := blk_frozen BK178.out 2
     have hfz58_3 := blk_frozen BK178.out 3
     have hfz58_4 := blk_frozen BK178.out 4
     go_wp2
     repeat (go_quiet (fail); try go_wp2)
     go_ret
     exact ⟨_, by first | rfl | (simp [errW_none, errW_some] <;> rfl) | (simp [*, errW_none, errW_some] <;> rfl), by (with_reducible repeat (first | apply Kd.R_alloc | apply Kd.R_drewN | apply Kd.R_drew)); exact HO_5.out, by repeat (first | (with_reducible first | exact HB.out | apply below_alloc | apply pw_below_drewN | apply below_drew1 | refine below_set ?_ GE178.out) | exact HB.out)⟩
 ·replace c4 := Bool.eq_false_iff.mpr c4
  subst c4
  have H1 : (some ([] : List (S84))) = some r := by rw [if_neg (show ¬ (false = true) by decide)] at H; exact H
  clear H
  have H := H1
  clear H1
  obtain rfl := Option.some.inj H
  go_enter Try.func32, Try.ntmps32
  go_wp2_with (first | ((with_reducible refine gate_dst (N := 2) rfl ?_); refine box_event ?hg (N := 2) ?hd (cs := #[.int .i64 a0_0, .int .i64 a0_1, .int .i64 a0_2, .int .i64 a0_3, .int .i64 a0_4]) (t := 43) ?hr ?_; (case hd => rfl); (case hg => rfl); (case hr => first | (go_simp; done) | (go_simp; rfl)); intro gb178 hg w59 hbox hb; have n0_ := Aside0.mk (below_step (by repeat (first | (with_reducible first | exact HB.out | apply below_alloc | apply pw_below_drewN | apply below_drew1) | exact HB.out)) hb); have n1_ := Aside0.mk (hbox); have n2_ := Aside0.mk ((by rw [hg]; exact (below_size (by repeat (first | (with_reducible first | exact HB.out | apply below_alloc | apply pw_below_drewN | apply below_drew1) | exact HB.out))) : w.heap.size ≤ gb178)); have n3_ := Aside0.mk ((by rw [hg]; exact (below_size (by repeat (first | (with_reducible first | exact HB.out | apply below_alloc | apply pw_below_drewN | apply below_drew1) | exact HB.out))) : w.heap.size ≤ gb178)); clear HB; have HB := n0_; have BK178 := n1_; have GW178 := n2_; have GE178 := n3_; clear n0_ n1_ n2_ n3_; clear hb hbox hg; have hcz60_0 : w59.cell? ⟨gb178, 0, none⟩ = some (.int .i64 a0_0) := (blk_cell BK178.out 0).trans rfl; have hcz60_1 : w59.cell? ⟨gb178, 1, none⟩ = some (.int .i64 a0_1) := (blk_cell BK178.out 1).trans rfl; have hcz60_2 : w59.cell? ⟨gb178, 2, none⟩ = some (.int .i64 a0_2) := (blk_cell BK178.out 2).trans rfl; have hcz60_3 : w59.cell? ⟨gb178, 3, none⟩ = some (.int .i64 a0_3) := (blk_cell BK178.out 3).trans rfl; have hcz60_4 : w59.cell? ⟨gb178, 4, none⟩ = some (.int .i64 a0_4) := (blk_cell BK178.out 4).trans rfl; have hfz60_0 := blk_frozen BK178.out 0; have hfz60_1 := blk_frozen BK178.out 1; have hfz60_2 := blk_frozen BK178.out 2; have hfz60_3 := blk_frozen BK178.out 3; have hfz60_4 := blk_frozen BK178.out 4) | (go_at_call 50; (with_reducible refine (impl_fits.calls a0_0 a0_1 a0_2 a0_3 a0_4 _ _ l1 false _ ?side1 ?side2 A3.out).mono ?_); (case side1 => repeat (first | exact (Kd.C_below HR1.out HB.out) | (with_reducible refine Kd.C_alloc ?_ _) | (with_reducible refine Kd.C_drewN ?_ _) | (with_reducible refine Kd.C_drew ?_))); (case side2 => exact HC1.out); rintro e w61 ⟨rfl, hb⟩; have n0_ := Aside0.mk (blk_below (g := gb178) (o := .cells #[.int .i64 a0_0, .int .i64 a0_1, .int .i64 a0_2, .int .i64 a0_3, .int .i64 a0_4] 43 (0, 0)) (by (with_reducible repeat (first | refine blk_drewN ?_ _ | refine blk_drew ?_ | refine blk_alloc ?_ _)); exact BK178.out) hb); have n1_ := Aside0.mk (below_step (by repeat (first | (with_reducible first | exact HB.out | apply below_alloc | apply pw_below_drewN | apply below_drew1 | refine below_set ?_ GE178.out) | exact HB.out)) hb); clear BK178; clear HB; have BK178 := n0_; have HB := n1_; clear n0_ n1_; (try clear hb); (try clear hb2); (try clear hk); (try clear hi)))
  repeat (go_quiet (first | ((with_reducible refine gate_dst (N := 2) rfl ?_); refine box_event ?hg (N := 2) ?hd (cs := #[.int .i64 a0_0, .int .i64 a0_1, .int .i64 a0_2, .int .i64 a0_3, .int .i64 a0_4]) (t := 43) ?hr ?_; (case hd => rfl); (case hg => rfl); (case hr => first | (go_simp; done) | (go_simp; rfl)); intro gb178 hg w59 hbox hb; have n0_ := Aside0.mk (below_step (by repeat (first | (with_reducible first | exact HB.out | apply below_alloc | apply pw_below_drewN | apply below_drew1) | exact HB.out)) hb); have n1_ := Aside0.mk (hbox); have n2_ := Aside0.mk ((by rw [hg]; exact (below_size (by repeat (first | (with_reducible first | exact HB.out | apply below_alloc | apply pw_below_drewN | apply below_drew1) | exact HB.out))) : w.heap.size ≤ gb178)); have n3_ := Aside0.mk ((by rw [hg]; exact (below_size (by repeat (first | (with_reducible first | exact HB.out | apply below_alloc | apply pw_below_drewN | apply below_drew1) | exact HB.out))) : w.heap.size ≤ gb178)); clear HB; have HB := n0_; have BK178 := n1_; have GW178 := n2_; have GE178 := n3_; clear n0_ n1_ n2_ n3_; clear hb hbox hg; have hcz60_0 : w59.cell? ⟨gb178, 0, none⟩ = some (.int .i64 a0_0) := (blk_cell BK178.out 0).trans rfl; have hcz60_1 : w59.cell? ⟨gb178, 1, none⟩ = some (.int .i64 a0_1) := (blk_cell BK178.out 1).trans rfl; have hcz60_2 : w59.cell? ⟨gb178, 2, none⟩ = some (.int .i64 a0_2) := (blk_cell BK178.out 2).trans rfl; have hcz60_3 : w59.cell? ⟨gb178, 3, none⟩ = some (.int .i64 a0_3) := (blk_cell BK178.out 3).trans rfl; have hcz60_4 : w59.cell? ⟨gb178, 4, none⟩ = some (.int .i64 a0_4) := (blk_cell BK178.out 4).trans rfl; have hfz60_0 := blk_frozen BK178.out 0; have hfz60_1 := blk_frozen BK178.out 1; have hfz60_2 := blk_frozen BK178.out 2; have hfz60_3 := blk_frozen BK178.out 3; have hfz60_4 := blk_frozen BK178.out 4) | (go_at_call 50; (with_reducible refine (impl_fits.calls a0_0 a0_1 a0_2 a0_3 a0_4 _ _ l1 false _ ?side1 ?side2 A3.out).mono ?_); (case side1 => repeat (first | exact (Kd.C_below HR1.out HB.out) | (with_reducible refine Kd.C_alloc ?_ _) | (with_reducible refine Kd.C_drewN ?_ _) | (with_reducible refine Kd.C_drew ?_))); (case side2 => exact HC1.out); rintro e w61 ⟨rfl, hb⟩; have n0_ := Aside0.mk (blk_below (g := gb178) (o := .cells #[.int .i64 a0_0, .int .i64 a0_1, .int .i64 a0_2, .int .i64 a0_3, .int .i64 a0_4] 43 (0, 0)) (by (with_reducible repeat (first | refine blk_drewN ?_ _ | refine blk_drew ?_ | refine blk_alloc ?_ _)); exact BK178.out) hb); have n1_ := Aside0.mk (below_step (by repeat (first | (with_reducible first | exact HB.out | apply below_alloc | apply pw_below_drewN | apply below_drew1 | refine below_set ?_ GE178.out) | exact HB.out)) hb); clear BK178; clear HB; have BK178 := n0_; have HB := n1_; clear n0_ n1_; (try clear hb); (try clear hb2); (try clear hk); (try clear hi))); try go_wp2_with (first | ((with_reducible refine gate_dst (N := 2) rfl ?_); refine box_event ?hg (N := 2) ?hd (cs := #[.int .i64 a0_0, .int .i64 a0_1, .int .i64 a0_2, .int .i64 a0_3, .int .i64 a0_4]) (t := 43) ?hr ?_; (case hd => rfl); (case hg => rfl); (case hr => first | (go_simp; done) | (go_simp; rfl)); intro gb178 hg w59 hbox hb; have n0_ := Aside0.mk (below_step (by repeat (first | (with_reducible first | exact HB.out | apply below_alloc | apply pw_below_drewN | apply below_drew1) | exact HB.out)) hb); have n1_ := Aside0.mk (hbox); have n2_ := Aside0.mk ((by rw [hg]; exact (below_size (by repeat (first | (with_reducible first | exact HB.out | apply below_alloc | apply pw_below_drewN | apply below_drew1) | exact HB.out))) : w.heap.size ≤ gb178)); have n3_ := Aside0.mk ((by rw [hg]; exact (below_size (by repeat (first | (with_reducible first | exact HB.out | apply below_alloc | apply pw_below_drewN | apply below_drew1) | exact HB.out))) : w.heap.size ≤ gb178)); clear HB; have HB := n0_; have BK178 := n1_; have GW178 := n2_; have GE178 := n3_; clear n0_ n1_ n2_ n3_; clear hb hbox hg; have hcz60_0 : w59.cell? ⟨gb178, 0, none⟩ = some (.int .i64 a0_0) := (blk_cell BK178.out 0).trans rfl; have hcz60_1 : w59.cell? ⟨gb178, 1, none⟩ = some (.int .i64 a0_1) := (blk_cell BK178.out 1).trans rfl; have hcz60_2 : w59.cell? ⟨gb178, 2, none⟩ = some (.int .i64 a0_2) := (blk_cell BK178.out 2).trans rfl; have hcz60_3 : w59.cell? ⟨gb178, 3, none⟩ = some (.int .i64 a0_3) := (blk_cell BK178.out 3).trans rfl; have hcz60_4 : w59.cell? ⟨gb178, 4, none⟩ = some (.int .i64 a0_4) := (blk_cell BK178.out 4).trans rfl; have hfz60_0 := blk_frozen BK178.out 0; have hfz60_1 := blk_frozen BK178.out 1; have hfz60_2 := blk_frozen BK178.out 2; have hfz60_3 := blk_frozen BK178.out 3; have hfz60_4 := blk_frozen BK178.out 4) | (go_at_call 50; (with_reducible refine (impl_fits.calls a0_0 a0_1 a0_2 a0_3 a0_4 _ _ l1 false _ ?side1 ?side2 A3.out).mono ?_); (case side1 => repeat (first | exact (Kd.C_below HR1.out HB.out) | (with_reducible refine Kd.C_alloc ?_ _) | (with_reducible refine Kd.C_drewN ?_ _) | (with_reducible refine Kd.C_drew ?_))); (case side2 => exact HC1.out); rintro e w61 ⟨rfl, hb⟩; have n0_ := Aside0.mk (blk_below (g := gb178) (o := .cells #[.int .i64 a0_0, .int .i64 a0_1, .int .i64 a0_2, .int .i64 a0_3, .int .i64 a0_4] 43 (0, 0)) (by (with_reducible repeat (first | refine blk_drewN ?_ _ | refine blk_drew ?_ | refine blk_alloc ?_ _)); exact BK178.out) hb); have n1_ := Aside0.mk (below_step (by repeat (first | (with_reducible first | exact HB.out | apply below_alloc | apply pw_below_drewN | apply below_drew1 | refine below_set ?_ GE178.out) | exact HB.out)) hb); clear BK178; clear HB; have BK178 := n0_; have HB := n1_; clear n0_ n1_; (try clear hb); (try clear hb2); (try clear hk); (try clear hi))))
  go_ret
  exact ⟨_, by first | rfl | (simp [errW_none, errW_some] <;> rfl) | (simp [*, errW_none, errW_some] <;> rfl), by first | exact Kd.R_nil _ _ _ _ _ | exact Kd.N_nil _ _ _ _ _ | exact Kd.V_nil _ _ _ _ _ | exact Kd.Q_nil _ _ _ _ _ | exact Kd.S_nil _ _ _ _ _, by repeat (first | (with_reducible first | exact HB.out | apply below_alloc | apply pw_below_drewN | apply below_drew1 | refine below_set ?_ GE178.out) | exact HB.out)⟩

end Go.Proofs.Ytaophbkedbphnaa.Q
