/- Plain Lean functions with the same answers as the Go functions of this seat, and a proof for each that the Go code comes to just these answers; no condition. Written by a program of this session (the kit's printer, turned). -/
import Derived.Test.YtcdghhihfjojaabQx0
import Derived.Test.YtcdghhihfjojaabQx10
import Derived.Test.YtcdghhihfjojaabQx11
namespace Go.Proofs.Ytcdghhihfjojaab.Q
open Go.RowKit Go.Proofs.YtcdghhihfjojaabW.PrintWords Go.Proofs.YtcdghhihfjojaabW.PrintLast Go.Proofs.YtcdghhihfjojaabW.PrintMore Go.Proofs.YtcdghhihfjojaabW.PrintFlt
attribute [local go_sem] cmp_lss cmp_leq cmp_gtr cmp_geq cmp_eql cmp_neq flt_l flt_r fgt_l fgt_r feq_l feq_r fne_l fne_r ord_lt ord_gt ord_eq ord_ne conv_int foi_fold run_store_flt
attribute [local go_sem] max2_int min2_int max_two min_two max_three min_three max_four min_four   -- for this text's walks alone
set_option linter.unusedVariables false
set_option linter.unusedSimpArgs false

/-! ### impl_Cells: function 10 -/
mutual
def impl_Cells.l0 : Nat → Int → List Int → Int → Int → Int → Int → Int → List Int → Option (List Int)
 | 0, _, _, _, _, _, _, _, _ => none
 | k + 1, x1, x5, x6, x24, x25, x179000, x179001, x179002 => if x25 < x24 then (if 0 ≤ x25 then (if x25 < (x5.length : Int) then (if (rd x5 x25) > 0 then (impl_Cells.j1 k x1 x5 x6 x25 x24 x25 true x179000 x179001 x179002) else (if x179001 = 0 then (none) else ((impl_Box_high.f x179000 x179001 x179002 (wrap64 (Int.tdiv x25 x179001)) (Int.tmod x25 x179001) x1).bind fun t184 => (impl_Cells.j1 k x1 x5 x6 x25 x24 x25 (!t184) x179000 x179001 x179002)))) else (none)) else (none)) else (some x5)
def impl_Cells.j1 : Nat → Int → List Int → Int → Int → Int → Int → Bool → Int → Int → List Int → Option (List Int)
 | 0, _, _, _, _, _, _, _, _, _, _ => none
 | k + 1, x1, x5, x6, x7, x24, x25, x46, x179000, x179001, x179002 => if x46 = true then (impl_Cells.l0 k x1 x5 x6 x24 (wrap64 (x25 + 1)) x179000 x179001 x179002) else (if 0 ≤ x7 then (if x7 < (x5.length : Int) then (impl_Cells.l1 k x1 (x5.set (x7 : Int).toNat (wrap64 (x6 + 1))) (wrap64 (x6 + 1)) (([x7] : List Int)) x24 x25 x179000 x179001 x179002) else (none)) else (none))
def impl_Cells.l1 : Nat → Int → List Int → Int → List Int → Int → Int → Int → Int → List Int → Option (List Int)
 | 0, _, _, _, _, _, _, _, _, _ => none
 | k + 1, x1, x5, x6, x8, x24, x25, x179000, x179001, x179002 => if (x8.length : Int) > 0 then (if 0 < (x8.length : Int) then (if 1 ≤ (x8.length : Int) then (if x179001 = 0 then (none) else ((some (([(⟨1, 0⟩ : S60), (⟨0, 1⟩ : S60), (⟨(-1), 0⟩ : S60), (⟨0, (-1)⟩ : S60)] : List (S60)) : List (S60))).bind fun y193 => (impl_Cells.l2 k x1 x5 x6 (x8.drop (1 : Int).toNat) (wrap64 (Int.tdiv (rd x8 0) x179001)) (Int.tmod (rd x8 0) x179001) x24 x25 y193 (y193.length : Int) 0 x179000 x179001 x179002))) else (none)) else (none)) else (impl_Cells.l0 k x1 x5 x6 x24 (wrap64 (x25 + 1)) x179000 x179001 x179002)
def impl_Cells.l2 : Nat → Int → List Int → Int → List Int → Int → Int → Int → Int → List (S60) → Int → Int → Int → Int → List Int → Option (List Int)
 | 0, _, _, _, _, _, _, _, _, _, _, _, _, _, _ => none
 | k + 1, x1, x5, x6, x8, x10, x11, x24, x25, x75, x76, x77, x179000, x179001, x179002 => if x77 < x76 then (if 0 ≤ x77 then (if x77 < (x75.length : Int) then ((impl_Box_high.f x179000 x179001 x179002 (wrap64 (x10 + ((rd_T60 x75 x77).f0))) (wrap64 (x11 + ((rd_T60 x75 x77).f1))) x1).bind fun t198 => (if t198 = true then (if 0 ≤ (wrap64 ((wrap64 ((wrap64 (x10 + ((rd_T60 x75 x77).f0))) * x179001)) + (wrap64 (x11 + ((rd_T60 x75 x77).f1))))) then (if (wrap64 ((wrap64 ((wrap64 (x10 + ((rd_T60 x75 x77).f0))) * x179001)) + (wrap64 (x11 + ((rd_T60 x75 x77).f1))))) < (x5.length : Int) then (if (rd x5 (wrap64 ((wrap64 ((wrap64 (x10 + ((rd_T60 x75 x77).f0))) * x179001)) + (wrap64 (x11 + ((rd_T60 x75 x77).f1)))))) = 0 then (if x8.length < 17592186044416 then (impl_Cells.l2 k x1 (x5.set ((wrap64 ((wrap64 ((wrap64 (x10 + ((rd_T60 x75 x77).f0))) * x179001)) + (wrap64 (x11 + ((rd_T60 x75 x77).f1))))) : Int).toNat x6) x6 (x8 ++ [wrap64 ((wrap64 ((wrap64 (x10 + ((rd_T60 x75 x77).f0))) * x179001)) + (wrap64 (x11 + ((rd_T60 x75 x77).f1))))]) x10 x11 x24 x25 x75 x76 (wrap64 (x77 + 1)) x179000 x179001 x179002) else (none)) else (impl_Cells.l2 k x1 x5 x6 x8 x10 x11 x24 x25 x75 x76 (wrap64 (x77 + 1)) x179000 x179001 x179002)) else (none)) else (none)) else (impl_Cells.l2 k x1 x5 x6 x8 x10 x11 x24 x25 x75 x76 (wrap64 (x77 + 1)) x179000 x179001 x179002))) else (none)) else (none)) else (impl_Cells.l1 k x1 x5 x6 x8 x24 x25 x179000 x179001 x179002)
end
def impl_Cells.f (k : Nat) (a0_0 : Int) (a0_1 : Int) (l0_2 : List Int) (a1 : Int) : Option (List Int) := (impl_BoxOk.f k a0_0 a0_1 l0_2).bind fun t179 => (if t179 = true then (if 0 ≤ (l0_2.length : Int) then (if ((l0_2.length : Int) : Int).toNat ≤ 35184372088832 then ((some (List.replicate ((l0_2.length : Int) : Int).toNat 0 : List Int)).bind fun y180 => (impl_Cells.l0 k a1 y180 0 (y180.length : Int) 0 a0_0 a0_1 l0_2)) else (none)) else (none)) else (some ([] : List Int)))
theorem impl_Cells.mono_l : ∀ k, (∀ y0 y1 y2 y3 y4 y5 y6 y7, LeO (impl_Cells.l0 k y0 y1 y2 y3 y4 y5 y6 y7) (impl_Cells.l0 (k + 1) y0 y1 y2 y3 y4 y5 y6 y7)) ∧ (∀ y0 y1 y2 y3 y4 y5 y6 y7 y8 y9, LeO (impl_Cells.j1 k y0 y1 y2 y3 y4 y5 y6 y7 y8 y9) (impl_Cells.j1 (k + 1) y0 y1 y2 y3 y4 y5 y6 y7 y8 y9)) ∧ (∀ y0 y1 y2 y3 y4 y5 y6 y7 y8, LeO (impl_Cells.l1 k y0 y1 y2 y3 y4 y5 y6 y7 y8) (impl_Cells.l1 (k + 1) y0 y1 y2 y3 y4 y5 y6 y7 y8)) ∧ (∀ y0 y1 y2 y3 y4 y5 y6 y7 y8 y9 y10 y11 y12 y13, LeO (impl_Cells.l2 k y0 y1 y2 y3 y4 y5 y6 y7 y8 y9 y10 y11 y12 y13) (impl_Cells.l2 (k + 1) y0 y1 y2 y3 y4 y5 y6 y7 y8 y9 y10 y11 y12 y13))
 | 0 => ⟨fun _ _ _ _ _ _ _ _ r h => by simp [impl_Cells.l0] at h, fun _ _ _ _ _ _ _ _ _ _ r h => by simp [impl_Cells.j1] at h, fun _ _ _ _ _ _ _ _ _ r h => by simp [impl_Cells.l1] at h, fun _ _ _ _ _ _ _ _ _ _ _ _ _ _ r h => by simp [impl_Cells.l2] at h⟩
 | k + 1 => by
  obtain ⟨ih0, ih1, ih2, ih3⟩ := impl_Cells.mono_l k
  refine ⟨?_, ?_, ?_, ?_⟩
  ·intro y0 y1 y2 y3 y4 y5 y6 y7
   unfold impl_Cells.l0
   repeat' first
   | (with_reducible exact ih0 _ _ _ _ _ _ _ _)
   | (with_reducible exact ih1 _ _ _ _ _ _ _ _ _ _)
   | (with_reducible exact ih2 _ _ _ _ _ _ _ _ _)
   | (with_reducible exact ih3 _ _ _ _ _ _ _ _ _ _ _ _ _ _)
   | (with_reducible exact impl_BoxOk.mono _ _ _ _)
   | (with_reducible exact LeO.refl _)
   | (with_reducible exact LeO.none _)
   | (with_reducible refine LeO.ite ?_ ?_)
   | (with_reducible refine LeO.bind ?_ (fun _ => ?_))
   | exact ih0 _ _ _ _ _ _ _ _
   | exact ih1 _ _ _ _ _ _ _ _ _ _
   | exact ih2 _ _ _ _ _ _ _ _ _
   | exact ih3 _ _ _ _ _ _ _ _ _ _ _ _ _ _
   | exact impl_BoxOk.mono _ _ _ _
   | exact LeO.none _
   | refine LeO.ite ?_ ?_
   | refine LeO.bind ?_ (fun _ => ?_)
  ·intro y0 y1 y2 y3 y4 y5 y6 y7 y8 y9
   unfold impl_Cells.j1
   repeat' first
   | (with_reducible exact ih0 _ _ _ _ _ _ _ _)
   | (with_reducible exact ih1 _ _ _ _ _ _ _ _ _ _)
   | (with_reducible exact ih2 _ _ _ _ _ _ _ _ _)
   | (with_reducible exact ih3 _ _ _ _ _ _ _ _ _ _ _ _ _ _)
   | (with_reducible exact impl_BoxOk.mono _ _ _ _)
   | (with_reducible exact LeO.refl _)
   | (with_reducible exact LeO.none _)
   | (with_reducible refine LeO.ite ?_ ?_)
   | (with_reducible refine LeO.bind ?_ (fun _ => ?_))
   | exact ih0 _ _ _ _ _ _ _ _
   | exact ih1 _ _ _ _ _ _ _ _ _ _
   | exact ih2 _ _ _ _ _ _ _ _ _
   | exact ih3 _ _ _ _ _ _ _ _ _ _ _ _ _ _
   | exact impl_BoxOk.mono _ _ _ _
   | exact LeO.none _
   | refine LeO.ite ?_ ?_
   | refine LeO.bind ?_ (fun _ => ?_)
  ·intro y0 y1 y2 y3 y4 y5 y6 y7 y8
   unfold impl_Cells.l1
   repeat' first
   | (with_reducible exact ih0 _ _ _ _ _ _ _ _)
   | (with_reducible exact ih1 _ _ _ _ _ _ _ _ _ _)
   | (with_reducible exact ih2 _ _ _ _ _ _ _ _ _)
   | (with_reducible exact ih3 _ _ _ _ _ _ _ _ _ _ _ _ _ _)
   | (with_reducible exact impl_BoxOk.mono _ _ _ _)
   | (with_reducible exact LeO.refl _)
   | (with_reducible exact LeO.none _)
   | (with_reducible refine LeO.ite ?_ ?_)
   | (with_reducible refine LeO.bind ?_ (fun _ => ?_))
   | exact ih0 _ _ _ _ _ _ _ _
   | exact ih1 _ _ _ _ _ _ _ _ _ _
   | exact ih2 _ _ _ _ _ _ _ _ _
   | exact ih3 _ _ _ _ _ _ _ _ _ _ _ _ _ _
   | exact impl_BoxOk.mono _ _ _ _
   | exact LeO.none _
   | refine LeO.ite ?_ ?_
   | refine LeO.bind ?_ (fun _ => ?_)
  ·intro y0 y1 y2 y3 y4 y5 y6 y7 y8 y9 y10 y11 y12 y13
   unfold impl_Cells.l2
   repeat' first
   | (with_reducible exact ih0 _ _ _ _ _ _ _ _)
   | (with_reducible exact ih1 _ _ _ _ _ _ _ _ _ _)
   | (with_reducible exact ih2 _ _ _ _ _ _ _ _ _)
   | (with_reducible exact ih3 _ _ _ _ _ _ _ _ _ _ _ _ _ _)
   | (with_reducible exact impl_BoxOk.mono _ _ _ _)
   | (with_reducible exact LeO.refl _)
   | (with_reducible exact LeO.none _)
   | (with_reducible refine LeO.ite ?_ ?_)
   | (with_reducible refine LeO.bind ?_ (fun _ => ?_))
   | exact ih0 _ _ _ _ _ _ _ _
   | exact ih1 _ _ _ _ _ _ _ _ _ _
   | exact ih2 _ _ _ _ _ _ _ _ _
   | exact ih3 _ _ _ _ _ _ _ _ _ _ _ _ _ _
   | exact impl_BoxOk.mono _ _ _ _
   | exact LeO.none _
   | refine LeO.ite ?_ ?_
   | refine LeO.bind ?_ (fun _ => ?_)
theorem impl_Cells.mono : ∀ a0 a1 a2 a3 k, LeO (impl_Cells.f k a0 a1 a2 a3) (impl_Cells.f (k + 1) a0 a1 a2 a3) := by
 intro a0 a1 a2 a3 k
 obtain ⟨ih0, ih1, ih2, ih3⟩ := impl_Cells.mono_l k
 unfold impl_Cells.f
 repeat' first
   | (with_reducible exact ih0 _ _ _ _ _ _ _ _)
   | (with_reducible exact ih1 _ _ _ _ _ _ _ _ _ _)
   | (with_reducible exact ih2 _ _ _ _ _ _ _ _ _)
   | (with_reducible exact ih3 _ _ _ _ _ _ _ _ _ _ _ _ _ _)
   | (with_reducible exact impl_BoxOk.mono _ _ _ _)
   | (with_reducible exact LeO.refl _)
   | (with_reducible exact LeO.none _)
   | (with_reducible refine LeO.ite ?_ ?_)
   | (with_reducible refine LeO.bind ?_ (fun _ => ?_))
   | exact ih0 _ _ _ _ _ _ _ _
   | exact ih1 _ _ _ _ _ _ _ _ _ _
   | exact ih2 _ _ _ _ _ _ _ _ _
   | exact ih3 _ _ _ _ _ _ _ _ _ _ _ _ _ _
   | exact impl_BoxOk.mono _ _ _ _
   | exact LeO.none _
   | refine LeO.ite ?_ ?_
   | refine LeO.bind ?_ (fun _ => ?_)
def impl_Cells.T8 : Bool × List (List Nat × List Nat) := (true, [([], []), ([], []), ([0, 1], [0, 1]), ([2], [2]), ([3], [3]), ([4], [4]), ([5], [5]), ([5], [5]), ([5], [5]), ([8, 5], [5, 8]), ([7, 9, 5], [5, 7, 9]), ([5], [5]), ([5], [5]), ([12, 5], [5, 12]), ([11, 13, 5], [5, 11, 13]), ([5], [5]), ([6, 10, 14, 15, 5, 5], [5, 6, 10, 14, 15]), ([16, 5], [5, 16]), ([5, 17], [5, 17])])
def impl_Cells.B8 : List Nat := [0, 0, 3, 7, 15, 31, 63, 63, 63, 319, 959, 63, 63, 4159, 14399, 63, 65535, 131071, 262143]
theorem impl_Cells.tab8 : rtab .any (opsOf Try.f10 8) = impl_Cells.T8 := by kernel_rfl
theorem impl_Cells.bits8 : waitsOk impl_Cells.T8.2 impl_Cells.B8 = true := by kernel_rfl
def impl_Cells.T15 : Bool × List (List Nat × List Nat) := (true, [([], []), ([], []), ([1], [1]), ([0, 2], [0, 2]), ([], []), ([], []), ([5], [5]), ([4, 6], [4, 6]), ([3, 0, 1, 2, 3], [3]), ([7, 8, 0, 1, 2, 3, 4, 5, 6, 7, 8], [7])])
def impl_Cells.B15 : List Nat := [0, 0, 2, 7, 0, 0, 32, 112, 15, 511]
theorem impl_Cells.tab15 : rtab .any (opsOf Try.f10 15) = impl_Cells.T15 := by kernel_rfl
theorem impl_Cells.bits15 : waitsOk impl_Cells.T15.2 impl_Cells.B15 = true := by kernel_rfl
def impl_Cells.T19 : Bool × List (List Nat × List Nat) := (true, [([], []), ([], []), ([1], [1]), ([0, 2], [0, 2]), ([], []), ([], []), ([5], [5]), ([4, 6], [4, 6]), ([3, 0, 1, 2, 3], [3]), ([7, 8, 0, 1, 2, 3, 4, 5, 6, 7, 8], [7])])
def impl_Cells.B19 : List Nat := [0, 0, 2, 7, 0, 0, 32, 112, 15, 511]
theorem impl_Cells.tab19 : rtab .any (opsOf Try.f10 19) = impl_Cells.T19 := by kernel_rfl
theorem impl_Cells.bits19 : waitsOk impl_Cells.T19.2 impl_Cells.B19 = true := by kernel_rfl
set_option maxHeartbeats 8000000 in
set_option maxRecDepth 100000 in
theorem impl_Cells.calls (k : Nat) (a0_0 : Int) (a0_1 : Int) (A0_2 : Option Addr) (c0_2 : Nat) (l0_2 : List Int) (a1 : Int) (r : List Int) (w : World) (hr0_2 : Kd.C (Kd.int .i64) w A0_2 l0_2.length l0_2) (hc0_2 : l0_2.length ≤ c0_2) (h : impl_Cells.f k a0_0 a0_1 l0_2 a1 = some r) :
  Calls Try.prog 10 #[.agg #[.int .i64 a0_0, .int .i64 a0_1, .slice A0_2 l0_2.length c0_2], .int .i64 a1] w fun e w' => ∃ v0_ : Value, e = .returned (v0_) ∧ Kd.R (Kd.int .i64) 2 w' w.heap.size (fun _ => True) v0_ r ∧ Below w.heap.size w w' := by
 have hu27 := Try.underlying27
 have hu60 := Try.underlying60
 have HR0_2 := Aside0.mk hr0_2
 have HC0_2 := Aside0.mk hc0_2
 clear hr0_2 hc0_2
 have HB := Aside0.mk (Below.refl w.heap.size w)
 have H : ((impl_BoxOk.f k a0_0 a0_1 l0_2).bind fun t179 => (if t179 = true then (if 0 ≤ (l0_2.length : Int) then (if ((l0_2.length : Int) : Int).toNat ≤ 35184372088832 then ((some (List.replicate ((l0_2.length : Int) : Int).toNat 0 : List Int)).bind fun y180 => (impl_Cells.l0 k a1 y180 0 (y180.length : Int) 0 a0_0 a0_1 l0_2)) else (none)) else (none)) else (some ([] : List Int)))) = some r := h
 clear h
 replace H := Option.bind_eq_some_iff.mp H
 obtain ⟨t179, A30, H⟩ := H
 replace H : (if t179 = true then (if 0 ≤ (l0_2.length : Int) then (if ((l0_2.length : Int) : Int).toNat ≤ 35184372088832 then ((some (List.replicate ((l0_2.length : Int) : Int).toNat 0 : List Int)).bind fun y180 => (impl_Cells.l0 k a1 y180 0 (y180.length : Int) 0 a0_0 a0_1 l0_2)) else (none)) else (none)) else (some ([] : List Int))) = some r := H
 have A3 := Aside0.mk A30
 clear A30
 by_cases c4 : t179 = true
 ·subst c4
  have H1 : (if 0 ≤ (l0_2.length : Int) then (if ((l0_2.length : Int) : Int).toNat ≤ 35184372088832 then ((some (List.replicate ((l0_2.length : Int) : Int).toNat 0 : List Int)).bind fun y180 => (impl_Cells.l0 k a1 y180 0 (y180.length : Int) 0 a0_0 a0_1 l0_2)) else (none)) else (none)) = some r := by rw [if_pos rfl] at H; exact H
  clear H
  have H := H1
  clear H1
  by_cases c5 : 0 ≤ (l0_2.length : Int)
  ·rw [if_pos c5] at H
   have c5b0 := eq_true c5
   have c5b1 : decide (0 ≤ (l0_2.length : Int)) = true := decide_eq_true c5
   clear c5
   by_cases c6 : ((l0_2.length : Int) : Int).toNat ≤ 35184372088832
   ·rw [if_pos c6] at H
    have c6b0 := eq_true c6
    have c6b1 : decide (((l0_2.length : Int) : Int).toNat ≤ 35184372088832) = true := decide_eq_true c6
    clear c6
    obtain ⟨y180, hy180⟩ : ∃ y_ : List Int, y_ = (List.replicate ((l0_2.length : Int) : Int).toNat 0) := ⟨_, rfl⟩
    replace H : (impl_Cells.l0 k a1 y180 0 (y180.length : Int) 0 a0_0 a0_1 l0_2) = some r := by first | (rw [hy180]; with_reducible exact H) | (have H2_ := (Option.bind_some _ _).symm.trans H; rw [hy180]; with_reducible exact H2_) | (have H2_ := (Option.bind_some _ _).symm.trans H; with_reducible exact H2_) | with_reducible exact H | (rw [hy180]; exact H) | exact H
    have Ny180 := Aside0.mk hy180
    clear hy180
    have H' := Aside0.mk H
    clear H
    go_enter Try.func10, Try.ntmps10
    go_wp2_with (first | ((with_reducible refine gate_dst (N := 2) rfl ?_); refine box_event ?hg (N := 2) ?hd (cs := #[.int .i64 a0_0, .int .i64 a0_1, .slice A0_2 l0_2.length c0_2]) (t := 27) ?hr ?_; (case hd => rfl); (case hg => rfl); (case hr => first | (go_simp; done) | (go_simp; rfl)); intro gb178 hg w7 hbox hb; have n0_ := Aside0.mk (below_step (by repeat (first | (with_reducible first | exact HB.out | apply below_alloc | apply pw_below_drewN | apply below_drew1) | exact HB.out)) hb); have n1_ := Aside0.mk (hbox); have n2_ := Aside0.mk ((by rw [hg]; exact (below_size (by repeat (first | (with_reducible first | exact HB.out | apply below_alloc | apply pw_below_drewN | apply below_drew1) | exact HB.out))) : w.heap.size ≤ gb178)); have n3_ := Aside0.mk ((by rw [hg]; exact (below_size (by repeat (first | (with_reducible first | exact HB.out | apply below_alloc | apply pw_below_drewN | apply below_drew1) | exact HB.out))) : w.heap.size ≤ gb178)); clear HB; have HB := n0_; have BK178 := n1_; have GW178 := n2_; have GE178 := n3_; clear n0_ n1_ n2_ n3_; clear hb hbox hg; have hcz8_0 : w7.cell? ⟨gb178, 0, none⟩ = some (.int .i64 a0_0) := (blk_cell BK178.out 0).trans rfl; have hcz8_1 : w7.cell? ⟨gb178, 1, none⟩ = some (.int .i64 a0_1) := (blk_cell BK178.out 1).trans rfl; have hcz8_2 : w7.cell? ⟨gb178, 2, none⟩ = some (.slice A0_2 l0_2.length c0_2) := (blk_cell BK178.out 2).trans rfl; have hfz8_0 := blk_frozen BK178.out 0; have hfz8_1 := blk_frozen BK178.out 1; have hfz8_2 := blk_frozen BK178.out 2) | ((with_reducible refine gate_callee (f := 36) rfl ?_); refine goesL_ (some 17) rfl rfl Try.func36 (by kernel_rfl) rfl #[.agg #[.int .i64 a0_0, .int .i64 a0_1, .slice A0_2 l0_2.length c0_2]] rfl (by (try simp only [List.map_toArray, List.map_cons, List.map_nil]); first | done | rfl | (simp only [List.length_drop, List.length_take]; rfl)) ?_; (with_reducible refine (impl_BoxOk.calls k a0_0 a0_1 _ _ l0_2 true _ ?side1 ?side2 A3.out).mono ?_); (case side1 => repeat (first | exact (Kd.C_below HR0_2.out HB.out) | (with_reducible refine Kd.C_alloc ?_ _) | (with_reducible refine Kd.C_drewN ?_ _) | (with_reducible refine Kd.C_drew ?_))); (case side2 => exact HC0_2.out); rintro e w9 ⟨rfl, hb⟩; refine ⟨_, rfl, ?_⟩; have n0_ := Aside0.mk (blk_below (g := gb178) (o := .cells #[.int .i64 a0_0, .int .i64 a0_1, .slice A0_2 l0_2.length c0_2] 27 (0, 0)) (by (with_reducible repeat (first | refine blk_drewN ?_ _ | refine blk_drew ?_ | refine blk_alloc ?_ _)); exact BK178.out) hb); have n1_ := Aside0.mk (below_step (by repeat (first | (with_reducible first | exact HB.out | apply below_alloc | apply pw_below_drewN | apply below_drew1 | refine below_set ?_ GE178.out) | exact HB.out)) hb); clear BK178; clear HB; have BK178 := n0_; have HB := n1_; clear n0_ n1_; (try clear hb); (try clear hb2); (try clear hk); (try clear hi); have hcz10_0 : w9.cell? ⟨gb178, 0, none⟩ = some (.int .i64 a0_0) := (blk_cell BK178.out 0).trans rfl; have hcz10_1 : w9.cell? ⟨gb178, 1, none⟩ = some (.int .i64 a0_1) := (blk_cell BK178.out 1).trans rfl; have hcz10_2 : w9.cell? ⟨gb178, 2, none⟩ = some (.slice A0_2 l0_2.length c0_2) := (blk_cell BK178.out 2).trans rfl; have hfz10_0 := blk_frozen BK178.out 0; have hfz10_1 := blk_frozen BK178.out 1; have hfz10_2 := blk_frozen BK178.out 2) | ((with_reducible refine gate_dst (N := 22) rfl ?_); refine Kd.R_make (Kd.int .i64) _ 2 rfl (N := 22) rfl 22 _ _ rfl (l0_2.length : Int) rfl rfl Try.underlying22 (.int .i64 0) 8 info2 rfl (by decide) (by omega) 0 (ok := fun _ => True) (okp := fun _ => True) rfl (fun _ hk => hk) trivial (of_decide_eq_true (by first | (with_reducible assumption) | assumption)) (Nat.le_trans (Nat.mul_le_mul_right _ (of_decide_eq_true (by first | (with_reducible assumption) | assumption) : (l0_2.length : Int).toNat ≤ 35184372088832)) (by omega)) (Below.refl _ _) (Nat.le_refl _) ?_; intro v181 w11 ho12 hb hg_ hnew_; clear hg_ hnew_; (first | rw [← Ny180.out] at ho12 | (simp only [Int.reduceToNat] at ho12; rw [← Ny180.out] at ho12)); have n0_ := Aside0.mk (Kd.R_lower ho12 (below_size (by repeat (first | (with_reducible first | exact HB.out | apply below_alloc | apply pw_below_drewN | apply below_drew1 | refine below_set ?_ GE178.out) | exact HB.out)))); have n1_ := Aside0.mk (blk_below (g := gb178) (o := .cells #[.int .i64 a0_0, .int .i64 a0_1, .slice A0_2 l0_2.length c0_2] 27 (0, 0)) (by (with_reducible repeat (first | refine blk_drewN ?_ _ | refine blk_drew ?_ | refine blk_alloc ?_ _)); exact BK178.out) hb); have n2_ := Aside0.mk (below_step (by repeat (first | (with_reducible first | exact HB.out | apply below_alloc | apply pw_below_drewN | apply below_drew1 | refine below_set ?_ GE178.out) | exact HB.out)) hb); clear BK178; clear HB; have HO182 := n0_; have BK178 := n1_; have HB := n2_; clear n0_ n1_ n2_; clear hb ho12; obtain ⟨Ao13, co13, eo13⟩ := Kd.R_slice HO182.out; subst eo13))
    go_loopg [6, 25] k (fun kq v6 v25 w' => ∃ (x5_1 : List Int) (x6_1 : Int) (x25_1 : Int), v6 = .int .i64 x6_1 ∧ v25 = .int .i64 x25_1 ∧ Aside0 (impl_Cells.l0 kq a1 x5_1 x6_1 (y180.length : Int) x25_1 a0_0 a0_1 l0_2 = some r) ∧ Aside0 (kq ≤ k) ∧ Aside0 (Kd.R (Kd.int .i64) 2 w' w.heap.size (fun _ => True) (.slice Ao13 y180.length co13) x5_1) ∧ Aside0 (w'.heap[gb178]? = some (.cells #[.int .i64 a0_0, .int .i64 a0_1, (.slice A0_2 l0_2.length c0_2)] 27 (0, 0))) ∧ Aside0 (Below w.heap.size w w'))
    case atStart => exact ⟨(y180), (0), (0), (by first | rfl | (simp; done) | (simp [*]; done)), (by first | rfl | (simp; done) | (simp [*]; done)), H', ⟨Nat.le_refl _⟩, ⟨by (with_reducible repeat (first | apply Kd.R_alloc | apply Kd.R_drewN | apply Kd.R_drew)); exact HO182.out⟩, ⟨by (with_reducible repeat (first | refine blk_drewN ?_ _ | refine blk_drew ?_ | refine blk_alloc ?_ _)); exact BK178.out⟩, ⟨by repeat (first | (with_reducible first | exact HB.out | apply below_alloc | apply pw_below_drewN | apply below_drew1 | refine below_set ?_ GE178.out) | exact HB.out)⟩⟩
    case round =>
     clear H'
     try clear c1
     try clear p2
     try clear c3
     try clear c4
     try clear c5
     try clear c5b0
     try clear c5b1
     try clear c6
     try clear c6b0
     try clear c6b1
     try clear c10
     try clear hcz10_0
     try clear hcz10_1
     try clear hcz10_2
     try clear hcz8_0
     try clear hcz8_1
     try clear hcz8_2
     try clear hfz10_0
     try clear hfz10_1
     try clear hfz10_2
     try clear hfz8_0
     try clear hfz8_1
     try clear hfz8_2
     obtain ⟨x5_1, x6_1, x25_1, rfl, rfl, HA, HK1, HO_5, BK178, HB⟩ := hrel
     have hl5_1 := (Kd.R_reads' HO_5.out).1
     rw [hl5_1] at HO_5
     (try simp only [hl5_1])
     (try simp only [hl5_1] at BK178)
     cases gk with
     | zero => exact absurd HA.out (by simp [impl_Cells.l0])
     | succ k1 =>
      have H := HA.out
      clear HA
      simp only [impl_Cells.l0] at H
      by_cases c14 : x25_1 < (y180.length : Int)
      ·rw [if_pos c14] at H
       have c14b0 : decide (x25_1 < (y180.length : Int)) = true := decide_eq_true c14
       (try simp only [hl5_1] at c14b0)
       clear c14
       have HC15 := Aside0.mk H
       clear H
       go_upto_region 8 with (fail)
       go_cut [46] (fun v46 wc => ∃ (kq : Nat) (x46_14 : Bool), v46 = .bool x46_14 ∧ Aside0 (impl_Cells.j1 kq a1 x5_1 x6_1 x25_1 (y180.length : Int) x25_1 x46_14 a0_0 a0_1 l0_2 = some r) ∧ Aside0 (kq ≤ k1) ∧ Aside0 (Kd.R (Kd.int .i64) 2 wc w.heap.size (fun _ => True) (.slice Ao13 x5_1.length co13) x5_1) ∧ Aside0 (wc.heap[gb178]? = some (.cells #[.int .i64 a0_0, .int .i64 a0_1, (.slice A0_2 l0_2.length c0_2)] 27 (0, 0))) ∧ Aside0 (Below w.heap.size w wc))
       case first =>
        have H := HC15.out
        clear HC15
        by_cases c16 : 0 ≤ x25_1
        ·rw [if_pos c16] at H
         have c16b0 : decide (0 ≤ x25_1) = true := decide_eq_true c16
         clear c16
         (first | rw [c16b0] | (simp only [i64_w, i32_w]; rw [c16b0]) | skip)
         by_cases c17 : x25_1 < (x5_1.length : Int)
         ·rw [if_pos c17] at H
          have c17b0 : decide (x25_1 < (x5_1.length : Int)) = true := decide_eq_true c17
          (try simp only [hl5_1] at c17b0)
          clear c17
          by_cases c18 : (rd x5_1 x25_1) > 0
          ·rw [if_pos c18] at H
           have c18b0 : decide (0 < (rd x5_1 x25_1)) = true := decide_eq_true c18
           clear c18
           have H' := Aside0.mk H
           clear H
           try go_wp2
           have n0_ := Aside0.mk (Kd.R_drew HO_5.out)
           have n1_ := Aside0.mk (blk_drew BK178.out)
           have n2_ := Aside0.mk (below_drew1 HB.out)
           clear HO_5
           clear BK178
           clear HB
           have HO_5 := n0_
           have BK178 := n1_
           have HB := n2_
           clear n0_ n1_ n2_
           have p183 : 0 ≤ (x25_1 : Int) := of_decide_eq_true (by first | (with_reducible assumption) | assumption)
           have q183 : x25_1 < (x5_1.length : Int) := of_decide_eq_true (by first | (with_reducible assumption) | assumption)
           obtain ⟨ad183, e183, hx183_0⟩ := Kd.at_int (Kd.R_reads' HO_5.out).2.2 x25_1 p183 q183
           cases e183
           replace p183 := eq_true p183
           replace q183 := eq_true q183
           refine start_ (n := 19) (S := fun w' => w'.cell? (ad183.add (x25_1).toNat) = some (.int .i64 (rd x5_1 x25_1))) (ds := []) #[false, false, false, false, false, false, false, false, false, false, false, false, false, false, false, false, false, false, false] (by kernel_rfl) rfl rfl (hx183_0) (fun hHeld => ?_); refine with_tabW impl_Cells.tab8 impl_Cells.bits8 (fun HT_ HW_ => ?_)
           generalize wr.drew = w19 at HO_5 BK178 HB hx183_0 hHeld ⊢
           refine pure_ (i := 0) (N := some 28) (v := ?_) (a' := ?_) #[true, false, false, false, false, false, false, false, false, false, false, false, false, false, false, false, false, false, false] rfl rfl (any_of HT_.out (by kernel_rfl)) (fun _ _ _ h => h) (Or.inl ⟨by rfl, ?_⟩) ?_ ?_
           rotate_left
           ·intro w'
            go_simp
            with_reducible rfl
           rotate_left
           ·simp only [Act.put, sqA, sqZ, sqS, i64_w, i32_w]
            rfl
           refine pure_ (i := 1) (N := some 29) (v := ?_) (a' := ?_) #[true, true, false, false, false, false, false, false, false, false, false, false, false, false, false, false, false, false, false] rfl rfl (any_of HT_.out (by kernel_rfl)) (fun _ _ _ h => h) (Or.inl ⟨by rfl, ?_⟩) ?_ ?_
           rotate_left
           ·intro w'
            go_simp
            with_reducible rfl
           rotate_left
           ·simp only [Act.put, sqA, sqZ, sqS, i64_w, i32_w]
            rfl
           refine pure_ (i := 2) (N := some 30) (v := ?_) (a' := ?_) #[true, true, true, false, false, false, false, false, false, false, false, false, false, false, false, false, false, false, false] rfl rfl (any_of HT_.out (by kernel_rfl)) (fun _ _ _ h => h) (Or.inl ⟨by rfl, ?_⟩) ?_ ?_
           rotate_left
           ·intro w'
            go_simp
            with_reducible rfl
           rotate_left
           ·simp only [Act.put, sqA, sqZ, sqS, i64_w, i32_w]
            rfl
           refine take_ (i := 3) (N := some 31) (v := ?_) (a' := ?_) #[true, true, true, true, false, false, false, false, false, false, false, false, false, false, false, false, false, false, false] rfl rfl (take_ofW HT_.out HW_.out (by kernel_rfl)) (fun _ _ _ h => h) (Or.inl ⟨by rfl, ?_⟩) hHeld ?_ ?_
           rotate_left
           ·intro w' s0
            go_simp
            with_reducible rfl
           rotate_left
           ·simp only [Act.put, sqA, sqZ, sqS, i64_w, i32_w]
            rfl
           refine pure_ (i := 4) (N := some 32) (v := ?_) (a' := ?_) #[true, true, true, true, true, false, false, false, false, false, false, false, false, false, false, false, false, false, false] rfl rfl (any_of HT_.out (by kernel_rfl)) (fun _ _ _ h => h) (Or.inl ⟨by rfl, ?_⟩) ?_ ?_
           rotate_left
           ·intro w'
            go_simp
            with_reducible rfl
           rotate_left
           ·simp only [Act.put, sqA, sqZ, sqS, i64_w, i32_w]
            rfl
           refine pure_ (i := 5) (N := some 33) (v := ?_) (a' := ?_) #[true, true, true, true, true, true, false, false, false, false, false, false, false, false, false, false, false, false, false] rfl rfl (any_of HT_.out (by kernel_rfl)) (fun _ _ _ h => h) (Or.inl ⟨by rfl, ?_⟩) ?_ ?_
           rotate_left
           ·intro w'
            go_simp
            with_reducible rfl
           rotate_left
           ·simp only [Act.put, sqA, sqZ, sqS, i64_w, i32_w]
            rfl
           refine pure_ (i := 6) (N := some 34) (v := undef) (a' := ?_) #[true, true, true, true, true, true, true, false, false, false, false, false, false, false, false, false, false, false, false] rfl rfl (any_of HT_.out (by kernel_rfl)) (fun _ _ _ h => h) (Or.inr ⟨by rfl, rfl⟩) ?_ ?_
           rotate_left
           ·simp only [Act.put, sqA, sqZ, sqS, i64_w, i32_w]
            rfl
           refine pure_ (i := 7) (N := some 35) (v := undef) (a' := ?_) #[true, true, true, true, true, true, true, true, false, false, false, false, false, false, false, false, false, false, false] rfl rfl (any_of HT_.out (by kernel_rfl)) (fun _ _ _ h => h) (Or.inr ⟨by rfl, rfl⟩) ?_ ?_
           rotate_left
           ·simp only [Act.put, sqA, sqZ, sqS, i64_w, i32_w]
            rfl
           refine pure_ (i := 8) (N := some 36) (v := undef) (a' := ?_) #[true, true, true, true, true, true, true, true, true, false, false, false, false, false, false, false, false, false, false] rfl rfl (any_of HT_.out (by kernel_rfl)) (fun _ _ _ h => h) (Or.inr ⟨by rfl, rfl⟩) ?_ ?_
           rotate_left
           ·simp only [Act.put, sqA, sqZ, sqS, i64_w, i32_w]
            rfl
           refine pure_ (i := 9) (N := some 37) (v := undef) (a' := ?_) #[true, true, true, true, true, true, true, true, true, true, false, false, false, false, false, false, false, false, false] rfl rfl (any_of HT_.out (by kernel_rfl)) (fun _ _ _ h => h) (Or.inr ⟨by rfl, rfl⟩) ?_ ?_
           rotate_left
           ·simp only [Act.put, sqA, sqZ, sqS, i64_w, i32_w]
            rfl
           refine pure_ (i := 10) (N := some 38) (v := undef) (a' := ?_) #[true, true, true, true, true, true, true, true, true, true, true, false, false, false, false, false, false, false, false] rfl rfl (any_of HT_.out (by kernel_rfl)) (fun _ _ _ h => h) (Or.inr ⟨by rfl, rfl⟩) ?_ ?_
           rotate_left
           ·simp only [Act.put, sqA, sqZ, sqS, i64_w, i32_w]
            rfl
           refine pure_ (i := 11) (N := some 39) (v := undef) (a' := ?_) #[true, true, true, true, true, true, true, true, true, true, true, true, false, false, false, false, false, false, false] rfl rfl (any_of HT_.out (by kernel_rfl)) (fun _ _ _ h => h) (Or.inr ⟨by rfl, rfl⟩) ?_ ?_
           rotate_left
           ·simp only [Act.put, sqA, sqZ, sqS, i64_w, i32_w]
            rfl
           refine pure_ (i := 12) (N := some 40) (v := undef) (a' := ?_) #[true, true, true, true, true, true, true, true, true, true, true, true, true, false, false, false, false, false, false] rfl rfl (any_of HT_.out (by kernel_rfl)) (fun _ _ _ h => h) (Or.inr ⟨by rfl, rfl⟩) ?_ ?_
           rotate_left
           ·simp only [Act.put, sqA, sqZ, sqS, i64_w, i32_w]
            rfl
           refine pure_ (i := 13) (N := some 41) (v := undef) (a' := ?_) #[true, true, true, true, true, true, true, true, true, true, true, true, true, true, false, false, false, false, false] rfl rfl (any_of HT_.out (by kernel_rfl)) (fun _ _ _ h => h) (Or.inr ⟨by rfl, rfl⟩) ?_ ?_
           rotate_left
           ·simp only [Act.put, sqA, sqZ, sqS, i64_w, i32_w]
            rfl
           refine pure_ (i := 14) (N := some 42) (v := undef) (a' := ?_) #[true, true, true, true, true, true, true, true, true, true, true, true, true, true, true, false, false, false, false] rfl rfl (any_of HT_.out (by kernel_rfl)) (fun _ _ _ h => h) (Or.inr ⟨by rfl, rfl⟩) ?_ ?_
           rotate_left
           ·simp only [Act.put, sqA, sqZ, sqS, i64_w, i32_w]
            rfl
           refine pure_ (i := 15) (N := some 43) (v := undef) (a' := ?_) #[true, true, true, true, true, true, true, true, true, true, true, true, true, true, true, true, false, false, false] rfl rfl (any_of HT_.out (by kernel_rfl)) (fun _ _ _ h => h) (Or.inr ⟨by rfl, rfl⟩) ?_ ?_
           rotate_left
           ·simp only [Act.put, sqA, sqZ, sqS, i64_w, i32_w]
            rfl
           refine pure_ (i := 16) (N := some 44) (v := undef) (a' := ?_) #[true, true, true, true, true, true, true, true, true, true, true, true, true, true, true, true, true, false, false] rfl rfl (any_of HT_.out (by kernel_rfl)) (fun _ _ _ h => h) (Or.inr ⟨by rfl, rfl⟩) ?_ ?_
           rotate_left
           ·simp only [Act.put, sqA, sqZ, sqS, i64_w, i32_w]
            rfl
           refine pure_ (i := 17) (N := some 45) (v := undef) (a' := ?_) #[true, true, true, true, true, true, true, true, true, true, true, true, true, true, true, true, true, true, false] rfl rfl (any_of HT_.out (by kernel_rfl)) (fun _ _ _ h => h) (Or.inr ⟨by rfl, rfl⟩) ?_ ?_
           rotate_left
           ·simp only [Act.put, sqA, sqZ, sqS, i64_w, i32_w]
            rfl
           refine pure_ (i := 18) (N := some 46) (v := ?_) (a' := ?_) #[true, true, true, true, true, true, true, true, true, true, true, true, true, true, true, true, true, true, true] rfl rfl (any_of HT_.out (by kernel_rfl)) (fun _ _ _ h => h) (Or.inl ⟨by rfl, ?_⟩) ?_ ?_
           rotate_left
           ·intro w'
            go_simp
            with_reducible rfl
           rotate_left
           ·simp only [Act.put, sqA, sqZ, sqS, i64_w, i32_w]
            rfl
           refine done_ (done_of HT_.out (by kernel_rfl)) ?_
           try go_wp2
           go_meet
           case rel => exact ⟨_, (true), (by first | rfl | (simp; done) | (simp [*]; done)), H', ⟨by have := HK1.out; first | omega | exact Nat.le_refl _⟩, ⟨by (try simp only [hl5_1]); (with_reducible repeat (first | apply Kd.R_alloc | apply Kd.R_drewN | apply Kd.R_drew)); exact HO_5.out⟩, ⟨by (try simp only [hl5_1]); (with_reducible repeat (first | refine blk_drewN ?_ _ | refine blk_drew ?_ | refine blk_alloc ?_ _)); exact BK178.out⟩, ⟨by repeat (first | (with_reducible first | exact HB.out | apply below_alloc | apply pw_below_drewN | apply below_drew1 | refine below_set ?_ GE178.out) | exact HB.out)⟩⟩
          ·rw [if_neg c18] at H
           have c18b0 : decide (0 < (rd x5_1 x25_1)) = false := decide_eq_false c18
           clear c18
           by_cases c20 : a0_1 = 0
           ·rw [if_pos c20] at H
            exact absurd H (by simp)
           ·rw [if_neg c20] at H
            have c20b0 : (a0_1 == 0) = false := beq_eq_false_iff_ne.mpr c20
            have c20b1 : (a0_1 != 0) = true := bne_iff_ne.mpr c20
            replace H := Option.bind_eq_some_iff.mp H
            obtain ⟨t184, A210, H⟩ := H
            replace H : (impl_Cells.j1 k1 a1 x5_1 x6_1 x25_1 (y180.length : Int) x25_1 (!t184) a0_0 a0_1 l0_2) = some r := H
            have A21 := Aside0.mk A210
            clear A210
            have H' := Aside0.mk H
            clear H
            try go_wp2
            have n0_ := Aside0.mk (Kd.R_drew HO_5.out)
            have n1_ := Aside0.mk (blk_drew BK178.out)
            have n2_ := Aside0.mk (below_drew1 HB.out)
            clear HO_5
            clear BK178
            clear HB
            have HO_5 := n0_
            have BK178 := n1_
            have HB := n2_
            clear n0_ n1_ n2_
            have p183 : 0 ≤ (x25_1 : Int) := of_decide_eq_true (by first | (with_reducible assumption) | assumption)
            have q183 : x25_1 < (x5_1.length : Int) := of_decide_eq_true (by first | (with_reducible assumption) | assumption)
            obtain ⟨ad183, e183, hx183_0⟩ := Kd.at_int (Kd.R_reads' HO_5.out).2.2 x25_1 p183 q183
            cases e183
            replace p183 := eq_true p183
            replace q183 := eq_true q183
            refine start_ (n := 19) (S := fun w' => w'.cell? ⟨gb178, 0, none⟩ = some (.int .i64 a0_0) ∧ w'.cell? ⟨gb178, 1, none⟩ = some (.int .i64 a0_1) ∧ w'.cell? ⟨gb178, 2, none⟩ = some (.slice A0_2 l0_2.length c0_2) ∧ w'.cell? (ad183.add (x25_1).toNat) = some (.int .i64 (rd x5_1 x25_1))) (ds := []) #[false, false, false, false, false, false, false, false, false, false, false, false, false, false, false, false, false, false, false] (by kernel_rfl) rfl rfl ⟨(blk_cell BK178.out 0).trans rfl, (blk_cell BK178.out 1).trans rfl, (blk_cell BK178.out 2).trans rfl, hx183_0⟩ (fun hHeld => ?_); refine with_tabW impl_Cells.tab8 impl_Cells.bits8 (fun HT_ HW_ => ?_)
            generalize wr.drew = w22 at HO_5 BK178 HB hx183_0 hHeld ⊢
            refine pure_ (i := 0) (N := some 28) (v := ?_) (a' := ?_) #[true, false, false, false, false, false, false, false, false, false, false, false, false, false, false, false, false, false, false] rfl rfl (any_of HT_.out (by kernel_rfl)) (fun _ _ _ h => h) (Or.inl ⟨by rfl, ?_⟩) ?_ ?_
            rotate_left
            ·intro w'
             go_simp
             with_reducible rfl
            rotate_left
            ·simp only [Act.put, sqA, sqZ, sqS, i64_w, i32_w]
             rfl
            refine pure_ (i := 1) (N := some 29) (v := ?_) (a' := ?_) #[true, true, false, false, false, false, false, false, false, false, false, false, false, false, false, false, false, false, false] rfl rfl (any_of HT_.out (by kernel_rfl)) (fun _ _ _ h => h) (Or.inl ⟨by rfl, ?_⟩) ?_ ?_
            rotate_left
            ·intro w'
             go_simp
             with_reducible rfl
            rotate_left
            ·simp only [Act.put, sqA, sqZ, sqS, i64_w, i32_w]
             rfl
            refine pure_ (i := 2) (N := some 30) (v := ?_) (a' := ?_) #[true, true, true, false, false, false, false, false, false, false, false, false, false, false, false, false, false, false, false] rfl rfl (any_of HT_.out (by kernel_rfl)) (fun _ _ _ h => h) (Or.inl ⟨by rfl, ?_⟩) ?_ ?_
            rotate_left
            ·intro w'
             go_simp
             with_reducible rfl
            rotate_left
            ·simp only [Act.put, sqA, sqZ, sqS, i64_w, i32_w]
             rfl
            refine take_ (i := 3) (N := some 31) (v := ?_) (a' := ?_) #[true, true, true, true, false, false, false, false, false, false, false, false, false, false, false, false, false, false, false] rfl rfl (take_ofW HT_.out HW_.out (by kernel_rfl)) (fun _ _ _ h => h) (Or.inl ⟨by rfl, ?_⟩) hHeld ?_ ?_
            rotate_left
            ·rintro w' ⟨s0, s1, s2, s3⟩
             go_simp
             with_reducible rfl
            rotate_left
            ·simp only [Act.put, sqA, sqZ, sqS, i64_w, i32_w]
             rfl
            refine pure_ (i := 4) (N := some 32) (v := ?_) (a' := ?_) #[true, true, true, true, true, false, false, false, false, false, false, false, false, false, false, false, false, false, false] rfl rfl (any_of HT_.out (by kernel_rfl)) (fun _ _ _ h => h) (Or.inl ⟨by rfl, ?_⟩) ?_ ?_
            rotate_left
            ·intro w'
             go_simp
             with_reducible rfl
            rotate_left
            ·simp only [Act.put, sqA, sqZ, sqS, i64_w, i32_w]
             rfl
            refine pure_ (i := 5) (N := some 33) (v := ?_) (a' := ?_) #[true, true, true, true, true, true, false, false, false, false, false, false, false, false, false, false, false, false, false] rfl rfl (any_of HT_.out (by kernel_rfl)) (fun _ _ _ h => h) (Or.inl ⟨by rfl, ?_⟩) ?_ ?_
            rotate_left
            ·intro w'
             go_simp
             with_reducible rfl
            rotate_left
            ·simp only [Act.put, sqA, sqZ, sqS, i64_w, i32_w]
             rfl
            refine pure_ (i := 7) (N := some 35) (v := ?_) (a' := ?_) #[true, true, true, true, true, true, false, true, false, false, false, false, false, false, false, false, false, false, false] rfl rfl (any_of HT_.out (by kernel_rfl)) (fun _ _ _ h => h) (Or.inl ⟨by rfl, ?_⟩) ?_ ?_
            rotate_left
            ·intro w'
             go_simp
             with_reducible rfl
            rotate_left
            ·simp only [Act.put, sqA, sqZ, sqS, i64_w, i32_w]
             rfl
            refine pure_ (i := 8) (N := some 36) (v := ?_) (a' := ?_) #[true, true, true, true, true, true, false, true, true, false, false, false, false, false, false, false, false, false, false] rfl rfl (any_of HT_.out (by kernel_rfl)) (fun _ _ _ h => h) (Or.inl ⟨by rfl, ?_⟩) ?_ ?_
            rotate_left
            ·intro w'
             go_simp
             with_reducible rfl
            rotate_left
            ·simp only [Act.put, sqA, sqZ, sqS, i64_w, i32_w]
             rfl
            refine pure_ (i := 11) (N := some 39) (v := ?_) (a' := ?_) #[true, true, true, true, true, true, false, true, true, false, false, true, false, false, false, false, false, false, false] rfl rfl (any_of HT_.out (by kernel_rfl)) (fun _ _ _ h => h) (Or.inl ⟨by rfl, ?_⟩) ?_ ?_
            rotate_left
            ·intro w'
             go_simp
             with_reducible rfl
            rotate_left
            ·simp only [Act.put, sqA, sqZ, sqS, i64_w, i32_w]
             rfl
            refine pure_ (i := 12) (N := some 40) (v := ?_) (a' := ?_) #[true, true, true, true, true, true, false, true, true, false, false, true, true, false, false, false, false, false, false] rfl rfl (any_of HT_.out (by kernel_rfl)) (fun _ _ _ h => h) (Or.inl ⟨by rfl, ?_⟩) ?_ ?_
            rotate_left
            ·intro w'
             go_simp
             with_reducible rfl
            rotate_left
            ·simp only [Act.put, sqA, sqZ, sqS, i64_w, i32_w]
             rfl
            refine pure_ (i := 15) (N := some 43) (v := ?_) (a' := ?_) #[true, true, true, true, true, true, false, true, true, false, false, true, true, false, false, true, false, false, false] rfl rfl (any_of HT_.out (by kernel_rfl)) (fun _ _ _ h => h) (Or.inl ⟨by rfl, ?_⟩) ?_ ?_
            rotate_left
            ·intro w'
             go_simp
             with_reducible rfl
            rotate_left
            ·simp only [Act.put, sqA, sqZ, sqS, i64_w, i32_w]
             rfl
            refine take_ (i := 6) (N := some 34) (v := ?_) (a' := ?_) #[true, true, true, true, true, true, true, true, true, false, false, true, true, false, false, true, false, false, false] rfl rfl (take_ofW HT_.out HW_.out (by kernel_rfl)) (fun _ _ _ h => h) (Or.inl ⟨by rfl, ?_⟩) hHeld ?_ ?_
            rotate_left
            ·rintro w' ⟨s0, s1, s2, s3⟩
             go_simp
             with_reducible rfl
            rotate_left
            ·simp only [Act.put, sqA, sqZ, sqS, i64_w, i32_w]
             rfl
            refine take_ (i := 9) (N := some 37) (v := ?_) (a' := ?_) #[true, true, true, true, true, true, true, true, true, true, false, true, true, false, false, true, false, false, false] rfl rfl (take_ofW HT_.out HW_.out (by kernel_rfl)) (fun _ _ _ h => h) (Or.inl ⟨by rfl, ?_⟩) hHeld ?_ ?_
            rotate_left
            ·rintro w' ⟨s0, s1, s2, s3⟩
             go_simp
             with_reducible rfl
            rotate_left
            ·simp only [Act.put, sqA, sqZ, sqS, i64_w, i32_w]
             rfl
            refine pure_ (i := 10) (N := some 38) (v := ?_) (a' := ?_) #[true, true, true, true, true, true, true, true, true, true, true, true, true, false, false, true, false, false, false] rfl rfl (any_of HT_.out (by kernel_rfl)) (fun _ _ _ h => h) (Or.inl ⟨by rfl, ?_⟩) ?_ ?_
            rotate_left
            ·intro w'
             go_simp
             with_reducible rfl
            rotate_left
            ·simp only [Act.put, sqA, sqZ, sqS, i64_w, i32_w]
             rfl
            refine take_ (i := 13) (N := some 41) (v := ?_) (a' := ?_) #[true, true, true, true, true, true, true, true, true, true, true, true, true, true, false, true, false, false, false] rfl rfl (take_ofW HT_.out HW_.out (by kernel_rfl)) (fun _ _ _ h => h) (Or.inl ⟨by rfl, ?_⟩) hHeld ?_ ?_
            rotate_left
            ·rintro w' ⟨s0, s1, s2, s3⟩
             go_simp
             with_reducible rfl
            rotate_left
            ·simp only [Act.put, sqA, sqZ, sqS, i64_w, i32_w]
             rfl
            refine pure_ (i := 14) (N := some 42) (v := ?_) (a' := ?_) #[true, true, true, true, true, true, true, true, true, true, true, true, true, true, true, true, false, false, false] rfl rfl (any_of HT_.out (by kernel_rfl)) (fun _ _ _ h => h) (Or.inl ⟨by rfl, ?_⟩) ?_ ?_
            rotate_left
            ·intro w'
             go_simp
             with_reducible rfl
            rotate_left
            ·simp only [Act.put, sqA, sqZ, sqS, i64_w, i32_w]
             rfl
            refine one_ (i := 16) (N := some 44) #[true, true, true, true, true, true, true, true, true, true, true, true, true, true, true, true, true, false, false] rfl rfl (one_of HT_.out (by kernel_rfl)) (by decide) (fun K hK => ?_)
            refine goes_ Try.func37 (by kernel_rfl) rfl #[.agg #[.int .i64 a0_0, .int .i64 a0_1, .slice A0_2 l0_2.length c0_2], .int .i64 (wrap64 (Int.tdiv x25_1 a0_1)), .int .i64 (Int.tmod x25_1 a0_1), .int .i64 a1] (by rfl) rfl rfl (by (try simp only [List.map_toArray, List.map_cons, List.map_nil]); first | done | rfl | (simp only [List.length_drop, List.length_take]; rfl)) ?_
            with_reducible refine (impl_Box_high.calls a0_0 a0_1 _ _ l0_2 (wrap64 (Int.tdiv x25_1 a0_1)) (Int.tmod x25_1 a0_1) a1 t184 _ ?side1 ?side2 A21.out).mono ?_
            (case side1 => repeat (first | exact (Kd.C_below HR0_2.out HB.out) | (with_reducible refine Kd.C_alloc ?_ _) | (with_reducible refine Kd.C_drewN ?_ _) | (with_reducible refine Kd.C_drew ?_)))
            (case side2 => exact HC0_2.out)
            rintro e w23 ⟨rfl, hb⟩
            have HS3_ := (hb.cell (World.block_lt_of_cell? _ _ (hHeld.2.2.2))).trans (hHeld.2.2.2)
            refine ⟨_, rfl, ?_⟩
            have n0_ := Aside0.mk (Kd.R_below (by (with_reducible repeat (first | apply Kd.R_alloc | apply Kd.R_drewN | apply Kd.R_drew)); exact HO_5.out) hb)
            have n1_ := Aside0.mk (blk_below (g := gb178) (o := .cells #[.int .i64 a0_0, .int .i64 a0_1, .slice A0_2 l0_2.length c0_2] 27 (0, 0)) (by (with_reducible repeat (first | refine blk_drewN ?_ _ | refine blk_drew ?_ | refine blk_alloc ?_ _)); exact BK178.out) hb)
            have n2_ := Aside0.mk (below_step (by repeat (first | (with_reducible first | exact HB.out | apply below_alloc | apply pw_below_drewN | apply below_drew1 | refine below_set ?_ GE178.out) | exact HB.out)) hb)
            clear HO_5
            clear BK178
            clear HB
            have HO_5 := n0_
            have BK178 := n1_
            have HB := n2_
            clear n0_ n1_ n2_
            (try clear hb)
            (try clear hb2)
            (try clear hk)
            (try clear hi)
            refine hK.out _ _ ⟨(blk_cell BK178.out 0).trans rfl, (blk_cell BK178.out 1).trans rfl, (blk_cell BK178.out 2).trans rfl, HS3_⟩ (fun hHeld => ?_)
            clear hK K
            refine norm_ (a' := ?_) ?_ ?_
            rotate_left
            ·show Act.put _ (some 44) _ = _
             simp only [Act.put, sqA, sqZ, sqS, i64_w, i32_w]
             rfl
            refine pure_ (i := 17) (N := some 45) (v := ?_) (a' := ?_) #[true, true, true, true, true, true, true, true, true, true, true, true, true, true, true, true, true, true, false] rfl rfl (any_of HT_.out (by kernel_rfl)) (fun _ _ _ h => h) (Or.inl ⟨by rfl, ?_⟩) ?_ ?_
            rotate_left
            ·intro w'
             go_simp
             with_reducible rfl
            rotate_left
            ·simp only [Act.put, sqA, sqZ, sqS, i64_w, i32_w]
             rfl
            refine pure_ (i := 18) (N := some 46) (v := ?_) (a' := ?_) #[true, true, true, true, true, true, true, true, true, true, true, true, true, true, true, true, true, true, true] rfl rfl (any_of HT_.out (by kernel_rfl)) (fun _ _ _ h => h) (Or.inl ⟨by rfl, ?_⟩) ?_ ?_
            rotate_left
            ·intro w'
             go_simp
             with_reducible rfl
            rotate_left
            ·simp only [Act.put, sqA, sqZ, sqS, i64_w, i32_w]
             rfl
            refine done_ (done_of HT_.out (by kernel_rfl)) ?_
            try go_wp2
            go_meet
            case rel => exact ⟨_, (!t184), (by first | rfl | (simp; done) | (simp [*]; done)), H', ⟨by have := HK1.out; first | omega | exact Nat.le_refl _⟩, ⟨by (try simp only [hl5_1]); (with_reducible repeat (first | apply Kd.R_alloc | apply Kd.R_drewN | apply Kd.R_drew)); exact HO_5.out⟩, ⟨by (try simp only [hl5_1]); (with_reducible repeat (first | refine blk_drewN ?_ _ | refine blk_drew ?_ | refine blk_alloc ?_ _)); exact BK178.out⟩, ⟨by repeat (first | (with_reducible first | exact HB.out | apply below_alloc | apply pw_below_drewN | apply below_drew1 | refine below_set ?_ GE178.out) | exact HB.out)⟩⟩
         ·rw [if_neg c17] at H
          exact absurd H (by simp)
        ·rw [if_neg c16] at H
         exact absurd H (by simp)
       case rest =>
        clear HC15
        try clear c1
        try clear p1
        try clear q1
        try clear hx1
        try clear c2
        try clear p2
        try clear c3
        try clear c4
        try clear c5
        try clear c5b0
        try clear c5b1
        try clear c6
        try clear c6b0
        try clear c6b1
        try clear p6
        try clear c10
        try clear c14
        try clear c14b0
        try clear c16
        try clear c16b0
        try clear c17
        try clear c17b0
        try clear c18
        try clear c18b0
        try clear p18
        try clear q18
        try clear hx18
        try clear c20
        try clear c20b0
        try clear c20b1
        try clear hcz10_0
        try clear hcz10_1
        try clear hcz10_2
        try clear hcz8_0
        try clear hcz8_1
        try clear hcz8_2
        try clear hfz10_0
        try clear hfz10_1
        try clear hfz10_2
        try clear hfz8_0
        try clear hfz8_1
        try clear hfz8_2
        try clear hx183_0
        try clear p183
        try clear p2
        try clear q183
        obtain ⟨kq, x46_14, rfl, HA, HJ14, HO_5, BK178, HB⟩ := hcut
        cases kq with
        | zero => exact absurd HA.out (by simp [impl_Cells.j1])
        | succ kj14 =>
         have H := HA.out
         clear HA
         simp only [impl_Cells.j1] at H
         by_cases c24 : x46_14 = true
         ·subst c24
          have H1 : (impl_Cells.l0 kj14 a1 x5_1 x6_1 (y180.length : Int) (wrap64 (x25_1 + 1)) a0_0 a0_1 l0_2) = some r := by rw [if_pos rfl] at H; exact H
          clear H
          have H := H1
          clear H1
          have H' := Aside0.mk H
          clear H
          go_wp2
          (try simp only [← hl5_1])
          go_roundg kj14
          case measure => have := HK1.out; have := HJ14.out; omega
          case rel => exact ⟨(x5_1), (x6_1), (wrap64 (x25_1 + 1)), (by first | rfl | (simp; done) | (simp [*]; done)), (by first | rfl | (simp; done) | (simp [*]; done)), H', ⟨by have := HK1.out; have := HJ14.out; omega⟩, ⟨by (try simp only [hl5_1]); (with_reducible repeat (first | apply Kd.R_alloc | apply Kd.R_drewN | apply Kd.R_drew)); exact HO_5.out⟩, ⟨by (try simp only [hl5_1]); (with_reducible repeat (first | refine blk_drewN ?_ _ | refine blk_drew ?_ | refine blk_alloc ?_ _)); exact BK178.out⟩, ⟨by repeat (first | (with_reducible first | exact HB.out | apply below_alloc | apply pw_below_drewN | apply below_drew1 | refine below_set ?_ GE178.out) | exact HB.out)⟩⟩
         ·replace c24 := Bool.eq_false_iff.mpr c24
          subst c24
          have H1 : (if 0 ≤ x25_1 then (if x25_1 < (x5_1.length : Int) then (impl_Cells.l1 kj14 a1 (x5_1.set (x25_1 : Int).toNat (wrap64 (x6_1 + 1))) (wrap64 (x6_1 + 1)) (([x25_1] : List Int)) (y180.length : Int) x25_1 a0_0 a0_1 l0_2) else (none)) else (none)) = some r := by rw [if_neg (show ¬ (false = true) by decide)] at H; exact H
          clear H
          have H := H1
          clear H1
          by_cases c25 : 0 ≤ x25_1
          ·rw [if_pos c25] at H
           have c25b0 : decide (0 ≤ x25_1) = true := decide_eq_true c25
           clear c25
           by_cases c26 : x25_1 < (x5_1.length : Int)
           ·rw [if_pos c26] at H
            have c26b0 : decide (x25_1 < (x5_1.length : Int)) = true := decide_eq_true c26
            (try simp only [hl5_1] at c26b0)
            clear c26
            obtain ⟨y185, hy185⟩ : ∃ y_ : List Int, y_ = (x5_1.set (x25_1 : Int).toNat (wrap64 (x6_1 + 1))) := ⟨_, rfl⟩
            replace H : (impl_Cells.l1 kj14 a1 y185 (wrap64 (x6_1 + 1)) (([x25_1] : List Int)) (y180.length : Int) x25_1 a0_0 a0_1 l0_2) = some r := by first | (rw [hy185]; with_reducible exact H) | (have H2_ := (Option.bind_some _ _).symm.trans H; rw [hy185]; with_reducible exact H2_) | (have H2_ := (Option.bind_some _ _).symm.trans H; with_reducible exact H2_) | with_reducible exact H | (rw [hy185]; exact H) | exact H
            have Ny185 := Aside0.mk hy185
            clear hy185
            obtain ⟨y186, hy186⟩ : ∃ y_ : List Int, y_ = (([x25_1] : List Int)) := ⟨_, rfl⟩
            replace H : (impl_Cells.l1 kj14 a1 y185 (wrap64 (x6_1 + 1)) y186 (y180.length : Int) x25_1 a0_0 a0_1 l0_2) = some r := by first | (rw [hy186]; with_reducible exact H) | (have H2_ := (Option.bind_some _ _).symm.trans H; rw [hy186]; with_reducible exact H2_) | (have H2_ := (Option.bind_some _ _).symm.trans H; with_reducible exact H2_) | with_reducible exact H | (rw [hy186]; exact H) | exact H
            have Ny186 := Aside0.mk hy186
            clear hy186
            have H' := Aside0.mk H
            clear H
            have p27 : 0 ≤ (x25_1 : Int) := of_decide_eq_true (by first | (with_reducible assumption) | assumption)
            have q27 : (x25_1 : Int) < ((x5_1.length : Int) : Int) := of_decide_eq_true (by first | (with_reducible assumption) | assumption)
            obtain ⟨go27, co27, eo27, gb27, gl27, cl27, HG27⟩ := Kd.R_form HO_5.out (by omega)
            (first | cases eo27 | (injection eo27 with ea_ en_ ec_; (first | subst ea_ | (injection ea_ with ea_; subst ea_)); subst ec_; clear en_))
            have GB27 := Aside0.mk gb27
            have GG27 := Aside0.mk HG27
            clear gb27 gl27 HG27
            obtain ⟨hx27_0, hf27_0⟩ := Kd.R_celln 0 HO_5.out (x25_1 : Int) p27 q27
            replace p27 := eq_true p27
            replace q27 := eq_true q27
            have HP28 := Kd.R_putg HO_5.out (x25_1 : Int) (wrap64 (x6_1 + 1))
            go_wp2_with (first | ((with_reducible refine gate_store (t := 2) (p := 52) rfl ?_); refine store_event (t := 2) (p := 52) (v := ?vo_w29) (w1 := (wc.setCell ⟨go27, (x25_1 : Int).toNat, none⟩ (.int .i64 (wrap64 (x6_1 + 1))))) ?hg ?ho ?hn ?hr ?_; (case ho => rfl); (case hg => rfl); (case hn => rfl); (case hr => first | (go_simp; done) | (go_simp; rfl)); intro w29 hw; have hg : wc.grownBy w29 (some go27) := (by rw [hw]; exact HP28.2); have hp_ : Kd.R (Kd.int .i64) 2 w29 w.heap.size (fun _ => True) (.slice (some ⟨go27, 0, none⟩) x5_1.length co13) y185 := (by rw [hw, Ny185.out]; exact HP28.1); clear HP28; have n0_ := Aside0.mk (hp_); have n1_ := Aside0.mk (blk_grown (g := gb178) (o := .cells #[.int .i64 a0_0, .int .i64 a0_1, .slice A0_2 l0_2.length c0_2] 27 (0, 0)) (by (with_reducible repeat (first | refine blk_drewN ?_ _ | refine blk_drew ?_ | refine blk_alloc ?_ _)); exact BK178.out) hg (Kd.R_ne HO_5.out BK178.out (by decide))); have n2_ := Aside0.mk ((by rw [hw]; exact below_set (HB.out) GB27.out : Below w.heap.size w w29)); clear HO_5; clear BK178; clear HB; have HO_5 := n0_; have BK178 := n1_; have HB := n2_; clear n0_ n1_ n2_; clear hg hw hp_) | ((with_reducible refine gate_dst (N := 54) rfl ?_); refine Kd.R_lit (Kd.int .i64) _ 2 ?hg (N := 54) ?hd (xs := ([x25_1] : List Int)) (inner := [.int .i64 x25_1]) (ok := fun _ => True) (okp := fun _ => True) ?hr ?hp (fun _ hk => hk) trivial (Below.refl _ _) (Nat.le_refl _) (by simp) ?_; (case hd => rfl); (case hg => rfl); (case hr => first | (go_simp; done) | (go_simp; rfl)); (case hp => exact (Reps.one (show Kd.M (Kd.int .i64) _ _ _ x25_1 [.int .i64 x25_1] from rfl) (Reps.none _ _))); intro v187 w30 ho31 hb hg_ hnew_; clear hg_ hnew_; (first | rw [← Ny186.out] at ho31 | (simp only [Int.reduceToNat] at ho31; rw [← Ny186.out] at ho31)); have n0_ := Aside0.mk (Kd.R_elder' (by (with_reducible repeat (first | apply Kd.R_alloc | apply Kd.R_drewN | apply Kd.R_drew)); exact HO_5.out) (Kd.R_base ho31) hb); have n1_ := Aside0.mk (Kd.R_lower (Kd.R_new' ho31 (Kd.R_lt (by (with_reducible repeat (first | apply Kd.R_alloc | apply Kd.R_drewN | apply Kd.R_drew)); exact HO_5.out))) (below_size (by repeat (first | (with_reducible first | exact HB.out | apply below_alloc | apply pw_below_drewN | apply below_drew1 | refine below_set ?_ GE178.out) | exact HB.out)))); have n2_ := Aside0.mk (blk_below (g := gb178) (o := .cells #[.int .i64 a0_0, .int .i64 a0_1, .slice A0_2 l0_2.length c0_2] 27 (0, 0)) (by (with_reducible repeat (first | refine blk_drewN ?_ _ | refine blk_drew ?_ | refine blk_alloc ?_ _)); exact BK178.out) hb); have n3_ := Aside0.mk (below_step (by repeat (first | (with_reducible first | exact HB.out | apply below_alloc | apply pw_below_drewN | apply below_drew1 | refine below_set ?_ GE178.out) | exact HB.out)) hb); clear HO_5; clear BK178; clear HB; have HO_5 := n0_; have HO188 := n1_; have BK178 := n2_; have HB := n3_; clear n0_ n1_ n2_ n3_; clear hb ho31))
            go_loopg [8] kj14 (fun kq v8 w' => ∃ (x5_3 : List Int) (x8_3 : List Int), Aside0 (impl_Cells.l1 kq a1 x5_3 (wrap64 (x6_1 + 1)) x8_3 (y180.length : Int) x25_1 a0_0 a0_1 l0_2 = some r) ∧ Aside0 (kq ≤ kj14) ∧ Aside0 (Kd.R (Kd.int .i64) 2 w' w.heap.size (fun k_ => some k_ ≠ (v8 : Value).ownBlock) (.slice (some ⟨go27, 0, none⟩) x5_1.length co13) x5_3) ∧ Aside0 (Kd.Q (Kd.int .i64) 2 w' w.heap.size (fun k_ => some k_ ≠ ((.slice (some ⟨go27, 0, none⟩) x5_1.length co13) : Value).ownBlock) v8 x8_3) ∧ Aside0 (w'.heap[gb178]? = some (.cells #[.int .i64 a0_0, .int .i64 a0_1, (.slice A0_2 l0_2.length c0_2)] 27 (0, 0))) ∧ Aside0 (Below w.heap.size w w'))
            case atStart => exact ⟨(y185), (y186), H', ⟨Nat.le_refl _⟩, ⟨by (try simp only [hl5_1]); (with_reducible repeat (first | apply Kd.R_alloc | apply Kd.R_drewN | apply Kd.R_drew)); exact Kd.R_mono HO_5.out (fun _ hk => hk.2)⟩, ⟨Kd.Q_of_R (by (try simp only [hl5_1]); (with_reducible repeat (first | apply Kd.R_alloc | apply Kd.R_drewN | apply Kd.R_drew)); exact Kd.R_mono HO188.out (fun _ hk => hk.2))⟩, ⟨by (try simp only [hl5_1]); (with_reducible repeat (first | refine blk_drewN ?_ _ | refine blk_drew ?_ | refine blk_alloc ?_ _)); exact BK178.out⟩, ⟨by repeat (first | (with_reducible first | exact HB.out | apply below_alloc | apply pw_below_drewN | apply below_drew1 | refine below_set ?_ GE178.out) | exact HB.out)⟩⟩
            case round =>
             clear H'
             try clear c1
             try clear p1
             try clear q1
             try clear hx1
             try clear c2
             try clear p2
             try clear q2
             try clear hx2
             try clear hf2
             try clear c3
             try clear c4
             try clear c5
             try clear c5b0
             try clear c5b1
             try clear c6
             try clear c6b0
             try clear c6b1
             try clear p6
             try clear c10
             try clear c14
             try clear c14b0
             try clear c16
             try clear c16b0
             try clear c17
             try clear c17b0
             try clear c18
             try clear c18b0
             try clear p18
             try clear q18
             try clear hx18
             try clear c20
             try clear c20b0
             try clear c20b1
             try clear c24
             try clear c25
             try clear c25b0
             try clear c26
             try clear c26b0
             try clear p27
             try clear q27
             try clear hx27
             try clear hf27
             try clear hcz10_0
             try clear hcz10_1
             try clear hcz10_2
             try clear hcz8_0
             try clear hcz8_1
             try clear hcz8_2
             try clear hfz10_0
             try clear hfz10_1
             try clear hfz10_2
             try clear hfz8_0
             try clear hfz8_1
             try clear hfz8_2
             try clear hx183_0
             try clear hx27_0
             try clear p1
             try clear p18
             try clear p183
             try clear p2
             try clear p27
             try clear p6
             try clear q1
             try clear q18
             try clear q183
             try clear q27
             obtain ⟨x5_3, x8_3, HA, HK3, HO_5, HO_8, BK178, HB⟩ := hrel
             have hl5_3 := (Kd.R_reads' HO_5.out).1
             rw [hl5_3] at HO_5
             (try simp only [hl5_3])
             (try simp only [hl5_3] at BK178)
             (try simp only [hl5_3] at HO_8)
             cases gk with
             | zero => exact absurd HA.out (by simp [impl_Cells.l1])
             | succ k3 =>
              have H := HA.out
              clear HA
              simp only [impl_Cells.l1] at H
              by_cases c32 : (x8_3.length : Int) > 0
              ·rw [if_pos c32] at H
               have c32b0 : decide (0 < (x8_3.length : Int)) = true := decide_eq_true c32
               (try simp only [hl5_1, hl5_3] at c32b0)
               have c32b1 : decide (0 < x8_3.length) = true := decide_eq_true (by omega)
               (try simp only [hl5_1, hl5_3] at c32b1)
               clear c32
               by_cases c33 : 0 < (x8_3.length : Int)
               ·rw [if_pos c33] at H
                have c33b0 : decide (0 < (x8_3.length : Int)) = true := decide_eq_true c33
                (try simp only [hl5_1, hl5_3] at c33b0)
                have c33b1 : decide (0 < x8_3.length) = true := decide_eq_true (by omega)
                (try simp only [hl5_1, hl5_3] at c33b1)
                clear c33
                by_cases c34 : 1 ≤ (x8_3.length : Int)
                ·rw [if_pos c34] at H
                 have c34b0 := eq_true c34
                 have c34b1 : decide (1 ≤ (x8_3.length : Int)) = true := decide_eq_true c34
                 clear c34
                 obtain ⟨y190, hy190⟩ : ∃ y_ : List Int, y_ = (x8_3.drop (1 : Int).toNat) := ⟨_, rfl⟩
                 replace H : (if a0_1 = 0 then (none) else ((some (([(⟨1, 0⟩ : S60), (⟨0, 1⟩ : S60), (⟨(-1), 0⟩ : S60), (⟨0, (-1)⟩ : S60)] : List (S60)) : List (S60))).bind fun y193 => (impl_Cells.l2 k3 a1 x5_3 (wrap64 (x6_1 + 1)) y190 (wrap64 (Int.tdiv (rd x8_3 0) a0_1)) (Int.tmod (rd x8_3 0) a0_1) (y180.length : Int) x25_1 y193 (y193.length : Int) 0 a0_0 a0_1 l0_2))) = some r := by first | (rw [hy190]; with_reducible exact H) | (have H2_ := (Option.bind_some _ _).symm.trans H; rw [hy190]; with_reducible exact H2_) | (have H2_ := (Option.bind_some _ _).symm.trans H; with_reducible exact H2_) | with_reducible exact H | (rw [hy190]; exact H) | exact H
                 have Ny190 := Aside0.mk hy190
                 clear hy190
                 by_cases c35 : a0_1 = 0
                 ·rw [if_pos c35] at H
                  exact absurd H (by simp)
                 ·rw [if_neg c35] at H
                  have c35b0 : (a0_1 == 0) = false := beq_eq_false_iff_ne.mpr c35
                  have c35b1 : (a0_1 != 0) = true := bne_iff_ne.mpr c35
                  obtain ⟨y193, hy193⟩ : ∃ y_ : List (S60), y_ = (([(⟨1, 0⟩ : S60), (⟨0, 1⟩ : S60), (⟨(-1), 0⟩ : S60), (⟨0, (-1)⟩ : S60)] : List (S60))) := ⟨_, rfl⟩
                  replace H : (impl_Cells.l2 k3 a1 x5_3 (wrap64 (x6_1 + 1)) y190 (wrap64 (Int.tdiv (rd x8_3 0) a0_1)) (Int.tmod (rd x8_3 0) a0_1) (y180.length : Int) x25_1 y193 (y193.length : Int) 0 a0_0 a0_1 l0_2) = some r := by first | (rw [hy193]; with_reducible exact H) | (have H2_ := (Option.bind_some _ _).symm.trans H; rw [hy193]; with_reducible exact H2_) | (have H2_ := (Option.bind_some _ _).symm.trans H; with_reducible exact H2_) | with_reducible exact H | (rw [hy193]; exact H) | exact H
                  have Ny193 := Aside0.mk hy193
                  clear hy193
                  have H' := Aside0.mk H
                  clear H
                  obtain ⟨Ao36, co36, eo36, _⟩ := Kd.Q_slice HO_8.out
                  subst eo36
                  have p189 : 0 ≤ (0 : Int) := (by omega)
                  have q189 : 0 < (x8_3.length : Int) := of_decide_eq_true (by first | (with_reducible assumption) | assumption)
                  obtain ⟨ad189, e189, hx189_0⟩ := Kd.at_int (Kd.Q_reads' HO_8.out).2.2 0 p189 q189
                  cases e189
                  have qi189 : (0 < x8_3.length) = True := eq_true (by omega)
                  (try rw [show ((0 : Int)).toNat = 0 from rfl] at hx189_0)
                  (try rw [Addr.add_zero'] at hx189_0)
                  replace p189 := eq_true p189
                  replace q189 := eq_true q189
                  have q37 : (1 : Int) ≤ ((x8_3.length : Int) : Int) := of_decide_eq_true (by first | (with_reducible assumption) | assumption)
                  obtain ⟨i037, hi037, _, hsz37, _⟩ := info_parts info2
                  have hcut37 := cut_from (P := Try.prog) 22 2 .i64 Try.underlying22 hi037 1 hsz37 (some ad189) x8_3.length co36 1 (by omega) q37
                  have hr37 := Kd.Q_drop (k := (1 : Int).toNat) HO_8.out (by omega)
                  obtain ⟨A37, hA37⟩ : ∃ A1, A1 = (if co36 = (1 : Int).toNat then (some ad189) else ((some ad189) : Option Addr).map (·.add ((1 : Int).toNat * 1))) := ⟨_, rfl⟩
                  obtain ⟨c37, hc37⟩ : ∃ c1, c1 = co36 - (1 : Int).toNat := ⟨_, rfl⟩
                  have hy37 : y190.length = x8_3.length - (1 : Int).toNat := (by rw [Ny190.out, List.length_drop])
                  rw [← Ny190.out] at hr37
                  rw [← hy37, ← hA37, ← hc37] at hcut37
                  replace hr37 : Kd.Q (Kd.int .i64) 2 wr w.heap.size (fun k_ => some k_ ≠ (.slice (some ⟨go27, 0, none⟩) x5_3.length co13 : Value).ownBlock) (.slice A37 y190.length c37) y190 := (by rw [hA37, hc37, hy37]; exact hr37)
                  have HE37 : Aside0 ((Value.slice A37 y190.length c37).ownBlock = (.slice (some ad189) x8_3.length co36 : Value).ownBlock) := ⟨by rw [hA37]; split <;> (cases ((some ad189) : Option Addr) <;> rfl)⟩
                  clear hy37 hi037 hsz37 HO_8 hA37 hc37
                  have HO192 := Aside0.mk hr37
                  clear hr37
                  replace q37 := eq_true q37
                  have n_ := Aside0.mk (Kd.R_mono (ok' := fun k_ => some k_ ≠ (.slice A37 y190.length c37 : Value).ownBlock) HO_5.out (fun k_ hk => (by rw [HE37.out]; exact hk)))
                  clear HO_5
                  have HO_5 := n_
                  clear n_
                  try go_wp2
                  have n0_ := Aside0.mk (Kd.R_drew HO_5.out)
                  have n1_ := Aside0.mk (Kd.Q_drew HO192.out)
                  have n2_ := Aside0.mk (blk_drew BK178.out)
                  have n3_ := Aside0.mk (below_drew1 HB.out)
                  clear HO_5
                  clear HO192
                  clear BK178
                  clear HB
                  have HO_5 := n0_
                  have HO192 := n1_
                  have BK178 := n2_
                  have HB := n3_
                  clear n0_ n1_ n2_ n3_
                  refine start_ (n := 10) (S := fun w' => w'.cell? ⟨gb178, 0, none⟩ = some (.int .i64 a0_0) ∧ w'.cell? ⟨gb178, 1, none⟩ = some (.int .i64 a0_1) ∧ w'.cell? ⟨gb178, 2, none⟩ = some (.slice A0_2 l0_2.length c0_2)) (ds := []) #[false, false, false, false, false, false, false, false, false, false] (by kernel_rfl) rfl rfl ⟨(blk_cell BK178.out 0).trans rfl, (blk_cell BK178.out 1).trans rfl, (blk_cell BK178.out 2).trans rfl⟩ (fun hHeld => ?_); refine with_tabW impl_Cells.tab15 impl_Cells.bits15 (fun HT_ HW_ => ?_)
                  generalize wr.drew = w38 at HO_5 HO192 BK178 HB hHeld ⊢
                  refine pure_ (i := 0) (N := some 63) (v := ?_) (a' := ?_) #[true, false, false, false, false, false, false, false, false, false] rfl rfl (any_of HT_.out (by kernel_rfl)) (fun _ _ _ h => h) (Or.inl ⟨by rfl, ?_⟩) ?_ ?_
                  rotate_left
                  ·intro w'
                   go_simp
                   with_reducible rfl
                  rotate_left
                  ·simp only [Act.put, sqA, sqZ, sqS, i64_w, i32_w]
                   rfl
                  refine pure_ (i := 1) (N := some 64) (v := ?_) (a' := ?_) #[true, true, false, false, false, false, false, false, false, false] rfl rfl (any_of HT_.out (by kernel_rfl)) (fun _ _ _ h => h) (Or.inl ⟨by rfl, ?_⟩) ?_ ?_
                  rotate_left
                  ·intro w'
                   go_simp
                   with_reducible rfl
                  rotate_left
                  ·simp only [Act.put, sqA, sqZ, sqS, i64_w, i32_w]
                   rfl
                  refine pure_ (i := 4) (N := some 67) (v := ?_) (a' := ?_) #[true, true, false, false, true, false, false, false, false, false] rfl rfl (any_of HT_.out (by kernel_rfl)) (fun _ _ _ h => h) (Or.inl ⟨by rfl, ?_⟩) ?_ ?_
                  rotate_left
                  ·intro w'
                   go_simp
                   with_reducible rfl
                  rotate_left
                  ·simp only [Act.put, sqA, sqZ, sqS, i64_w, i32_w]
                   rfl
                  refine pure_ (i := 5) (N := some 68) (v := ?_) (a' := ?_) #[true, true, false, false, true, true, false, false, false, false] rfl rfl (any_of HT_.out (by kernel_rfl)) (fun _ _ _ h => h) (Or.inl ⟨by rfl, ?_⟩) ?_ ?_
                  rotate_left
                  ·intro w'
                   go_simp
                   with_reducible rfl
                  rotate_left
                  ·simp only [Act.put, sqA, sqZ, sqS, i64_w, i32_w]
                   rfl
                  refine take_ (i := 2) (N := some 65) (v := ?_) (a' := ?_) #[true, true, true, false, true, true, false, false, false, false] rfl rfl (take_ofW HT_.out HW_.out (by kernel_rfl)) (fun _ _ _ h => h) (Or.inl ⟨by rfl, ?_⟩) hHeld ?_ ?_
                  rotate_left
                  ·rintro w' ⟨s0, s1, s2⟩
                   go_simp
                   with_reducible rfl
                  rotate_left
                  ·simp only [Act.put, sqA, sqZ, sqS, i64_w, i32_w]
                   rfl
                  refine pure_ (i := 3) (N := some 66) (v := ?_) (a' := ?_) #[true, true, true, true, true, true, false, false, false, false] rfl rfl (any_of HT_.out (by kernel_rfl)) (fun _ _ _ h => h) (Or.inl ⟨by rfl, ?_⟩) ?_ ?_
                  rotate_left
                  ·intro w'
                   go_simp
                   with_reducible rfl
                  rotate_left
                  ·simp only [Act.put, sqA, sqZ, sqS, i64_w, i32_w]
                   rfl
                  refine pure_ (i := 8) (N := some 10) (v := ?_) (a' := ?_) #[true, true, true, true, true, true, false, false, true, false] rfl rfl (any_of HT_.out (by kernel_rfl)) (fun _ _ _ h => h) (Or.inl ⟨by rfl, ?_⟩) ?_ ?_
                  rotate_left
                  ·intro w'
                   go_simp
                   with_reducible rfl
                  rotate_left
                  ·simp only [Act.put, sqA, sqZ, sqS, i64_w, i32_w]
                   rfl
                  refine take_ (i := 6) (N := some 69) (v := ?_) (a' := ?_) #[true, true, true, true, true, true, true, false, true, false] rfl rfl (take_ofW HT_.out HW_.out (by kernel_rfl)) (fun _ _ _ h => h) (Or.inl ⟨by rfl, ?_⟩) hHeld ?_ ?_
                  rotate_left
                  ·rintro w' ⟨s0, s1, s2⟩
                   go_simp
                   with_reducible rfl
                  rotate_left
                  ·simp only [Act.put, sqA, sqZ, sqS, i64_w, i32_w]
                   rfl
                  refine pure_ (i := 7) (N := some 70) (v := ?_) (a' := ?_) #[true, true, true, true, true, true, true, true, true, false] rfl rfl (any_of HT_.out (by kernel_rfl)) (fun _ _ _ h => h) (Or.inl ⟨by rfl, ?_⟩) ?_ ?_
                  rotate_left
                  ·intro w'
                   go_simp
                   with_reducible rfl
                  rotate_left
                  ·simp only [Act.put, sqA, sqZ, sqS, i64_w, i32_w]
                   rfl
                  refine pure_ (i := 9) (N := some 11) (v := ?_) (a' := ?_) #[true, true, true, true, true, true, true, true, true, true] rfl rfl (any_of HT_.out (by kernel_rfl)) (fun _ _ _ h => h) (Or.inl ⟨by rfl, ?_⟩) ?_ ?_
                  rotate_left
                  ·intro w'
                   go_simp
                   with_reducible rfl
                  rotate_left
                  ·simp only [Act.put, sqA, sqZ, sqS, i64_w, i32_w]
                   rfl
                  refine done_ (done_of HT_.out (by kernel_rfl)) ?_
                  try go_wp2_with (first | ((with_reducible refine gate_dst (N := 75) rfl ?_); refine Kd.R_lit k60 _ 60 ?hg (N := 75) ?hd (xs := ([(⟨1, 0⟩ : S60), (⟨0, 1⟩ : S60), (⟨(-1), 0⟩ : S60), (⟨0, (-1)⟩ : S60)] : List (S60))) (inner := [.int .i64 1, .int .i64 0, .int .i64 0, .int .i64 1, .int .i64 (-1), .int .i64 0, .int .i64 0, .int .i64 (-1)]) (ok := fun _ => True) (okp := fun _ => True) ?hr ?hp (fun _ hk => hk) trivial (Below.refl _ _) (Nat.le_refl _) (by simp) ?_; (case hd => rfl); (case hg => rfl); (case hr => first | (go_simp; done) | (go_simp; rfl)); (case hp => exact (Reps.c2 (show Kd.M k60 _ _ _ (⟨1, 0⟩ : S60) [.int .i64 1, .int .i64 0] from (k60_mkM _ _ _ (⟨1, 0⟩ : S60) )) (Reps.c2 (show Kd.M k60 _ _ _ (⟨0, 1⟩ : S60) [.int .i64 0, .int .i64 1] from (k60_mkM _ _ _ (⟨0, 1⟩ : S60) )) (Reps.c2 (show Kd.M k60 _ _ _ (⟨(-1), 0⟩ : S60) [.int .i64 (-1), .int .i64 0] from (k60_mkM _ _ _ (⟨(-1), 0⟩ : S60) )) (Reps.c2 (show Kd.M k60 _ _ _ (⟨0, (-1)⟩ : S60) [.int .i64 0, .int .i64 (-1)] from (k60_mkM _ _ _ (⟨0, (-1)⟩ : S60) )) (Reps.none _ _)))))); intro v194 w39 ho40 hb hg_ hnew_; clear hg_ hnew_; (first | rw [← Ny193.out] at ho40 | (simp only [Int.reduceToNat] at ho40; rw [← Ny193.out] at ho40)); have n0_ := Aside0.mk (Kd.R_below (by (with_reducible repeat (first | apply Kd.R_alloc | apply Kd.R_drewN | apply Kd.R_drew)); exact HO_5.out) hb); have n1_ := Aside0.mk (Kd.Q_below (by (with_reducible repeat (first | apply Kd.Q_alloc | apply Kd.Q_drewN | apply Kd.Q_drew)); exact HO192.out) hb); have n2_ := Aside0.mk (Kd.R_lower ho40 (below_size (by repeat (first | (with_reducible first | exact HB.out | apply below_alloc | apply pw_below_drewN | apply below_drew1 | refine below_set ?_ GE178.out) | exact HB.out)))); have n3_ := Aside0.mk (blk_below (g := gb178) (o := .cells #[.int .i64 a0_0, .int .i64 a0_1, .slice A0_2 l0_2.length c0_2] 27 (0, 0)) (by (with_reducible repeat (first | refine blk_drewN ?_ _ | refine blk_drew ?_ | refine blk_alloc ?_ _)); exact BK178.out) hb); have n4_ := Aside0.mk (below_step (by repeat (first | (with_reducible first | exact HB.out | apply below_alloc | apply pw_below_drewN | apply below_drew1 | refine below_set ?_ GE178.out) | exact HB.out)) hb); clear HO_5; clear HO192; clear BK178; clear HB; have HO_5 := n0_; have HO192 := n1_; have HO195 := n2_; have BK178 := n3_; have HB := n4_; clear n0_ n1_ n2_ n3_ n4_; clear hb ho40; obtain ⟨Ao41, co41, eo41⟩ := Kd.R_slice HO195.out; subst eo41))
                  go_loopg [8, 77] k3 (fun kq v8 v77 w' => ∃ (x5_4 : List Int) (x8_4 : List Int) (x77_4 : Int), v77 = .int .i64 x77_4 ∧ Aside0 (impl_Cells.l2 kq a1 x5_4 (wrap64 (x6_1 + 1)) x8_4 (wrap64 (Int.tdiv (rd x8_3 0) a0_1)) (Int.tmod (rd x8_3 0) a0_1) (y180.length : Int) x25_1 y193 (y193.length : Int) x77_4 a0_0 a0_1 l0_2 = some r) ∧ Aside0 (kq ≤ k3) ∧ Aside0 (Kd.R (Kd.int .i64) 2 w' w.heap.size (fun k_ => some k_ ≠ (v8 : Value).ownBlock) (.slice (some ⟨go27, 0, none⟩) x5_3.length co13) x5_4) ∧ Aside0 (Kd.Q (Kd.int .i64) 2 w' w.heap.size (fun k_ => some k_ ≠ ((.slice (some ⟨go27, 0, none⟩) x5_3.length co13) : Value).ownBlock) v8 x8_4) ∧ Aside0 (Kd.R k60 60 w' w.heap.size (fun _ => True) (.slice Ao41 y193.length co41) y193) ∧ Aside0 (w'.heap[gb178]? = some (.cells #[.int .i64 a0_0, .int .i64 a0_1, (.slice A0_2 l0_2.length c0_2)] 27 (0, 0))) ∧ Aside0 (Below w.heap.size w w'))
                  case atStart => exact ⟨(x5_3), (y190), (0), (by first | rfl | (simp; done) | (simp [*]; done)), H', ⟨Nat.le_refl _⟩, ⟨by (try simp only [hl5_1]); (try simp only [hl5_3]); (with_reducible repeat (first | apply Kd.R_alloc | apply Kd.R_drewN | apply Kd.R_drew)); exact HO_5.out⟩, ⟨by (try simp only [hl5_1]); (try simp only [hl5_3]); (with_reducible repeat (first | apply Kd.Q_alloc | apply Kd.Q_drewN | apply Kd.Q_drew)); exact HO192.out⟩, ⟨by (try simp only [hl5_1]); (try simp only [hl5_3]); (with_reducible repeat (first | apply Kd.R_alloc | apply Kd.R_drewN | apply Kd.R_drew)); exact HO195.out⟩, ⟨by (try simp only [hl5_1]); (try simp only [hl5_3]); (with_reducible repeat (first | refine blk_drewN ?_ _ | refine blk_drew ?_ | refine blk_alloc ?_ _)); exact BK178.out⟩, ⟨by repeat (first | (with_reducible first | exact HB.out | apply below_alloc | apply pw_below_drewN | apply below_drew1 | refine below_set ?_ GE178.out) | exact HB.out)⟩⟩
                  case round =>
                   clear H'
                   try clear c1
                   try clear p1
                   try clear q1
                   try clear hx1
                   try clear qi1
                   try clear c2
                   try clear p2
                   try clear q2
                   try clear hx2
                   try clear hf2
                   try clear c3
                   try clear q3
                   try clear c4
                   try clear c5
                   try clear c5b0
                   try clear c5b1
                   try clear c6
                   try clear c6b0
                   try clear c6b1
                   try clear p6
                   try clear c10
                   try clear c14
                   try clear c14b0
                   try clear c16
                   try clear c16b0
                   try clear c17
                   try clear c17b0
                   try clear c18
                   try clear c18b0
                   try clear p18
                   try clear q18
                   try clear hx18
                   try clear qi18
                   try clear c20
                   try clear c20b0
                   try clear c20b1
                   try clear c24
                   try clear c25
                   try clear c25b0
                   try clear c26
                   try clear c26b0
                   try clear p27
                   try clear q27
                   try clear hx27
                   try clear hf27
                   try clear c32
                   try clear c32b0
                   try clear c32b1
                   try clear c33
                   try clear c33b0
                   try clear c33b1
                   try clear c34
                   try clear c34b0
                   try clear c34b1
                   try clear c35
                   try clear c35b0
                   try clear c35b1
                   try clear c37
                   try clear q37
                   try clear hcz10_0
                   try clear hcz10_1
                   try clear hcz10_2
                   try clear hcz8_0
                   try clear hcz8_1
                   try clear hcz8_2
                   try clear hfz10_0
                   try clear hfz10_1
                   try clear hfz10_2
                   try clear hfz8_0
                   try clear hfz8_1
                   try clear hfz8_2
                   try clear hx183_0
                   try clear hx189_0
                   try clear hx27_0
                   try clear p1
                   try clear p18
                   try clear p183
                   try clear p189
                   try clear p2
                   try clear p27
                   try clear p6
                   try clear q1
                   try clear q18
                   try clear q183
                   try clear q189
                   try clear q2
                   try clear q27
                   try clear q37
                   obtain ⟨x5_4, x8_4, x77_4, rfl, HA, HK4, HO_5, HO_8, HO_75, BK178, HB⟩ := hrel
                   have hl5_4 := (Kd.R_reads' HO_5.out).1
                   rw [hl5_4] at HO_5
                   (try simp only [hl5_4])
                   (try simp only [hl5_4] at BK178)
                   (try simp only [hl5_4] at HO_8)
                   (try simp only [hl5_4] at HO_75)
                   cases gk with
                   | zero => exact absurd HA.out (by simp [impl_Cells.l2])
                   | succ k4 =>
                    have H := HA.out
                    clear HA
                    simp only [impl_Cells.l2] at H
                    by_cases c42 : x77_4 < (y193.length : Int)
                    ·rw [if_pos c42] at H
                     have c42b0 : decide (x77_4 < (y193.length : Int)) = true := decide_eq_true c42
                     (try simp only [hl5_1, hl5_3, hl5_4] at c42b0)
                     clear c42
                     by_cases c43 : 0 ≤ x77_4
                     ·rw [if_pos c43] at H
                      have c43b0 : decide (0 ≤ x77_4) = true := decide_eq_true c43
                      clear c43
                      by_cases c44 : x77_4 < (y193.length : Int)
                      ·rw [if_pos c44] at H
                       have c44b0 : decide (x77_4 < (y193.length : Int)) = true := decide_eq_true c44
                       (try simp only [hl5_1, hl5_3, hl5_4] at c44b0)
                       clear c44
                       replace H := Option.bind_eq_some_iff.mp H
                       obtain ⟨t198, A450, H⟩ := H
                       replace H : (if t198 = true then (if 0 ≤ (wrap64 ((wrap64 ((wrap64 ((wrap64 (Int.tdiv (rd x8_3 0) a0_1)) + ((rd_T60 y193 x77_4).f0))) * a0_1)) + (wrap64 ((Int.tmod (rd x8_3 0) a0_1) + ((rd_T60 y193 x77_4).f1))))) then (if (wrap64 ((wrap64 ((wrap64 ((wrap64 (Int.tdiv (rd x8_3 0) a0_1)) + ((rd_T60 y193 x77_4).f0))) * a0_1)) + (wrap64 ((Int.tmod (rd x8_3 0) a0_1) + ((rd_T60 y193 x77_4).f1))))) < (x5_4.length : Int) then (if (rd x5_4 (wrap64 ((wrap64 ((wrap64 ((wrap64 (Int.tdiv (rd x8_3 0) a0_1)) + ((rd_T60 y193 x77_4).f0))) * a0_1)) + (wrap64 ((Int.tmod (rd x8_3 0) a0_1) + ((rd_T60 y193 x77_4).f1)))))) = 0 then (if x8_4.length < 17592186044416 then (impl_Cells.l2 k4 a1 (x5_4.set ((wrap64 ((wrap64 ((wrap64 ((wrap64 (Int.tdiv (rd x8_3 0) a0_1)) + ((rd_T60 y193 x77_4).f0))) * a0_1)) + (wrap64 ((Int.tmod (rd x8_3 0) a0_1) + ((rd_T60 y193 x77_4).f1))))) : Int).toNat (wrap64 (x6_1 + 1))) (wrap64 (x6_1 + 1)) (x8_4 ++ [wrap64 ((wrap64 ((wrap64 ((wrap64 (Int.tdiv (rd x8_3 0) a0_1)) + ((rd_T60 y193 x77_4).f0))) * a0_1)) + (wrap64 ((Int.tmod (rd x8_3 0) a0_1) + ((rd_T60 y193 x77_4).f1))))]) (wrap64 (Int.tdiv (rd x8_3 0) a0_1)) (Int.tmod (rd x8_3 0) a0_1) (y180.length : Int) x25_1 y193 (y193.length : Int) (wrap64 (x77_4 + 1)) a0_0 a0_1 l0_2) else (none)) else (impl_Cells.l2 k4 a1 x5_4 (wrap64 (x6_1 + 1)) x8_4 (wrap64 (Int.tdiv (rd x8_3 0) a0_1)) (Int.tmod (rd x8_3 0) a0_1) (y180.length : Int) x25_1 y193 (y193.length : Int) (wrap64 (x77_4 + 1)) a0_0 a0_1 l0_2)) else (none)) else (none)) else (impl_Cells.l2 k4 a1 x5_4 (wrap64 (x6_1 + 1)) x8_4 (wrap64 (Int.tdiv (rd x8_3 0) a0_1)) (Int.tmod (rd x8_3 0) a0_1) (y180.length : Int) x25_1 y193 (y193.length : Int) (wrap64 (x77_4 + 1)) a0_0 a0_1 l0_2)) = some r := H
                       have A45 := Aside0.mk A450
                       clear A450
                       by_cases c46 : t198 = true
                       ·subst c46
                        have H1 : (if 0 ≤ (wrap64 ((wrap64 ((wrap64 ((wrap64 (Int.tdiv (rd x8_3 0) a0_1)) + ((rd_T60 y193 x77_4).f0))) * a0_1)) + (wrap64 ((Int.tmod (rd x8_3 0) a0_1) + ((rd_T60 y193 x77_4).f1))))) then (if (wrap64 ((wrap64 ((wrap64 ((wrap64 (Int.tdiv (rd x8_3 0) a0_1)) + ((rd_T60 y193 x77_4).f0))) * a0_1)) + (wrap64 ((Int.tmod (rd x8_3 0) a0_1) + ((rd_T60 y193 x77_4).f1))))) < (x5_4.length : Int) then (if (rd x5_4 (wrap64 ((wrap64 ((wrap64 ((wrap64 (Int.tdiv (rd x8_3 0) a0_1)) + ((rd_T60 y193 x77_4).f0))) * a0_1)) + (wrap64 ((Int.tmod (rd x8_3 0) a0_1) + ((rd_T60 y193 x77_4).f1)))))) = 0 then (if x8_4.length < 17592186044416 then (impl_Cells.l2 k4 a1 (x5_4.set ((wrap64 ((wrap64 ((wrap64 ((wrap64 (Int.tdiv (rd x8_3 0) a0_1)) + ((rd_T60 y193 x77_4).f0))) * a0_1)) + (wrap64 ((Int.tmod (rd x8_3 0) a0_1) + ((rd_T60 y193 x77_4).f1))))) : Int).toNat (wrap64 (x6_1 + 1))) (wrap64 (x6_1 + 1)) (x8_4 ++ [wrap64 ((wrap64 ((wrap64 ((wrap64 (Int.tdiv (rd x8_3 0) a0_1)) + ((rd_T60 y193 x77_4).f0))) * a0_1)) + (wrap64 ((Int.tmod (rd x8_3 0) a0_1) + ((rd_T60 y193 x77_4).f1))))]) (wrap64 (Int.tdiv (rd x8_3 0) a0_1)) (Int.tmod (rd x8_3 0) a0_1) (y180.length : Int) x25_1 y193 (y193.length : Int) (wrap64 (x77_4 + 1)) a0_0 a0_1 l0_2) else (none)) else (impl_Cells.l2 k4 a1 x5_4 (wrap64 (x6_1 + 1)) x8_4 (wrap64 (Int.tdiv (rd x8_3 0) a0_1)) (Int.tmod (rd x8_3 0) a0_1) (y180.length : Int) x25_1 y193 (y193.length : Int) (wrap64 (x77_4 + 1)) a0_0 a0_1 l0_2)) else (none)) else (none)) = some r := by rw [if_pos rfl] at H; exact H
                        clear H
                        have H := H1
                        clear H1
                        obtain ⟨ji47, hji47⟩ : ∃ j_ : Int, (wrap64 ((wrap64 ((wrap64 ((wrap64 (Int.tdiv (rd x8_3 0) a0_1)) + ((rd_T60 y193 x77_4).f0))) * a0_1)) + (wrap64 ((Int.tmod (rd x8_3 0) a0_1) + ((rd_T60 y193 x77_4).f1))))) = j_ := ⟨_, rfl⟩
                        replace H : (if 0 ≤ (ji47) then (if (ji47) < (x5_4.length : Int) then (if (rd x5_4 (ji47)) = 0 then (if x8_4.length < 17592186044416 then (impl_Cells.l2 k4 a1 (x5_4.set ((ji47) : Int).toNat (wrap64 (x6_1 + 1))) (wrap64 (x6_1 + 1)) (x8_4 ++ [ji47]) (wrap64 (Int.tdiv (rd x8_3 0) a0_1)) (Int.tmod (rd x8_3 0) a0_1) (y180.length : Int) x25_1 y193 (y193.length : Int) (wrap64 (x77_4 + 1)) a0_0 a0_1 l0_2) else (none)) else (impl_Cells.l2 k4 a1 x5_4 (wrap64 (x6_1 + 1)) x8_4 (wrap64 (Int.tdiv (rd x8_3 0) a0_1)) (Int.tmod (rd x8_3 0) a0_1) (y180.length : Int) x25_1 y193 (y193.length : Int) (wrap64 (x77_4 + 1)) a0_0 a0_1 l0_2)) else (none)) else (none)) = some r := by first | (rw [hji47] at H; exact H) | (simp only [hji47] at H ⊢; exact H)
                        (try rw [hji47] at A45)
                        have hji47w : (IntKind.i64.wrap ((wrap64 ((wrap64 ((wrap64 (Int.tdiv (rd x8_3 0) a0_1)) + ((rd_T60 y193 x77_4).f0))) * a0_1)) + (wrap64 ((Int.tmod (rd x8_3 0) a0_1) + ((rd_T60 y193 x77_4).f1))))) = ji47 := (i64_w _).trans hji47
                        by_cases c48 : 0 ≤ (ji47)
                        ·rw [if_pos c48] at H
                         have c48b0 : decide (0 ≤ (ji47)) = true := decide_eq_true c48
                         clear c48
                         by_cases c49 : (ji47) < (x5_4.length : Int)
                         ·rw [if_pos c49] at H
                          have c49b0 : decide ((ji47) < (x5_4.length : Int)) = true := decide_eq_true c49
                          (try simp only [hl5_1, hl5_3, hl5_4] at c49b0)
                          clear c49
                          by_cases c50 : (rd x5_4 (ji47)) = 0
                          ·rw [if_pos c50] at H
                           have c50b0 : ((rd x5_4 (ji47)) == 0) = true := beq_iff_eq.mpr c50
                           have c50b1 : ((rd x5_4 (ji47)) != 0) = false := bne_eq_false_iff_eq.mpr c50
                           clear c50
                           obtain ⟨y200, hy200⟩ : ∃ y_ : List Int, y_ = (x5_4.set ((ji47) : Int).toNat (wrap64 (x6_1 + 1))) := ⟨_, rfl⟩
                           replace H : (if x8_4.length < 17592186044416 then (impl_Cells.l2 k4 a1 y200 (wrap64 (x6_1 + 1)) (x8_4 ++ [ji47]) (wrap64 (Int.tdiv (rd x8_3 0) a0_1)) (Int.tmod (rd x8_3 0) a0_1) (y180.length : Int) x25_1 y193 (y193.length : Int) (wrap64 (x77_4 + 1)) a0_0 a0_1 l0_2) else (none)) = some r := by first | (rw [hy200]; with_reducible exact H) | (have H2_ := (Option.bind_some _ _).symm.trans H; rw [hy200]; with_reducible exact H2_) | (have H2_ := (Option.bind_some _ _).symm.trans H; with_reducible exact H2_) | with_reducible exact H | (rw [hy200]; exact H) | exact H
                           have Ny200 := Aside0.mk hy200
                           clear hy200
                           by_cases c52 : x8_4.length < 17592186044416
                           ·rw [if_pos c52] at H
                            have LMc52 := Aside0.mk c52
                            clear c52
                            obtain ⟨y201, hy201⟩ : ∃ y_ : List Int, y_ = (x8_4 ++ [ji47]) := ⟨_, rfl⟩
                            replace H : (impl_Cells.l2 k4 a1 y200 (wrap64 (x6_1 + 1)) y201 (wrap64 (Int.tdiv (rd x8_3 0) a0_1)) (Int.tmod (rd x8_3 0) a0_1) (y180.length : Int) x25_1 y193 (y193.length : Int) (wrap64 (x77_4 + 1)) a0_0 a0_1 l0_2) = some r := by first | (rw [hy201]; with_reducible exact H) | (have H2_ := (Option.bind_some _ _).symm.trans H; rw [hy201]; with_reducible exact H2_) | (have H2_ := (Option.bind_some _ _).symm.trans H; with_reducible exact H2_) | with_reducible exact H | (rw [hy201]; exact H) | exact H
                            have Ny201 := Aside0.mk hy201
                            clear hy201
                            have H' := Aside0.mk H
                            clear H
                            have p196 : 0 ≤ (x77_4 : Int) := of_decide_eq_true (by first | (with_reducible assumption) | assumption)
                            have q196 : x77_4 < (y193.length : Int) := of_decide_eq_true (by first | (with_reducible assumption) | assumption)
                            obtain ⟨ad196, e196, hx196_0, hx196_1⟩ := at_T60 (Kd.R_reads' HO_75.out).2.2 x77_4 p196 q196
                            cases e196
                            replace p196 := eq_true p196
                            replace q196 := eq_true q196
                            try go_wp2_with (first | ((with_reducible refine gate_dst (N := 13) rfl ?_); refine box_event ?hg (N := 13) ?hd (cs := #[.int .i64 0, .int .i64 0]) (t := 60) ?hr ?_; (case hd => rfl); (case hg => rfl); (case hr => first | (go_simp; done) | (go_simp; rfl)); intro gb197 hg w53 hbox hb; have n0_ := Aside0.mk (Kd.R_below (by (with_reducible repeat (first | apply Kd.R_alloc | apply Kd.R_drewN | apply Kd.R_drew)); exact HO_5.out) hb); have n1_ := Aside0.mk (Kd.Q_below (by (with_reducible repeat (first | apply Kd.Q_alloc | apply Kd.Q_drewN | apply Kd.Q_drew)); exact HO_8.out) hb); have n2_ := Aside0.mk (Kd.R_below (Kd.R_elderB (by (with_reducible repeat (first | apply Kd.R_alloc | apply Kd.R_drewN | apply Kd.R_drew)); exact HO_75.out) gb197 (Nat.le_of_eq hg.symm)) hb); have n3_ := Aside0.mk (blk_below (g := gb178) (o := .cells #[.int .i64 a0_0, .int .i64 a0_1, .slice A0_2 l0_2.length c0_2] 27 (0, 0)) (by (with_reducible repeat (first | refine blk_drewN ?_ _ | refine blk_drew ?_ | refine blk_alloc ?_ _)); exact BK178.out) hb); have n4_ := Aside0.mk (below_step (by repeat (first | (with_reducible first | exact HB.out | apply below_alloc | apply pw_below_drewN | apply below_drew1 | refine below_set ?_ GE178.out) | exact HB.out)) hb); have n5_ := Aside0.mk (hbox); have n6_ := Aside0.mk ((by rw [hg]; exact (below_size (by repeat (first | (with_reducible first | exact HB.out | apply below_alloc | apply pw_below_drewN | apply below_drew1 | refine below_set ?_ GE178.out) | exact HB.out))) : w.heap.size ≤ gb197)); have n7_ := Aside0.mk ((by rw [hg]; exact (below_size (by repeat (first | (with_reducible first | exact HB.out | apply below_alloc | apply pw_below_drewN | apply below_drew1 | refine below_set ?_ GE178.out) | exact HB.out))) : w.heap.size ≤ gb197)); have n8_ := Aside0.mk ((by rw [hg]; exact Nat.ne_of_lt (blk_lt (g := gb178) (o := .cells #[.int .i64 a0_0, .int .i64 a0_1, .slice A0_2 l0_2.length c0_2] 27 (0, 0)) (by (with_reducible repeat (first | refine blk_drewN ?_ _ | refine blk_drew ?_ | refine blk_alloc ?_ _)); exact BK178.out)) : gb178 ≠ gb197)); have n9_ := Aside0.mk ((by rw [hg]; exact Nat.ne_of_gt (blk_lt (g := gb178) (o := .cells #[.int .i64 a0_0, .int .i64 a0_1, .slice A0_2 l0_2.length c0_2] 27 (0, 0)) (by (with_reducible repeat (first | refine blk_drewN ?_ _ | refine blk_drew ?_ | refine blk_alloc ?_ _)); exact BK178.out)) : gb197 ≠ gb178)); clear HO_5; clear HO_8; clear HO_75; clear BK178; clear HB; have HO_5 := n0_; have HO_8 := n1_; have HO_75 := n2_; have BK178 := n3_; have HB := n4_; have BK197 := n5_; have GW197 := n6_; have GE197 := n7_; have NB178_197 := n8_; have NB197_178 := n9_; clear n0_ n1_ n2_ n3_ n4_ n5_ n6_ n7_ n8_ n9_; clear hb hbox hg; have hnb54 := NB197_178.out; have hnc54 := NB178_197.out; have hcz55_0 : w53.cell? ⟨gb197, 0, none⟩ = some (.int .i64 0) := (blk_cell BK197.out 0).trans rfl; have hcz55_1 : w53.cell? ⟨gb197, 1, none⟩ = some (.int .i64 0) := (blk_cell BK197.out 1).trans rfl; have hfz55_0 := blk_frozen BK197.out 0; have hfz55_1 := blk_frozen BK197.out 1))
                            have n0_ : Aside0 (Kd.R (Kd.int .i64) 2 ((w53.setCell ⟨gb197, 0, none⟩ (.int .i64 ((rd_T60 y193 x77_4).f0))).setCell ⟨gb197, 1, none⟩ (.int .i64 ((rd_T60 y193 x77_4).f1))) w.heap.size (fun k_ => some k_ ≠ (u8 : Value).ownBlock) (.slice (some ⟨go27, 0, none⟩) x5_4.length co13) x5_4) := ⟨by (with_reducible repeat (first | apply Kd.R_alloc | apply Kd.R_drewN | apply Kd.R_drew)); exact Kd.R_mono (Kd.R_far (p := ⟨gb197, 1, none⟩) (Kd.R_far (p := ⟨gb197, 0, none⟩) (Kd.R_types HO_5.out BK197.out (by decide)) (fun _ hk => hk.2) (.int .i64 ((rd_T60 y193 x77_4).f0))) (fun _ hk => hk.2) (.int .i64 ((rd_T60 y193 x77_4).f1))) (fun _ hk => hk.1)⟩
                            have n1_ : Aside0 (Kd.Q (Kd.int .i64) 2 ((w53.setCell ⟨gb197, 0, none⟩ (.int .i64 ((rd_T60 y193 x77_4).f0))).setCell ⟨gb197, 1, none⟩ (.int .i64 ((rd_T60 y193 x77_4).f1))) w.heap.size (fun k_ => some k_ ≠ (.slice (some ⟨go27, 0, none⟩) x5_4.length co13 : Value).ownBlock) u8 x8_4) := ⟨by (with_reducible repeat (first | apply Kd.Q_alloc | apply Kd.Q_drewN | apply Kd.Q_drew)); exact Kd.Q_mono (Kd.Q_far (p := ⟨gb197, 1, none⟩) (Kd.Q_far (p := ⟨gb197, 0, none⟩) (Kd.Q_types HO_8.out BK197.out (by decide)) (fun _ hk => hk.2) (.int .i64 ((rd_T60 y193 x77_4).f0))) (fun _ hk => hk.2) (.int .i64 ((rd_T60 y193 x77_4).f1))) (fun _ hk => hk.1)⟩
                            have n2_ : Aside0 (Kd.R k60 60 ((w53.setCell ⟨gb197, 0, none⟩ (.int .i64 ((rd_T60 y193 x77_4).f0))).setCell ⟨gb197, 1, none⟩ (.int .i64 ((rd_T60 y193 x77_4).f1))) w.heap.size (fun k_ => k_ ≠ gb197) (.slice (some ad196) y193.length co41) y193) := ⟨by (with_reducible repeat (first | apply Kd.R_alloc | apply Kd.R_drewN | apply Kd.R_drew)); exact Kd.R_mono (Kd.R_far (p := ⟨gb197, 1, none⟩) (Kd.R_far (p := ⟨gb197, 0, none⟩) (Kd.R_mono HO_75.out (fun k_ hk => (⟨hk, hk.2⟩ : _ ∧ k_ ≠ gb197))) (fun _ hk => hk.2) (.int .i64 ((rd_T60 y193 x77_4).f0))) (fun _ hk => hk.2) (.int .i64 ((rd_T60 y193 x77_4).f1))) (fun _ hk => hk.1.2)⟩
                            have n3_ : Aside0 (((w53.setCell ⟨gb197, 0, none⟩ (.int .i64 ((rd_T60 y193 x77_4).f0))).setCell ⟨gb197, 1, none⟩ (.int .i64 ((rd_T60 y193 x77_4).f1))).heap[gb178]? = some (.cells #[.int .i64 a0_0, .int .i64 a0_1, .slice A0_2 l0_2.length c0_2] 27 (0, 0))) := ⟨by (with_reducible repeat (first | refine blk_drewN ?_ _ | refine blk_drew ?_ | refine blk_alloc ?_ _)); refine blk_far ?_ NB178_197.out _; (with_reducible repeat (first | refine blk_drewN ?_ _ | refine blk_drew ?_ | refine blk_alloc ?_ _)); refine blk_far ?_ NB178_197.out _; (with_reducible repeat (first | refine blk_drewN ?_ _ | refine blk_drew ?_ | refine blk_alloc ?_ _)); exact BK178.out⟩
                            have n4_ : Aside0 (((w53.setCell ⟨gb197, 0, none⟩ (.int .i64 ((rd_T60 y193 x77_4).f0))).setCell ⟨gb197, 1, none⟩ (.int .i64 ((rd_T60 y193 x77_4).f1))).heap[gb197]? = some (.cells #[.int .i64 ((rd_T60 y193 x77_4).f0), .int .i64 ((rd_T60 y193 x77_4).f1)] 60 (0, 0))) := ⟨by (with_reducible repeat (first | refine blk_drewN ?_ _ | refine blk_drew ?_ | refine blk_alloc ?_ _)); refine blk_put (cs := #[.int .i64 ((rd_T60 y193 x77_4).f0), .int .i64 0]) ?_ 1 _ rfl; (with_reducible repeat (first | refine blk_drewN ?_ _ | refine blk_drew ?_ | refine blk_alloc ?_ _)); refine blk_put (cs := #[.int .i64 0, .int .i64 0]) ?_ 0 _ rfl; (with_reducible repeat (first | refine blk_drewN ?_ _ | refine blk_drew ?_ | refine blk_alloc ?_ _)); exact BK197.out⟩
                            have n5_ : Aside0 (Below w.heap.size w ((w53.setCell ⟨gb197, 0, none⟩ (.int .i64 ((rd_T60 y193 x77_4).f0))).setCell ⟨gb197, 1, none⟩ (.int .i64 ((rd_T60 y193 x77_4).f1)))) := ⟨by repeat (first | (with_reducible first | exact HB.out | apply below_alloc | apply pw_below_drewN | apply below_drew1 | refine below_set ?_ GE178.out | refine below_set ?_ GE197.out) | exact HB.out)⟩
                            (try clear HO_5)
                            (try clear HO_8)
                            (try clear HO_75)
                            (try clear BK178)
                            (try clear BK197)
                            (try clear HB)
                            generalize ((w53.setCell ⟨gb197, 0, none⟩ (.int .i64 ((rd_T60 y193 x77_4).f0))).setCell ⟨gb197, 1, none⟩ (.int .i64 ((rd_T60 y193 x77_4).f1))) = w56 at n0_ n1_ n2_ n3_ n4_ n5_ ⊢
                            have HO_5 := n0_
                            have HO_8 := n1_
                            have HO_75 := n2_
                            have BK178 := n3_
                            have BK197 := n4_
                            have HB := n5_
                            clear n0_ n1_ n2_ n3_ n4_ n5_
                            have n0_ := Aside0.mk (Kd.R_drew HO_5.out)
                            have n1_ := Aside0.mk (Kd.Q_drew HO_8.out)
                            have n2_ := Aside0.mk (Kd.R_drew HO_75.out)
                            have n3_ := Aside0.mk (blk_drew BK178.out)
                            have n4_ := Aside0.mk (blk_drew BK197.out)
                            have n5_ := Aside0.mk (below_drew1 HB.out)
                            clear HO_5
                            clear HO_8
                            clear HO_75
                            clear BK178
                            clear BK197
                            clear HB
                            have HO_5 := n0_
                            have HO_8 := n1_
                            have HO_75 := n2_
                            have BK178 := n3_
                            have BK197 := n4_
                            have HB := n5_
                            clear n0_ n1_ n2_ n3_ n4_ n5_
                            refine start_ (n := 10) (S := fun w' => w'.cell? ⟨gb197, 0, none⟩ = some (.int .i64 ((rd_T60 y193 x77_4).f0)) ∧ w'.cell? ⟨gb197, 1, none⟩ = some (.int .i64 ((rd_T60 y193 x77_4).f1))) (ds := []) #[false, false, false, false, false, false, false, false, false, false] (by kernel_rfl) rfl rfl ⟨(blk_cell BK197.out 0).trans rfl, (blk_cell BK197.out 1).trans rfl⟩ (fun hHeld => ?_); refine with_tabW impl_Cells.tab19 impl_Cells.bits19 (fun HT_ HW_ => ?_)
                            generalize w56.drew = w57 at HO_5 HO_8 HO_75 BK178 BK197 HB hHeld ⊢
                            refine pure_ (i := 0) (N := some 81) (v := ?_) (a' := ?_) #[true, false, false, false, false, false, false, false, false, false] rfl rfl (any_of HT_.out (by kernel_rfl)) (fun _ _ _ h => h) (Or.inl ⟨by rfl, ?_⟩) ?_ ?_
                            rotate_left
                            ·intro w'
                             go_simp
                             with_reducible rfl
                            rotate_left
                            ·simp only [Act.put, sqA, sqZ, sqS, i64_w, i32_w]
                             rfl
                            refine pure_ (i := 1) (N := some 82) (v := ?_) (a' := ?_) #[true, true, false, false, false, false, false, false, false, false] rfl rfl (any_of HT_.out (by kernel_rfl)) (fun _ _ _ h => h) (Or.inl ⟨by rfl, ?_⟩) ?_ ?_
                            rotate_left
                            ·intro w'
                             go_simp
                             with_reducible rfl
                            rotate_left
                            ·simp only [Act.put, sqA, sqZ, sqS, i64_w, i32_w]
                             rfl
                            refine pure_ (i := 4) (N := some 85) (v := ?_) (a' := ?_) #[true, true, false, false, true, false, false, false, false, false] rfl rfl (any_of HT_.out (by kernel_rfl)) (fun _ _ _ h => h) (Or.inl ⟨by rfl, ?_⟩) ?_ ?_
                            rotate_left
                            ·intro w'
                             go_simp
                             with_reducible rfl
                            rotate_left
                            ·simp only [Act.put, sqA, sqZ, sqS, i64_w, i32_w]
                             rfl
                            refine pure_ (i := 5) (N := some 86) (v := ?_) (a' := ?_) #[true, true, false, false, true, true, false, false, false, false] rfl rfl (any_of HT_.out (by kernel_rfl)) (fun _ _ _ h => h) (Or.inl ⟨by rfl, ?_⟩) ?_ ?_
                            rotate_left
                            ·intro w'
                             go_simp
                             with_reducible rfl
                            rotate_left
                            ·simp only [Act.put, sqA, sqZ, sqS, i64_w, i32_w]
                             rfl
                            refine take_ (i := 2) (N := some 83) (v := ?_) (a' := ?_) #[true, true, true, false, true, true, false, false, false, false] rfl rfl (take_ofW HT_.out HW_.out (by kernel_rfl)) (fun _ _ _ h => h) (Or.inl ⟨by rfl, ?_⟩) hHeld ?_ ?_
                            rotate_left
                            ·rintro w' ⟨s0, s1⟩
                             go_simp
                             with_reducible rfl
                            rotate_left
                            ·simp only [Act.put, sqA, sqZ, sqS, i64_w, i32_w]
                             rfl
                            refine pure_ (i := 3) (N := some 84) (v := ?_) (a' := ?_) #[true, true, true, true, true, true, false, false, false, false] rfl rfl (any_of HT_.out (by kernel_rfl)) (fun _ _ _ h => h) (Or.inl ⟨by rfl, ?_⟩) ?_ ?_
                            rotate_left
                            ·intro w'
                             go_simp
                             with_reducible rfl
                            rotate_left
                            ·simp only [Act.put, sqA, sqZ, sqS, i64_w, i32_w]
                             rfl
                            refine pure_ (i := 8) (N := some 14) (v := ?_) (a' := ?_) #[true, true, true, true, true, true, false, false, true, false] rfl rfl (any_of HT_.out (by kernel_rfl)) (fun _ _ _ h => h) (Or.inl ⟨by rfl, ?_⟩) ?_ ?_
                            rotate_left
                            ·intro w'
                             go_simp
                             with_reducible rfl
                            rotate_left
                            ·simp only [Act.put, sqA, sqZ, sqS, i64_w, i32_w]
                             rfl
                            refine take_ (i := 6) (N := some 87) (v := ?_) (a' := ?_) #[true, true, true, true, true, true, true, false, true, false] rfl rfl (take_ofW HT_.out HW_.out (by kernel_rfl)) (fun _ _ _ h => h) (Or.inl ⟨by rfl, ?_⟩) hHeld ?_ ?_
                            rotate_left
                            ·rintro w' ⟨s0, s1⟩
                             go_simp
                             with_reducible rfl
                            rotate_left
                            ·simp only [Act.put, sqA, sqZ, sqS, i64_w, i32_w]
                             rfl
                            refine pure_ (i := 7) (N := some 88) (v := ?_) (a' := ?_) #[true, true, true, true, true, true, true, true, true, false] rfl rfl (any_of HT_.out (by kernel_rfl)) (fun _ _ _ h => h) (Or.inl ⟨by rfl, ?_⟩) ?_ ?_
                            rotate_left
                            ·intro w'
                             go_simp
                             with_reducible rfl
                            rotate_left
                            ·simp only [Act.put, sqA, sqZ, sqS, i64_w, i32_w]
                             rfl
                            refine pure_ (i := 9) (N := some 15) (v := ?_) (a' := ?_) #[true, true, true, true, true, true, true, true, true, true] rfl rfl (any_of HT_.out (by kernel_rfl)) (fun _ _ _ h => h) (Or.inl ⟨by rfl, ?_⟩) ?_ ?_
                            rotate_left
                            ·intro w'
                             go_simp
                             with_reducible rfl
                            rotate_left
                            ·simp only [Act.put, sqA, sqZ, sqS, i64_w, i32_w]
                             rfl
                            refine done_ (done_of HT_.out (by kernel_rfl)) ?_
                            have hcz58_0 : w57.cell? ⟨gb178, 0, none⟩ = some (.int .i64 a0_0) := (blk_cell BK178.out 0).trans rfl
                            have hcz58_1 : w57.cell? ⟨gb178, 1, none⟩ = some (.int .i64 a0_1) := (blk_cell BK178.out 1).trans rfl
                            have hcz58_2 : w57.cell? ⟨gb178, 2, none⟩ = some (.slice A0_2 l0_2.length c0_2) := (blk_cell BK178.out 2).trans rfl
                            have hfz58_0 := blk_frozen BK178.out 0
                            have hfz58_1 := blk_frozen BK178.out 1
                            have hfz58_2 := blk_frozen BK178.out 2
                            try go_wp2_with (first | ((with_reducible refine gate_callee (f := 37) rfl ?_); refine goesL_ (some 93) rfl rfl Try.func37 (by kernel_rfl) rfl #[.agg #[.int .i64 a0_0, .int .i64 a0_1, .slice A0_2 l0_2.length c0_2], .int .i64 (wrap64 ((wrap64 (Int.tdiv (rd x8_3 0) a0_1)) + ((rd_T60 y193 x77_4).f0))), .int .i64 (wrap64 ((Int.tmod (rd x8_3 0) a0_1) + ((rd_T60 y193 x77_4).f1))), .int .i64 a1] rfl (by (try simp only [List.map_toArray, List.map_cons, List.map_nil]); first | done | rfl | (simp only [List.length_drop, List.length_take]; rfl)) ?_; (with_reducible refine (impl_Box_high.calls a0_0 a0_1 _ _ l0_2 (wrap64 ((wrap64 (Int.tdiv (rd x8_3 0) a0_1)) + ((rd_T60 y193 x77_4).f0))) (wrap64 ((Int.tmod (rd x8_3 0) a0_1) + ((rd_T60 y193 x77_4).f1))) a1 true _ ?side1 ?side2 A45.out).mono ?_); (case side1 => repeat (first | exact (Kd.C_below HR0_2.out HB.out) | (with_reducible refine Kd.C_alloc ?_ _) | (with_reducible refine Kd.C_drewN ?_ _) | (with_reducible refine Kd.C_drew ?_))); (case side2 => exact HC0_2.out); rintro e w59 ⟨rfl, hb⟩; refine ⟨_, rfl, ?_⟩; have n0_ := Aside0.mk (Kd.R_below (by (with_reducible repeat (first | apply Kd.R_alloc | apply Kd.R_drewN | apply Kd.R_drew)); exact HO_5.out) hb); have n1_ := Aside0.mk (Kd.Q_below (by (with_reducible repeat (first | apply Kd.Q_alloc | apply Kd.Q_drewN | apply Kd.Q_drew)); exact HO_8.out) hb); have n2_ := Aside0.mk (Kd.R_below (by (with_reducible repeat (first | apply Kd.R_alloc | apply Kd.R_drewN | apply Kd.R_drew)); exact HO_75.out) hb); have n3_ := Aside0.mk (blk_below (g := gb178) (o := .cells #[.int .i64 a0_0, .int .i64 a0_1, .slice A0_2 l0_2.length c0_2] 27 (0, 0)) (by (with_reducible repeat (first | refine blk_drewN ?_ _ | refine blk_drew ?_ | refine blk_alloc ?_ _)); exact BK178.out) hb); have n4_ := Aside0.mk (blk_below (g := gb197) (o := .cells #[.int .i64 ((rd_T60 y193 x77_4).f0), .int .i64 ((rd_T60 y193 x77_4).f1)] 60 (0, 0)) (by (with_reducible repeat (first | refine blk_drewN ?_ _ | refine blk_drew ?_ | refine blk_alloc ?_ _)); exact BK197.out) hb); have n5_ := Aside0.mk (below_step (by repeat (first | (with_reducible first | exact HB.out | apply below_alloc | apply pw_below_drewN | apply below_drew1 | refine below_set ?_ GE178.out | refine below_set ?_ GE197.out) | exact HB.out)) hb); clear HO_5; clear HO_8; clear HO_75; clear BK178; clear BK197; clear HB; have HO_5 := n0_; have HO_8 := n1_; have HO_75 := n2_; have BK178 := n3_; have BK197 := n4_; have HB := n5_; clear n0_ n1_ n2_ n3_ n4_ n5_; (try clear hb); (try clear hb2); (try clear hk); (try clear hi); have hcz60_0 : w59.cell? ⟨gb178, 0, none⟩ = some (.int .i64 a0_0) := (blk_cell BK178.out 0).trans rfl; have hcz60_1 : w59.cell? ⟨gb178, 1, none⟩ = some (.int .i64 a0_1) := (blk_cell BK178.out 1).trans rfl; have hcz60_2 : w59.cell? ⟨gb178, 2, none⟩ = some (.slice A0_2 l0_2.length c0_2) := (blk_cell BK178.out 2).trans rfl; have hfz60_0 := blk_frozen BK178.out 0; have hfz60_1 := blk_frozen BK178.out 1; have hfz60_2 := blk_frozen BK178.out 2; have p199 : 0 ≤ ((ji47) : Int) := of_decide_eq_true (by first | (with_reducible assumption) | assumption); have q199 : (ji47) < (x5_4.length : Int) := of_decide_eq_true (by first | (with_reducible assumption) | assumption); obtain ⟨ad199, e199, hx199_0⟩ := Kd.at_int (Kd.R_reads' HO_5.out).2.2 (ji47) p199 q199; obtain rfl : (⟨go27, 0, none⟩ : Addr) = ad199 := (by injection e199); (first | simp only [add_plain] at hx199_0 | simp only [add_at] at hx199_0 | simp only [Addr.add, Nat.zero_add] at hx199_0 | skip); replace p199 := eq_true p199; replace q199 := eq_true q199; have p51 : 0 ≤ ((ji47) : Int) := of_decide_eq_true (by first | (with_reducible assumption) | assumption); have q51 : ((ji47) : Int) < ((x5_4.length : Int) : Int) := of_decide_eq_true (by first | (with_reducible assumption) | assumption); obtain ⟨hx51_0, hf51_0⟩ := Kd.R_celln 0 HO_5.out ((ji47) : Int) p51 q51; replace p51 := eq_true p51; replace q51 := eq_true q51; obtain ⟨hy61_, hz61_⟩ := Kd.R_celln 0 HO_5.out ((ji47) : Int) (of_decide_eq_true (by first | (with_reducible assumption) | assumption)) (of_decide_eq_true (by first | (with_reducible assumption) | assumption)); have HP61 := Kd.R_putg HO_5.out ((ji47) : Int) (wrap64 (x6_1 + 1))) | ((with_reducible refine gate_store (t := 2) (p := 114) rfl ?_); refine store_event (t := 2) (p := 114) (v := ?vo_w62) (w1 := (w59.setCell ⟨go27, ((ji47) : Int).toNat, none⟩ (.int .i64 (wrap64 (x6_1 + 1))))) ?hg ?ho ?hn ?hr ?_; (case ho => rfl); (case hg => rfl); (case hn => rfl); (case hr => first | (go_simp; done) | (go_simp; rfl)); intro w62 hw; have hg : w59.grownBy w62 (some go27) := (by rw [hw]; exact HP61.2); have hp_ : Kd.R (Kd.int .i64) 2 w62 w.heap.size (fun k_ => some k_ ≠ (u8 : Value).ownBlock) (.slice (some ⟨go27, 0, none⟩) x5_4.length co13) y200 := (by rw [hw, Ny200.out]; exact HP61.1); clear HP61; have n0_ := Aside0.mk (hp_); have n1_ := Aside0.mk (Kd.Q_after (v := (.slice (some ⟨go27, 0, none⟩) x5_4.length co13)) (v1 := (.slice (some ⟨go27, 0, none⟩) x5_4.length co13)) (ok := (fun _ => True)) (by (with_reducible repeat (first | apply Kd.Q_alloc | apply Kd.Q_drewN | apply Kd.Q_drew)); exact Kd.Q_mono HO_8.out (fun _ hk => ⟨trivial, hk⟩)) hg (.inl rfl)); have n2_ := Aside0.mk (Kd.R_over' (v := (.slice (some ⟨go27, 0, none⟩) x5_4.length co13)) (by (with_reducible repeat (first | apply Kd.R_alloc | apply Kd.R_drewN | apply Kd.R_drew)); exact HO_75.out) (Kd.R_typed HO_5.out) (by decide) hg); have n3_ := Aside0.mk (blk_grown (g := gb178) (o := .cells #[.int .i64 a0_0, .int .i64 a0_1, .slice A0_2 l0_2.length c0_2] 27 (0, 0)) (by (with_reducible repeat (first | refine blk_drewN ?_ _ | refine blk_drew ?_ | refine blk_alloc ?_ _)); exact BK178.out) hg (Kd.R_ne HO_5.out BK178.out (by decide))); have n4_ := Aside0.mk (blk_grown (g := gb197) (o := .cells #[.int .i64 ((rd_T60 y193 x77_4).f0), .int .i64 ((rd_T60 y193 x77_4).f1)] 60 (0, 0)) (by (with_reducible repeat (first | refine blk_drewN ?_ _ | refine blk_drew ?_ | refine blk_alloc ?_ _)); exact BK197.out) hg (Kd.R_ne HO_5.out BK197.out (by decide))); have n5_ := Aside0.mk ((by rw [hw]; exact below_set (HB.out) GB27.out : Below w.heap.size w w62)); clear HO_5; clear HO_8; clear HO_75; clear BK178; clear BK197; clear HB; have HO_5 := n0_; have HO_8 := n1_; have HO_75 := n2_; have BK178 := n3_; have BK197 := n4_; have HB := n5_; clear n0_ n1_ n2_ n3_ n4_ n5_; clear hg hw hp_; have hcz63_0 : w62.cell? ⟨gb178, 0, none⟩ = some (.int .i64 a0_0) := (blk_cell BK178.out 0).trans rfl; have hcz63_1 : w62.cell? ⟨gb178, 1, none⟩ = some (.int .i64 a0_1) := (blk_cell BK178.out 1).trans rfl; have hcz63_2 : w62.cell? ⟨gb178, 2, none⟩ = some (.slice A0_2 l0_2.length c0_2) := (blk_cell BK178.out 2).trans rfl; have hfz63_0 := blk_frozen BK178.out 0; have hfz63_1 := blk_frozen BK178.out 1; have hfz63_2 := blk_frozen BK178.out 2) | ((with_reducible refine gate_builtin (b := .append) (xs := #[.tmp 115, .tmp 122]) rfl ?_); at_builtin; refine Kd.Q_append (Kd.int .i64) (w0 := w) w.heap.size rfl (.tmp 115) (.tmp 122) 22 2 (.int .i64 0) 8 rfl Try.underlying22 info2 rfl (by decide) (by omega) u8 x8_4 ji47 [.int .i64 ji47] (fun k_ => some k_ ≠ (.slice (some ⟨go27, 0, none⟩) x5_4.length co13 : Value).ownBlock) (fun _ => False) rfl rfl ?aP (fun _ hk => hk.elim) ?aF ?aO ?aB ?aS ?aL ?_; (case aP => exact rfl); (case aB => exact (by repeat (first | (with_reducible first | exact HB.out | apply below_alloc | apply pw_below_drewN | apply below_drew1 | refine below_set ?_ GE178.out | refine below_set ?_ GE197.out) | exact HB.out))); (case aF => exact (fun k_ hk => Kd.fresh' (Kd.R_lt (by (with_reducible repeat (first | apply Kd.R_alloc | apply Kd.R_drewN | apply Kd.R_drew)); exact HO_5.out)) k_ hk)); (case aO => exact (by (with_reducible repeat (first | apply Kd.Q_alloc | apply Kd.Q_drewN | apply Kd.Q_drew)); exact Kd.Q_mono HO_8.out (fun _ hk => hk.2))); (case aS => exact (below_size (by repeat (first | (with_reducible first | exact HB.out | apply below_alloc | apply pw_below_drewN | apply below_drew1 | refine below_set ?_ GE178.out | refine below_set ?_ GE197.out) | exact HB.out)))); (case aL => have := LMc52.out; omega); intro v202 w64 ho hb hg hat; rw [← Ny201.out] at ho; have n0_ := Aside0.mk (Kd.R_after (ok := (fun _ => True)) (by (with_reducible repeat (first | apply Kd.R_alloc | apply Kd.R_drewN | apply Kd.R_drew)); exact Kd.R_mono HO_5.out (fun _ hk => ⟨trivial, hk⟩)) hg hat); have n1_ := Aside0.mk (Kd.R_over' (by (with_reducible repeat (first | apply Kd.R_alloc | apply Kd.R_drewN | apply Kd.R_drew)); exact HO_75.out) (Kd.Q_typed (by (with_reducible repeat (first | apply Kd.Q_alloc | apply Kd.Q_drewN | apply Kd.Q_drew)); exact HO_8.out)) (by decide) hg); have n2_ := Aside0.mk (blk_grown (g := gb178) (o := .cells #[.int .i64 a0_0, .int .i64 a0_1, .slice A0_2 l0_2.length c0_2] 27 (0, 0)) (by (with_reducible repeat (first | refine blk_drewN ?_ _ | refine blk_drew ?_ | refine blk_alloc ?_ _)); exact BK178.out) hg (Kd.Q_ne HO_8.out BK178.out (by decide))); have n3_ := Aside0.mk (blk_grown (g := gb197) (o := .cells #[.int .i64 ((rd_T60 y193 x77_4).f0), .int .i64 ((rd_T60 y193 x77_4).f1)] 60 (0, 0)) (by (with_reducible repeat (first | refine blk_drewN ?_ _ | refine blk_drew ?_ | refine blk_alloc ?_ _)); exact BK197.out) hg (Kd.Q_ne HO_8.out BK197.out (by decide))); have n4_ := Aside0.mk (hb); have n5_ := Aside0.mk (ho); clear HO_5; clear HO_75; clear BK178; clear BK197; clear HB; clear HO_8; have HO_5 := n0_; have HO_75 := n1_; have BK178 := n2_; have BK197 := n3_; have HB := n4_; have HO203 := n5_; clear n0_ n1_ n2_ n3_ n4_ n5_; clear ho hb hg hat))
                            (try simp only [← hl5_4])
                            go_roundg k4
                            case measure => have := HK1.out; have := HJ14.out; have := HK3.out; have := HK4.out; omega
                            case rel => exact ⟨(y200), (y201), (wrap64 (x77_4 + 1)), (by first | rfl | (simp; done) | (simp [*]; done)), H', ⟨by have := HK1.out; have := HJ14.out; have := HK3.out; have := HK4.out; omega⟩, ⟨by (try simp only [hl5_1]); (try simp only [hl5_3]); (try simp only [hl5_4]); (with_reducible repeat (first | apply Kd.R_alloc | apply Kd.R_drewN | apply Kd.R_drew)); exact Kd.R_mono HO_5.out (fun _ hk => hk.2)⟩, ⟨by (try simp only [hl5_1]); (try simp only [hl5_3]); (try simp only [hl5_4]); (with_reducible repeat (first | apply Kd.Q_alloc | apply Kd.Q_drewN | apply Kd.Q_drew)); exact HO203.out⟩, ⟨by (try simp only [hl5_1]); (try simp only [hl5_3]); (try simp only [hl5_4]); (with_reducible repeat (first | apply Kd.R_alloc | apply Kd.R_drewN | apply Kd.R_drew)); exact Kd.R_mono HO_75.out (fun _ hk => trivial)⟩, ⟨by (try simp only [hl5_1]); (try simp only [hl5_3]); (try simp only [hl5_4]); (with_reducible repeat (first | refine blk_drewN ?_ _ | refine blk_drew ?_ | refine blk_alloc ?_ _)); exact BK178.out⟩, ⟨by repeat (first | (with_reducible first | exact HB.out | apply below_alloc | apply pw_below_drewN | apply below_drew1 | refine below_set ?_ GE178.out | refine below_set ?_ GE197.out) | exact HB.out)⟩⟩
                           ·rw [if_neg c52] at H
                            exact absurd H (by simp)
                          ·rw [if_neg c50] at H
                           have c50b0 : ((rd x5_4 (ji47)) == 0) = false := beq_eq_false_iff_ne.mpr c50
                           have c50b1 : ((rd x5_4 (ji47)) != 0) = true := bne_iff_ne.mpr c50
                           have H' := Aside0.mk H
                           clear H
                           have p196 : 0 ≤ (x77_4 : Int) := of_decide_eq_true (by first | (with_reducible assumption) | assumption)
                           have q196 : x77_4 < (y193.length : Int) := of_decide_eq_true (by first | (with_reducible assumption) | assumption)
                           obtain ⟨ad196, e196, hx196_0, hx196_1⟩ := at_T60 (Kd.R_reads' HO_75.out).2.2 x77_4 p196 q196
                           cases e196
                           replace p196 := eq_true p196
                           replace q196 := eq_true q196
                           try go_wp2_with (first | ((with_reducible refine gate_dst (N := 13) rfl ?_); refine box_event ?hg (N := 13) ?hd (cs := #[.int .i64 0, .int .i64 0]) (t := 60) ?hr ?_; (case hd => rfl); (case hg => rfl); (case hr => first | (go_simp; done) | (go_simp; rfl)); intro gb197 hg w65 hbox hb; have n0_ := Aside0.mk (Kd.R_below (by (with_reducible repeat (first | apply Kd.R_alloc | apply Kd.R_drewN | apply Kd.R_drew)); exact HO_5.out) hb); have n1_ := Aside0.mk (Kd.Q_below (by (with_reducible repeat (first | apply Kd.Q_alloc | apply Kd.Q_drewN | apply Kd.Q_drew)); exact HO_8.out) hb); have n2_ := Aside0.mk (Kd.R_below (Kd.R_elderB (by (with_reducible repeat (first | apply Kd.R_alloc | apply Kd.R_drewN | apply Kd.R_drew)); exact HO_75.out) gb197 (Nat.le_of_eq hg.symm)) hb); have n3_ := Aside0.mk (blk_below (g := gb178) (o := .cells #[.int .i64 a0_0, .int .i64 a0_1, .slice A0_2 l0_2.length c0_2] 27 (0, 0)) (by (with_reducible repeat (first | refine blk_drewN ?_ _ | refine blk_drew ?_ | refine blk_alloc ?_ _)); exact BK178.out) hb); have n4_ := Aside0.mk (below_step (by repeat (first | (with_reducible first | exact HB.out | apply below_alloc | apply pw_below_drewN | apply below_drew1 | refine below_set ?_ GE178.out) | exact HB.out)) hb); have n5_ := Aside0.mk (hbox); have n6_ := Aside0.mk ((by rw [hg]; exact (below_size (by repeat (first | (with_reducible first | exact HB.out | apply below_alloc | apply pw_below_drewN | apply below_drew1 | refine below_set ?_ GE178.out) | exact HB.out))) : w.heap.size ≤ gb197)); have n7_ := Aside0.mk ((by rw [hg]; exact (below_size (by repeat (first | (with_reducible first | exact HB.out | apply below_alloc | apply pw_below_drewN | apply below_drew1 | refine below_set ?_ GE178.out) | exact HB.out))) : w.heap.size ≤ gb197)); have n8_ := Aside0.mk ((by rw [hg]; exact Nat.ne_of_lt (blk_lt (g := gb178) (o := .cells #[.int .i64 a0_0, .int .i64 a0_1, .slice A0_2 l0_2.length c0_2] 27 (0, 0)) (by (with_reducible repeat (first | refine blk_drewN ?_ _ | refine blk_drew ?_ | refine blk_alloc ?_ _)); exact BK178.out)) : gb178 ≠ gb197)); have n9_ := Aside0.mk ((by rw [hg]; exact Nat.ne_of_gt (blk_lt (g := gb178) (o := .cells #[.int .i64 a0_0, .int .i64 a0_1, .slice A0_2 l0_2.length c0_2] 27 (0, 0)) (by (with_reducible repeat (first | refine blk_drewN ?_ _ | refine blk_drew ?_ | refine blk_alloc ?_ _)); exact BK178.out)) : gb197 ≠ gb178)); clear HO_5; clear HO_8; clear HO_75; clear BK178; clear HB; have HO_5 := n0_; have HO_8 := n1_; have HO_75 := n2_; have BK178 := n3_; have HB := n4_; have BK197 := n5_; have GW197 := n6_; have GE197 := n7_; have NB178_197 := n8_; have NB197_178 := n9_; clear n0_ n1_ n2_ n3_ n4_ n5_ n6_ n7_ n8_ n9_; clear hb hbox hg; have hnb66 := NB197_178.out; have hnc66 := NB178_197.out; have hcz67_0 : w65.cell? ⟨gb197, 0, none⟩ = some (.int .i64 0) := (blk_cell BK197.out 0).trans rfl; have hcz67_1 : w65.cell? ⟨gb197, 1, none⟩ = some (.int .i64 0) := (blk_cell BK197.out 1).trans rfl; have hfz67_0 := blk_frozen BK197.out 0; have hfz67_1 := blk_frozen BK197.out 1))
                           have n0_ : Aside0 (Kd.R (Kd.int .i64) 2 ((w65.setCell ⟨gb197, 0, none⟩ (.int .i64 ((rd_T60 y193 x77_4).f0))).setCell ⟨gb197, 1, none⟩ (.int .i64 ((rd_T60 y193 x77_4).f1))) w.heap.size (fun k_ => some k_ ≠ (u8 : Value).ownBlock) (.slice (some ⟨go27, 0, none⟩) x5_4.length co13) x5_4) := ⟨by (with_reducible repeat (first | apply Kd.R_alloc | apply Kd.R_drewN | apply Kd.R_drew)); exact Kd.R_mono (Kd.R_far (p := ⟨gb197, 1, none⟩) (Kd.R_far (p := ⟨gb197, 0, none⟩) (Kd.R_types HO_5.out BK197.out (by decide)) (fun _ hk => hk.2) (.int .i64 ((rd_T60 y193 x77_4).f0))) (fun _ hk => hk.2) (.int .i64 ((rd_T60 y193 x77_4).f1))) (fun _ hk => hk.1)⟩
                           have n1_ : Aside0 (Kd.Q (Kd.int .i64) 2 ((w65.setCell ⟨gb197, 0, none⟩ (.int .i64 ((rd_T60 y193 x77_4).f0))).setCell ⟨gb197, 1, none⟩ (.int .i64 ((rd_T60 y193 x77_4).f1))) w.heap.size (fun k_ => some k_ ≠ (.slice (some ⟨go27, 0, none⟩) x5_4.length co13 : Value).ownBlock) u8 x8_4) := ⟨by (with_reducible repeat (first | apply Kd.Q_alloc | apply Kd.Q_drewN | apply Kd.Q_drew)); exact Kd.Q_mono (Kd.Q_far (p := ⟨gb197, 1, none⟩) (Kd.Q_far (p := ⟨gb197, 0, none⟩) (Kd.Q_types HO_8.out BK197.out (by decide)) (fun _ hk => hk.2) (.int .i64 ((rd_T60 y193 x77_4).f0))) (fun _ hk => hk.2) (.int .i64 ((rd_T60 y193 x77_4).f1))) (fun _ hk => hk.1)⟩
                           have n2_ : Aside0 (Kd.R k60 60 ((w65.setCell ⟨gb197, 0, none⟩ (.int .i64 ((rd_T60 y193 x77_4).f0))).setCell ⟨gb197, 1, none⟩ (.int .i64 ((rd_T60 y193 x77_4).f1))) w.heap.size (fun k_ => k_ ≠ gb197) (.slice (some ad196) y193.length co41) y193) := ⟨by (with_reducible repeat (first | apply Kd.R_alloc | apply Kd.R_drewN | apply Kd.R_drew)); exact Kd.R_mono (Kd.R_far (p := ⟨gb197, 1, none⟩) (Kd.R_far (p := ⟨gb197, 0, none⟩) (Kd.R_mono HO_75.out (fun k_ hk => (⟨hk, hk.2⟩ : _ ∧ k_ ≠ gb197))) (fun _ hk => hk.2) (.int .i64 ((rd_T60 y193 x77_4).f0))) (fun _ hk => hk.2) (.int .i64 ((rd_T60 y193 x77_4).f1))) (fun _ hk => hk.1.2)⟩
                           have n3_ : Aside0 (((w65.setCell ⟨gb197, 0, none⟩ (.int .i64 ((rd_T60 y193 x77_4).f0))).setCell ⟨gb197, 1, none⟩ (.int .i64 ((rd_T60 y193 x77_4).f1))).heap[gb178]? = some (.cells #[.int .i64 a0_0, .int .i64 a0_1, .slice A0_2 l0_2.length c0_2] 27 (0, 0))) := ⟨by (with_reducible repeat (first | refine blk_drewN ?_ _ | refine blk_drew ?_ | refine blk_alloc ?_ _)); refine blk_far ?_ NB178_197.out _; (with_reducible repeat (first | refine blk_drewN ?_ _ | refine blk_drew ?_ | refine blk_alloc ?_ _)); refine blk_far ?_ NB178_197.out _; (with_reducible repeat (first | refine blk_drewN ?_ _ | refine blk_drew ?_ | refine blk_alloc ?_ _)); exact BK178.out⟩
                           have n4_ : Aside0 (((w65.setCell ⟨gb197, 0, none⟩ (.int .i64 ((rd_T60 y193 x77_4).f0))).setCell ⟨gb197, 1, none⟩ (.int .i64 ((rd_T60 y193 x77_4).f1))).heap[gb197]? = some (.cells #[.int .i64 ((rd_T60 y193 x77_4).f0), .int .i64 ((rd_T60 y193 x77_4).f1)] 60 (0, 0))) := ⟨by (with_reducible repeat (first | refine blk_drewN ?_ _ | refine blk_drew ?_ | refine blk_alloc ?_ _)); refine blk_put (cs := #[.int .i64 ((rd_T60 y193 x77_4).f0), .int .i64 0]) ?_ 1 _ rfl; (with_reducible repeat (first | refine blk_drewN ?_ _ | refine blk_drew ?_ | refine blk_alloc ?_ _)); refine blk_put (cs := #[.int .i64 0, .int .i64 0]) ?_ 0 _ rfl; (with_reducible repeat (first | refine blk_drewN ?_ _ | refine blk_drew ?_ | refine blk_alloc ?_ _)); exact BK197.out⟩
                           have n5_ : Aside0 (Below w.heap.size w ((w65.setCell ⟨gb197, 0, none⟩ (.int .i64 ((rd_T60 y193 x77_4).f0))).setCell ⟨gb197, 1, none⟩ (.int .i64 ((rd_T60 y193 x77_4).f1)))) := ⟨by repeat (first | (with_reducible first | exact HB.out | apply below_alloc | apply pw_below_drewN | apply below_drew1 | refine below_set ?_ GE178.out | refine below_set ?_ GE197.out) | exact HB.out)⟩
                           (try clear HO_5)
                           (try clear HO_8)
                           (try clear HO_75)
                           (try clear BK178)
                           (try clear BK197)
                           (try clear HB)
                           generalize ((w65.setCell ⟨gb197, 0, none⟩ (.int .i64 ((rd_T60 y193 x77_4).f0))).setCell ⟨gb197, 1, none⟩ (.int .i64 ((rd_T60 y193 x77_4).f1))) = w68 at n0_ n1_ n2_ n3_ n4_ n5_ ⊢
                           have HO_5 := n0_
                           have HO_8 := n1_
                           have HO_75 := n2_
                           have BK178 := n3_
                           have BK197 := n4_
                           have HB := n5_
                           clear n0_ n1_ n2_ n3_ n4_ n5_
                           have n0_ := Aside0.mk (Kd.R_drew HO_5.out)
                           have n1_ := Aside0.mk (Kd.Q_drew HO_8.out)
                           have n2_ := Aside0.mk (Kd.R_drew HO_75.out)
                           have n3_ := Aside0.mk (blk_drew BK178.out)
                           have n4_ := Aside0.mk (blk_drew BK197.out)
                           have n5_ := Aside0.mk (below_drew1 HB.out)
                           clear HO_5
                           clear HO_8
                           clear HO_75
                           clear BK178
                           clear BK197
                           clear HB
                           have HO_5 := n0_
                           have HO_8 := n1_
                           have HO_75 := n2_
                           have BK178 := n3_
                           have BK197 := n4_
                           have HB := n5_
                           clear n0_ n1_ n2_ n3_ n4_ n5_
                           refine start_ (n := 10) (S := fun w' => w'.cell? ⟨gb197, 0, none⟩ = some (.int .i64 ((rd_T60 y193 x77_4).f0)) ∧ w'.cell? ⟨gb197, 1, none⟩ = some (.int .i64 ((rd_T60 y193 x77_4).f1))) (ds := []) #[false, false, false, false, false, false, false, false, false, false] (by kernel_rfl) rfl rfl ⟨(blk_cell BK197.out 0).trans rfl, (blk_cell BK197.out 1).trans rfl⟩ (fun hHeld => ?_); refine with_tabW impl_Cells.tab19 impl_Cells.bits19 (fun HT_ HW_ => ?_)
                           generalize w68.drew = w69 at HO_5 HO_8 HO_75 BK178 BK197 HB hHeld ⊢
                           refine pure_ (i := 0) (N := some 81) (v := ?_) (a' := ?_) #[true, false, false, false, false, false, false, false, false, false] rfl rfl (any_of HT_.out (by kernel_rfl)) (fun _ _ _ h => h) (Or.inl ⟨by rfl, ?_⟩) ?_ ?_
                           rotate_left
                           ·intro w'
                            go_simp
                            with_reducible rfl
                           rotate_left
                           ·simp only [Act.put, sqA, sqZ, sqS, i64_w, i32_w]
                            rfl
                           refine pure_ (i := 1) (N := some 82) (v := ?_) (a' := ?_) #[true, true, false, false, false, false, false, false, false, false] rfl rfl (any_of HT_.out (by kernel_rfl)) (fun _ _ _ h => h) (Or.inl ⟨by rfl, ?_⟩) ?_ ?_
                           rotate_left
                           ·intro w'
                            go_simp
                            with_reducible rfl
                           rotate_left
                           ·simp only [Act.put, sqA, sqZ, sqS, i64_w, i32_w]
                            rfl
                           refine pure_ (i := 4) (N := some 85) (v := ?_) (a' := ?_) #[true, true, false, false, true, false, false, false, false, false] rfl rfl (any_of HT_.out (by kernel_rfl)) (fun _ _ _ h => h) (Or.inl ⟨by rfl, ?_⟩) ?_ ?_
                           rotate_left
                           ·intro w'
                            go_simp
                            with_reducible rfl
                           rotate_left
                           ·simp only [Act.put, sqA, sqZ, sqS, i64_w, i32_w]
                            rfl
                           refine pure_ (i := 5) (N := some 86) (v := ?_) (a' := ?_) #[true, true, false, false, true, true, false, false, false, false] rfl rfl (any_of HT_.out (by kernel_rfl)) (fun _ _ _ h => h) (Or.inl ⟨by rfl, ?_⟩) ?_ ?_
                           rotate_left
                           ·intro w'
                            go_simp
                            with_reducible rfl
                           rotate_left
                           ·simp only [Act.put, sqA, sqZ, sqS, i64_w, i32_w]
                            rfl
                           refine take_ (i := 2) (N := some 83) (v := ?_) (a' := ?_) #[true, true, true, false, true, true, false, false, false, false] rfl rfl (take_ofW HT_.out HW_.out (by kernel_rfl)) (fun _ _ _ h => h) (Or.inl ⟨by rfl, ?_⟩) hHeld ?_ ?_
                           rotate_left
                           ·rintro w' ⟨s0, s1⟩
                            go_simp
                            with_reducible rfl
                           rotate_left
                           ·simp only [Act.put, sqA, sqZ, sqS, i64_w, i32_w]
                            rfl
                           refine pure_ (i := 3) (N := some 84) (v := ?_) (a' := ?_) #[true, true, true, true, true, true, false, false, false, false] rfl rfl (any_of HT_.out (by kernel_rfl)) (fun _ _ _ h => h) (Or.inl ⟨by rfl, ?_⟩) ?_ ?_
                           rotate_left
                           ·intro w'
                            go_simp
                            with_reducible rfl
                           rotate_left
                           ·simp only [Act.put, sqA, sqZ, sqS, i64_w, i32_w]
                            rfl
                           refine pure_ (i := 8) (N := some 14) (v := ?_) (a' := ?_) #[true, true, true, true, true, true, false, false, true, false] rfl rfl (any_of HT_.out (by kernel_rfl)) (fun _ _ _ h => h) (Or.inl ⟨by rfl, ?_⟩) ?_ ?_
                           rotate_left
                           ·intro w'
                            go_simp
                            with_reducible rfl
                           rotate_left
                           ·simp only [Act.put, sqA, sqZ, sqS, i64_w, i32_w]
                            rfl
                           refine take_ (i := 6) (N := some 87) (v := ?_) (a' := ?_) #[true, true, true, true, true, true, true, false, true, false] rfl rfl (take_ofW HT_.out HW_.out (by kernel_rfl)) (fun _ _ _ h => h) (Or.inl ⟨by rfl, ?_⟩) hHeld ?_ ?_
                           rotate_left
                           ·rintro w' ⟨s0, s1⟩
                            go_simp
                            with_reducible rfl
                           rotate_left
                           ·simp only [Act.put, sqA, sqZ, sqS, i64_w, i32_w]
                            rfl
                           refine pure_ (i := 7) (N := some 88) (v := ?_) (a' := ?_) #[true, true, true, true, true, true, true, true, true, false] rfl rfl (any_of HT_.out (by kernel_rfl)) (fun _ _ _ h => h) (Or.inl ⟨by rfl, ?_⟩) ?_ ?_
                           rotate_left
                           ·intro w'
                            go_simp
                            with_reducible rfl
                           rotate_left
                           ·simp only [Act.put, sqA, sqZ, sqS, i64_w, i32_w]
                            rfl
                           refine pure_ (i := 9) (N := some 15) (v := ?_) (a' := ?_) #[true, true, true, true, true, true, true, true, true, true] rfl rfl (any_of HT_.out (by kernel_rfl)) (fun _ _ _ h => h) (Or.inl ⟨by rfl, ?_⟩) ?_ ?_
                           rotate_left
                           ·intro w'
                            go_simp
                            with_reducible rfl
                           rotate_left
                           ·simp only [Act.put, sqA, sqZ, sqS, i64_w, i32_w]
                            rfl
                           refine done_ (done_of HT_.out (by kernel_rfl)) ?_
                           have hcz70_0 : w69.cell? ⟨gb178, 0, none⟩ = some (.int .i64 a0_0) := (blk_cell BK178.out 0).trans rfl
                           have hcz70_1 : w69.cell? ⟨gb178, 1, none⟩ = some (.int .i64 a0_1) := (blk_cell BK178.out 1).trans rfl
                           have hcz70_2 : w69.cell? ⟨gb178, 2, none⟩ = some (.slice A0_2 l0_2.length c0_2) := (blk_cell BK178.out 2).trans rfl
                           have hfz70_0 := blk_frozen BK178.out 0
                           have hfz70_1 := blk_frozen BK178.out 1
                           have hfz70_2 := blk_frozen BK178.out 2
                           try go_wp2_with (first | ((with_reducible refine gate_callee (f := 37) rfl ?_); refine goesL_ (some 93) rfl rfl Try.func37 (by kernel_rfl) rfl #[.agg #[.int .i64 a0_0, .int .i64 a0_1, .slice A0_2 l0_2.length c0_2], .int .i64 (wrap64 ((wrap64 (Int.tdiv (rd x8_3 0) a0_1)) + ((rd_T60 y193 x77_4).f0))), .int .i64 (wrap64 ((Int.tmod (rd x8_3 0) a0_1) + ((rd_T60 y193 x77_4).f1))), .int .i64 a1] rfl (by (try simp only [List.map_toArray, List.map_cons, List.map_nil]); first | done | rfl | (simp only [List.length_drop, List.length_take]; rfl)) ?_; (with_reducible refine (impl_Box_high.calls a0_0 a0_1 _ _ l0_2 (wrap64 ((wrap64 (Int.tdiv (rd x8_3 0) a0_1)) + ((rd_T60 y193 x77_4).f0))) (wrap64 ((Int.tmod (rd x8_3 0) a0_1) + ((rd_T60 y193 x77_4).f1))) a1 true _ ?side1 ?side2 A45.out).mono ?_); (case side1 => repeat (first | exact (Kd.C_below HR0_2.out HB.out) | (with_reducible refine Kd.C_alloc ?_ _) | (with_reducible refine Kd.C_drewN ?_ _) | (with_reducible refine Kd.C_drew ?_))); (case side2 => exact HC0_2.out); rintro e w71 ⟨rfl, hb⟩; refine ⟨_, rfl, ?_⟩; have n0_ := Aside0.mk (Kd.R_below (by (with_reducible repeat (first | apply Kd.R_alloc | apply Kd.R_drewN | apply Kd.R_drew)); exact HO_5.out) hb); have n1_ := Aside0.mk (Kd.Q_below (by (with_reducible repeat (first | apply Kd.Q_alloc | apply Kd.Q_drewN | apply Kd.Q_drew)); exact HO_8.out) hb); have n2_ := Aside0.mk (Kd.R_below (by (with_reducible repeat (first | apply Kd.R_alloc | apply Kd.R_drewN | apply Kd.R_drew)); exact HO_75.out) hb); have n3_ := Aside0.mk (blk_below (g := gb178) (o := .cells #[.int .i64 a0_0, .int .i64 a0_1, .slice A0_2 l0_2.length c0_2] 27 (0, 0)) (by (with_reducible repeat (first | refine blk_drewN ?_ _ | refine blk_drew ?_ | refine blk_alloc ?_ _)); exact BK178.out) hb); have n4_ := Aside0.mk (blk_below (g := gb197) (o := .cells #[.int .i64 ((rd_T60 y193 x77_4).f0), .int .i64 ((rd_T60 y193 x77_4).f1)] 60 (0, 0)) (by (with_reducible repeat (first | refine blk_drewN ?_ _ | refine blk_drew ?_ | refine blk_alloc ?_ _)); exact BK197.out) hb); have n5_ := Aside0.mk (below_step (by repeat (first | (with_reducible first | exact HB.out | apply below_alloc | apply pw_below_drewN | apply below_drew1 | refine below_set ?_ GE178.out | refine below_set ?_ GE197.out) | exact HB.out)) hb); clear HO_5; clear HO_8; clear HO_75; clear BK178; clear BK197; clear HB; have HO_5 := n0_; have HO_8 := n1_; have HO_75 := n2_; have BK178 := n3_; have BK197 := n4_; have HB := n5_; clear n0_ n1_ n2_ n3_ n4_ n5_; (try clear hb); (try clear hb2); (try clear hk); (try clear hi); have hcz72_0 : w71.cell? ⟨gb178, 0, none⟩ = some (.int .i64 a0_0) := (blk_cell BK178.out 0).trans rfl; have hcz72_1 : w71.cell? ⟨gb178, 1, none⟩ = some (.int .i64 a0_1) := (blk_cell BK178.out 1).trans rfl; have hcz72_2 : w71.cell? ⟨gb178, 2, none⟩ = some (.slice A0_2 l0_2.length c0_2) := (blk_cell BK178.out 2).trans rfl; have hfz72_0 := blk_frozen BK178.out 0; have hfz72_1 := blk_frozen BK178.out 1; have hfz72_2 := blk_frozen BK178.out 2; have p199 : 0 ≤ ((ji47) : Int) := of_decide_eq_true (by first | (with_reducible assumption) | assumption); have q199 : (ji47) < (x5_4.length : Int) := of_decide_eq_true (by first | (with_reducible assumption) | assumption); obtain ⟨ad199, e199, hx199_0⟩ := Kd.at_int (Kd.R_reads' HO_5.out).2.2 (ji47) p199 q199; obtain rfl : (⟨go27, 0, none⟩ : Addr) = ad199 := (by injection e199); (first | simp only [add_plain] at hx199_0 | simp only [add_at] at hx199_0 | simp only [Addr.add, Nat.zero_add] at hx199_0 | skip); replace p199 := eq_true p199; replace q199 := eq_true q199))
                           (try simp only [← hl5_4])
                           go_roundg k4
                           case measure => have := HK1.out; have := HJ14.out; have := HK3.out; have := HK4.out; omega
                           case rel => exact ⟨(x5_4), (x8_4), (wrap64 (x77_4 + 1)), (by first | rfl | (simp; done) | (simp [*]; done)), H', ⟨by have := HK1.out; have := HJ14.out; have := HK3.out; have := HK4.out; omega⟩, ⟨by (try simp only [hl5_1]); (try simp only [hl5_3]); (try simp only [hl5_4]); (with_reducible repeat (first | apply Kd.R_alloc | apply Kd.R_drewN | apply Kd.R_drew)); exact HO_5.out⟩, ⟨by (try simp only [hl5_1]); (try simp only [hl5_3]); (try simp only [hl5_4]); (with_reducible repeat (first | apply Kd.Q_alloc | apply Kd.Q_drewN | apply Kd.Q_drew)); exact HO_8.out⟩, ⟨by (try simp only [hl5_1]); (try simp only [hl5_3]); (try simp only [hl5_4]); (with_reducible repeat (first | apply Kd.R_alloc | apply Kd.R_drewN | apply Kd.R_drew)); exact Kd.R_mono HO_75.out (fun _ hk => trivial)⟩, ⟨by (try simp only [hl5_1]); (try simp only [hl5_3]); (try simp only [hl5_4]); (with_reducible repeat (first | refine blk_drewN ?_ _ | refine blk_drew ?_ | refine blk_alloc ?_ _)); exact BK178.out⟩, ⟨by repeat (first | (with_reducible first | exact HB.out | apply below_alloc | apply pw_below_drewN | apply below_drew1 | refine below_set ?_ GE178.out | refine below_set ?_ GE197.out) | exact HB.out)⟩⟩
                         ·rw [if_neg c49] at H
                          exact absurd H (by simp)
                        ·rw [if_neg c48] at H
                         exact absurd H (by simp)
                       ·replace c46 := Bool.eq_false_iff.mpr c46
                        subst c46
                        have H1 : (impl_Cells.l2 k4 a1 x5_4 (wrap64 (x6_1 + 1)) x8_4 (wrap64 (Int.tdiv (rd x8_3 0) a0_1)) (Int.tmod (rd x8_3 0) a0_1) (y180.length : Int) x25_1 y193 (y193.length : Int) (wrap64 (x77_4 + 1)) a0_0 a0_1 l0_2) = some r := by rw [if_neg (show ¬ (false = true) by decide)] at H; exact H
                        clear H
                        have H := H1
                        clear H1
                        have H' := Aside0.mk H
                        clear H
                        have p196 : 0 ≤ (x77_4 : Int) := of_decide_eq_true (by first | (with_reducible assumption) | assumption)
                        have q196 : x77_4 < (y193.length : Int) := of_decide_eq_true (by first | (with_reducible assumption) | assumption)
                        obtain ⟨ad196, e196, hx196_0, hx196_1⟩ := at_T60 (Kd.R_reads' HO_75.out).2.2 x77_4 p196 q196
                        cases e196
                        replace p196 := eq_true p196
                        replace q196 := eq_true q196
                        try go_wp2_with (first | ((with_reducible refine gate_dst (N := 13) rfl ?_); refine box_event ?hg (N := 13) ?hd (cs := #[.int .i64 0, .int .i64 0]) (t := 60) ?hr ?_; (case hd => rfl); (case hg => rfl); (case hr => first | (go_simp; done) | (go_simp; rfl)); intro gb197 hg w73 hbox hb; have n0_ := Aside0.mk (Kd.R_below (by (with_reducible repeat (first | apply Kd.R_alloc | apply Kd.R_drewN | apply Kd.R_drew)); exact HO_5.out) hb); have n1_ := Aside0.mk (Kd.Q_below (by (with_reducible repeat (first | apply Kd.Q_alloc | apply Kd.Q_drewN | apply Kd.Q_drew)); exact HO_8.out) hb); have n2_ := Aside0.mk (Kd.R_below (Kd.R_elderB (by (with_reducible repeat (first | apply Kd.R_alloc | apply Kd.R_drewN | apply Kd.R_drew)); exact HO_75.out) gb197 (Nat.le_of_eq hg.symm)) hb); have n3_ := Aside0.mk (blk_below (g := gb178) (o := .cells #[.int .i64 a0_0, .int .i64 a0_1, .slice A0_2 l0_2.length c0_2] 27 (0, 0)) (by (with_reducible repeat (first | refine blk_drewN ?_ _ | refine blk_drew ?_ | refine blk_alloc ?_ _)); exact BK178.out) hb); have n4_ := Aside0.mk (below_step (by repeat (first | (with_reducible first | exact HB.out | apply below_alloc | apply pw_below_drewN | apply below_drew1 | refine below_set ?_ GE178.out) | exact HB.out)) hb); have n5_ := Aside0.mk (hbox); have n6_ := Aside0.mk ((by rw [hg]; exact (below_size (by repeat (first | (with_reducible first | exact HB.out | apply below_alloc | apply pw_below_drewN | apply below_drew1 | refine below_set ?_ GE178.out) | exact HB.out))) : w.heap.size ≤ gb197)); have n7_ := Aside0.mk ((by rw [hg]; exact (below_size (by repeat (first | (with_reducible first | exact HB.out | apply below_alloc | apply pw_below_drewN | apply below_drew1 | refine below_set ?_ GE178.out) | exact HB.out))) : w.heap.size ≤ gb197)); have n8_ := Aside0.mk ((by rw [hg]; exact Nat.ne_of_lt (blk_lt (g := gb178) (o := .cells #[.int .i64 a0_0, .int .i64 a0_1, .slice A0_2 l0_2.length c0_2] 27 (0, 0)) (by (with_reducible repeat (first | refine blk_drewN ?_ _ | refine blk_drew ?_ | refine blk_alloc ?_ _)); exact BK178.out)) : gb178 ≠ gb197)); have n9_ := Aside0.mk ((by rw [hg]; exact Nat.ne_of_gt (blk_lt (g := gb178) (o := .cells #[.int .i64 a0_0, .int .i64 a0_1, .slice A0_2 l0_2.length c0_2] 27 (0, 0)) (by (with_reducible repeat (first | refine blk_drewN ?_ _ | refine blk_drew ?_ | refine blk_alloc ?_ _)); exact BK178.out)) : gb197 ≠ gb178)); clear HO_5; clear HO_8; clear HO_75; clear BK178; clear HB; have HO_5 := n0_; have HO_8 := n1_; have HO_75 := n2_; have BK178 := n3_; have HB := n4_; have BK197 := n5_; have GW197 := n6_; have GE197 := n7_; have NB178_197 := n8_; have NB197_178 := n9_; clear n0_ n1_ n2_ n3_ n4_ n5_ n6_ n7_ n8_ n9_; clear hb hbox hg; have hnb74 := NB197_178.out; have hnc74 := NB178_197.out; have hcz75_0 : w73.cell? ⟨gb197, 0, none⟩ = some (.int .i64 0) := (blk_cell BK197.out 0).trans rfl; have hcz75_1 : w73.cell? ⟨gb197, 1, none⟩ = some (.int .i64 0) := (blk_cell BK197.out 1).trans rfl; have hfz75_0 := blk_frozen BK197.out 0; have hfz75_1 := blk_frozen BK197.out 1))
                        have n0_ : Aside0 (Kd.R (Kd.int .i64) 2 ((w73.setCell ⟨gb197, 0, none⟩ (.int .i64 ((rd_T60 y193 x77_4).f0))).setCell ⟨gb197, 1, none⟩ (.int .i64 ((rd_T60 y193 x77_4).f1))) w.heap.size (fun k_ => some k_ ≠ (u8 : Value).ownBlock) (.slice (some ⟨go27, 0, none⟩) x5_4.length co13) x5_4) := ⟨by (with_reducible repeat (first | apply Kd.R_alloc | apply Kd.R_drewN | apply Kd.R_drew)); exact Kd.R_mono (Kd.R_far (p := ⟨gb197, 1, none⟩) (Kd.R_far (p := ⟨gb197, 0, none⟩) (Kd.R_types HO_5.out BK197.out (by decide)) (fun _ hk => hk.2) (.int .i64 ((rd_T60 y193 x77_4).f0))) (fun _ hk => hk.2) (.int .i64 ((rd_T60 y193 x77_4).f1))) (fun _ hk => hk.1)⟩
                        have n1_ : Aside0 (Kd.Q (Kd.int .i64) 2 ((w73.setCell ⟨gb197, 0, none⟩ (.int .i64 ((rd_T60 y193 x77_4).f0))).setCell ⟨gb197, 1, none⟩ (.int .i64 ((rd_T60 y193 x77_4).f1))) w.heap.size (fun k_ => some k_ ≠ (.slice (some ⟨go27, 0, none⟩) x5_4.length co13 : Value).ownBlock) u8 x8_4) := ⟨by (with_reducible repeat (first | apply Kd.Q_alloc | apply Kd.Q_drewN | apply Kd.Q_drew)); exact Kd.Q_mono (Kd.Q_far (p := ⟨gb197, 1, none⟩) (Kd.Q_far (p := ⟨gb197, 0, none⟩) (Kd.Q_types HO_8.out BK197.out (by decide)) (fun _ hk => hk.2) (.int .i64 ((rd_T60 y193 x77_4).f0))) (fun _ hk => hk.2) (.int .i64 ((rd_T60 y193 x77_4).f1))) (fun _ hk => hk.1)⟩
                        have n2_ : Aside0 (Kd.R k60 60 ((w73.setCell ⟨gb197, 0, none⟩ (.int .i64 ((rd_T60 y193 x77_4).f0))).setCell ⟨gb197, 1, none⟩ (.int .i64 ((rd_T60 y193 x77_4).f1))) w.heap.size (fun k_ => k_ ≠ gb197) (.slice (some ad196) y193.length co41) y193) := ⟨by (with_reducible repeat (first | apply Kd.R_alloc | apply Kd.R_drewN | apply Kd.R_drew)); exact Kd.R_mono (Kd.R_far (p := ⟨gb197, 1, none⟩) (Kd.R_far (p := ⟨gb197, 0, none⟩) (Kd.R_mono HO_75.out (fun k_ hk => (⟨hk, hk.2⟩ : _ ∧ k_ ≠ gb197))) (fun _ hk => hk.2) (.int .i64 ((rd_T60 y193 x77_4).f0))) (fun _ hk => hk.2) (.int .i64 ((rd_T60 y193 x77_4).f1))) (fun _ hk => hk.1.2)⟩
                        have n3_ : Aside0 (((w73.setCell ⟨gb197, 0, none⟩ (.int .i64 ((rd_T60 y193 x77_4).f0))).setCell ⟨gb197, 1, none⟩ (.int .i64 ((rd_T60 y193 x77_4).f1))).heap[gb178]? = some (.cells #[.int .i64 a0_0, .int .i64 a0_1, .slice A0_2 l0_2.length c0_2] 27 (0, 0))) := ⟨by (with_reducible repeat (first | refine blk_drewN ?_ _ | refine blk_drew ?_ | refine blk_alloc ?_ _)); refine blk_far ?_ NB178_197.out _; (with_reducible repeat (first | refine blk_drewN ?_ _ | refine blk_drew ?_ | refine blk_alloc ?_ _)); refine blk_far ?_ NB178_197.out _; (with_reducible repeat (first | refine blk_drewN ?_ _ | refine blk_drew ?_ | refine blk_alloc ?_ _)); exact BK178.out⟩
                        have n4_ : Aside0 (((w73.setCell ⟨gb197, 0, none⟩ (.int .i64 ((rd_T60 y193 x77_4).f0))).setCell ⟨gb197, 1, none⟩ (.int .i64 ((rd_T60 y193 x77_4).f1))).heap[gb197]? = some (.cells #[.int .i64 ((rd_T60 y193 x77_4).f0), .int .i64 ((rd_T60 y193 x77_4).f1)] 60 (0, 0))) := ⟨by (with_reducible repeat (first | refine blk_drewN ?_ _ | refine blk_drew ?_ | refine blk_alloc ?_ _)); refine blk_put (cs := #[.int .i64 ((rd_T60 y193 x77_4).f0), .int .i64 0]) ?_ 1 _ rfl; (with_reducible repeat (first | refine blk_drewN ?_ _ | refine blk_drew ?_ | refine blk_alloc ?_ _)); refine blk_put (cs := #[.int .i64 0, .int .i64 0]) ?_ 0 _ rfl; (with_reducible repeat (first | refine blk_drewN ?_ _ | refine blk_drew ?_ | refine blk_alloc ?_ _)); exact BK197.out⟩
                        have n5_ : Aside0 (Below w.heap.size w ((w73.setCell ⟨gb197, 0, none⟩ (.int .i64 ((rd_T60 y193 x77_4).f0))).setCell ⟨gb197, 1, none⟩ (.int .i64 ((rd_T60 y193 x77_4).f1)))) := ⟨by repeat (first | (with_reducible first | exact HB.out | apply below_alloc | apply pw_below_drewN | apply below_drew1 | refine below_set ?_ GE178.out | refine below_set ?_ GE197.out) | exact HB.out)⟩
                        (try clear HO_5)
                        (try clear HO_8)
                        (try clear HO_75)
                        (try clear BK178)
                        (try clear BK197)
                        (try clear HB)
                        generalize ((w73.setCell ⟨gb197, 0, none⟩ (.int .i64 ((rd_T60 y193 x77_4).f0))).setCell ⟨gb197, 1, none⟩ (.int .i64 ((rd_T60 y193 x77_4).f1))) = w76 at n0_ n1_ n2_ n3_ n4_ n5_ ⊢
                        have HO_5 := n0_
                        have HO_8 := n1_
                        have HO_75 := n2_
                        have BK178 := n3_
                        have BK197 := n4_
                        have HB := n5_
                        clear n0_ n1_ n2_ n3_ n4_ n5_
                        have n0_ := Aside0.mk (Kd.R_drew HO_5.out)
                        have n1_ := Aside0.mk (Kd.Q_drew HO_8.out)
                        have n2_ := Aside0.mk (Kd.R_drew HO_75.out)
                        have n3_ := Aside0.mk (blk_drew BK178.out)
                        have n4_ := Aside0.mk (blk_drew BK197.out)
                        have n5_ := Aside0.mk (below_drew1 HB.out)
                        clear HO_5
                        clear HO_8
                        clear HO_75
                        clear BK178
                        clear BK197
                        clear HB
                        have HO_5 := n0_
                        have HO_8 := n1_
                        have HO_75 := n2_
                        have BK178 := n3_
                        have BK197 := n4_
                        have HB := n5_
                        clear n0_ n1_ n2_ n3_ n4_ n5_
                        refine start_ (n := 10) (S := fun w' => w'.cell? ⟨gb197, 0, none⟩ = some (.int .i64 ((rd_T60 y193 x77_4).f0)) ∧ w'.cell? ⟨gb197, 1, none⟩ = some (.int .i64 ((rd_T60 y193 x77_4).f1))) (ds := []) #[false, false, false, false, false, false, false, false, false, false] (by kernel_rfl) rfl rfl ⟨(blk_cell BK197.out 0).trans rfl, (blk_cell BK197.out 1).trans rfl⟩ (fun hHeld => ?_); refine with_tabW impl_Cells.tab19 impl_Cells.bits19 (fun HT_ HW_ => ?_)
                        generalize w76.drew = w77 at HO_5 HO_8 HO_75 BK178 BK197 HB hHeld ⊢
                        refine pure_ (i := 0) (N := some 81) (v := ?_) (a' := ?_) #[true, false, false, false, false, false, false, false, false, false] rfl rfl (any_of HT_.out (by kernel_rfl)) (fun _ _ _ h => h) (Or.inl ⟨by rfl, ?_⟩) ?_ ?_
                        rotate_left
                        ·intro w'
                         go_simp
                         with_reducible rfl
                        rotate_left
                        ·simp only [Act.put, sqA, sqZ, sqS, i64_w, i32_w]
                         rfl
                        refine pure_ (i := 1) (N := some 82) (v := ?_) (a' := ?_) #[true, true, false, false, false, false, false, false, false, false] rfl rfl (any_of HT_.out (by kernel_rfl)) (fun _ _ _ h => h) (Or.inl ⟨by rfl, ?_⟩) ?_ ?_
                        rotate_left
                        ·intro w'
                         go_simp
                         with_reducible rfl
                        rotate_left
                        ·simp only [Act.put, sqA, sqZ, sqS, i64_w, i32_w]
                         rfl
                        refine pure_ (i := 4) (N := some 85) (v := ?_) (a' := ?_) #[true, true, false, false, true, false, false, false, false, false] rfl rfl (any_of HT_.out (by kernel_rfl)) (fun _ _ _ h => h) (Or.inl ⟨by rfl, ?_⟩) ?_ ?_
                        rotate_left
                        ·intro w'
                         go_simp
                         with_reducible rfl
                        rotate_left
                        ·simp only [Act.put, sqA, sqZ, sqS, i64_w, i32_w]
                         rfl
                        refine pure_ (i := 5) (N := some 86) (v := ?_) (a' := ?_) #[true, true, false, false, true, true, false, false, false, false] rfl rfl (any_of HT_.out (by kernel_rfl)) (fun _ _ _ h => h) (Or.inl ⟨by rfl, ?_⟩) ?_ ?_
                        rotate_left
                        ·intro w'
                         go_simp
                         with_reducible rfl
                        rotate_left
                        ·simp only [Act.put, sqA, sqZ, sqS, i64_w, i32_w]
                         rfl
                        refine take_ (i := 2) (N := some 83) (v := ?_) (a' := ?_) #[true, true, true, false, true, true, false, false, false, false] rfl rfl (take_ofW HT_.out HW_.out (by kernel_rfl)) (fun _ _ _ h => h) (Or.inl ⟨by rfl, ?_⟩) hHeld ?_ ?_
                        rotate_left
                        ·rintro w' ⟨s0, s1⟩
                         go_simp
                         with_reducible rfl
                        rotate_left
                        ·simp only [Act.put, sqA, sqZ, sqS, i64_w, i32_w]
                         rfl
                        refine pure_ (i := 3) (N := some 84) (v := ?_) (a' := ?_) #[true, true, true, true, true, true, false, false, false, false] rfl rfl (any_of HT_.out (by kernel_rfl)) (fun _ _ _ h => h) (Or.inl ⟨by rfl, ?_⟩) ?_ ?_
                        rotate_left
                        ·intro w'
                         go_simp
                         with_reducible rfl
                        rotate_left
                        ·simp only [Act.put, sqA, sqZ, sqS, i64_w, i32_w]
                         rfl
                        refine pure_ (i := 8) (N := some 14) (v := ?_) (a' := ?_) #[true, true, true, true, true, true, false, false, true, false] rfl rfl (any_of HT_.out (by kernel_rfl)) (fun _ _ _ h => h) (Or.inl ⟨by rfl, ?_⟩) ?_ ?_
                        rotate_left
                        ·intro w'
                         go_simp
                         with_reducible rfl
                        rotate_left
                        ·simp only [Act.put, sqA, sqZ, sqS, i64_w, i32_w]
                         rfl
                        refine take_ (i := 6) (N := some 87) (v := ?_) (a' := ?_) #[true, true, true, true, true, true, true, false, true, false] rfl rfl (take_ofW HT_.out HW_.out (by kernel_rfl)) (fun _ _ _ h => h) (Or.inl ⟨by rfl, ?_⟩) hHeld ?_ ?_
                        rotate_left
                        ·rintro w' ⟨s0, s1⟩
                         go_simp
                         with_reducible rfl
                        rotate_left
                        ·simp only [Act.put, sqA, sqZ, sqS, i64_w, i32_w]
                         rfl
                        refine pure_ (i := 7) (N := some 88) (v := ?_) (a' := ?_) #[true, true, true, true, true, true, true, true, true, false] rfl rfl (any_of HT_.out (by kernel_rfl)) (fun _ _ _ h => h) (Or.inl ⟨by rfl, ?_⟩) ?_ ?_
                        rotate_left
                        ·intro w'
                         go_simp
                         with_reducible rfl
                        rotate_left
                        ·simp only [Act.put, sqA, sqZ, sqS, i64_w, i32_w]
                         rfl
                        refine pure_ (i := 9) (N := some 15) (v := ?_) (a' := ?_) #[true, true, true, true, true, true, true, true, true, true] rfl rfl (any_of HT_.out (by kernel_rfl)) (fun _ _ _ h => h) (Or.inl ⟨by rfl, ?_⟩) ?_ ?_
                        rotate_left
                        ·intro w'
                         go_simp
                         with_reducible rfl
                        rotate_left
                        ·simp only [Act.put, sqA, sqZ, sqS, i64_w, i32_w]
                         rfl
                        refine done_ (done_of HT_.out (by kernel_rfl)) ?_
                        have hcz78_0 : w77.cell? ⟨gb178, 0, none⟩ = some (.int .i64 a0_0) := (blk_cell BK178.out 0).trans rfl
                        have hcz78_1 : w77.cell? ⟨gb178, 1, none⟩ = some (.int .i64 a0_1) := (blk_cell BK178.out 1).trans rfl
                        have hcz78_2 : w77.cell? ⟨gb178, 2, none⟩ = some (.slice A0_2 l0_2.length c0_2) := (blk_cell BK178.out 2).trans rfl
                        have hfz78_0 := blk_frozen BK178.out 0
                        have hfz78_1 := blk_frozen BK178.out 1
                        have hfz78_2 := blk_frozen BK178.out 2
                        try go_wp2_with (first | ((with_reducible refine gate_callee (f := 37) rfl ?_); refine goesL_ (some 93) rfl rfl Try.func37 (by kernel_rfl) rfl #[.agg #[.int .i64 a0_0, .int .i64 a0_1, .slice A0_2 l0_2.length c0_2], .int .i64 (wrap64 ((wrap64 (Int.tdiv (rd x8_3 0) a0_1)) + ((rd_T60 y193 x77_4).f0))), .int .i64 (wrap64 ((Int.tmod (rd x8_3 0) a0_1) + ((rd_T60 y193 x77_4).f1))), .int .i64 a1] rfl (by (try simp only [List.map_toArray, List.map_cons, List.map_nil]); first | done | rfl | (simp only [List.length_drop, List.length_take]; rfl)) ?_; (with_reducible refine (impl_Box_high.calls a0_0 a0_1 _ _ l0_2 (wrap64 ((wrap64 (Int.tdiv (rd x8_3 0) a0_1)) + ((rd_T60 y193 x77_4).f0))) (wrap64 ((Int.tmod (rd x8_3 0) a0_1) + ((rd_T60 y193 x77_4).f1))) a1 false _ ?side1 ?side2 A45.out).mono ?_); (case side1 => repeat (first | exact (Kd.C_below HR0_2.out HB.out) | (with_reducible refine Kd.C_alloc ?_ _) | (with_reducible refine Kd.C_drewN ?_ _) | (with_reducible refine Kd.C_drew ?_))); (case side2 => exact HC0_2.out); rintro e w79 ⟨rfl, hb⟩; refine ⟨_, rfl, ?_⟩; have n0_ := Aside0.mk (Kd.R_below (by (with_reducible repeat (first | apply Kd.R_alloc | apply Kd.R_drewN | apply Kd.R_drew)); exact HO_5.out) hb); have n1_ := Aside0.mk (Kd.Q_below (by (with_reducible repeat (first | apply Kd.Q_alloc | apply Kd.Q_drewN | apply Kd.Q_drew)); exact HO_8.out) hb); have n2_ := Aside0.mk (Kd.R_below (by (with_reducible repeat (first | apply Kd.R_alloc | apply Kd.R_drewN | apply Kd.R_drew)); exact HO_75.out) hb); have n3_ := Aside0.mk (blk_below (g := gb178) (o := .cells #[.int .i64 a0_0, .int .i64 a0_1, .slice A0_2 l0_2.length c0_2] 27 (0, 0)) (by (with_reducible repeat (first | refine blk_drewN ?_ _ | refine blk_drew ?_ | refine blk_alloc ?_ _)); exact BK178.out) hb); have n4_ := Aside0.mk (blk_below (g := gb197) (o := .cells #[.int .i64 ((rd_T60 y193 x77_4).f0), .int .i64 ((rd_T60 y193 x77_4).f1)] 60 (0, 0)) (by (with_reducible repeat (first | refine blk_drewN ?_ _ | refine blk_drew ?_ | refine blk_alloc ?_ _)); exact BK197.out) hb); have n5_ := Aside0.mk (below_step (by repeat (first | (with_reducible first | exact HB.out | apply below_alloc | apply pw_below_drewN | apply below_drew1 | refine below_set ?_ GE178.out | refine below_set ?_ GE197.out) | exact HB.out)) hb); clear HO_5; clear HO_8; clear HO_75; clear BK178; clear BK197; clear HB; have HO_5 := n0_; have HO_8 := n1_; have HO_75 := n2_; have BK178 := n3_; have BK197 := n4_; have HB := n5_; clear n0_ n1_ n2_ n3_ n4_ n5_; (try clear hb); (try clear hb2); (try clear hk); (try clear hi)))
                        (try simp only [← hl5_4])
                        go_roundg k4
                        case measure => have := HK1.out; have := HJ14.out; have := HK3.out; have := HK4.out; omega
                        case rel => exact ⟨(x5_4), (x8_4), (wrap64 (x77_4 + 1)), (by first | rfl | (simp; done) | (simp [*]; done)), H', ⟨by have := HK1.out; have := HJ14.out; have := HK3.out; have := HK4.out; omega⟩, ⟨by (try simp only [hl5_1]); (try simp only [hl5_3]); (try simp only [hl5_4]); (with_reducible repeat (first | apply Kd.R_alloc | apply Kd.R_drewN | apply Kd.R_drew)); exact HO_5.out⟩, ⟨by (try simp only [hl5_1]); (try simp only [hl5_3]); (try simp only [hl5_4]); (with_reducible repeat (first | apply Kd.Q_alloc | apply Kd.Q_drewN | apply Kd.Q_drew)); exact HO_8.out⟩, ⟨by (try simp only [hl5_1]); (try simp only [hl5_3]); (try simp only [hl5_4]); (with_reducible repeat (first | apply Kd.R_alloc | apply Kd.R_drewN | apply Kd.R_drew)); exact Kd.R_mono HO_75.out (fun _ hk => trivial)⟩, ⟨by (try simp only [hl5_1]); (try simp only [hl5_3]); (try simp only [hl5_4]); (with_reducible repeat (first | refine blk_drewN ?_ _ | refine blk_drew ?_ | refine blk_alloc ?_ _)); exact BK178.out⟩, ⟨by repeat (first | (with_reducible first | exact HB.out | apply below_alloc | apply pw_below_drewN | apply below_drew1 | refine below_set ?_ GE178.out | refine below_set ?_ GE197.out) | exact HB.out)⟩⟩
                      ·rw [if_neg c44] at H
                       exact absurd H (by simp)
                     ·rw [if_neg c43] at H
                      exact absurd H (by simp)
                    ·rw [if_neg c42] at H
                     have c42b0 : decide (x77_4 < (y193.length : Int)) = false := decide_eq_false c42
                     (try simp only [hl5_1, hl5_3, hl5_4] at c42b0)
                     clear c42
                     have H' := Aside0.mk H
                     clear H
                     go_wp2
                     (try simp only [← hl5_3, ← hl5_4])
                     go_roundg k4
                     case measure => have := HK1.out; have := HJ14.out; have := HK3.out; have := HK4.out; omega
                     case rel => exact ⟨(x5_4), (x8_4), H', ⟨by have := HK1.out; have := HJ14.out; have := HK3.out; have := HK4.out; omega⟩, ⟨by (try simp only [hl5_1]); (try simp only [hl5_3]); (try simp only [hl5_4]); (with_reducible repeat (first | apply Kd.R_alloc | apply Kd.R_drewN | apply Kd.R_drew)); exact HO_5.out⟩, ⟨by (try simp only [hl5_1]); (try simp only [hl5_3]); (try simp only [hl5_4]); (with_reducible repeat (first | apply Kd.Q_alloc | apply Kd.Q_drewN | apply Kd.Q_drew)); exact HO_8.out⟩, ⟨by (try simp only [hl5_1]); (try simp only [hl5_3]); (try simp only [hl5_4]); (with_reducible repeat (first | refine blk_drewN ?_ _ | refine blk_drew ?_ | refine blk_alloc ?_ _)); exact BK178.out⟩, ⟨by repeat (first | (with_reducible first | exact HB.out | apply below_alloc | apply pw_below_drewN | apply below_drew1 | refine below_set ?_ GE178.out) | exact HB.out)⟩⟩
                ·rw [if_neg c34] at H
                 exact absurd H (by simp)
               ·rw [if_neg c33] at H
                exact absurd H (by simp)
              ·rw [if_neg c32] at H
               have c32b0 : decide (0 < (x8_3.length : Int)) = false := decide_eq_false c32
               (try simp only [hl5_1, hl5_3] at c32b0)
               have c32b1 : decide (0 < x8_3.length) = false := decide_eq_false (by omega)
               (try simp only [hl5_1, hl5_3] at c32b1)
               clear c32
               have H' := Aside0.mk H
               clear H
               obtain ⟨Ao80, co80, eo80, _⟩ := Kd.Q_slice HO_8.out
               subst eo80
               go_wp2
               (try simp only [← hl5_1, ← hl5_3])
               go_roundg k3
               case measure => have := HK1.out; have := HJ14.out; have := HK3.out; omega
               case rel => exact ⟨(x5_3), ((wrap64 (x6_1 + 1))), (wrap64 (x25_1 + 1)), (by first | rfl | (simp; done) | (simp [*]; done)), (by first | rfl | (simp; done) | (simp [*]; done)), H', ⟨by have := HK1.out; have := HJ14.out; have := HK3.out; omega⟩, ⟨by (try simp only [hl5_1]); (try simp only [hl5_3]); (with_reducible repeat (first | apply Kd.R_alloc | apply Kd.R_drewN | apply Kd.R_drew)); exact Kd.R_mono HO_5.out (fun _ hk => trivial)⟩, ⟨by (try simp only [hl5_1]); (try simp only [hl5_3]); (with_reducible repeat (first | refine blk_drewN ?_ _ | refine blk_drew ?_ | refine blk_alloc ?_ _)); exact BK178.out⟩, ⟨by repeat (first | (with_reducible first | exact HB.out | apply below_alloc | apply pw_below_drewN | apply below_drew1 | refine below_set ?_ GE178.out) | exact HB.out)⟩⟩
           ·rw [if_neg c26] at H
            exact absurd H (by simp)
          ·rw [if_neg c25] at H
           exact absurd H (by simp)
      ·rw [if_neg c14] at H
       have c14b0 : decide (x25_1 < (y180.length : Int)) = false := decide_eq_false c14
       (try simp only [hl5_1] at c14b0)
       clear c14
       obtain rfl := Option.some.inj H
       go_wp2
       go_ret
       exact ⟨_, by first | rfl | (simp [errW_none, errW_some] <;> rfl) | (simp [*, errW_none, errW_some] <;> rfl), by (with_reducible repeat (first | apply Kd.R_alloc | apply Kd.R_drewN | apply Kd.R_drew)); exact HO_5.out, by repeat (first | (with_reducible first | exact HB.out | apply below_alloc | apply pw_below_drewN | apply below_drew1 | refine below_set ?_ GE178.out) | exact HB.out)⟩
   ·rw [if_neg c6] at H
    exact absurd H (by simp)
  ·rw [if_neg c5] at H
   exact absurd H (by simp)
 ·replace c4 := Bool.eq_false_iff.mpr c4
  subst c4
  have H1 : (some ([] : List Int)) = some r := by rw [if_neg (show ¬ (false = true) by decide)] at H; exact H
  clear H
  have H := H1
  clear H1
  obtain rfl := Option.some.inj H
  go_enter Try.func10, Try.ntmps10
  go_wp2_with (first | ((with_reducible refine gate_dst (N := 2) rfl ?_); refine box_event ?hg (N := 2) ?hd (cs := #[.int .i64 a0_0, .int .i64 a0_1, .slice A0_2 l0_2.length c0_2]) (t := 27) ?hr ?_; (case hd => rfl); (case hg => rfl); (case hr => first | (go_simp; done) | (go_simp; rfl)); intro gb178 hg w81 hbox hb; have n0_ := Aside0.mk (below_step (by repeat (first | (with_reducible first | exact HB.out | apply below_alloc | apply pw_below_drewN | apply below_drew1) | exact HB.out)) hb); have n1_ := Aside0.mk (hbox); have n2_ := Aside0.mk ((by rw [hg]; exact (below_size (by repeat (first | (with_reducible first | exact HB.out | apply below_alloc | apply pw_below_drewN | apply below_drew1) | exact HB.out))) : w.heap.size ≤ gb178)); have n3_ := Aside0.mk ((by rw [hg]; exact (below_size (by repeat (first | (with_reducible first | exact HB.out | apply below_alloc | apply pw_below_drewN | apply below_drew1) | exact HB.out))) : w.heap.size ≤ gb178)); clear HB; have HB := n0_; have BK178 := n1_; have GW178 := n2_; have GE178 := n3_; clear n0_ n1_ n2_ n3_; clear hb hbox hg; have hcz82_0 : w81.cell? ⟨gb178, 0, none⟩ = some (.int .i64 a0_0) := (blk_cell BK178.out 0).trans rfl; have hcz82_1 : w81.cell? ⟨gb178, 1, none⟩ = some (.int .i64 a0_1) := (blk_cell BK178.out 1).trans rfl; have hcz82_2 : w81.cell? ⟨gb178, 2, none⟩ = some (.slice A0_2 l0_2.length c0_2) := (blk_cell BK178.out 2).trans rfl; have hfz82_0 := blk_frozen BK178.out 0; have hfz82_1 := blk_frozen BK178.out 1; have hfz82_2 := blk_frozen BK178.out 2) | ((with_reducible refine gate_callee (f := 36) rfl ?_); refine goesL_ (some 17) rfl rfl Try.func36 (by kernel_rfl) rfl #[.agg #[.int .i64 a0_0, .int .i64 a0_1, .slice A0_2 l0_2.length c0_2]] rfl (by (try simp only [List.map_toArray, List.map_cons, List.map_nil]); first | done | rfl | (simp only [List.length_drop, List.length_take]; rfl)) ?_; (with_reducible refine (impl_BoxOk.calls k a0_0 a0_1 _ _ l0_2 false _ ?side1 ?side2 A3.out).mono ?_); (case side1 => repeat (first | exact (Kd.C_below HR0_2.out HB.out) | (with_reducible refine Kd.C_alloc ?_ _) | (with_reducible refine Kd.C_drewN ?_ _) | (with_reducible refine Kd.C_drew ?_))); (case side2 => exact HC0_2.out); rintro e w83 ⟨rfl, hb⟩; refine ⟨_, rfl, ?_⟩; have n0_ := Aside0.mk (blk_below (g := gb178) (o := .cells #[.int .i64 a0_0, .int .i64 a0_1, .slice A0_2 l0_2.length c0_2] 27 (0, 0)) (by (with_reducible repeat (first | refine blk_drewN ?_ _ | refine blk_drew ?_ | refine blk_alloc ?_ _)); exact BK178.out) hb); have n1_ := Aside0.mk (below_step (by repeat (first | (with_reducible first | exact HB.out | apply below_alloc | apply pw_below_drewN | apply below_drew1 | refine below_set ?_ GE178.out) | exact HB.out)) hb); clear BK178; clear HB; have BK178 := n0_; have HB := n1_; clear n0_ n1_; (try clear hb); (try clear hb2); (try clear hk); (try clear hi)))
  go_ret
  exact ⟨_, by first | rfl | (simp [errW_none, errW_some] <;> rfl) | (simp [*, errW_none, errW_some] <;> rfl), by first | exact Kd.R_nil _ _ _ _ _ | exact Kd.N_nil _ _ _ _ _ | exact Kd.V_nil _ _ _ _ _ | exact Kd.Q_nil _ _ _ _ _ | exact Kd.S_nil _ _ _ _ _, by repeat (first | (with_reducible first | exact HB.out | apply below_alloc | apply pw_below_drewN | apply below_drew1 | refine below_set ?_ GE178.out) | exact HB.out)⟩

end Go.Proofs.Ytcdghhihfjojaab.Q
