/- Plain Lean functions with the same answers as the Go functions of this seat, and a proof for each that the Go code comes to just these answers; no condition. Written by a program of this session (the kit's printer, turned). -/
import Derived.Test.YteobnbichpadjabQx0
import Derived.Test.YteobnbichpadjabQx8
namespace Go.Proofs.Yteobnbichpadjab.Q
open Go.RowKit Go.Proofs.YteobnbichpadjabW.PrintWords Go.Proofs.YteobnbichpadjabW.PrintLast Go.Proofs.YteobnbichpadjabW.PrintMore Go.Proofs.YteobnbichpadjabW.PrintFlt
attribute [local go_sem] cmp_lss cmp_leq cmp_gtr cmp_geq cmp_eql cmp_neq flt_l flt_r fgt_l fgt_r feq_l feq_r fne_l fne_r ord_lt ord_gt ord_eq ord_ne conv_int foi_fold run_store_flt
attribute [local go_sem] max2_int min2_int max_two min_two max_three min_three max_four min_four   -- for this text's walks alone
set_option linter.unusedVariables false
set_option linter.unusedSimpArgs false

/-! ### spec_Normals: function 32 -/
mutual
def spec_Normals.j0 : Nat → List (List Int) → List Int → Bool → Option (List Int × Bool)
 | 0, _, _, _ => none
 | k + 1, x0, x4, x20 => if x20 = true then (some (x4, false)) else (spec_Normals.l0 k x0 x4 0)
def spec_Normals.l0 : Nat → List (List Int) → List Int → Int → Option (List Int × Bool)
 | 0, _, _, _ => none
 | k + 1, x0, x4, x5 => if x5 < (x0.length : Int) then (if 0 ≤ x5 then ((spec_l19Ok.f k (rd_L1 x0 x5)).bind fun t114 => (if t114 = true then (if 0 < (x0.length : Int) then (if ((rd_L1 x0 x5).length : Int) = ((rd_L1 x0 0).length : Int) then (spec_Normals.l0 k x0 x4 (wrap64 (x5 + 1))) else (some (x4, false))) else (none)) else (some (x4, false)))) else (none)) else (spec_Normals.l1 k x0 x4 (x0.length : Int) 0)
def spec_Normals.l1 : Nat → List (List Int) → List Int → Int → Int → Option (List Int × Bool)
 | 0, _, _, _, _ => none
 | k + 1, x0, x4, x6, x7 => if 0 < (x0.length : Int) then (if x7 < ((rd_L1 x0 0).length : Int) then (spec_Normals.l2 k x0 x4 x6 x7 0 0) else (some (x4, true))) else (none)
def spec_Normals.l2 : Nat → List (List Int) → List Int → Int → Int → Int → Int → Option (List Int × Bool)
 | 0, _, _, _, _, _, _ => none
 | k + 1, x0, x4, x6, x7, x8, x9 => if x9 < (x0.length : Int) then (if 0 ≤ x9 then (if 0 ≤ x7 then (if x7 < ((rd_L1 x0 x9).length : Int) then (spec_Normals.l2 k x0 x4 x6 x7 (wrap64 (x8 + (rd (rd_L1 x0 x9) x7))) (wrap64 (x9 + 1))) else (none)) else (none)) else (none)) else (if x6 = 0 then (none) else (spec_Normals.l3 k x0 x4 x6 x7 x8 (wrap64 (Int.tdiv x8 x6))))
def spec_Normals.l3 : Nat → List (List Int) → List Int → Int → Int → Int → Int → Option (List Int × Bool)
 | 0, _, _, _, _, _, _ => none
 | k + 1, x0, x4, x6, x7, x8, x10 => if (wrap64 (x10 * x6)) > x8 then (spec_Normals.l3 k x0 x4 x6 x7 x8 (wrap64 (x10 - 1))) else (if (wrap64 (2 * (wrap64 (x8 - (wrap64 (x10 * x6)))))) > x6 then (if x4.length < 17592186044416 then (spec_Normals.l1 k x0 (x4 ++ [wrap64 (x10 + 1)]) x6 (wrap64 (x7 + 1))) else (none)) else (if (wrap64 (2 * (wrap64 (x8 - (wrap64 (x10 * x6)))))) = x6 then (if (Int.tmod x10 2) = 0 then (if x4.length < 17592186044416 then (spec_Normals.l1 k x0 (x4 ++ [x10]) x6 (wrap64 (x7 + 1))) else (none)) else (if x4.length < 17592186044416 then (spec_Normals.l1 k x0 (x4 ++ [wrap64 (x10 + 1)]) x6 (wrap64 (x7 + 1))) else (none))) else (if x4.length < 17592186044416 then (spec_Normals.l1 k x0 (x4 ++ [x10]) x6 (wrap64 (x7 + 1))) else (none))))
end
def spec_Normals.f (k : Nat) (l0 : List (List Int)) : Option (List Int × Bool) := (some (([] : List Int) : List Int)).bind fun y110 => (if (l0.length : Int) < 1 then (spec_Normals.j0 k l0 y110 true) else (spec_Normals.j0 k l0 y110 (decide ((l0.length : Int) > 100))))
theorem spec_Normals.mono_l : ∀ k, (∀ y0 y1 y2, LeO (spec_Normals.j0 k y0 y1 y2) (spec_Normals.j0 (k + 1) y0 y1 y2)) ∧ (∀ y0 y1 y2, LeO (spec_Normals.l0 k y0 y1 y2) (spec_Normals.l0 (k + 1) y0 y1 y2)) ∧ (∀ y0 y1 y2 y3, LeO (spec_Normals.l1 k y0 y1 y2 y3) (spec_Normals.l1 (k + 1) y0 y1 y2 y3)) ∧ (∀ y0 y1 y2 y3 y4 y5, LeO (spec_Normals.l2 k y0 y1 y2 y3 y4 y5) (spec_Normals.l2 (k + 1) y0 y1 y2 y3 y4 y5)) ∧ (∀ y0 y1 y2 y3 y4 y5, LeO (spec_Normals.l3 k y0 y1 y2 y3 y4 y5) (spec_Normals.l3 (k + 1) y0 y1 y2 y3 y4 y5))
 | 0 => ⟨fun _ _ _ r h => by simp [spec_Normals.j0] at h, fun _ _ _ r h => by simp [spec_Normals.l0] at h, fun _ _ _ _ r h => by simp [spec_Normals.l1] at h, fun _ _ _ _ _ _ r h => by simp [spec_Normals.l2] at h, fun _ _ _ _ _ _ r h => by simp [spec_Normals.l3] at h⟩
 | k + 1 => by
  obtain ⟨ih0, ih1, ih2, ih3, ih4⟩ := spec_Normals.mono_l k
  refine ⟨?_, ?_, ?_, ?_, ?_⟩
  ·intro y0 y1 y2
   unfold spec_Normals.j0
   repeat' first
   | (with_reducible exact ih0 _ _ _)
   | (with_reducible exact ih1 _ _ _)
   | (with_reducible exact ih2 _ _ _ _)
   | (with_reducible exact ih3 _ _ _ _ _ _)
   | (with_reducible exact ih4 _ _ _ _ _ _)
   | (with_reducible exact spec_l19Ok.mono _ _)
   | (with_reducible exact LeO.refl _)
   | (with_reducible exact LeO.none _)
   | (with_reducible refine LeO.ite ?_ ?_)
   | (with_reducible refine LeO.bind ?_ (fun _ => ?_))
   | exact ih0 _ _ _
   | exact ih1 _ _ _
   | exact ih2 _ _ _ _
   | exact ih3 _ _ _ _ _ _
   | exact ih4 _ _ _ _ _ _
   | exact spec_l19Ok.mono _ _
   | exact LeO.none _
   | refine LeO.ite ?_ ?_
   | refine LeO.bind ?_ (fun _ => ?_)
  ·intro y0 y1 y2
   unfold spec_Normals.l0
   repeat' first
   | (with_reducible exact ih0 _ _ _)
   | (with_reducible exact ih1 _ _ _)
   | (with_reducible exact ih2 _ _ _ _)
   | (with_reducible exact ih3 _ _ _ _ _ _)
   | (with_reducible exact ih4 _ _ _ _ _ _)
   | (with_reducible exact spec_l19Ok.mono _ _)
   | (with_reducible exact LeO.refl _)
   | (with_reducible exact LeO.none _)
   | (with_reducible refine LeO.ite ?_ ?_)
   | (with_reducible refine LeO.bind ?_ (fun _ => ?_))
   | exact ih0 _ _ _
   | exact ih1 _ _ _
   | exact ih2 _ _ _ _
   | exact ih3 _ _ _ _ _ _
   | exact ih4 _ _ _ _ _ _
   | exact spec_l19Ok.mono _ _
   | exact LeO.none _
   | refine LeO.ite ?_ ?_
   | refine LeO.bind ?_ (fun _ => ?_)
  ·intro y0 y1 y2 y3
   unfold spec_Normals.l1
   repeat' first
   | (with_reducible exact ih0 _ _ _)
   | (with_reducible exact ih1 _ _ _)
   | (with_reducible exact ih2 _ _ _ _)
   | (with_reducible exact ih3 _ _ _ _ _ _)
   | (with_reducible exact ih4 _ _ _ _ _ _)
   | (with_reducible exact spec_l19Ok.mono _ _)
   | (with_reducible exact LeO.refl _)
   | (with_reducible exact LeO.none _)
   | (with_reducible refine LeO.ite ?_ ?_)
   | (with_reducible refine LeO.bind ?_ (fun _ => ?_))
   | exact ih0 _ _ _
   | exact ih1 _ _ _
   | exact ih2 _ _ _ _
   | exact ih3 _ _ _ _ _ _
   | exact ih4 _ _ _ _ _ _
   | exact spec_l19Ok.mono _ _
   | exact LeO.none _
   | refine LeO.ite ?_ ?_
   | refine LeO.bind ?_ (fun _ => ?_)
  ·intro y0 y1 y2 y3 y4 y5
   unfold spec_Normals.l2
   repeat' first
   | (with_reducible exact ih0 _ _ _)
   | (with_reducible exact ih1 _ _ _)
   | (with_reducible exact ih2 _ _ _ _)
   | (with_reducible exact ih3 _ _ _ _ _ _)
   | (with_reducible exact ih4 _ _ _ _ _ _)
   | (with_reducible exact spec_l19Ok.mono _ _)
   | (with_reducible exact LeO.refl _)
   | (with_reducible exact LeO.none _)
   | (with_reducible refine LeO.ite ?_ ?_)
   | (with_reducible refine LeO.bind ?_ (fun _ => ?_))
   | exact ih0 _ _ _
   | exact ih1 _ _ _
   | exact ih2 _ _ _ _
   | exact ih3 _ _ _ _ _ _
   | exact ih4 _ _ _ _ _ _
   | exact spec_l19Ok.mono _ _
   | exact LeO.none _
   | refine LeO.ite ?_ ?_
   | refine LeO.bind ?_ (fun _ => ?_)
  ·intro y0 y1 y2 y3 y4 y5
   unfold spec_Normals.l3
   repeat' first
   | (with_reducible exact ih0 _ _ _)
   | (with_reducible exact ih1 _ _ _)
   | (with_reducible exact ih2 _ _ _ _)
   | (with_reducible exact ih3 _ _ _ _ _ _)
   | (with_reducible exact ih4 _ _ _ _ _ _)
   | (with_reducible exact spec_l19Ok.mono _ _)
   | (with_reducible exact LeO.refl _)
   | (with_reducible exact LeO.none _)
   | (with_reducible refine LeO.ite ?_ ?_)
   | (with_reducible refine LeO.bind ?_ (fun _ => ?_))
   | exact ih0 _ _ _
   | exact ih1 _ _ _
   | exact ih2 _ _ _ _
   | exact ih3 _ _ _ _ _ _
   | exact ih4 _ _ _ _ _ _
   | exact spec_l19Ok.mono _ _
   | exact LeO.none _
   | refine LeO.ite ?_ ?_
   | refine LeO.bind ?_ (fun _ => ?_)
theorem spec_Normals.mono : ∀ a0 k, LeO (spec_Normals.f k a0) (spec_Normals.f (k + 1) a0) := by
 intro a0 k
 obtain ⟨ih0, ih1, ih2, ih3, ih4⟩ := spec_Normals.mono_l k
 unfold spec_Normals.f
 repeat' first
   | (with_reducible exact ih0 _ _ _)
   | (with_reducible exact ih1 _ _ _)
   | (with_reducible exact ih2 _ _ _ _)
   | (with_reducible exact ih3 _ _ _ _ _ _)
   | (with_reducible exact ih4 _ _ _ _ _ _)
   | (with_reducible exact spec_l19Ok.mono _ _)
   | (with_reducible exact LeO.refl _)
   | (with_reducible exact LeO.none _)
   | (with_reducible refine LeO.ite ?_ ?_)
   | (with_reducible refine LeO.bind ?_ (fun _ => ?_))
   | exact ih0 _ _ _
   | exact ih1 _ _ _
   | exact ih2 _ _ _ _
   | exact ih3 _ _ _ _ _ _
   | exact ih4 _ _ _ _ _ _
   | exact spec_l19Ok.mono _ _
   | exact LeO.none _
   | refine LeO.ite ?_ ?_
   | refine LeO.bind ?_ (fun _ => ?_)
set_option maxHeartbeats 8000000 in
set_option maxRecDepth 100000 in
theorem spec_Normals.calls (k : Nat) (A0 : Option Addr) (c0 : Nat) (l0 : List (List Int)) (r1 : List Int) (r2 : Bool) (w : World) (hr0 : Kd.C (Kd.slice 2 (Kd.int .i64)) w A0 l0.length l0) (hc0 : l0.length ≤ c0) (h : spec_Normals.f k l0 = some (r1, r2)) :
  Calls Try.prog 32 #[.slice A0 l0.length c0] w fun e w' => ∃ v0_ : Value, e = .returned (.tuple #[v0_, .bool r2]) ∧ Kd.R (Kd.int .i64) 2 w' w.heap.size (fun _ => True) v0_ r1 ∧ Below w.heap.size w w' := by
 have HR0 := Aside0.mk hr0
 have HC0 := Aside0.mk hc0
 clear hr0 hc0
 have HB := Aside0.mk (Below.refl w.heap.size w)
 have H : ((some (([] : List Int) : List Int)).bind fun y110 => (if (l0.length : Int) < 1 then (spec_Normals.j0 k l0 y110 true) else (spec_Normals.j0 k l0 y110 (decide ((l0.length : Int) > 100))))) = some (r1, r2) := h
 clear h
 obtain ⟨y110, hy110⟩ : ∃ y_ : List Int, y_ = (([] : List Int)) := ⟨_, rfl⟩
 replace H : (if (l0.length : Int) < 1 then (spec_Normals.j0 k l0 y110 true) else (spec_Normals.j0 k l0 y110 (decide ((l0.length : Int) > 100)))) = some (r1, r2) := by first | (rw [hy110]; with_reducible exact H) | (have H2_ := (Option.bind_some _ _).symm.trans H; rw [hy110]; with_reducible exact H2_) | (have H2_ := (Option.bind_some _ _).symm.trans H; with_reducible exact H2_) | with_reducible exact H | (rw [hy110]; exact H) | exact H
 have Ny110 := Aside0.mk hy110
 clear hy110
 have HC2 := Aside0.mk H
 clear H
 go_enter Try.func32, Try.ntmps32
 go_upto_region 2 with (first | ((with_reducible refine gate_dst (N := 12) rfl ?_); (try (refine gate_guard (by rfl) ?_; dsimp only)); refine Kd.R_lit (Kd.int .i64) _ 2 ?hg (N := 12) ?hd (xs := ([] : List Int)) (inner := []) (ok := fun _ => True) (okp := fun _ => True) ?hr ?hp (fun _ hk => hk) trivial (Below.refl _ _) (Nat.le_refl _) (by simp) ?_; (case hd => rfl); (case hg => rfl); (case hr => first | (go_simp; done) | (go_simp; rfl)); (case hp => exact (Reps.none _ _)); intro v111 w3 ho4 hb hg_ hnew_; clear hg_ hnew_; (first | rw [← Ny110.out] at ho4 | (simp only [Int.reduceToNat] at ho4; rw [← Ny110.out] at ho4)); have n0_ := Aside0.mk (Kd.R_lower ho4 (below_size (by repeat (first | (with_reducible first | exact HB.out | apply below_alloc | apply pw_below_drewN | apply below_drew1) | exact HB.out)))); have n1_ := Aside0.mk (below_step (by repeat (first | (with_reducible first | exact HB.out | apply below_alloc | apply pw_below_drewN | apply below_drew1) | exact HB.out)) hb); clear HB; have HO112 := n0_; have HB := n1_; clear n0_ n1_; clear hb ho4))
 repeat (go_quiet (first | ((with_reducible refine gate_dst (N := 12) rfl ?_); (try (refine gate_guard (by rfl) ?_; dsimp only)); refine Kd.R_lit (Kd.int .i64) _ 2 ?hg (N := 12) ?hd (xs := ([] : List Int)) (inner := []) (ok := fun _ => True) (okp := fun _ => True) ?hr ?hp (fun _ hk => hk) trivial (Below.refl _ _) (Nat.le_refl _) (by simp) ?_; (case hd => rfl); (case hg => rfl); (case hr => first | (go_simp; done) | (go_simp; rfl)); (case hp => exact (Reps.none _ _)); intro v111 w3 ho4 hb hg_ hnew_; clear hg_ hnew_; (first | rw [← Ny110.out] at ho4 | (simp only [Int.reduceToNat] at ho4; rw [← Ny110.out] at ho4)); have n0_ := Aside0.mk (Kd.R_lower ho4 (below_size (by repeat (first | (with_reducible first | exact HB.out | apply below_alloc | apply pw_below_drewN | apply below_drew1) | exact HB.out)))); have n1_ := Aside0.mk (below_step (by repeat (first | (with_reducible first | exact HB.out | apply below_alloc | apply pw_below_drewN | apply below_drew1) | exact HB.out)) hb); clear HB; have HO112 := n0_; have HB := n1_; clear n0_ n1_; clear hb ho4)); go_upto_region 2 with (first | ((with_reducible refine gate_dst (N := 12) rfl ?_); (try (refine gate_guard (by rfl) ?_; dsimp only)); refine Kd.R_lit (Kd.int .i64) _ 2 ?hg (N := 12) ?hd (xs := ([] : List Int)) (inner := []) (ok := fun _ => True) (okp := fun _ => True) ?hr ?hp (fun _ hk => hk) trivial (Below.refl _ _) (Nat.le_refl _) (by simp) ?_; (case hd => rfl); (case hg => rfl); (case hr => first | (go_simp; done) | (go_simp; rfl)); (case hp => exact (Reps.none _ _)); intro v111 w3 ho4 hb hg_ hnew_; clear hg_ hnew_; (first | rw [← Ny110.out] at ho4 | (simp only [Int.reduceToNat] at ho4; rw [← Ny110.out] at ho4)); have n0_ := Aside0.mk (Kd.R_lower ho4 (below_size (by repeat (first | (with_reducible first | exact HB.out | apply below_alloc | apply pw_below_drewN | apply below_drew1) | exact HB.out)))); have n1_ := Aside0.mk (below_step (by repeat (first | (with_reducible first | exact HB.out | apply below_alloc | apply pw_below_drewN | apply below_drew1) | exact HB.out)) hb); clear HB; have HO112 := n0_; have HB := n1_; clear n0_ n1_; clear hb ho4)))
 (try simp only [Act.put, sqA, sqZ, sqS])
 go_cut [20] (fun v20 wc => ∃ (kq : Nat) (x20_1 : Bool), v20 = .bool x20_1 ∧ Aside0 (spec_Normals.j0 kq l0 y110 x20_1 = some (r1, r2)) ∧ Aside0 (kq ≤ k) ∧ Aside0 (Kd.R (Kd.int .i64) 2 wc w.heap.size (fun _ => True) v111 y110) ∧ Aside0 (Below w.heap.size w wc))
 case first =>
  have H := HC2.out
  clear HC2
  by_cases c5 : (l0.length : Int) < 1
  ·rw [if_pos c5] at H
   have c5b0 : decide ((l0.length : Int) < 1) = true := decide_eq_true c5
   have c5b1 : decide (l0.length < 1) = true := decide_eq_true (by omega)
   clear c5
   (first | rw [c5b0] | (simp only [i64_w, i32_w]; rw [c5b0]) | skip)
   have H' := Aside0.mk H
   clear H
   go_wp2
   repeat (go_quiet (fail); try go_wp2)
   go_meet
   case rel => exact ⟨_, (true), (by first | rfl | (simp; done) | (simp [*]; done)), H', ⟨by first | omega | exact Nat.le_refl _⟩, ⟨by (with_reducible repeat (first | apply Kd.R_alloc | apply Kd.R_drewN | apply Kd.R_drew)); exact HO112.out⟩, ⟨by repeat (first | (with_reducible first | exact HB.out | apply below_alloc | apply pw_below_drewN | apply below_drew1) | exact HB.out)⟩⟩
  ·rw [if_neg c5] at H
   have c5b0 : decide ((l0.length : Int) < 1) = false := decide_eq_false c5
   have c5b1 : decide (l0.length < 1) = false := decide_eq_false (by omega)
   clear c5
   (first | rw [c5b0] | (simp only [i64_w, i32_w]; rw [c5b0]) | skip)
   have H' := Aside0.mk H
   clear H
   go_wp2
   repeat (go_quiet (fail); try go_wp2)
   go_meet
   case rel => exact ⟨_, (decide ((l0.length : Int) > 100)), (by first | rfl | (simp; done) | (simp [*]; done)), H', ⟨by first | omega | exact Nat.le_refl _⟩, ⟨by (with_reducible repeat (first | apply Kd.R_alloc | apply Kd.R_drewN | apply Kd.R_drew)); exact HO112.out⟩, ⟨by repeat (first | (with_reducible first | exact HB.out | apply below_alloc | apply pw_below_drewN | apply below_drew1) | exact HB.out)⟩⟩
 case rest =>
  clear HC2
  try clear p2
  try clear c3
  try clear c5
  try clear c5b0
  try clear c5b1
  obtain ⟨kq, x20_1, rfl, HA, HJ1, HO_4, HB⟩ := hcut
  cases kq with
  | zero => exact absurd HA.out (by simp [spec_Normals.j0])
  | succ kj1 =>
   have H := HA.out
   clear HA
   simp only [spec_Normals.j0] at H
   by_cases c6 : x20_1 = true
   ·subst c6
    have H1 : (some (y110, false)) = some (r1, r2) := by rw [if_pos rfl] at H; exact H
    clear H
    have H := H1
    clear H1
    simp only [Option.some.injEq, Prod.mk.injEq] at H
    obtain ⟨rfl, rfl⟩ := H
    go_wp2
    repeat (go_quiet (fail); try go_wp2)
    go_ret2
    exact ⟨_, by first | rfl | (simp [errW_none, errW_some] <;> rfl) | (simp [*, errW_none, errW_some] <;> rfl), by (with_reducible repeat (first | apply Kd.R_alloc | apply Kd.R_drewN | apply Kd.R_drew)); exact HO_4.out, by repeat (first | (with_reducible first | exact HB.out | apply below_alloc | apply pw_below_drewN | apply below_drew1) | exact HB.out)⟩
   ·replace c6 := Bool.eq_false_iff.mpr c6
    subst c6
    have H1 : (spec_Normals.l0 kj1 l0 y110 0) = some (r1, r2) := by rw [if_neg (show ¬ (false = true) by decide)] at H; exact H
    clear H
    have H := H1
    clear H1
    have H' := Aside0.mk H
    clear H
    go_wp2
    repeat (go_quiet (fail); try go_wp2)
    go_loopg [5] kj1 (fun kq v5 w' => ∃ (x5_2 : Int), v5 = .int .i64 x5_2 ∧ Aside0 (spec_Normals.l0 kq l0 y110 x5_2 = some (r1, r2)) ∧ Aside0 (kq ≤ kj1) ∧ Aside0 (Kd.R (Kd.int .i64) 2 w' w.heap.size (fun _ => True) v111 y110) ∧ Aside0 (Below w.heap.size w w'))
    case atStart => exact ⟨(0), (by first | rfl | (simp; done) | (simp [*]; done)), H', ⟨Nat.le_refl _⟩, ⟨by (with_reducible repeat (first | apply Kd.R_alloc | apply Kd.R_drewN | apply Kd.R_drew)); exact HO_4.out⟩, ⟨by repeat (first | (with_reducible first | exact HB.out | apply below_alloc | apply pw_below_drewN | apply below_drew1) | exact HB.out)⟩⟩
    case round =>
     clear H'
     try clear p2
     try clear c3
     try clear c5
     try clear c5b0
     try clear c5b1
     try clear c6
     try clear p2
     obtain ⟨x5_2, rfl, HA, HK2, HO_4, HB⟩ := hrel
     cases gk with
     | zero => exact absurd HA.out (by simp [spec_Normals.l0])
     | succ k2 =>
      have H := HA.out
      clear HA
      simp only [spec_Normals.l0] at H
      by_cases c7 : x5_2 < (l0.length : Int)
      ·rw [if_pos c7] at H
       have c7b0 : decide (x5_2 < (l0.length : Int)) = true := decide_eq_true c7
       clear c7
       by_cases c8 : 0 ≤ x5_2
       ·rw [if_pos c8] at H
        have c8b0 : decide (0 ≤ x5_2) = true := decide_eq_true c8
        clear c8
        replace H := Option.bind_eq_some_iff.mp H
        obtain ⟨t114, A90, H⟩ := H
        replace H : (if t114 = true then (if 0 < (l0.length : Int) then (if ((rd_L1 l0 x5_2).length : Int) = ((rd_L1 l0 0).length : Int) then (spec_Normals.l0 k2 l0 y110 (wrap64 (x5_2 + 1))) else (some (y110, false))) else (none)) else (some (y110, false))) = some (r1, r2) := H
        have A9 := Aside0.mk A90
        clear A90
        by_cases c10 : t114 = true
        ·subst c10
         have H1 : (if 0 < (l0.length : Int) then (if ((rd_L1 l0 x5_2).length : Int) = ((rd_L1 l0 0).length : Int) then (spec_Normals.l0 k2 l0 y110 (wrap64 (x5_2 + 1))) else (some (y110, false))) else (none)) = some (r1, r2) := by rw [if_pos rfl] at H; exact H
         clear H
         have H := H1
         clear H1
         by_cases c11 : 0 < (l0.length : Int)
         ·rw [if_pos c11] at H
          have c11b0 : decide (0 < (l0.length : Int)) = true := decide_eq_true c11
          have c11b1 : decide (0 < l0.length) = true := decide_eq_true (by omega)
          clear c11
          by_cases c12 : ((rd_L1 l0 x5_2).length : Int) = ((rd_L1 l0 0).length : Int)
          ·rw [if_pos c12] at H
           have c12b0 : (((rd_L1 l0 x5_2).length : Int) == ((rd_L1 l0 0).length : Int)) = true := beq_iff_eq.mpr c12
           have c12b1 : (((rd_L1 l0 x5_2).length : Int) != ((rd_L1 l0 0).length : Int)) = false := bne_eq_false_iff_eq.mpr c12
           have c12b2 : ((rd_L1 l0 x5_2).length == (rd_L1 l0 0).length) = true := by first | simpa using c12 | (simp at c12 ⊢; omega)
           clear c12
           have H' := Aside0.mk H
           clear H
           have p113 : 0 ≤ (x5_2 : Int) := of_decide_eq_true (by first | (with_reducible assumption) | assumption)
           have q113 : x5_2 < (l0.length : Int) := of_decide_eq_true (by first | (with_reducible assumption) | assumption)
           obtain ⟨ad113, A113_0, c113_0, e113, hx113_0, hl113_0, hi113_0⟩ := at_L1 HR0.out x5_2 p113 q113
           cases e113
           replace hx113_0 := (HB.out.cell (World.block_lt_of_cell? w _ hx113_0)).trans hx113_0
           have HR113_0 := Aside0.mk hi113_0
           have HC113_0 := Aside0.mk hl113_0
           clear hi113_0 hl113_0
           replace p113 := eq_true p113
           replace q113 := eq_true q113
           go_wp2_with (first | (go_at_call 57; (with_reducible refine (spec_l19Ok.calls k2 _ _ (rd_L1 l0 x5_2) true _ ?side1 ?side2 A9.out).mono ?_); (case side1 => repeat (first | exact (Kd.C_below HR113_0.out HB.out) | (with_reducible refine Kd.C_alloc ?_ _) | (with_reducible refine Kd.C_drewN ?_ _) | (with_reducible refine Kd.C_drew ?_))); (case side2 => exact HC113_0.out); rintro e w' ⟨rfl, ⟨nd, rfl⟩⟩; (try first | exact ⟨rfl, _, World.drewN_drewN _ _ _⟩ | exact ⟨rfl, _, Eq.trans (World.drewN_drewN _ _ _) (congrArg (World.drewN _) (Nat.add_assoc _ _ _))⟩); have p115 : 0 ≤ (x5_2 : Int) := of_decide_eq_true (by first | (with_reducible assumption) | assumption); have q115 : x5_2 < (l0.length : Int) := of_decide_eq_true (by first | (with_reducible assumption) | assumption); obtain ⟨ad115, A115_0, c115_0, e115, hx115_0, hl115_0, hi115_0⟩ := at_L1 HR0.out x5_2 p115 q115; obtain rfl : ad113 = ad115 := (by injection e115); replace hx115_0 := (HB.out.cell (World.block_lt_of_cell? w _ hx115_0)).trans hx115_0; have HR115_0 := Aside0.mk hi115_0; have HC115_0 := Aside0.mk hl115_0; clear hi115_0 hl115_0; replace p115 := eq_true p115; replace q115 := eq_true q115; have ea_ := Option.some.inj (hx113_0.symm.trans hx115_0); injection ea_ with ea_ en_ ec_; subst ea_; subst ec_; clear en_; have p116 : 0 ≤ (0 : Int) := (by omega); have q116 : 0 < (l0.length : Int) := of_decide_eq_true (by first | (with_reducible assumption) | assumption); obtain ⟨ad116, A116_0, c116_0, e116, hx116_0, hl116_0, hi116_0⟩ := at_L1 HR0.out 0 p116 q116; obtain rfl : ad113 = ad116 := (by injection e116); have qi116 : (0 < l0.length) = True := eq_true (by omega); (try rw [show ((0 : Int)).toNat = 0 from rfl] at hx116_0); (try rw [Addr.add_zero'] at hx116_0); replace hx116_0 := (HB.out.cell (World.block_lt_of_cell? w _ hx116_0)).trans hx116_0; have HR116_0 := Aside0.mk hi116_0; have HC116_0 := Aside0.mk hl116_0; clear hi116_0 hl116_0; replace p116 := eq_true p116; replace q116 := eq_true q116))
           repeat (go_quiet (first | (go_at_call 57; (with_reducible refine (spec_l19Ok.calls k2 _ _ (rd_L1 l0 x5_2) true _ ?side1 ?side2 A9.out).mono ?_); (case side1 => repeat (first | exact (Kd.C_below HR113_0.out HB.out) | (with_reducible refine Kd.C_alloc ?_ _) | (with_reducible refine Kd.C_drewN ?_ _) | (with_reducible refine Kd.C_drew ?_))); (case side2 => exact HC113_0.out); rintro e w' ⟨rfl, ⟨nd, rfl⟩⟩; (try first | exact ⟨rfl, _, World.drewN_drewN _ _ _⟩ | exact ⟨rfl, _, Eq.trans (World.drewN_drewN _ _ _) (congrArg (World.drewN _) (Nat.add_assoc _ _ _))⟩); have p115 : 0 ≤ (x5_2 : Int) := of_decide_eq_true (by first | (with_reducible assumption) | assumption); have q115 : x5_2 < (l0.length : Int) := of_decide_eq_true (by first | (with_reducible assumption) | assumption); obtain ⟨ad115, A115_0, c115_0, e115, hx115_0, hl115_0, hi115_0⟩ := at_L1 HR0.out x5_2 p115 q115; obtain rfl : ad113 = ad115 := (by injection e115); replace hx115_0 := (HB.out.cell (World.block_lt_of_cell? w _ hx115_0)).trans hx115_0; have HR115_0 := Aside0.mk hi115_0; have HC115_0 := Aside0.mk hl115_0; clear hi115_0 hl115_0; replace p115 := eq_true p115; replace q115 := eq_true q115; have ea_ := Option.some.inj (hx113_0.symm.trans hx115_0); injection ea_ with ea_ en_ ec_; subst ea_; subst ec_; clear en_; have p116 : 0 ≤ (0 : Int) := (by omega); have q116 : 0 < (l0.length : Int) := of_decide_eq_true (by first | (with_reducible assumption) | assumption); obtain ⟨ad116, A116_0, c116_0, e116, hx116_0, hl116_0, hi116_0⟩ := at_L1 HR0.out 0 p116 q116; obtain rfl : ad113 = ad116 := (by injection e116); have qi116 : (0 < l0.length) = True := eq_true (by omega); (try rw [show ((0 : Int)).toNat = 0 from rfl] at hx116_0); (try rw [Addr.add_zero'] at hx116_0); replace hx116_0 := (HB.out.cell (World.block_lt_of_cell? w _ hx116_0)).trans hx116_0; have HR116_0 := Aside0.mk hi116_0; have HC116_0 := Aside0.mk hl116_0; clear hi116_0 hl116_0; replace p116 := eq_true p116; replace q116 := eq_true q116)); try go_wp2_with (first | (go_at_call 57; (with_reducible refine (spec_l19Ok.calls k2 _ _ (rd_L1 l0 x5_2) true _ ?side1 ?side2 A9.out).mono ?_); (case side1 => repeat (first | exact (Kd.C_below HR113_0.out HB.out) | (with_reducible refine Kd.C_alloc ?_ _) | (with_reducible refine Kd.C_drewN ?_ _) | (with_reducible refine Kd.C_drew ?_))); (case side2 => exact HC113_0.out); rintro e w' ⟨rfl, ⟨nd, rfl⟩⟩; (try first | exact ⟨rfl, _, World.drewN_drewN _ _ _⟩ | exact ⟨rfl, _, Eq.trans (World.drewN_drewN _ _ _) (congrArg (World.drewN _) (Nat.add_assoc _ _ _))⟩); have p115 : 0 ≤ (x5_2 : Int) := of_decide_eq_true (by first | (with_reducible assumption) | assumption); have q115 : x5_2 < (l0.length : Int) := of_decide_eq_true (by first | (with_reducible assumption) | assumption); obtain ⟨ad115, A115_0, c115_0, e115, hx115_0, hl115_0, hi115_0⟩ := at_L1 HR0.out x5_2 p115 q115; obtain rfl : ad113 = ad115 := (by injection e115); replace hx115_0 := (HB.out.cell (World.block_lt_of_cell? w _ hx115_0)).trans hx115_0; have HR115_0 := Aside0.mk hi115_0; have HC115_0 := Aside0.mk hl115_0; clear hi115_0 hl115_0; replace p115 := eq_true p115; replace q115 := eq_true q115; have ea_ := Option.some.inj (hx113_0.symm.trans hx115_0); injection ea_ with ea_ en_ ec_; subst ea_; subst ec_; clear en_; have p116 : 0 ≤ (0 : Int) := (by omega); have q116 : 0 < (l0.length : Int) := of_decide_eq_true (by first | (with_reducible assumption) | assumption); obtain ⟨ad116, A116_0, c116_0, e116, hx116_0, hl116_0, hi116_0⟩ := at_L1 HR0.out 0 p116 q116; obtain rfl : ad113 = ad116 := (by injection e116); have qi116 : (0 < l0.length) = True := eq_true (by omega); (try rw [show ((0 : Int)).toNat = 0 from rfl] at hx116_0); (try rw [Addr.add_zero'] at hx116_0); replace hx116_0 := (HB.out.cell (World.block_lt_of_cell? w _ hx116_0)).trans hx116_0; have HR116_0 := Aside0.mk hi116_0; have HC116_0 := Aside0.mk hl116_0; clear hi116_0 hl116_0; replace p116 := eq_true p116; replace q116 := eq_true q116)))
           go_roundg k2
           case measure => have := HJ1.out; have := HK2.out; omega
           case rel => exact ⟨(wrap64 (x5_2 + 1)), (by first | rfl | (simp; done) | (simp [*]; done)), H', ⟨by have := HJ1.out; have := HK2.out; omega⟩, ⟨by (with_reducible repeat (first | apply Kd.R_alloc | apply Kd.R_drewN | apply Kd.R_drew)); exact HO_4.out⟩, ⟨by repeat (first | (with_reducible first | exact HB.out | apply below_alloc | apply pw_below_drewN | apply below_drew1) | exact HB.out)⟩⟩
          ·rw [if_neg c12] at H
           have c12b0 : (((rd_L1 l0 x5_2).length : Int) == ((rd_L1 l0 0).length : Int)) = false := beq_eq_false_iff_ne.mpr c12
           have c12b1 : (((rd_L1 l0 x5_2).length : Int) != ((rd_L1 l0 0).length : Int)) = true := bne_iff_ne.mpr c12
           have c12b2 : ((rd_L1 l0 x5_2).length == (rd_L1 l0 0).length) = false := by first | simpa using c12 | (simp at c12 ⊢; omega)
           simp only [Option.some.injEq, Prod.mk.injEq] at H
           obtain ⟨rfl, rfl⟩ := H
           have p113 : 0 ≤ (x5_2 : Int) := of_decide_eq_true (by first | (with_reducible assumption) | assumption)
           have q113 : x5_2 < (l0.length : Int) := of_decide_eq_true (by first | (with_reducible assumption) | assumption)
           obtain ⟨ad113, A113_0, c113_0, e113, hx113_0, hl113_0, hi113_0⟩ := at_L1 HR0.out x5_2 p113 q113
           cases e113
           replace hx113_0 := (HB.out.cell (World.block_lt_of_cell? w _ hx113_0)).trans hx113_0
           have HR113_0 := Aside0.mk hi113_0
           have HC113_0 := Aside0.mk hl113_0
           clear hi113_0 hl113_0
           replace p113 := eq_true p113
           replace q113 := eq_true q113
           go_wp2_with (first | (go_at_call 57; (with_reducible refine (spec_l19Ok.calls k2 _ _ (rd_L1 l0 x5_2) true _ ?side1 ?side2 A9.out).mono ?_); (case side1 => repeat (first | exact (Kd.C_below HR113_0.out HB.out) | (with_reducible refine Kd.C_alloc ?_ _) | (with_reducible refine Kd.C_drewN ?_ _) | (with_reducible refine Kd.C_drew ?_))); (case side2 => exact HC113_0.out); rintro e w' ⟨rfl, ⟨nd, rfl⟩⟩; (try first | exact ⟨rfl, _, World.drewN_drewN _ _ _⟩ | exact ⟨rfl, _, Eq.trans (World.drewN_drewN _ _ _) (congrArg (World.drewN _) (Nat.add_assoc _ _ _))⟩); have p115 : 0 ≤ (x5_2 : Int) := of_decide_eq_true (by first | (with_reducible assumption) | assumption); have q115 : x5_2 < (l0.length : Int) := of_decide_eq_true (by first | (with_reducible assumption) | assumption); obtain ⟨ad115, A115_0, c115_0, e115, hx115_0, hl115_0, hi115_0⟩ := at_L1 HR0.out x5_2 p115 q115; obtain rfl : ad113 = ad115 := (by injection e115); replace hx115_0 := (HB.out.cell (World.block_lt_of_cell? w _ hx115_0)).trans hx115_0; have HR115_0 := Aside0.mk hi115_0; have HC115_0 := Aside0.mk hl115_0; clear hi115_0 hl115_0; replace p115 := eq_true p115; replace q115 := eq_true q115; have ea_ := Option.some.inj (hx113_0.symm.trans hx115_0); injection ea_ with ea_ en_ ec_; subst ea_; subst ec_; clear en_; have p116 : 0 ≤ (0 : Int) := (by omega); have q116 : 0 < (l0.length : Int) := of_decide_eq_true (by first | (with_reducible assumption) | assumption); obtain ⟨ad116, A116_0, c116_0, e116, hx116_0, hl116_0, hi116_0⟩ := at_L1 HR0.out 0 p116 q116; obtain rfl : ad113 = ad116 := (by injection e116); have qi116 : (0 < l0.length) = True := eq_true (by omega); (try rw [show ((0 : Int)).toNat = 0 from rfl] at hx116_0); (try rw [Addr.add_zero'] at hx116_0); replace hx116_0 := (HB.out.cell (World.block_lt_of_cell? w _ hx116_0)).trans hx116_0; have HR116_0 := Aside0.mk hi116_0; have HC116_0 := Aside0.mk hl116_0; clear hi116_0 hl116_0; replace p116 := eq_true p116; replace q116 := eq_true q116))
           repeat (go_quiet (first | (go_at_call 57; (with_reducible refine (spec_l19Ok.calls k2 _ _ (rd_L1 l0 x5_2) true _ ?side1 ?side2 A9.out).mono ?_); (case side1 => repeat (first | exact (Kd.C_below HR113_0.out HB.out) | (with_reducible refine Kd.C_alloc ?_ _) | (with_reducible refine Kd.C_drewN ?_ _) | (with_reducible refine Kd.C_drew ?_))); (case side2 => exact HC113_0.out); rintro e w' ⟨rfl, ⟨nd, rfl⟩⟩; (try first | exact ⟨rfl, _, World.drewN_drewN _ _ _⟩ | exact ⟨rfl, _, Eq.trans (World.drewN_drewN _ _ _) (congrArg (World.drewN _) (Nat.add_assoc _ _ _))⟩); have p115 : 0 ≤ (x5_2 : Int) := of_decide_eq_true (by first | (with_reducible assumption) | assumption); have q115 : x5_2 < (l0.length : Int) := of_decide_eq_true (by first | (with_reducible assumption) | assumption); obtain ⟨ad115, A115_0, c115_0, e115, hx115_0, hl115_0, hi115_0⟩ := at_L1 HR0.out x5_2 p115 q115; obtain rfl : ad113 = ad115 := (by injection e115); replace hx115_0 := (HB.out.cell (World.block_lt_of_cell? w _ hx115_0)).trans hx115_0; have HR115_0 := Aside0.mk hi115_0; have HC115_0 := Aside0.mk hl115_0; clear hi115_0 hl115_0; replace p115 := eq_true p115; replace q115 := eq_true q115; have ea_ := Option.some.inj (hx113_0.symm.trans hx115_0); injection ea_ with ea_ en_ ec_; subst ea_; subst ec_; clear en_; have p116 : 0 ≤ (0 : Int) := (by omega); have q116 : 0 < (l0.length : Int) := of_decide_eq_true (by first | (with_reducible assumption) | assumption); obtain ⟨ad116, A116_0, c116_0, e116, hx116_0, hl116_0, hi116_0⟩ := at_L1 HR0.out 0 p116 q116; obtain rfl : ad113 = ad116 := (by injection e116); have qi116 : (0 < l0.length) = True := eq_true (by omega); (try rw [show ((0 : Int)).toNat = 0 from rfl] at hx116_0); (try rw [Addr.add_zero'] at hx116_0); replace hx116_0 := (HB.out.cell (World.block_lt_of_cell? w _ hx116_0)).trans hx116_0; have HR116_0 := Aside0.mk hi116_0; have HC116_0 := Aside0.mk hl116_0; clear hi116_0 hl116_0; replace p116 := eq_true p116; replace q116 := eq_true q116)); try go_wp2_with (first | (go_at_call 57; (with_reducible refine (spec_l19Ok.calls k2 _ _ (rd_L1 l0 x5_2) true _ ?side1 ?side2 A9.out).mono ?_); (case side1 => repeat (first | exact (Kd.C_below HR113_0.out HB.out) | (with_reducible refine Kd.C_alloc ?_ _) | (with_reducible refine Kd.C_drewN ?_ _) | (with_reducible refine Kd.C_drew ?_))); (case side2 => exact HC113_0.out); rintro e w' ⟨rfl, ⟨nd, rfl⟩⟩; (try first | exact ⟨rfl, _, World.drewN_drewN _ _ _⟩ | exact ⟨rfl, _, Eq.trans (World.drewN_drewN _ _ _) (congrArg (World.drewN _) (Nat.add_assoc _ _ _))⟩); have p115 : 0 ≤ (x5_2 : Int) := of_decide_eq_true (by first | (with_reducible assumption) | assumption); have q115 : x5_2 < (l0.length : Int) := of_decide_eq_true (by first | (with_reducible assumption) | assumption); obtain ⟨ad115, A115_0, c115_0, e115, hx115_0, hl115_0, hi115_0⟩ := at_L1 HR0.out x5_2 p115 q115; obtain rfl : ad113 = ad115 := (by injection e115); replace hx115_0 := (HB.out.cell (World.block_lt_of_cell? w _ hx115_0)).trans hx115_0; have HR115_0 := Aside0.mk hi115_0; have HC115_0 := Aside0.mk hl115_0; clear hi115_0 hl115_0; replace p115 := eq_true p115; replace q115 := eq_true q115; have ea_ := Option.some.inj (hx113_0.symm.trans hx115_0); injection ea_ with ea_ en_ ec_; subst ea_; subst ec_; clear en_; have p116 : 0 ≤ (0 : Int) := (by omega); have q116 : 0 < (l0.length : Int) := of_decide_eq_true (by first | (with_reducible assumption) | assumption); obtain ⟨ad116, A116_0, c116_0, e116, hx116_0, hl116_0, hi116_0⟩ := at_L1 HR0.out 0 p116 q116; obtain rfl : ad113 = ad116 := (by injection e116); have qi116 : (0 < l0.length) = True := eq_true (by omega); (try rw [show ((0 : Int)).toNat = 0 from rfl] at hx116_0); (try rw [Addr.add_zero'] at hx116_0); replace hx116_0 := (HB.out.cell (World.block_lt_of_cell? w _ hx116_0)).trans hx116_0; have HR116_0 := Aside0.mk hi116_0; have HC116_0 := Aside0.mk hl116_0; clear hi116_0 hl116_0; replace p116 := eq_true p116; replace q116 := eq_true q116)))
           go_ret2
           exact ⟨_, by first | rfl | (simp [errW_none, errW_some] <;> rfl) | (simp [*, errW_none, errW_some] <;> rfl), by (with_reducible repeat (first | apply Kd.R_alloc | apply Kd.R_drewN | apply Kd.R_drew)); exact HO_4.out, by repeat (first | (with_reducible first | exact HB.out | apply below_alloc | apply pw_below_drewN | apply below_drew1) | exact HB.out)⟩
         ·rw [if_neg c11] at H
          exact absurd H (by simp)
        ·replace c10 := Bool.eq_false_iff.mpr c10
         subst c10
         have H1 : (some (y110, false)) = some (r1, r2) := by rw [if_neg (show ¬ (false = true) by decide)] at H; exact H
         clear H
         have H := H1
         clear H1
         simp only [Option.some.injEq, Prod.mk.injEq] at H
         obtain ⟨rfl, rfl⟩ := H
         have p113 : 0 ≤ (x5_2 : Int) := of_decide_eq_true (by first | (with_reducible assumption) | assumption)
         have q113 : x5_2 < (l0.length : Int) := of_decide_eq_true (by first | (with_reducible assumption) | assumption)
         obtain ⟨ad113, A113_0, c113_0, e113, hx113_0, hl113_0, hi113_0⟩ := at_L1 HR0.out x5_2 p113 q113
         cases e113
         replace hx113_0 := (HB.out.cell (World.block_lt_of_cell? w _ hx113_0)).trans hx113_0
         have HR113_0 := Aside0.mk hi113_0
         have HC113_0 := Aside0.mk hl113_0
         clear hi113_0 hl113_0
         replace p113 := eq_true p113
         replace q113 := eq_true q113
         go_wp2_with (first | (go_at_call 57; (with_reducible refine (spec_l19Ok.calls k2 _ _ (rd_L1 l0 x5_2) false _ ?side1 ?side2 A9.out).mono ?_); (case side1 => repeat (first | exact (Kd.C_below HR113_0.out HB.out) | (with_reducible refine Kd.C_alloc ?_ _) | (with_reducible refine Kd.C_drewN ?_ _) | (with_reducible refine Kd.C_drew ?_))); (case side2 => exact HC113_0.out); rintro e w' ⟨rfl, ⟨nd, rfl⟩⟩; (try first | exact ⟨rfl, _, World.drewN_drewN _ _ _⟩ | exact ⟨rfl, _, Eq.trans (World.drewN_drewN _ _ _) (congrArg (World.drewN _) (Nat.add_assoc _ _ _))⟩)))
         repeat (go_quiet (first | (go_at_call 57; (with_reducible refine (spec_l19Ok.calls k2 _ _ (rd_L1 l0 x5_2) false _ ?side1 ?side2 A9.out).mono ?_); (case side1 => repeat (first | exact (Kd.C_below HR113_0.out HB.out) | (with_reducible refine Kd.C_alloc ?_ _) | (with_reducible refine Kd.C_drewN ?_ _) | (with_reducible refine Kd.C_drew ?_))); (case side2 => exact HC113_0.out); rintro e w' ⟨rfl, ⟨nd, rfl⟩⟩; (try first | exact ⟨rfl, _, World.drewN_drewN _ _ _⟩ | exact ⟨rfl, _, Eq.trans (World.drewN_drewN _ _ _) (congrArg (World.drewN _) (Nat.add_assoc _ _ _))⟩))); try go_wp2_with (first | (go_at_call 57; (with_reducible refine (spec_l19Ok.calls k2 _ _ (rd_L1 l0 x5_2) false _ ?side1 ?side2 A9.out).mono ?_); (case side1 => repeat (first | exact (Kd.C_below HR113_0.out HB.out) | (with_reducible refine Kd.C_alloc ?_ _) | (with_reducible refine Kd.C_drewN ?_ _) | (with_reducible refine Kd.C_drew ?_))); (case side2 => exact HC113_0.out); rintro e w' ⟨rfl, ⟨nd, rfl⟩⟩; (try first | exact ⟨rfl, _, World.drewN_drewN _ _ _⟩ | exact ⟨rfl, _, Eq.trans (World.drewN_drewN _ _ _) (congrArg (World.drewN _) (Nat.add_assoc _ _ _))⟩))))
         go_ret2
         exact ⟨_, by first | rfl | (simp [errW_none, errW_some] <;> rfl) | (simp [*, errW_none, errW_some] <;> rfl), by (with_reducible repeat (first | apply Kd.R_alloc | apply Kd.R_drewN | apply Kd.R_drew)); exact HO_4.out, by repeat (first | (with_reducible first | exact HB.out | apply below_alloc | apply pw_below_drewN | apply below_drew1) | exact HB.out)⟩
       ·rw [if_neg c8] at H
        exact absurd H (by simp)
      ·rw [if_neg c7] at H
       have c7b0 : decide (x5_2 < (l0.length : Int)) = false := decide_eq_false c7
       clear c7
       have H' := Aside0.mk H
       clear H
       go_wp2
       repeat (go_quiet (fail); try go_wp2)
       go_loopg [4, 7] k2 (fun kq v4 v7 w' => ∃ (x4_3 : List Int) (x7_3 : Int), v7 = .int .i64 x7_3 ∧ Aside0 (spec_Normals.l1 kq l0 x4_3 (l0.length : Int) x7_3 = some (r1, r2)) ∧ Aside0 (kq ≤ k2) ∧ Aside0 (Kd.R (Kd.int .i64) 2 w' w.heap.size (fun _ => True) v4 x4_3) ∧ Aside0 (Below w.heap.size w w'))
       case atStart => exact ⟨(y110), (0), (by first | rfl | (simp; done) | (simp [*]; done)), H', ⟨Nat.le_refl _⟩, ⟨by (with_reducible repeat (first | apply Kd.R_alloc | apply Kd.R_drewN | apply Kd.R_drew)); exact HO_4.out⟩, ⟨by repeat (first | (with_reducible first | exact HB.out | apply below_alloc | apply pw_below_drewN | apply below_drew1) | exact HB.out)⟩⟩
       case round =>
        clear H'
        try clear c1
        try clear p1
        try clear q1
        try clear hx1
        try clear qi1
        try clear p2
        try clear c3
        try clear c5
        try clear c5b0
        try clear c5b1
        try clear c6
        try clear p6
        try clear c7
        try clear c7b0
        try clear c8
        try clear c8b0
        try clear c10
        try clear c11
        try clear c11b0
        try clear c11b1
        try clear p11
        try clear q11
        try clear hx11
        try clear qi11
        try clear c12
        try clear c12b0
        try clear c12b1
        try clear c12b2
        try clear hx113_0
        try clear hx115_0
        try clear hx116_0
        try clear p113
        try clear p115
        try clear p116
        try clear p2
        try clear q113
        try clear q115
        try clear q116
        obtain ⟨x4_3, x7_3, rfl, HA, HK3, HO_4, HB⟩ := hrel
        cases gk with
        | zero => exact absurd HA.out (by simp [spec_Normals.l1])
        | succ k3 =>
         have H := HA.out
         clear HA
         simp only [spec_Normals.l1] at H
         by_cases c13 : 0 < (l0.length : Int)
         ·rw [if_pos c13] at H
          have c13b0 : decide (0 < (l0.length : Int)) = true := decide_eq_true c13
          have c13b1 : decide (0 < l0.length) = true := decide_eq_true (by omega)
          clear c13
          by_cases c14 : x7_3 < ((rd_L1 l0 0).length : Int)
          ·rw [if_pos c14] at H
           have c14b0 : decide (x7_3 < ((rd_L1 l0 0).length : Int)) = true := decide_eq_true c14
           clear c14
           have H' := Aside0.mk H
           clear H
           have p117 : 0 ≤ (0 : Int) := (by omega)
           have q117 : 0 < (l0.length : Int) := of_decide_eq_true (by first | (with_reducible assumption) | assumption)
           obtain ⟨ad117, A117_0, c117_0, e117, hx117_0, hl117_0, hi117_0⟩ := at_L1 HR0.out 0 p117 q117
           cases e117
           have qi117 : (0 < l0.length) = True := eq_true (by omega)
           (try rw [show ((0 : Int)).toNat = 0 from rfl] at hx117_0)
           (try rw [Addr.add_zero'] at hx117_0)
           replace hx117_0 := (HB.out.cell (World.block_lt_of_cell? w _ hx117_0)).trans hx117_0
           have HR117_0 := Aside0.mk hi117_0
           have HC117_0 := Aside0.mk hl117_0
           clear hi117_0 hl117_0
           replace p117 := eq_true p117
           replace q117 := eq_true q117
           go_wp2
           repeat (go_quiet (fail); try go_wp2)
           go_loopg [8, 9] k3 (fun kq v8 v9 w' => ∃ (x8_4 : Int) (x9_4 : Int), v8 = .int .i64 x8_4 ∧ v9 = .int .i64 x9_4 ∧ Aside0 (spec_Normals.l2 kq l0 x4_3 (l0.length : Int) x7_3 x8_4 x9_4 = some (r1, r2)) ∧ Aside0 (kq ≤ k3) ∧ Aside0 (Kd.R (Kd.int .i64) 2 w' w.heap.size (fun _ => True) u4 x4_3) ∧ Aside0 (Below w.heap.size w w'))
           case atStart => exact ⟨(0), (0), (by first | rfl | (simp; done) | (simp [*]; done)), (by first | rfl | (simp; done) | (simp [*]; done)), H', ⟨Nat.le_refl _⟩, ⟨by (with_reducible repeat (first | apply Kd.R_alloc | apply Kd.R_drewN | apply Kd.R_drew)); exact HO_4.out⟩, ⟨by repeat (first | (with_reducible first | exact HB.out | apply below_alloc | apply pw_below_drewN | apply below_drew1) | exact HB.out)⟩⟩
           case round =>
            clear H'
            try clear c1
            try clear p1
            try clear q1
            try clear hx1
            try clear qi1
            try clear p2
            try clear c3
            try clear c5
            try clear c5b0
            try clear c5b1
            try clear c6
            try clear p6
            try clear c7
            try clear c7b0
            try clear c8
            try clear c8b0
            try clear c10
            try clear c11
            try clear c11b0
            try clear c11b1
            try clear p11
            try clear q11
            try clear hx11
            try clear qi11
            try clear c12
            try clear c12b0
            try clear c12b1
            try clear c12b2
            try clear c13
            try clear c13b0
            try clear c13b1
            try clear c14
            try clear c14b0
            try clear hx113_0
            try clear hx115_0
            try clear hx116_0
            try clear hx117_0
            try clear p1
            try clear p11
            try clear p113
            try clear p115
            try clear p116
            try clear p117
            try clear p2
            try clear p6
            try clear q1
            try clear q11
            try clear q113
            try clear q115
            try clear q116
            try clear q117
            obtain ⟨x8_4, x9_4, rfl, rfl, HA, HK4, HO_4, HB⟩ := hrel
            cases gk with
            | zero => exact absurd HA.out (by simp [spec_Normals.l2])
            | succ k4 =>
             have H := HA.out
             clear HA
             simp only [spec_Normals.l2] at H
             by_cases c15 : x9_4 < (l0.length : Int)
             ·rw [if_pos c15] at H
              have c15b0 : decide (x9_4 < (l0.length : Int)) = true := decide_eq_true c15
              clear c15
              by_cases c16 : 0 ≤ x9_4
              ·rw [if_pos c16] at H
               have c16b0 : decide (0 ≤ x9_4) = true := decide_eq_true c16
               clear c16
               by_cases c17 : 0 ≤ x7_3
               ·rw [if_pos c17] at H
                have c17b0 : decide (0 ≤ x7_3) = true := decide_eq_true c17
                clear c17
                by_cases c18 : x7_3 < ((rd_L1 l0 x9_4).length : Int)
                ·rw [if_pos c18] at H
                 have c18b0 : decide (x7_3 < ((rd_L1 l0 x9_4).length : Int)) = true := decide_eq_true c18
                 clear c18
                 have H' := Aside0.mk H
                 clear H
                 have p118 : 0 ≤ (x9_4 : Int) := of_decide_eq_true (by first | (with_reducible assumption) | assumption)
                 have q118 : x9_4 < (l0.length : Int) := of_decide_eq_true (by first | (with_reducible assumption) | assumption)
                 obtain ⟨ad118, A118_0, c118_0, e118, hx118_0, hl118_0, hi118_0⟩ := at_L1 HR0.out x9_4 p118 q118
                 obtain rfl : ad117 = ad118 := (by injection e118)
                 replace hx118_0 := (HB.out.cell (World.block_lt_of_cell? w _ hx118_0)).trans hx118_0
                 have HR118_0 := Aside0.mk hi118_0
                 have HC118_0 := Aside0.mk hl118_0
                 clear hi118_0 hl118_0
                 replace p118 := eq_true p118
                 replace q118 := eq_true q118
                 have p119 : 0 ≤ (x7_3 : Int) := of_decide_eq_true (by first | (with_reducible assumption) | assumption)
                 have q119 : x7_3 < ((rd_L1 l0 x9_4).length : Int) := of_decide_eq_true (by first | (with_reducible assumption) | assumption)
                 obtain ⟨ad119, e119, hx119_0⟩ := Kd.at_int HR118_0.out x7_3 p119 q119
                 cases e119
                 replace hx119_0 := (HB.out.cell (World.block_lt_of_cell? w _ hx119_0)).trans hx119_0
                 replace p119 := eq_true p119
                 replace q119 := eq_true q119
                 go_wp2
                 repeat (go_quiet (fail); try go_wp2)
                 go_roundg k4
                 case measure => have := HJ1.out; have := HK2.out; have := HK3.out; have := HK4.out; omega
                 case rel => exact ⟨(wrap64 (x8_4 + (rd (rd_L1 l0 x9_4) x7_3))), (wrap64 (x9_4 + 1)), (by first | rfl | (simp; done) | (simp [*]; done)), (by first | rfl | (simp; done) | (simp [*]; done)), H', ⟨by have := HJ1.out; have := HK2.out; have := HK3.out; have := HK4.out; omega⟩, ⟨by (with_reducible repeat (first | apply Kd.R_alloc | apply Kd.R_drewN | apply Kd.R_drew)); exact HO_4.out⟩, ⟨by repeat (first | (with_reducible first | exact HB.out | apply below_alloc | apply pw_below_drewN | apply below_drew1) | exact HB.out)⟩⟩
                ·rw [if_neg c18] at H
                 exact absurd H (by simp)
               ·rw [if_neg c17] at H
                exact absurd H (by simp)
              ·rw [if_neg c16] at H
               exact absurd H (by simp)
             ·rw [if_neg c15] at H
              have c15b0 : decide (x9_4 < (l0.length : Int)) = false := decide_eq_false c15
              clear c15
              by_cases c19 : (l0.length : Int) = 0
              ·rw [if_pos c19] at H
               exact absurd H (by simp)
              ·rw [if_neg c19] at H
               have c19b0 : ((l0.length : Int) == 0) = false := beq_eq_false_iff_ne.mpr c19
               have c19b1 : ((l0.length : Int) != 0) = true := bne_iff_ne.mpr c19
               have c19b2 : ¬ (l0 = []) := fun h_ => c19 (by rw [h_]; rfl)
               have H' := Aside0.mk H
               clear H
               go_wp2
               repeat (go_quiet (fail); try go_wp2)
               go_loopg [10] k4 (fun kq v10 w' => ∃ (x10_5 : Int), v10 = .int .i64 x10_5 ∧ Aside0 (spec_Normals.l3 kq l0 x4_3 (l0.length : Int) x7_3 x8_4 x10_5 = some (r1, r2)) ∧ Aside0 (kq ≤ k4) ∧ Aside0 (Kd.R (Kd.int .i64) 2 w' w.heap.size (fun _ => True) u4 x4_3) ∧ Aside0 (Below w.heap.size w w'))
               case atStart => exact ⟨(wrap64 (Int.tdiv x8_4 (l0.length : Int))), (by first | rfl | (simp; done) | (simp [*]; done)), H', ⟨Nat.le_refl _⟩, ⟨by (with_reducible repeat (first | apply Kd.R_alloc | apply Kd.R_drewN | apply Kd.R_drew)); exact HO_4.out⟩, ⟨by repeat (first | (with_reducible first | exact HB.out | apply below_alloc | apply pw_below_drewN | apply below_drew1) | exact HB.out)⟩⟩
               case round =>
                clear H'
                try clear c1
                try clear p1
                try clear q1
                try clear hx1
                try clear qi1
                try clear p2
                try clear c3
                try clear c5
                try clear c5b0
                try clear c5b1
                try clear c6
                try clear p6
                try clear c7
                try clear c7b0
                try clear c8
                try clear c8b0
                try clear c10
                try clear c11
                try clear c11b0
                try clear c11b1
                try clear p11
                try clear q11
                try clear hx11
                try clear qi11
                try clear c12
                try clear c12b0
                try clear c12b1
                try clear c12b2
                try clear c13
                try clear c13b0
                try clear c13b1
                try clear c14
                try clear c14b0
                try clear c15
                try clear c15b0
                try clear c16
                try clear c16b0
                try clear c17
                try clear c17b0
                try clear c18
                try clear c18b0
                try clear c19
                try clear c19b0
                try clear c19b1
                try clear c19b2
                try clear hx113_0
                try clear hx115_0
                try clear hx116_0
                try clear hx117_0
                try clear hx118_0
                try clear hx119_0
                try clear p1
                try clear p11
                try clear p113
                try clear p115
                try clear p116
                try clear p117
                try clear p118
                try clear p119
                try clear p2
                try clear p6
                try clear q1
                try clear q11
                try clear q113
                try clear q115
                try clear q116
                try clear q117
                try clear q118
                try clear q119
                obtain ⟨x10_5, rfl, HA, HK5, HO_4, HB⟩ := hrel
                cases gk with
                | zero => exact absurd HA.out (by simp [spec_Normals.l3])
                | succ k5 =>
                 have H := HA.out
                 clear HA
                 simp only [spec_Normals.l3] at H
                 by_cases c20 : (wrap64 (x10_5 * (l0.length : Int))) > x8_4
                 ·rw [if_pos c20] at H
                  have c20b0 : decide (x8_4 < (wrap64 (x10_5 * (l0.length : Int)))) = true := decide_eq_true c20
                  clear c20
                  have H' := Aside0.mk H
                  clear H
                  go_wp2
                  repeat (go_quiet (fail); try go_wp2)
                  go_roundg k5
                  case measure => have := HJ1.out; have := HK2.out; have := HK3.out; have := HK4.out; have := HK5.out; omega
                  case rel => exact ⟨(wrap64 (x10_5 - 1)), (by first | rfl | (simp; done) | (simp [*]; done)), H', ⟨by have := HJ1.out; have := HK2.out; have := HK3.out; have := HK4.out; have := HK5.out; omega⟩, ⟨by (with_reducible repeat (first | apply Kd.R_alloc | apply Kd.R_drewN | apply Kd.R_drew)); exact HO_4.out⟩, ⟨by repeat (first | (with_reducible first | exact HB.out | apply below_alloc | apply pw_below_drewN | apply below_drew1) | exact HB.out)⟩⟩
                 ·rw [if_neg c20] at H
                  have c20b0 : decide (x8_4 < (wrap64 (x10_5 * (l0.length : Int)))) = false := decide_eq_false c20
                  clear c20
                  by_cases c21 : (wrap64 (2 * (wrap64 (x8_4 - (wrap64 (x10_5 * (l0.length : Int))))))) > (l0.length : Int)
                  ·rw [if_pos c21] at H
                   have c21b0 : decide ((l0.length : Int) < (wrap64 (2 * (wrap64 (x8_4 - (wrap64 (x10_5 * (l0.length : Int)))))))) = true := decide_eq_true c21
                   clear c21
                   by_cases c22 : x4_3.length < 17592186044416
                   ·rw [if_pos c22] at H
                    have LMc22 := Aside0.mk c22
                    clear c22
                    obtain ⟨y120, hy120⟩ : ∃ y_ : List Int, y_ = (x4_3 ++ [wrap64 (x10_5 + 1)]) := ⟨_, rfl⟩
                    replace H : (spec_Normals.l1 k5 l0 y120 (l0.length : Int) (wrap64 (x7_3 + 1))) = some (r1, r2) := by first | (rw [hy120]; with_reducible exact H) | (have H2_ := (Option.bind_some _ _).symm.trans H; rw [hy120]; with_reducible exact H2_) | (have H2_ := (Option.bind_some _ _).symm.trans H; with_reducible exact H2_) | with_reducible exact H | (rw [hy120]; exact H) | exact H
                    have Ny120 := Aside0.mk hy120
                    clear hy120
                    have H' := Aside0.mk H
                    clear H
                    go_wp2_with (first | ((with_reducible refine gate_builtin (b := .append) (xs := #[.tmp 104, .tmp 106]) rfl ?_); (try (refine gate_guard (by rfl) ?_; dsimp only)); at_builtin; refine Kd.R_append (Kd.int .i64) (w0 := w) w.heap.size rfl (.tmp 104) (.tmp 106) 27 2 (.int .i64 0) 8 rfl Try.underlying27 info2 rfl (by decide) (by omega) u4 x4_3 (wrap64 (x10_5 + 1)) [.int .i64 (wrap64 (x10_5 + 1))] (fun _ => True) (fun _ => False) rfl rfl ?aP (fun _ hk => hk.elim) ?aF ?aO ?aB ?aS ?aL ?_; (case aP => exact rfl); (case aB => exact (by repeat (first | (with_reducible first | exact HB.out | apply below_alloc | apply pw_below_drewN | apply below_drew1) | exact HB.out))); (case aF => exact (fun _ _ => trivial)); (case aO => exact (by (with_reducible repeat (first | apply Kd.R_alloc | apply Kd.R_drewN | apply Kd.R_drew)); exact HO_4.out)); (case aS => exact (below_size (by repeat (first | (with_reducible first | exact HB.out | apply below_alloc | apply pw_below_drewN | apply below_drew1) | exact HB.out)))); (case aL => have := LMc22.out; omega); intro v121 w23 ho hb hg hat; rw [← Ny120.out] at ho; have n0_ := Aside0.mk (hb); have n1_ := Aside0.mk (ho); clear HB; clear HO_4; have HB := n0_; have HO122 := n1_; clear n0_ n1_; clear ho hb hg hat))
                    repeat (go_quiet (first | ((with_reducible refine gate_builtin (b := .append) (xs := #[.tmp 104, .tmp 106]) rfl ?_); (try (refine gate_guard (by rfl) ?_; dsimp only)); at_builtin; refine Kd.R_append (Kd.int .i64) (w0 := w) w.heap.size rfl (.tmp 104) (.tmp 106) 27 2 (.int .i64 0) 8 rfl Try.underlying27 info2 rfl (by decide) (by omega) u4 x4_3 (wrap64 (x10_5 + 1)) [.int .i64 (wrap64 (x10_5 + 1))] (fun _ => True) (fun _ => False) rfl rfl ?aP (fun _ hk => hk.elim) ?aF ?aO ?aB ?aS ?aL ?_; (case aP => exact rfl); (case aB => exact (by repeat (first | (with_reducible first | exact HB.out | apply below_alloc | apply pw_below_drewN | apply below_drew1) | exact HB.out))); (case aF => exact (fun _ _ => trivial)); (case aO => exact (by (with_reducible repeat (first | apply Kd.R_alloc | apply Kd.R_drewN | apply Kd.R_drew)); exact HO_4.out)); (case aS => exact (below_size (by repeat (first | (with_reducible first | exact HB.out | apply below_alloc | apply pw_below_drewN | apply below_drew1) | exact HB.out)))); (case aL => have := LMc22.out; omega); intro v121 w23 ho hb hg hat; rw [← Ny120.out] at ho; have n0_ := Aside0.mk (hb); have n1_ := Aside0.mk (ho); clear HB; clear HO_4; have HB := n0_; have HO122 := n1_; clear n0_ n1_; clear ho hb hg hat)); try go_wp2_with (first | ((with_reducible refine gate_builtin (b := .append) (xs := #[.tmp 104, .tmp 106]) rfl ?_); (try (refine gate_guard (by rfl) ?_; dsimp only)); at_builtin; refine Kd.R_append (Kd.int .i64) (w0 := w) w.heap.size rfl (.tmp 104) (.tmp 106) 27 2 (.int .i64 0) 8 rfl Try.underlying27 info2 rfl (by decide) (by omega) u4 x4_3 (wrap64 (x10_5 + 1)) [.int .i64 (wrap64 (x10_5 + 1))] (fun _ => True) (fun _ => False) rfl rfl ?aP (fun _ hk => hk.elim) ?aF ?aO ?aB ?aS ?aL ?_; (case aP => exact rfl); (case aB => exact (by repeat (first | (with_reducible first | exact HB.out | apply below_alloc | apply pw_below_drewN | apply below_drew1) | exact HB.out))); (case aF => exact (fun _ _ => trivial)); (case aO => exact (by (with_reducible repeat (first | apply Kd.R_alloc | apply Kd.R_drewN | apply Kd.R_drew)); exact HO_4.out)); (case aS => exact (below_size (by repeat (first | (with_reducible first | exact HB.out | apply below_alloc | apply pw_below_drewN | apply below_drew1) | exact HB.out)))); (case aL => have := LMc22.out; omega); intro v121 w23 ho hb hg hat; rw [← Ny120.out] at ho; have n0_ := Aside0.mk (hb); have n1_ := Aside0.mk (ho); clear HB; clear HO_4; have HB := n0_; have HO122 := n1_; clear n0_ n1_; clear ho hb hg hat)))
                    go_roundg k5
                    case measure => have := HJ1.out; have := HK2.out; have := HK3.out; have := HK4.out; have := HK5.out; omega
                    case rel => exact ⟨(y120), (wrap64 (x7_3 + 1)), (by first | rfl | (simp; done) | (simp [*]; done)), H', ⟨by have := HJ1.out; have := HK2.out; have := HK3.out; have := HK4.out; have := HK5.out; omega⟩, ⟨by (with_reducible repeat (first | apply Kd.R_alloc | apply Kd.R_drewN | apply Kd.R_drew)); exact HO122.out⟩, ⟨by repeat (first | (with_reducible first | exact HB.out | apply below_alloc | apply pw_below_drewN | apply below_drew1) | exact HB.out)⟩⟩
                   ·rw [if_neg c22] at H
                    exact absurd H (by simp)
                  ·rw [if_neg c21] at H
                   have c21b0 : decide ((l0.length : Int) < (wrap64 (2 * (wrap64 (x8_4 - (wrap64 (x10_5 * (l0.length : Int)))))))) = false := decide_eq_false c21
                   clear c21
                   by_cases c24 : (wrap64 (2 * (wrap64 (x8_4 - (wrap64 (x10_5 * (l0.length : Int))))))) = (l0.length : Int)
                   ·rw [if_pos c24] at H
                    have c24b0 : ((wrap64 (2 * (wrap64 (x8_4 - (wrap64 (x10_5 * (l0.length : Int))))))) == (l0.length : Int)) = true := beq_iff_eq.mpr c24
                    have c24b1 : ((wrap64 (2 * (wrap64 (x8_4 - (wrap64 (x10_5 * (l0.length : Int))))))) != (l0.length : Int)) = false := bne_eq_false_iff_eq.mpr c24
                    clear c24
                    by_cases c25 : (Int.tmod x10_5 2) = 0
                    ·rw [if_pos c25] at H
                     have c25b0 : ((Int.tmod x10_5 2) == 0) = true := beq_iff_eq.mpr c25
                     have c25b1 : ((Int.tmod x10_5 2) != 0) = false := bne_eq_false_iff_eq.mpr c25
                     clear c25
                     by_cases c26 : x4_3.length < 17592186044416
                     ·rw [if_pos c26] at H
                      have LMc26 := Aside0.mk c26
                      clear c26
                      obtain ⟨y123, hy123⟩ : ∃ y_ : List Int, y_ = (x4_3 ++ [x10_5]) := ⟨_, rfl⟩
                      replace H : (spec_Normals.l1 k5 l0 y123 (l0.length : Int) (wrap64 (x7_3 + 1))) = some (r1, r2) := by first | (rw [hy123]; with_reducible exact H) | (have H2_ := (Option.bind_some _ _).symm.trans H; rw [hy123]; with_reducible exact H2_) | (have H2_ := (Option.bind_some _ _).symm.trans H; with_reducible exact H2_) | with_reducible exact H | (rw [hy123]; exact H) | exact H
                      have Ny123 := Aside0.mk hy123
                      clear hy123
                      have H' := Aside0.mk H
                      clear H
                      go_wp2_with (first | ((with_reducible refine gate_builtin (b := .append) (xs := #[.tmp 104, .tmp 106]) rfl ?_); (try (refine gate_guard (by rfl) ?_; dsimp only)); at_builtin; refine Kd.R_append (Kd.int .i64) (w0 := w) w.heap.size rfl (.tmp 104) (.tmp 106) 27 2 (.int .i64 0) 8 rfl Try.underlying27 info2 rfl (by decide) (by omega) u4 x4_3 x10_5 [.int .i64 x10_5] (fun _ => True) (fun _ => False) rfl rfl ?aP (fun _ hk => hk.elim) ?aF ?aO ?aB ?aS ?aL ?_; (case aP => exact rfl); (case aB => exact (by repeat (first | (with_reducible first | exact HB.out | apply below_alloc | apply pw_below_drewN | apply below_drew1) | exact HB.out))); (case aF => exact (fun _ _ => trivial)); (case aO => exact (by (with_reducible repeat (first | apply Kd.R_alloc | apply Kd.R_drewN | apply Kd.R_drew)); exact HO_4.out)); (case aS => exact (below_size (by repeat (first | (with_reducible first | exact HB.out | apply below_alloc | apply pw_below_drewN | apply below_drew1) | exact HB.out)))); (case aL => have := LMc26.out; omega); intro v124 w27 ho hb hg hat; rw [← Ny123.out] at ho; have n0_ := Aside0.mk (hb); have n1_ := Aside0.mk (ho); clear HB; clear HO_4; have HB := n0_; have HO125 := n1_; clear n0_ n1_; clear ho hb hg hat))
                      repeat (go_quiet (first | ((with_reducible refine gate_builtin (b := .append) (xs := #[.tmp 104, .tmp 106]) rfl ?_); (try (refine gate_guard (by rfl) ?_; dsimp only)); at_builtin; refine Kd.R_append (Kd.int .i64) (w0 := w) w.heap.size rfl (.tmp 104) (.tmp 106) 27 2 (.int .i64 0) 8 rfl Try.underlying27 info2 rfl (by decide) (by omega) u4 x4_3 x10_5 [.int .i64 x10_5] (fun _ => True) (fun _ => False) rfl rfl ?aP (fun _ hk => hk.elim) ?aF ?aO ?aB ?aS ?aL ?_; (case aP => exact rfl); (case aB => exact (by repeat (first | (with_reducible first | exact HB.out | apply below_alloc | apply pw_below_drewN | apply below_drew1) | exact HB.out))); (case aF => exact (fun _ _ => trivial)); (case aO => exact (by (with_reducible repeat (first | apply Kd.R_alloc | apply Kd.R_drewN | apply Kd.R_drew)); exact HO_4.out)); (case aS => exact (below_size (by repeat (first | (with_reducible first | exact HB.out | apply below_alloc | apply pw_below_drewN | apply below_drew1) | exact HB.out)))); (case aL => have := LMc26.out; omega); intro v124 w27 ho hb hg hat; rw [← Ny123.out] at ho; have n0_ := Aside0.mk (hb); have n1_ := Aside0.mk (ho); clear HB; clear HO_4; have HB := n0_; have HO125 := n1_; clear n0_ n1_; clear ho hb hg hat)); try go_wp2_with (first | ((with_reducible refine gate_builtin (b := .append) (xs := #[.tmp 104, .tmp 106]) rfl ?_); (try (refine gate_guard (by rfl) ?_; dsimp only)); at_builtin; refine Kd.R_append (Kd.int .i64) (w0 := w) w.heap.size rfl (.tmp 104) (.tmp 106) 27 2 (.int .i64 0) 8 rfl Try.underlying27 info2 rfl (by decide) (by omega) u4 x4_3 x10_5 [.int .i64 x10_5] (fun _ => True) (fun _ => False) rfl rfl ?aP (fun _ hk => hk.elim) ?aF ?aO ?aB ?aS ?aL ?_; (case aP => exact rfl); (case aB => exact (by repeat (first | (with_reducible first | exact HB.out | apply below_alloc | apply pw_below_drewN | apply below_drew1) | exact HB.out))); (case aF => exact (fun _ _ => trivial)); (case aO => exact (by (with_reducible repeat (first | apply Kd.R_alloc | apply Kd.R_drewN | apply Kd.R_drew)); exact HO_4.out)); (case aS => exact (below_size (by repeat (first | (with_reducible first | exact HB.out | apply below_alloc | apply pw_below_drewN | apply below_drew1) | exact HB.out)))); (case aL => have := LMc26.out; omega); intro v124 w27 ho hb hg hat; rw [← Ny123.out] at ho; have n0_ := Aside0.mk (hb); have n1_ := Aside0.mk (ho); clear HB; clear HO_4; have HB := n0_; have HO125 := n1_; clear n0_ n1_; clear ho hb hg hat)))
                      go_roundg k5
                      case measure => have := HJ1.out; have := HK2.out; have := HK3.out; have := HK4.out; have := HK5.out; omega
                      case rel => exact ⟨(y123), (wrap64 (x7_3 + 1)), (by first | rfl | (simp; done) | (simp [*]; done)), H', ⟨by have := HJ1.out; have := HK2.out; have := HK3.out; have := HK4.out; have := HK5.out; omega⟩, ⟨by (with_reducible repeat (first | apply Kd.R_alloc | apply Kd.R_drewN | apply Kd.R_drew)); exact HO125.out⟩, ⟨by repeat (first | (with_reducible first | exact HB.out | apply below_alloc | apply pw_below_drewN | apply below_drew1) | exact HB.out)⟩⟩
                     ·rw [if_neg c26] at H
                      exact absurd H (by simp)
                    ·rw [if_neg c25] at H
                     have c25b0 : ((Int.tmod x10_5 2) == 0) = false := beq_eq_false_iff_ne.mpr c25
                     have c25b1 : ((Int.tmod x10_5 2) != 0) = true := bne_iff_ne.mpr c25
                     by_cases c28 : x4_3.length < 17592186044416
                     ·rw [if_pos c28] at H
                      have LMc28 := Aside0.mk c28
                      clear c28
                      obtain ⟨y126, hy126⟩ : ∃ y_ : List Int, y_ = (x4_3 ++ [wrap64 (x10_5 + 1)]) := ⟨_, rfl⟩
                      replace H : (spec_Normals.l1 k5 l0 y126 (l0.length : Int) (wrap64 (x7_3 + 1))) = some (r1, r2) := by first | (rw [hy126]; with_reducible exact H) | (have H2_ := (Option.bind_some _ _).symm.trans H; rw [hy126]; with_reducible exact H2_) | (have H2_ := (Option.bind_some _ _).symm.trans H; with_reducible exact H2_) | with_reducible exact H | (rw [hy126]; exact H) | exact H
                      have Ny126 := Aside0.mk hy126
                      clear hy126
                      have H' := Aside0.mk H
                      clear H
                      go_wp2_with (first | ((with_reducible refine gate_builtin (b := .append) (xs := #[.tmp 104, .tmp 106]) rfl ?_); (try (refine gate_guard (by rfl) ?_; dsimp only)); at_builtin; refine Kd.R_append (Kd.int .i64) (w0 := w) w.heap.size rfl (.tmp 104) (.tmp 106) 27 2 (.int .i64 0) 8 rfl Try.underlying27 info2 rfl (by decide) (by omega) u4 x4_3 (wrap64 (x10_5 + 1)) [.int .i64 (wrap64 (x10_5 + 1))] (fun _ => True) (fun _ => False) rfl rfl ?aP (fun _ hk => hk.elim) ?aF ?aO ?aB ?aS ?aL ?_; (case aP => exact rfl); (case aB => exact (by repeat (first | (with_reducible first | exact HB.out | apply below_alloc | apply pw_below_drewN | apply below_drew1) | exact HB.out))); (case aF => exact (fun _ _ => trivial)); (case aO => exact (by (with_reducible repeat (first | apply Kd.R_alloc | apply Kd.R_drewN | apply Kd.R_drew)); exact HO_4.out)); (case aS => exact (below_size (by repeat (first | (with_reducible first | exact HB.out | apply below_alloc | apply pw_below_drewN | apply below_drew1) | exact HB.out)))); (case aL => have := LMc28.out; omega); intro v127 w29 ho hb hg hat; rw [← Ny126.out] at ho; have n0_ := Aside0.mk (hb); have n1_ := Aside0.mk (ho); clear HB; clear HO_4; have HB := n0_; have HO128 := n1_; clear n0_ n1_; clear ho hb hg hat))
                      repeat (go_quiet (first | ((with_reducible refine gate_builtin (b := .append) (xs := #[.tmp 104, .tmp 106]) rfl ?_); (try (refine gate_guard (by rfl) ?_; dsimp only)); at_builtin; refine Kd.R_append (Kd.int .i64) (w0 := w) w.heap.size rfl (.tmp 104) (.tmp 106) 27 2 (.int .i64 0) 8 rfl Try.underlying27 info2 rfl (by decide) (by omega) u4 x4_3 (wrap64 (x10_5 + 1)) [.int .i64 (wrap64 (x10_5 + 1))] (fun _ => True) (fun _ => False) rfl rfl ?aP (fun _ hk => hk.elim) ?aF ?aO ?aB ?aS ?aL ?_; (case aP => exact rfl); (case aB => exact (by repeat (first | (with_reducible first | exact HB.out | apply below_alloc | apply pw_below_drewN | apply below_drew1) | exact HB.out))); (case aF => exact (fun _ _ => trivial)); (case aO => exact (by (with_reducible repeat (first | apply Kd.R_alloc | apply Kd.R_drewN | apply Kd.R_drew)); exact HO_4.out)); (case aS => exact (below_size (by repeat (first | (with_reducible first | exact HB.out | apply below_alloc | apply pw_below_drewN | apply below_drew1) | exact HB.out)))); (case aL => have := LMc28.out; omega); intro v127 w29 ho hb hg hat; rw [← Ny126.out] at ho; have n0_ := Aside0.mk (hb); have n1_ := Aside0.mk (ho); clear HB; clear HO_4; have HB := n0_; have HO128 := n1_; clear n0_ n1_; clear ho hb hg hat)); try go_wp2_with (first | ((with_reducible refine gate_builtin (b := .append) (xs := #[.tmp 104, .tmp 106]) rfl ?_); (try (refine gate_guard (by rfl) ?_; dsimp only)); at_builtin; refine Kd.R_append (Kd.int .i64) (w0 := w) w.heap.size rfl (.tmp 104) (.tmp 106) 27 2 (.int .i64 0) 8 rfl Try.underlying27 info2 rfl (by decide) (by omega) u4 x4_3 (wrap64 (x10_5 + 1)) [.int .i64 (wrap64 (x10_5 + 1))] (fun _ => True) (fun _ => False) rfl rfl ?aP (fun _ hk => hk.elim) ?aF ?aO ?aB ?aS ?aL ?_; (case aP => exact rfl); (case aB => exact (by repeat (first | (with_reducible first | exact HB.out | apply below_alloc | apply pw_below_drewN | apply below_drew1) | exact HB.out))); (case aF => exact (fun _ _ => trivial)); (case aO => exact (by (with_reducible repeat (first | apply Kd.R_alloc | apply Kd.R_drewN | apply Kd.R_drew)); exact HO_4.out)); (case aS => exact (below_size (by repeat (first | (with_reducible first | exact HB.out | apply below_alloc | apply pw_below_drewN | apply below_drew1) | exact HB.out)))); (case aL => have := LMc28.out; omega); intro v127 w29 ho hb hg hat; rw [← Ny126.out] at ho; have n0_ := Aside0.mk (hb); have n1_ := Aside0.mk (ho); clear HB; clear HO_4; have HB := n0_; have HO128 := n1_; clear n0_ n1_; clear ho hb hg hat)))
                      go_roundg k5
                      case measure => have := HJ1.out; have := HK2.out; have := HK3.out; have := HK4.out; have := HK5.out; omega
                      case rel => exact ⟨(y126), (wrap64 (x7_3 + 1)), (by first | rfl | (simp; done) | (simp [*]; done)), H', ⟨by have := HJ1.out; have := HK2.out; have := HK3.out; have := HK4.out; have := HK5.out; omega⟩, ⟨by (with_reducible repeat (first | apply Kd.R_alloc | apply Kd.R_drewN | apply Kd.R_drew)); exact HO128.out⟩, ⟨by repeat (first | (with_reducible first | exact HB.out | apply below_alloc | apply pw_below_drewN | apply below_drew1) | exact HB.out)⟩⟩
                     ·rw [if_neg c28] at H
                      exact absurd H (by simp)
                   ·rw [if_neg c24] at H
                    have c24b0 : ((wrap64 (2 * (wrap64 (x8_4 - (wrap64 (x10_5 * (l0.length : Int))))))) == (l0.length : Int)) = false := beq_eq_false_iff_ne.mpr c24
                    have c24b1 : ((wrap64 (2 * (wrap64 (x8_4 - (wrap64 (x10_5 * (l0.length : Int))))))) != (l0.length : Int)) = true := bne_iff_ne.mpr c24
                    by_cases c30 : x4_3.length < 17592186044416
                    ·rw [if_pos c30] at H
                     have LMc30 := Aside0.mk c30
                     clear c30
                     obtain ⟨y129, hy129⟩ : ∃ y_ : List Int, y_ = (x4_3 ++ [x10_5]) := ⟨_, rfl⟩
                     replace H : (spec_Normals.l1 k5 l0 y129 (l0.length : Int) (wrap64 (x7_3 + 1))) = some (r1, r2) := by first | (rw [hy129]; with_reducible exact H) | (have H2_ := (Option.bind_some _ _).symm.trans H; rw [hy129]; with_reducible exact H2_) | (have H2_ := (Option.bind_some _ _).symm.trans H; with_reducible exact H2_) | with_reducible exact H | (rw [hy129]; exact H) | exact H
                     have Ny129 := Aside0.mk hy129
                     clear hy129
                     have H' := Aside0.mk H
                     clear H
                     go_wp2_with (first | ((with_reducible refine gate_builtin (b := .append) (xs := #[.tmp 104, .tmp 106]) rfl ?_); (try (refine gate_guard (by rfl) ?_; dsimp only)); at_builtin; refine Kd.R_append (Kd.int .i64) (w0 := w) w.heap.size rfl (.tmp 104) (.tmp 106) 27 2 (.int .i64 0) 8 rfl Try.underlying27 info2 rfl (by decide) (by omega) u4 x4_3 x10_5 [.int .i64 x10_5] (fun _ => True) (fun _ => False) rfl rfl ?aP (fun _ hk => hk.elim) ?aF ?aO ?aB ?aS ?aL ?_; (case aP => exact rfl); (case aB => exact (by repeat (first | (with_reducible first | exact HB.out | apply below_alloc | apply pw_below_drewN | apply below_drew1) | exact HB.out))); (case aF => exact (fun _ _ => trivial)); (case aO => exact (by (with_reducible repeat (first | apply Kd.R_alloc | apply Kd.R_drewN | apply Kd.R_drew)); exact HO_4.out)); (case aS => exact (below_size (by repeat (first | (with_reducible first | exact HB.out | apply below_alloc | apply pw_below_drewN | apply below_drew1) | exact HB.out)))); (case aL => have := LMc30.out; omega); intro v130 w31 ho hb hg hat; rw [← Ny129.out] at ho; have n0_ := Aside0.mk (hb); have n1_ := Aside0.mk (ho); clear HB; clear HO_4; have HB := n0_; have HO131 := n1_; clear n0_ n1_; clear ho hb hg hat))
                     repeat (go_quiet (first | ((with_reducible refine gate_builtin (b := .append) (xs := #[.tmp 104, .tmp 106]) rfl ?_); (try (refine gate_guard (by rfl) ?_; dsimp only)); at_builtin; refine Kd.R_append (Kd.int .i64) (w0 := w) w.heap.size rfl (.tmp 104) (.tmp 106) 27 2 (.int .i64 0) 8 rfl Try.underlying27 info2 rfl (by decide) (by omega) u4 x4_3 x10_5 [.int .i64 x10_5] (fun _ => True) (fun _ => False) rfl rfl ?aP (fun _ hk => hk.elim) ?aF ?aO ?aB ?aS ?aL ?_; (case aP => exact rfl); (case aB => exact (by repeat (first | (with_reducible first | exact HB.out | apply below_alloc | apply pw_below_drewN | apply below_drew1) | exact HB.out))); (case aF => exact (fun _ _ => trivial)); (case aO => exact (by (with_reducible repeat (first | apply Kd.R_alloc | apply Kd.R_drewN | apply Kd.R_drew)); exact HO_4.out)); (case aS => exact (below_size (by repeat (first | (with_reducible first | exact HB.out | apply below_alloc | apply pw_below_drewN | apply below_drew1) | exact HB.out)))); (case aL => have := LMc30.out; omega); intro v130 w31 ho hb hg hat; rw [← Ny129.out] at ho; have n0_ := Aside0.mk (hb); have n1_ := Aside0.mk (ho); clear HB; clear HO_4; have HB := n0_; have HO131 := n1_; clear n0_ n1_; clear ho hb hg hat)); try go_wp2_with (first | ((with_reducible refine gate_builtin (b := .append) (xs := #[.tmp 104, .tmp 106]) rfl ?_); (try (refine gate_guard (by rfl) ?_; dsimp only)); at_builtin; refine Kd.R_append (Kd.int .i64) (w0 := w) w.heap.size rfl (.tmp 104) (.tmp 106) 27 2 (.int .i64 0) 8 rfl Try.underlying27 info2 rfl (by decide) (by omega) u4 x4_3 x10_5 [.int .i64 x10_5] (fun _ => True) (fun _ => False) rfl rfl ?aP (fun _ hk => hk.elim) ?aF ?aO ?aB ?aS ?aL ?_; (case aP => exact rfl); (case aB => exact (by repeat (first | (with_reducible first | exact HB.out | apply below_alloc | apply pw_below_drewN | apply below_drew1) | exact HB.out))); (case aF => exact (fun _ _ => trivial)); (case aO => exact (by (with_reducible repeat (first | apply Kd.R_alloc | apply Kd.R_drewN | apply Kd.R_drew)); exact HO_4.out)); (case aS => exact (below_size (by repeat (first | (with_reducible first | exact HB.out | apply below_alloc | apply pw_below_drewN | apply below_drew1) | exact HB.out)))); (case aL => have := LMc30.out; omega); intro v130 w31 ho hb hg hat; rw [← Ny129.out] at ho; have n0_ := Aside0.mk (hb); have n1_ := Aside0.mk (ho); clear HB; clear HO_4; have HB := n0_; have HO131 := n1_; clear n0_ n1_; clear ho hb hg hat)))
                     go_roundg k5
                     case measure => have := HJ1.out; have := HK2.out; have := HK3.out; have := HK4.out; have := HK5.out; omega
                     case rel => exact ⟨(y129), (wrap64 (x7_3 + 1)), (by first | rfl | (simp; done) | (simp [*]; done)), H', ⟨by have := HJ1.out; have := HK2.out; have := HK3.out; have := HK4.out; have := HK5.out; omega⟩, ⟨by (with_reducible repeat (first | apply Kd.R_alloc | apply Kd.R_drewN | apply Kd.R_drew)); exact HO131.out⟩, ⟨by repeat (first | (with_reducible first | exact HB.out | apply below_alloc | apply pw_below_drewN | apply below_drew1) | exact HB.out)⟩⟩
                    ·rw [if_neg c30] at H
                     exact absurd H (by simp)
          ·rw [if_neg c14] at H
           have c14b0 : decide (x7_3 < ((rd_L1 l0 0).length : Int)) = false := decide_eq_false c14
           clear c14
           simp only [Option.some.injEq, Prod.mk.injEq] at H
           obtain ⟨rfl, rfl⟩ := H
           have p117 : 0 ≤ (0 : Int) := (by omega)
           have q117 : 0 < (l0.length : Int) := of_decide_eq_true (by first | (with_reducible assumption) | assumption)
           obtain ⟨ad117, A117_0, c117_0, e117, hx117_0, hl117_0, hi117_0⟩ := at_L1 HR0.out 0 p117 q117
           cases e117
           have qi117 : (0 < l0.length) = True := eq_true (by omega)
           (try rw [show ((0 : Int)).toNat = 0 from rfl] at hx117_0)
           (try rw [Addr.add_zero'] at hx117_0)
           replace hx117_0 := (HB.out.cell (World.block_lt_of_cell? w _ hx117_0)).trans hx117_0
           have HR117_0 := Aside0.mk hi117_0
           have HC117_0 := Aside0.mk hl117_0
           clear hi117_0 hl117_0
           replace p117 := eq_true p117
           replace q117 := eq_true q117
           go_wp2
           repeat (go_quiet (fail); try go_wp2)
           go_ret2
           exact ⟨_, by first | rfl | (simp [errW_none, errW_some] <;> rfl) | (simp [*, errW_none, errW_some] <;> rfl), by (with_reducible repeat (first | apply Kd.R_alloc | apply Kd.R_drewN | apply Kd.R_drew)); exact HO_4.out, by repeat (first | (with_reducible first | exact HB.out | apply below_alloc | apply pw_below_drewN | apply below_drew1) | exact HB.out)⟩
         ·rw [if_neg c13] at H
          exact absurd H (by simp)

end Go.Proofs.Yteobnbichpadjab.Q
