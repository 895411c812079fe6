/- Plain Lean functions with the same answers as the Go functions of this seat, and a proof for each that the Go code comes to just these answers; no condition. Written by a program of this session (the kit's printer, turned). -/
import Derived.Test.YtpileeenoocjpaaDoorQx0
import Derived.Test.YtpileeenoocjpaaDoorQx6
import Derived.Test.YtpileeenoocjpaaDoorQx7
import Derived.Test.YtpileeenoocjpaaDoorQx8
namespace Go.Proofs.YtpileeenoocjpaaDoor.Q
open Go.RowKit Go.Proofs.YtpileeenoocjpaaDoorW.PrintWords Go.Proofs.YtpileeenoocjpaaDoorW.PrintLast Go.Proofs.YtpileeenoocjpaaDoorW.PrintMore Go.Proofs.YtpileeenoocjpaaDoorW.PrintFlt
attribute [local go_sem] cmp_lss cmp_leq cmp_gtr cmp_geq cmp_eql cmp_neq flt_l flt_r fgt_l fgt_r feq_l feq_r fne_l fne_r ord_lt ord_gt ord_eq ord_ne conv_int foi_fold run_store_flt
attribute [local go_sem] max2_int min2_int max_two min_two max_three min_three max_four min_four   -- for this text's walks alone
set_option linter.unusedVariables false
set_option linter.unusedSimpArgs false

/-! ### impl_Rotate: function 31 -/
mutual
def impl_Rotate.j0 : Nat → List (S63) → Int → Bool → List (Nat) → Option ((List (S63)))
 | 0, _, _, _, _ => none
 | k + 1, x0, x1, x15, x950 => if x15 = true then (some ([] : List (S63))) else (impl_Rotate.l0 k x1 (([] : List (S63))) x0 (x0.length : Int) 0 x950)
def impl_Rotate.l0 : Nat → Int → List (S63) → List (S63) → Int → Int → List (Nat) → Option ((List (S63)))
 | 0, _, _, _, _, _, _ => none
 | k + 1, x1, x5, x17, x18, x19, x950 => if x19 < x18 then (if 0 ≤ x19 then (if x19 < (x17.length : Int) then ((impl_Turn.f (wrap64 (((rd_T63 x17 x19).f0) * x1)) x950).bind fun bt210 => ((impl_MulPair.f ((rd_T63 x17 x19).f1.f0) ((rd_T63 x17 x19).f1.f1) bt210.1 bt210.2).bind fun bt214 => (if x5.length < 5864062014805 then (impl_Rotate.l0 k x1 (x5 ++ [(⟨(rd_T63 x17 x19).f0, (⟨bt214.1, bt214.2⟩ : S42)⟩ : S63)]) x17 x18 (wrap64 (x19 + 1)) x950) else (none)))) else (none)) else (none)) else (some x5)
end
def impl_Rotate.f (k : Nat) (l0 : List (S63)) (a1 : Int) (l2 : List (Nat)) : Option ((List (S63))) := (impl_partsOk.f k l0).bind fun t203 => (if t203 = true then ((impl_hourOk.f a1).bind fun t204 => (impl_Rotate.j0 k l0 a1 (!t204) l2)) else (impl_Rotate.j0 k l0 a1 true l2))
theorem impl_Rotate.mono_l : ∀ k, (∀ y0 y1 y2 y3, LeO (impl_Rotate.j0 k y0 y1 y2 y3) (impl_Rotate.j0 (k + 1) y0 y1 y2 y3)) ∧ (∀ y0 y1 y2 y3 y4 y5, LeO (impl_Rotate.l0 k y0 y1 y2 y3 y4 y5) (impl_Rotate.l0 (k + 1) y0 y1 y2 y3 y4 y5))
 | 0 => ⟨fun _ _ _ _ r h => by simp [impl_Rotate.j0] at h, fun _ _ _ _ _ _ r h => by simp [impl_Rotate.l0] at h⟩
 | k + 1 => by
  obtain ⟨ih0, ih1⟩ := impl_Rotate.mono_l k
  refine ⟨?_, ?_⟩
  ·intro y0 y1 y2 y3
   unfold impl_Rotate.j0
   repeat' first
   | (with_reducible exact ih0 _ _ _ _)
   | (with_reducible exact ih1 _ _ _ _ _ _)
   | (with_reducible exact impl_partsOk.mono _ _)
   | (with_reducible exact LeO.refl _)
   | (with_reducible exact LeO.none _)
   | (with_reducible refine LeO.ite ?_ ?_)
   | (with_reducible refine LeO.bind ?_ (fun _ => ?_))
   | exact ih0 _ _ _ _
   | exact ih1 _ _ _ _ _ _
   | exact impl_partsOk.mono _ _
   | exact LeO.none _
   | refine LeO.ite ?_ ?_
   | refine LeO.bind ?_ (fun _ => ?_)
  ·intro y0 y1 y2 y3 y4 y5
   unfold impl_Rotate.l0
   repeat' first
   | (with_reducible exact ih0 _ _ _ _)
   | (with_reducible exact ih1 _ _ _ _ _ _)
   | (with_reducible exact impl_partsOk.mono _ _)
   | (with_reducible exact LeO.refl _)
   | (with_reducible exact LeO.none _)
   | (with_reducible refine LeO.ite ?_ ?_)
   | (with_reducible refine LeO.bind ?_ (fun _ => ?_))
   | exact ih0 _ _ _ _
   | exact ih1 _ _ _ _ _ _
   | exact impl_partsOk.mono _ _
   | exact LeO.none _
   | refine LeO.ite ?_ ?_
   | refine LeO.bind ?_ (fun _ => ?_)
theorem impl_Rotate.mono : ∀ a0 a1 a2 k, LeO (impl_Rotate.f k a0 a1 a2) (impl_Rotate.f (k + 1) a0 a1 a2) := by
 intro a0 a1 a2 k
 obtain ⟨ih0, ih1⟩ := impl_Rotate.mono_l k
 unfold impl_Rotate.f
 repeat' first
   | (with_reducible exact ih0 _ _ _ _)
   | (with_reducible exact ih1 _ _ _ _ _ _)
   | (with_reducible exact impl_partsOk.mono _ _)
   | (with_reducible exact LeO.refl _)
   | (with_reducible exact LeO.none _)
   | (with_reducible refine LeO.ite ?_ ?_)
   | (with_reducible refine LeO.bind ?_ (fun _ => ?_))
   | exact ih0 _ _ _ _
   | exact ih1 _ _ _ _ _ _
   | exact impl_partsOk.mono _ _
   | exact LeO.none _
   | refine LeO.ite ?_ ?_
   | refine LeO.bind ?_ (fun _ => ?_)
def impl_Rotate.T7 : Bool × List (List Nat × List Nat) := (true, [([], []), ([], []), ([1], [1]), ([], []), ([3], [3]), ([], []), ([5], [5]), ([], []), ([6, 7], [6, 7]), ([8], [8]), ([4, 9, 9], [4, 9]), ([2, 10], [2, 10]), ([11], [11]), ([0, 12, 10], [0, 12]), ([13, 13, 0, 1, 2, 3, 4, 5, 6, 7, 8, 9, 10, 11, 12, 13], [0, 13])])
def impl_Rotate.B7 : List Nat := [0, 0, 2, 0, 8, 0, 32, 0, 224, 480, 1016, 2046, 4094, 8191, 16383]
theorem impl_Rotate.tab7 : rtab .any (opsOf Tryd.f31 7) = impl_Rotate.T7 := by kernel_rfl
theorem impl_Rotate.bits7 : waitsOk impl_Rotate.T7.2 impl_Rotate.B7 = true := by kernel_rfl
set_option maxHeartbeats 8000000 in
set_option maxRecDepth 100000 in
theorem impl_Rotate.calls (k : Nat) (A0 : Option Addr) (c0 : Nat) (l0 : List (S63)) (a1 : Int) (l2 : List (Nat)) (r : List (S63)) (w : World) (hr0 : Kd.C k63 w A0 l0.length l0) (hc0 : l0.length ≤ c0) (hr2 : Kd.C Kd.flt w (some ⟨1, 0, none⟩) l2.length l2) (hc2 : l2.length ≤ l2.length) (hn2 : l2.length = 10) (h : impl_Rotate.f k l0 a1 l2 = some r) :
  Calls Tryd.prog 31 #[.slice A0 l0.length c0, .int .i64 a1] w fun e w' => ∃ v0_ : Value, e = .returned (v0_) ∧ Kd.R k63 63 w' w.heap.size (fun _ => True) v0_ r ∧ Below w.heap.size w w' := by
 have hu63 := Tryd.underlying63
 have hu42 := Tryd.underlying42
 have HR0 := Aside0.mk hr0
 have HC0 := Aside0.mk hc0
 clear hr0 hc0
 have HR2 := Aside0.mk hr2
 have HC2 := Aside0.mk hc2
 clear hr2 hc2
 have HN2 := Aside0.mk hn2
 clear hn2
 have HB := Aside0.mk (Below.refl w.heap.size w)
 have H : ((impl_partsOk.f k l0).bind fun t203 => (if t203 = true then ((impl_hourOk.f a1).bind fun t204 => (impl_Rotate.j0 k l0 a1 (!t204) l2)) else (impl_Rotate.j0 k l0 a1 true l2))) = some r := h
 clear h
 have HC4 := Aside0.mk H
 clear H
 go_enter Tryd.func31, Tryd.ntmps31
 go_upto_region 1 with (fail)
 go_cut [15] (fun v15 wc => ∃ (kq : Nat) (x15_3 : Bool), v15 = .bool x15_3 ∧ Aside0 (impl_Rotate.j0 kq l0 a1 x15_3 l2 = some r) ∧ Aside0 (kq ≤ k) ∧ Aside0 (Below w.heap.size w wc))
 case first =>
  have H := HC4.out
  clear HC4
  replace H := Option.bind_eq_some_iff.mp H
  obtain ⟨t203, A50, H⟩ := H
  replace H : (if t203 = true then ((impl_hourOk.f a1).bind fun t204 => (impl_Rotate.j0 k l0 a1 (!t204) l2)) else (impl_Rotate.j0 k l0 a1 true l2)) = some r := H
  have A5 := Aside0.mk A50
  clear A50
  by_cases c6 : t203 = true
  ·subst c6
   have H1 : ((impl_hourOk.f a1).bind fun t204 => (impl_Rotate.j0 k l0 a1 (!t204) l2)) = some r := by rw [if_pos rfl] at H; exact H
   clear H
   have H := H1
   clear H1
   replace H := Option.bind_eq_some_iff.mp H
   obtain ⟨t204, A70, H⟩ := H
   replace H : (impl_Rotate.j0 k l0 a1 (!t204) l2) = some r := H
   have A7 := Aside0.mk A70
   clear A70
   have H' := Aside0.mk H
   clear H
   go_wp2_with (first | ((with_reducible refine gate_callee (f := 47) rfl ?_); refine goesL_ (some 9) rfl rfl Tryd.func47 (by kernel_rfl) rfl #[.slice A0 l0.length c0] rfl (by (try simp only [List.map_toArray, List.map_cons, List.map_nil]); first | done | rfl | (simp only [List.length_drop, List.length_take]; rfl)) ?_; (with_reducible refine (impl_partsOk.calls k _ _ l0 true _ ?side1 ?side2 A5.out).mono ?_); (case side1 => repeat (first | exact (Kd.C_below HR0.out HB.out) | (with_reducible refine Kd.C_alloc ?_ _) | (with_reducible refine Kd.C_drewN ?_ _) | (with_reducible refine Kd.C_drew ?_))); (case side2 => exact HC0.out); rintro e w8 ⟨rfl, hb⟩; refine ⟨_, rfl, ?_⟩; have n0_ := Aside0.mk (below_step (by repeat (first | (with_reducible first | exact HB.out | apply below_alloc | apply pw_below_drewN | apply below_drew1) | exact HB.out)) hb); clear HB; have HB := n0_; clear n0_; (try clear hb); (try clear hb2); (try clear hk); (try clear hi)) | (go_at_call 48; (with_reducible refine (impl_hourOk.calls a1 t204 _ A7.out).mono ?_); rintro e w' ⟨rfl, ⟨nd, rfl⟩⟩))
   go_meet
   case rel => exact ⟨_, (!t204), (by first | rfl | (simp; done) | (simp [*]; done)), H', ⟨by first | omega | exact Nat.le_refl _⟩, ⟨by repeat (first | (with_reducible first | exact HB.out | apply below_alloc | apply pw_below_drewN | apply below_drew1) | exact HB.out)⟩⟩
  ·replace c6 := Bool.eq_false_iff.mpr c6
   subst c6
   have H1 : (impl_Rotate.j0 k l0 a1 true l2) = some r := by rw [if_neg (show ¬ (false = true) by decide)] at H; exact H
   clear H
   have H := H1
   clear H1
   have H' := Aside0.mk H
   clear H
   go_wp2_with (first | ((with_reducible refine gate_callee (f := 47) rfl ?_); refine goesL_ (some 9) rfl rfl Tryd.func47 (by kernel_rfl) rfl #[.slice A0 l0.length c0] rfl (by (try simp only [List.map_toArray, List.map_cons, List.map_nil]); first | done | rfl | (simp only [List.length_drop, List.length_take]; rfl)) ?_; (with_reducible refine (impl_partsOk.calls k _ _ l0 false _ ?side1 ?side2 A5.out).mono ?_); (case side1 => repeat (first | exact (Kd.C_below HR0.out HB.out) | (with_reducible refine Kd.C_alloc ?_ _) | (with_reducible refine Kd.C_drewN ?_ _) | (with_reducible refine Kd.C_drew ?_))); (case side2 => exact HC0.out); rintro e w9 ⟨rfl, hb⟩; refine ⟨_, rfl, ?_⟩; have n0_ := Aside0.mk (below_step (by repeat (first | (with_reducible first | exact HB.out | apply below_alloc | apply pw_below_drewN | apply below_drew1) | exact HB.out)) hb); clear HB; have HB := n0_; clear n0_; (try clear hb); (try clear hb2); (try clear hk); (try clear hi)))
   go_meet
   case rel => exact ⟨_, (true), (by first | rfl | (simp; done) | (simp [*]; done)), H', ⟨by first | omega | exact Nat.le_refl _⟩, ⟨by repeat (first | (with_reducible first | exact HB.out | apply below_alloc | apply pw_below_drewN | apply below_drew1) | exact HB.out)⟩⟩
 case rest =>
  clear HC4
  try clear c2
  try clear p2
  try clear c3
  try clear c4
  try clear c6
  obtain ⟨kq, x15_3, rfl, HA, HJ3, HB⟩ := hcut
  cases kq with
  | zero => exact absurd HA.out (by simp [impl_Rotate.j0])
  | succ kj3 =>
   have H := HA.out
   clear HA
   simp only [impl_Rotate.j0] at H
   by_cases c10 : x15_3 = true
   ·subst c10
    have H1 : (some ([] : List (S63))) = some r := by rw [if_pos rfl] at H; exact H
    clear H
    have H := H1
    clear H1
    obtain rfl := Option.some.inj H
    go_wp2
    go_ret
    exact ⟨_, by first | rfl | (simp [errW_none, errW_some] <;> rfl) | (simp [*, errW_none, errW_some] <;> rfl), by first | exact Kd.R_nil _ _ _ _ _ | exact Kd.N_nil _ _ _ _ _ | exact Kd.V_nil _ _ _ _ _ | exact Kd.Q_nil _ _ _ _ _ | exact Kd.S_nil _ _ _ _ _, by repeat (first | (with_reducible first | exact HB.out | apply below_alloc | apply pw_below_drewN | apply below_drew1) | exact HB.out)⟩
   ·replace c10 := Bool.eq_false_iff.mpr c10
    subst c10
    have H1 : (impl_Rotate.l0 kj3 a1 (([] : List (S63))) l0 (l0.length : Int) 0 l2) = some r := by rw [if_neg (show ¬ (false = true) by decide)] at H; exact H
    clear H
    have H := H1
    clear H1
    obtain ⟨y205, hy205⟩ : ∃ y_ : List (S63), y_ = (([] : List (S63))) := ⟨_, rfl⟩
    replace H : (impl_Rotate.l0 kj3 a1 y205 l0 (l0.length : Int) 0 l2) = some r := by first | (rw [hy205]; with_reducible exact H) | (have H2_ := (Option.bind_some _ _).symm.trans H; rw [hy205]; with_reducible exact H2_) | (have H2_ := (Option.bind_some _ _).symm.trans H; with_reducible exact H2_) | with_reducible exact H | (rw [hy205]; exact H) | exact H
    have Ny205 := Aside0.mk hy205
    clear hy205
    have H' := Aside0.mk H
    clear H
    go_wp2_with (first | ((with_reducible refine gate_dst (N := 16) rfl ?_); refine Kd.R_lit k63 _ 63 ?hg (N := 16) ?hd (xs := ([] : List (S63))) (inner := []) (ok := fun _ => True) (okp := fun _ => True) ?hr ?hp (fun _ hk => hk) trivial (Below.refl _ _) (Nat.le_refl _) (by simp) ?_; (case hd => rfl); (case hg => rfl); (case hr => first | (go_simp; done) | (go_simp; rfl)); (case hp => exact (Reps.none _ _)); intro v206 w11 ho12 hb hg_ hnew_; clear hg_ hnew_; (first | rw [← Ny205.out] at ho12 | (simp only [Int.reduceToNat] at ho12; rw [← Ny205.out] at ho12)); have n0_ := Aside0.mk (Kd.R_lower ho12 (below_size (by repeat (first | (with_reducible first | exact HB.out | apply below_alloc | apply pw_below_drewN | apply below_drew1) | exact HB.out)))); have n1_ := Aside0.mk (below_step (by repeat (first | (with_reducible first | exact HB.out | apply below_alloc | apply pw_below_drewN | apply below_drew1) | exact HB.out)) hb); clear HB; have HO207 := n0_; have HB := n1_; clear n0_ n1_; clear hb ho12))
    go_loopg [5, 19] kj3 (fun kq v5 v19 w' => ∃ (x5_2 : List (S63)) (x19_2 : Int), v19 = .int .i64 x19_2 ∧ Aside0 (impl_Rotate.l0 kq a1 x5_2 l0 (l0.length : Int) x19_2 l2 = some r) ∧ Aside0 (kq ≤ kj3) ∧ Aside0 (Kd.R k63 63 w' w.heap.size (fun _ => True) v5 x5_2) ∧ Aside0 (Below w.heap.size w w'))
    case atStart => exact ⟨(y205), (0), (by first | rfl | (simp; done) | (simp [*]; done)), H', ⟨Nat.le_refl _⟩, ⟨by (with_reducible repeat (first | apply Kd.R_alloc | apply Kd.R_drewN | apply Kd.R_drew)); exact HO207.out⟩, ⟨by repeat (first | (with_reducible first | exact HB.out | apply below_alloc | apply pw_below_drewN | apply below_drew1) | exact HB.out)⟩⟩
    case round =>
     clear H'
     try clear c1
     try clear c2
     try clear p2
     try clear c3
     try clear c4
     try clear c6
     try clear c10
     try clear p2
     obtain ⟨x5_2, x19_2, rfl, HA, HK2, HO_5, HB⟩ := hrel
     cases gk with
     | zero => exact absurd HA.out (by simp [impl_Rotate.l0])
     | succ k2 =>
      have H := HA.out
      clear HA
      simp only [impl_Rotate.l0] at H
      by_cases c13 : x19_2 < (l0.length : Int)
      ·rw [if_pos c13] at H
       have c13b0 : decide (x19_2 < (l0.length : Int)) = true := decide_eq_true c13
       clear c13
       by_cases c14 : 0 ≤ x19_2
       ·rw [if_pos c14] at H
        have c14b0 : decide (0 ≤ x19_2) = true := decide_eq_true c14
        clear c14
        by_cases c15 : x19_2 < (l0.length : Int)
        ·rw [if_pos c15] at H
         have c15b0 : decide (x19_2 < (l0.length : Int)) = true := decide_eq_true c15
         clear c15
         replace H := Option.bind_eq_some_iff.mp H
         obtain ⟨⟨t210, t212⟩, A160, H⟩ := H
         replace H : ((impl_MulPair.f ((rd_T63 l0 x19_2).f1.f0) ((rd_T63 l0 x19_2).f1.f1) t210 t212).bind fun bt214 => (if x5_2.length < 5864062014805 then (impl_Rotate.l0 k2 a1 (x5_2 ++ [(⟨(rd_T63 l0 x19_2).f0, (⟨bt214.1, bt214.2⟩ : S42)⟩ : S63)]) l0 (l0.length : Int) (wrap64 (x19_2 + 1)) l2) else (none))) = some r := H
         have A16 := Aside0.mk A160
         clear A160
         replace H := Option.bind_eq_some_iff.mp H
         obtain ⟨⟨t214, t216⟩, A170, H⟩ := H
         replace H : (if x5_2.length < 5864062014805 then (impl_Rotate.l0 k2 a1 (x5_2 ++ [(⟨(rd_T63 l0 x19_2).f0, (⟨t214, t216⟩ : S42)⟩ : S63)]) l0 (l0.length : Int) (wrap64 (x19_2 + 1)) l2) else (none)) = some r := H
         have A17 := Aside0.mk A170
         clear A170
         by_cases c18 : x5_2.length < 5864062014805
         ·rw [if_pos c18] at H
          have LMc18 := Aside0.mk c18
          clear c18
          obtain ⟨y218, hy218⟩ : ∃ y_ : List (S63), y_ = (x5_2 ++ [(⟨(rd_T63 l0 x19_2).f0, (⟨t214, t216⟩ : S42)⟩ : S63)]) := ⟨_, rfl⟩
          replace H : (impl_Rotate.l0 k2 a1 y218 l0 (l0.length : Int) (wrap64 (x19_2 + 1)) l2) = some r := by first | (rw [hy218]; with_reducible exact H) | (have H2_ := (Option.bind_some _ _).symm.trans H; rw [hy218]; with_reducible exact H2_) | (have H2_ := (Option.bind_some _ _).symm.trans H; with_reducible exact H2_) | with_reducible exact H | (rw [hy218]; exact H) | exact H
          have Ny218 := Aside0.mk hy218
          clear hy218
          have H' := Aside0.mk H
          clear H
          have p208 : 0 ≤ (x19_2 : Int) := of_decide_eq_true (by first | (with_reducible assumption) | assumption)
          have q208 : x19_2 < (l0.length : Int) := of_decide_eq_true (by first | (with_reducible assumption) | assumption)
          obtain ⟨ad208, pf208_1, pf208_2, e208, hx208_0, hx208_1, hx208_2⟩ := at_T63 HR0.out x19_2 p208 q208
          cases e208
          replace hx208_0 := (HB.out.cell (World.block_lt_of_cell? w _ hx208_0)).trans hx208_0
          replace hx208_1 := (HB.out.cell (World.block_lt_of_cell? w _ hx208_1)).trans hx208_1
          replace hx208_2 := (HB.out.cell (World.block_lt_of_cell? w _ hx208_2)).trans hx208_2
          replace p208 := eq_true p208
          replace q208 := eq_true q208
          try go_wp2_with (first | ((with_reducible refine gate_dst (N := 7) rfl ?_); refine box_event ?hg (N := 7) ?hd (cs := #[.int .i64 0, .float .f64 0, .float .f64 0]) (t := 63) ?hr ?_; (case hd => rfl); (case hg => rfl); (case hr => first | (go_simp; done) | (go_simp; rfl)); intro gb209 hg w19 hbox hb; have n0_ := Aside0.mk (Kd.R_below (Kd.R_elderB (by (with_reducible repeat (first | apply Kd.R_alloc | apply Kd.R_drewN | apply Kd.R_drew)); exact HO_5.out) gb209 (Nat.le_of_eq hg.symm)) hb); have n1_ := Aside0.mk (below_step (by repeat (first | (with_reducible first | exact HB.out | apply below_alloc | apply pw_below_drewN | apply below_drew1) | exact HB.out)) hb); have n2_ := Aside0.mk (hbox); have n3_ := Aside0.mk ((by rw [hg]; exact (below_size (by repeat (first | (with_reducible first | exact HB.out | apply below_alloc | apply pw_below_drewN | apply below_drew1) | exact HB.out))) : w.heap.size ≤ gb209)); have n4_ := Aside0.mk ((by rw [hg]; exact (below_size (by repeat (first | (with_reducible first | exact HB.out | apply below_alloc | apply pw_below_drewN | apply below_drew1) | exact HB.out))) : w.heap.size ≤ gb209)); clear HO_5; clear HB; have HO_5 := n0_; have HB := n1_; have BK209 := n2_; have GW209 := n3_; have GE209 := n4_; clear n0_ n1_ n2_ n3_ n4_; clear hb hbox hg; have hcz20_0 : w19.cell? ⟨gb209, 0, none⟩ = some (.int .i64 0) := (blk_cell BK209.out 0).trans rfl; have hcz20_1 : w19.cell? ⟨gb209, 1, none⟩ = some (.float .f64 0) := (blk_cell BK209.out 1).trans rfl; have hcz20_2 : w19.cell? ⟨gb209, 2, none⟩ = some (.float .f64 0) := (blk_cell BK209.out 2).trans rfl; have hfz20_0 := blk_frozen BK209.out 0; have hfz20_1 := blk_frozen BK209.out 1; have hfz20_2 := blk_frozen BK209.out 2))
          have n0_ : Aside0 (Kd.R k63 63 (((w19.setCell ⟨gb209, 0, none⟩ (.int .i64 ((rd_T63 l0 x19_2).f0))).setCell ⟨gb209, 1, none⟩ (.float .f64 (un pf208_1 ((rd_T63 l0 x19_2).f1.f0)))).setCell ⟨gb209, 2, none⟩ (.float .f64 (un pf208_2 ((rd_T63 l0 x19_2).f1.f1)))) w.heap.size (fun k_ => k_ ≠ gb209) u5 x5_2) := ⟨by (with_reducible repeat (first | apply Kd.R_alloc | apply Kd.R_drewN | apply Kd.R_drew)); exact Kd.R_mono (Kd.R_far (p := ⟨gb209, 2, none⟩) (Kd.R_far (p := ⟨gb209, 1, none⟩) (Kd.R_far (p := ⟨gb209, 0, none⟩) (Kd.R_mono HO_5.out (fun k_ hk => (⟨hk, hk.2⟩ : _ ∧ k_ ≠ gb209))) (fun _ hk => hk.2) (.int .i64 ((rd_T63 l0 x19_2).f0))) (fun _ hk => hk.2) (.float .f64 (un pf208_1 ((rd_T63 l0 x19_2).f1.f0)))) (fun _ hk => hk.2) (.float .f64 (un pf208_2 ((rd_T63 l0 x19_2).f1.f1)))) (fun _ hk => hk.1.2)⟩
          have n1_ : Aside0 ((((w19.setCell ⟨gb209, 0, none⟩ (.int .i64 ((rd_T63 l0 x19_2).f0))).setCell ⟨gb209, 1, none⟩ (.float .f64 (un pf208_1 ((rd_T63 l0 x19_2).f1.f0)))).setCell ⟨gb209, 2, none⟩ (.float .f64 (un pf208_2 ((rd_T63 l0 x19_2).f1.f1)))).heap[gb209]? = some (.cells #[.int .i64 ((rd_T63 l0 x19_2).f0), .float .f64 (un pf208_1 ((rd_T63 l0 x19_2).f1.f0)), .float .f64 (un pf208_2 ((rd_T63 l0 x19_2).f1.f1))] 63 (0, 0))) := ⟨by (with_reducible repeat (first | refine blk_drewN ?_ _ | refine blk_drew ?_ | refine blk_alloc ?_ _)); refine blk_put (cs := #[.int .i64 ((rd_T63 l0 x19_2).f0), .float .f64 (un pf208_1 ((rd_T63 l0 x19_2).f1.f0)), .float .f64 0]) ?_ 2 _ rfl; (with_reducible repeat (first | refine blk_drewN ?_ _ | refine blk_drew ?_ | refine blk_alloc ?_ _)); refine blk_put (cs := #[.int .i64 ((rd_T63 l0 x19_2).f0), .float .f64 0, .float .f64 0]) ?_ 1 _ rfl; (with_reducible repeat (first | refine blk_drewN ?_ _ | refine blk_drew ?_ | refine blk_alloc ?_ _)); refine blk_put (cs := #[.int .i64 0, .float .f64 0, .float .f64 0]) ?_ 0 _ rfl; (with_reducible repeat (first | refine blk_drewN ?_ _ | refine blk_drew ?_ | refine blk_alloc ?_ _)); exact BK209.out⟩
          have n2_ : Aside0 (Below w.heap.size w (((w19.setCell ⟨gb209, 0, none⟩ (.int .i64 ((rd_T63 l0 x19_2).f0))).setCell ⟨gb209, 1, none⟩ (.float .f64 (un pf208_1 ((rd_T63 l0 x19_2).f1.f0)))).setCell ⟨gb209, 2, none⟩ (.float .f64 (un pf208_2 ((rd_T63 l0 x19_2).f1.f1))))) := ⟨by repeat (first | (with_reducible first | exact HB.out | apply below_alloc | apply pw_below_drewN | apply below_drew1 | refine below_set ?_ GE209.out) | exact HB.out)⟩
          (try clear HO_5)
          (try clear BK209)
          (try clear HB)
          generalize (((w19.setCell ⟨gb209, 0, none⟩ (.int .i64 ((rd_T63 l0 x19_2).f0))).setCell ⟨gb209, 1, none⟩ (.float .f64 (un pf208_1 ((rd_T63 l0 x19_2).f1.f0)))).setCell ⟨gb209, 2, none⟩ (.float .f64 (un pf208_2 ((rd_T63 l0 x19_2).f1.f1)))) = w21 at n0_ n1_ n2_ ⊢
          have HO_5 := n0_
          have BK209 := n1_
          have HB := n2_
          clear n0_ n1_ n2_
          have n0_ := Aside0.mk (Kd.R_drew HO_5.out)
          have n1_ := Aside0.mk (blk_drew BK209.out)
          have n2_ := Aside0.mk (below_drew1 HB.out)
          clear HO_5
          clear BK209
          clear HB
          have HO_5 := n0_
          have BK209 := n1_
          have HB := n2_
          clear n0_ n1_ n2_
          refine start_ (n := 15) (S := fun w' => w'.cell? ⟨gb209, 0, none⟩ = some (.int .i64 ((rd_T63 l0 x19_2).f0)) ∧ w'.cell? ⟨gb209, 1, none⟩ = some (.float .f64 (un pf208_1 ((rd_T63 l0 x19_2).f1.f0))) ∧ w'.cell? ⟨gb209, 2, none⟩ = some (.float .f64 (un pf208_2 ((rd_T63 l0 x19_2).f1.f1)))) (ds := []) #[false, false, false, false, false, false, false, false, false, false, false, false, false, false, false] (by kernel_rfl) rfl rfl ⟨(blk_cell BK209.out 0).trans rfl, (blk_cell BK209.out 1).trans rfl, (blk_cell BK209.out 2).trans rfl⟩ (fun hHeld => ?_); refine with_tabW impl_Rotate.tab7 impl_Rotate.bits7 (fun HT_ HW_ => ?_)
          generalize w21.drew = w22 at HO_5 BK209 HB hHeld ⊢
          refine pure_ (i := 0) (N := some 23) (v := ?_) (a' := ?_) #[true, false, false, false, false, false, false, false, false, false, false, false, false, false, false] rfl rfl (any_of HT_.out (by kernel_rfl)) (fun _ _ _ h => h) (Or.inl ⟨by rfl, ?_⟩) ?_ ?_
          rotate_left
          ·intro w'
           go_simp
           with_reducible rfl
          rotate_left
          ·simp only [Act.put, sqA, sqZ, sqS, i64_w, i32_w]
           rfl
          refine pure_ (i := 1) (N := some 24) (v := ?_) (a' := ?_) #[true, true, false, false, false, false, false, false, false, false, false, false, false, false, false] rfl rfl (any_of HT_.out (by kernel_rfl)) (fun _ _ _ h => h) (Or.inl ⟨by rfl, ?_⟩) ?_ ?_
          rotate_left
          ·intro w'
           go_simp
           with_reducible rfl
          rotate_left
          ·simp only [Act.put, sqA, sqZ, sqS, i64_w, i32_w]
           rfl
          refine pure_ (i := 3) (N := some 26) (v := ?_) (a' := ?_) #[true, true, false, true, false, false, false, false, false, false, false, false, false, false, false] rfl rfl (any_of HT_.out (by kernel_rfl)) (fun _ _ _ h => h) (Or.inl ⟨by rfl, ?_⟩) ?_ ?_
          rotate_left
          ·intro w'
           go_simp
           with_reducible rfl
          rotate_left
          ·simp only [Act.put, sqA, sqZ, sqS, i64_w, i32_w]
           rfl
          refine pure_ (i := 5) (N := some 28) (v := ?_) (a' := ?_) #[true, true, false, true, false, true, false, false, false, false, false, false, false, false, false] rfl rfl (any_of HT_.out (by kernel_rfl)) (fun _ _ _ h => h) (Or.inl ⟨by rfl, ?_⟩) ?_ ?_
          rotate_left
          ·intro w'
           go_simp
           with_reducible rfl
          rotate_left
          ·simp only [Act.put, sqA, sqZ, sqS, i64_w, i32_w]
           rfl
          refine pure_ (i := 7) (N := some 30) (v := ?_) (a' := ?_) #[true, true, false, true, false, true, false, true, false, false, false, false, false, false, false] rfl rfl (any_of HT_.out (by kernel_rfl)) (fun _ _ _ h => h) (Or.inl ⟨by rfl, ?_⟩) ?_ ?_
          rotate_left
          ·intro w'
           go_simp
           with_reducible rfl
          rotate_left
          ·simp only [Act.put, sqA, sqZ, sqS, i64_w, i32_w]
           rfl
          refine take_ (i := 2) (N := some 25) (v := ?_) (a' := ?_) #[true, true, true, true, false, true, false, true, false, false, false, false, false, false, false] rfl rfl (take_ofW HT_.out HW_.out (by kernel_rfl)) (fun _ _ _ h => h) (Or.inl ⟨by rfl, ?_⟩) hHeld ?_ ?_
          rotate_left
          ·rintro w' ⟨s0, s1, s2⟩
           go_simp
           with_reducible rfl
          rotate_left
          ·simp only [Act.put, sqA, sqZ, sqS, i64_w, i32_w]
           rfl
          refine take_ (i := 4) (N := some 27) (v := ?_) (a' := ?_) #[true, true, true, true, true, true, false, true, false, false, false, false, false, false, false] rfl rfl (take_ofW HT_.out HW_.out (by kernel_rfl)) (fun _ _ _ h => h) (Or.inl ⟨by rfl, ?_⟩) hHeld ?_ ?_
          rotate_left
          ·rintro w' ⟨s0, s1, s2⟩
           go_simp
           with_reducible rfl
          rotate_left
          ·simp only [Act.put, sqA, sqZ, sqS, i64_w, i32_w]
           rfl
          refine take_ (i := 6) (N := some 29) (v := ?_) (a' := ?_) #[true, true, true, true, true, true, true, true, false, false, false, false, false, false, false] rfl rfl (take_ofW HT_.out HW_.out (by kernel_rfl)) (fun _ _ _ h => h) (Or.inl ⟨by rfl, ?_⟩) hHeld ?_ ?_
          rotate_left
          ·rintro w' ⟨s0, s1, s2⟩
           go_simp
           with_reducible rfl
          rotate_left
          ·simp only [Act.put, sqA, sqZ, sqS, i64_w, i32_w]
           rfl
          refine pure_ (i := 8) (N := some 31) (v := ?_) (a' := ?_) #[true, true, true, true, true, true, true, true, true, false, false, false, false, false, false] rfl rfl (any_of HT_.out (by kernel_rfl)) (fun _ _ _ h => h) (Or.inl ⟨by rfl, ?_⟩) ?_ ?_
          rotate_left
          ·intro w'
           go_simp
           with_reducible rfl
          rotate_left
          ·simp only [Act.put, sqA, sqZ, sqS, i64_w, i32_w]
           rfl
          refine one_ (i := 9) (N := some 32) #[true, true, true, true, true, true, true, true, true, true, false, false, false, false, false] rfl rfl (one_of HT_.out (by kernel_rfl)) (by decide) (fun K hK => ?_)
          refine goes_ Tryd.func51 (by kernel_rfl) rfl #[.int .i64 (wrap64 (((rd_T63 l0 x19_2).f0) * a1))] (by rfl) rfl rfl (by (try simp only [List.map_toArray, List.map_cons, List.map_nil]); first | done | rfl | (simp only [List.length_drop, List.length_take]; rfl)) ?_
          with_reducible refine (impl_Turn.calls (wrap64 (((rd_T63 l0 x19_2).f0) * a1)) l2 t210 t212 _ ?side1 ?side2 ?side3 A16.out).mono ?_
          (case side1 => repeat (first | exact (Kd.C_below HR2.out HB.out) | (with_reducible refine Kd.C_alloc ?_ _) | (with_reducible refine Kd.C_drewN ?_ _) | (with_reducible refine Kd.C_drew ?_)))
          (case side2 => exact HC2.out)
          (case side3 => exact HN2.out)
          rintro e w23 ⟨pr211, pr213, rfl, hb⟩
          refine ⟨_, rfl, ?_⟩
          have n0_ := Aside0.mk (Kd.R_below (by (with_reducible repeat (first | apply Kd.R_alloc | apply Kd.R_drewN | apply Kd.R_drew)); exact HO_5.out) hb)
          have n1_ := Aside0.mk (blk_below (g := gb209) (o := .cells #[.int .i64 ((rd_T63 l0 x19_2).f0), .float .f64 (un pf208_1 ((rd_T63 l0 x19_2).f1.f0)), .float .f64 (un pf208_2 ((rd_T63 l0 x19_2).f1.f1))] 63 (0, 0)) (by (with_reducible repeat (first | refine blk_drewN ?_ _ | refine blk_drew ?_ | refine blk_alloc ?_ _)); exact BK209.out) hb)
          have n2_ := Aside0.mk (below_step (by repeat (first | (with_reducible first | exact HB.out | apply below_alloc | apply pw_below_drewN | apply below_drew1 | refine below_set ?_ GE209.out) | exact HB.out)) hb)
          clear HO_5
          clear BK209
          clear HB
          have HO_5 := n0_
          have BK209 := n1_
          have HB := n2_
          clear n0_ n1_ n2_
          (try clear hb)
          (try clear hb2)
          (try clear hk)
          (try clear hi)
          refine hK.out _ _ ⟨(blk_cell BK209.out 0).trans rfl, (blk_cell BK209.out 1).trans rfl, (blk_cell BK209.out 2).trans rfl⟩ (fun hHeld => ?_)
          clear hK K
          refine norm_ (a' := ?_) ?_ ?_
          rotate_left
          ·show Act.put _ (some 32) _ = _
           simp only [Act.put, sqA, sqZ, sqS, i64_w, i32_w]
           rfl
          refine one_ (i := 10) (N := some 33) #[true, true, true, true, true, true, true, true, true, true, true, false, false, false, false] rfl rfl (one_of HT_.out (by kernel_rfl)) (by decide) (fun K hK => ?_)
          refine goes_ Tryd.func50 (by kernel_rfl) rfl #[.agg #[.float .f64 (un pf208_1 ((rd_T63 l0 x19_2).f1.f0)), .float .f64 (un pf208_2 ((rd_T63 l0 x19_2).f1.f1))], .agg #[.float .f64 (un pr211 t210), .float .f64 (un pr213 t212)]] (by rfl) rfl rfl (by (try simp only [List.map_toArray, List.map_cons, List.map_nil]); first | done | rfl | (simp only [List.length_drop, List.length_take]; rfl)) ?_
          with_reducible refine (impl_MulPair.calls pf208_1 ((rd_T63 l0 x19_2).f1.f0) pf208_2 ((rd_T63 l0 x19_2).f1.f1) pr211 t210 pr213 t212 t214 t216 _ A17.out).mono ?_
          rintro e w24 ⟨pr215, pr217, rfl, hb⟩
          refine ⟨_, rfl, ?_⟩
          have n0_ := Aside0.mk (Kd.R_below (by (with_reducible repeat (first | apply Kd.R_alloc | apply Kd.R_drewN | apply Kd.R_drew)); exact HO_5.out) hb)
          have n1_ := Aside0.mk (blk_below (g := gb209) (o := .cells #[.int .i64 ((rd_T63 l0 x19_2).f0), .float .f64 (un pf208_1 ((rd_T63 l0 x19_2).f1.f0)), .float .f64 (un pf208_2 ((rd_T63 l0 x19_2).f1.f1))] 63 (0, 0)) (by (with_reducible repeat (first | refine blk_drewN ?_ _ | refine blk_drew ?_ | refine blk_alloc ?_ _)); exact BK209.out) hb)
          have n2_ := Aside0.mk (below_step (by repeat (first | (with_reducible first | exact HB.out | apply below_alloc | apply pw_below_drewN | apply below_drew1 | refine below_set ?_ GE209.out) | exact HB.out)) hb)
          clear HO_5
          clear BK209
          clear HB
          have HO_5 := n0_
          have BK209 := n1_
          have HB := n2_
          clear n0_ n1_ n2_
          (try clear hb)
          (try clear hb2)
          (try clear hk)
          (try clear hi)
          refine hK.out _ _ ⟨(blk_cell BK209.out 0).trans rfl, (blk_cell BK209.out 1).trans rfl, (blk_cell BK209.out 2).trans rfl⟩ (fun hHeld => ?_)
          clear hK K
          refine norm_ (a' := ?_) ?_ ?_
          rotate_left
          ·show Act.put _ (some 33) _ = _
           simp only [Act.put, sqA, sqZ, sqS, i64_w, i32_w]
           rfl
          refine pure_ (i := 11) (N := some 34) (v := ?_) (a' := ?_) #[true, true, true, true, true, true, true, true, true, true, true, true, false, false, false] rfl rfl (any_of HT_.out (by kernel_rfl)) (fun _ _ _ h => h) (Or.inl ⟨by rfl, ?_⟩) ?_ ?_
          rotate_left
          ·intro w'
           go_simp
           with_reducible rfl
          rotate_left
          ·simp only [Act.put, sqA, sqZ, sqS, i64_w, i32_w]
           rfl
          refine one_ (i := 12) (N := some 35) #[true, true, true, true, true, true, true, true, true, true, true, true, true, false, false] rfl rfl (one_of HT_.out (by kernel_rfl)) (by decide) (fun K hK => ?_)
          refine value_ (w1 := ?_) (v := ?_) (by rfl) rfl ?_ ?_
          rotate_left 2
          ·go_simp
           constructor
           ·rfl
           ·rfl
          refine hK.out _ _ ⟨(blk_cell (blk_alloc BK209.out _) 0).trans rfl, (blk_cell (blk_alloc BK209.out _) 1).trans rfl, (blk_cell (blk_alloc BK209.out _) 2).trans rfl⟩ (fun hHeld => ?_)
          clear hK K
          refine norm_ (a' := ?_) ?_ ?_
          rotate_left
          ·show Act.put _ (some 35) _ = _
           simp only [Act.put, sqA, sqZ, sqS, i64_w, i32_w]
           rfl
          refine one_ (i := 13) (N := some 36) #[true, true, true, true, true, true, true, true, true, true, true, true, true, true, false] rfl rfl (one_of HT_.out (by kernel_rfl)) (by decide) (fun K hK => ?_)
          refine Kd.R_append_step k63 (w0 := w) w.heap.size (by rfl) (.tmp 23) (.tmp 35) 26 63 (.agg #[(.int .i64 0), (.float .f64 0), (.float .f64 0)]) 24 rfl Tryd.underlying26 info63 rfl (by decide) (by omega) u5 x5_2 (⟨(rd_T63 l0 x19_2).f0, (⟨t214, t216⟩ : S42)⟩ : S63) [.int .i64 ((rd_T63 l0 x19_2).f0), .float .f64 (un pr215 t214), .float .f64 (un pr217 t216)] (fun k_ => k_ ≠ gb209) (fun _ => False) rfl rfl ?aP (fun _ hk => hk.elim) ?aF ?aO ?aB ?aS ?aL ?_
          (case aP => exact k63_mkM _ _ _ (⟨(rd_T63 l0 x19_2).f0, (⟨t214, t216⟩ : S42)⟩ : S63))
          (case aB => exact (by repeat (first | (with_reducible first | exact HB.out | apply below_alloc | apply pw_below_drewN | apply below_drew1 | refine below_set ?_ GE209.out) | exact HB.out)))
          (case aF => exact (fun k_ hk => Kd.freshB (g := gb209) (o := .cells #[.int .i64 ((rd_T63 l0 x19_2).f0), .float .f64 (un pf208_1 ((rd_T63 l0 x19_2).f1.f0)), .float .f64 (un pf208_2 ((rd_T63 l0 x19_2).f1.f1))] 63 (0, 0)) (by (with_reducible repeat (first | refine blk_drewN ?_ _ | refine blk_drew ?_ | refine blk_alloc ?_ _)); exact BK209.out) k_ hk))
          (case aO => exact (by (with_reducible repeat (first | apply Kd.R_alloc | apply Kd.R_drewN | apply Kd.R_drew)); exact HO_5.out))
          (case aS => exact (below_size (by repeat (first | (with_reducible first | exact HB.out | apply below_alloc | apply pw_below_drewN | apply below_drew1 | refine below_set ?_ GE209.out) | exact HB.out))))
          (case aL => have := LMc18.out; omega)
          intro v219 w25 ho hb hg hat
          rw [← Ny218.out] at ho
          have n0_ := Aside0.mk (blk_grown (g := gb209) (o := .cells #[.int .i64 ((rd_T63 l0 x19_2).f0), .float .f64 (un pf208_1 ((rd_T63 l0 x19_2).f1.f0)), .float .f64 (un pf208_2 ((rd_T63 l0 x19_2).f1.f1))] 63 (0, 0)) (by (with_reducible repeat (first | refine blk_drewN ?_ _ | refine blk_drew ?_ | refine blk_alloc ?_ _)); exact BK209.out) hg (Kd.R_away HO_5.out (fun _ hk => hk)))
          have n1_ := Aside0.mk (hb)
          have n2_ := Aside0.mk (ho)
          clear BK209
          clear HB
          clear HO_5
          have BK209 := n0_
          have HB := n1_
          have HO220 := n2_
          clear n0_ n1_ n2_
          clear ho hb hg hat
          refine hK.out _ _ ⟨(blk_cell BK209.out 0).trans rfl, (blk_cell BK209.out 1).trans rfl, (blk_cell BK209.out 2).trans rfl⟩ (fun hHeld => ?_)
          clear hK K
          refine norm_ (a' := ?_) ?_ ?_
          rotate_left
          ·show Act.put _ (some 36) _ = _
           simp only [Act.put, sqA, sqZ, sqS, i64_w, i32_w]
           rfl
          refine pure_ (i := 14) (N := some 5) (v := ?_) (a' := ?_) #[true, true, true, true, true, true, true, true, true, true, true, true, true, true, true] rfl rfl (any_of HT_.out (by kernel_rfl)) (fun _ _ _ h => h) (Or.inl ⟨by rfl, ?_⟩) ?_ ?_
          rotate_left
          ·intro w'
           go_simp
           with_reducible rfl
          rotate_left
          ·simp only [Act.put, sqA, sqZ, sqS, i64_w, i32_w]
           rfl
          refine done_ (done_of HT_.out (by kernel_rfl)) ?_
          try go_wp2
          go_roundg k2
          case measure => have := HJ3.out; have := HK2.out; omega
          case rel => exact ⟨(y218), (wrap64 (x19_2 + 1)), (by first | rfl | (simp; done) | (simp [*]; done)), H', ⟨by have := HJ3.out; have := HK2.out; omega⟩, ⟨by (with_reducible repeat (first | apply Kd.R_alloc | apply Kd.R_drewN | apply Kd.R_drew)); exact Kd.R_mono HO220.out (fun _ hk => trivial)⟩, ⟨by repeat (first | (with_reducible first | exact HB.out | apply below_alloc | apply pw_below_drewN | apply below_drew1 | refine below_set ?_ GE209.out) | exact HB.out)⟩⟩
         ·rw [if_neg c18] at H
          exact absurd H (by simp)
        ·rw [if_neg c15] at H
         exact absurd H (by simp)
       ·rw [if_neg c14] at H
        exact absurd H (by simp)
      ·rw [if_neg c13] at H
       have c13b0 : decide (x19_2 < (l0.length : Int)) = false := decide_eq_false c13
       clear c13
       obtain rfl := Option.some.inj H
       go_wp2
       go_ret
       exact ⟨_, by first | rfl | (simp [errW_none, errW_some] <;> rfl) | (simp [*, errW_none, errW_some] <;> rfl), by (with_reducible repeat (first | apply Kd.R_alloc | apply Kd.R_drewN | apply Kd.R_drew)); exact HO_5.out, by repeat (first | (with_reducible first | exact HB.out | apply below_alloc | apply pw_below_drewN | apply below_drew1) | exact HB.out)⟩

end Go.Proofs.YtpileeenoocjpaaDoor.Q
