/- Plain Lean functions with the same answers as the Go functions of this seat, and a proof for each that the Go code comes to just these answers; no condition. Written by a program of this session (the kit's printer, turned). -/
import Derived.Test.YteobnbichpadjabQx0
import Derived.Test.YteobnbichpadjabQx11
import Derived.Test.YteobnbichpadjabQx13
import Derived.Test.YteobnbichpadjabQx14
import Derived.Test.YteobnbichpadjabQx16
namespace Go.Proofs.Yteobnbichpadjab.Q
open Go.RowKit Go.Proofs.YteobnbichpadjabW.PrintWords Go.Proofs.YteobnbichpadjabW.PrintLast Go.Proofs.YteobnbichpadjabW.PrintMore Go.Proofs.YteobnbichpadjabW.PrintFlt
attribute [local go_sem] cmp_lss cmp_leq cmp_gtr cmp_geq cmp_eql cmp_neq flt_l flt_r fgt_l fgt_r feq_l feq_r fne_l fne_r ord_lt ord_gt ord_eq ord_ne conv_int foi_fold run_store_flt
attribute [local go_sem] max2_int min2_int max_two min_two max_three min_three max_four min_four   -- for this text's walks alone
set_option linter.unusedVariables false
set_option linter.unusedSimpArgs false

/-! ### impl_Homogen: function 30 -/
mutual
def impl_Homogen.l0 : Nat → List Int → Int → Int → Int → Int → List Int → Int → Int → Option (List Int × Int)
 | 0, _, _, _, _, _, _, _, _ => none
 | k + 1, x4, x5, x6, x8, x9, x29, x30, x31 => if x31 < x30 then (if 0 ≤ x31 then (if x31 < (x29.length : Int) then (if x31 < x6 then (impl_Homogen.l0 k x4 x5 x6 (wrap64 (x8 + (rd x29 x31))) x9 x29 x30 (wrap64 (x31 + 1))) else (impl_Homogen.l0 k x4 x5 x6 x8 (wrap64 (x9 + (rd x29 x31))) x29 x30 (wrap64 (x31 + 1)))) else (none)) else (none)) else (if (wrap64 (x6 * (wrap64 (x5 - x6)))) = 0 then (none) else (impl_Homogen.l1 k x4 x6 (wrap64 (Int.tdiv (wrap64 ((wrap64 (x9 * x6)) - (wrap64 (x8 * (wrap64 (x5 - x6)))))) (wrap64 (x6 * (wrap64 (x5 - x6)))))) 0))
def impl_Homogen.l1 : Nat → List Int → Int → Int → Int → Option (List Int × Int)
 | 0, _, _, _, _ => none
 | k + 1, x4, x6, x12, x13 => if x13 < x6 then (if 0 ≤ x13 then (if x13 < (x4.length : Int) then ((some (x4.set (x13 : Int).toNat (wrap64 ((rd x4 x13) + x12)) : List Int)).bind fun y162 => ((impl_in.f (rd y162 x13) (-100000) 100000).bind fun t164 => (if t164 = true then (impl_Homogen.l1 k y162 x6 x12 (wrap64 (x13 + 1))) else (some (([] : List Int), 0))))) else (none)) else (none)) else (some (x4, x12))
end
def impl_Homogen.f (k : Nat) (l0 : List Int) : Option (List Int × Int) := (impl_seriesOk.f k l0).bind fun t154 => (if t154 = true then ((slices_Clone_int64_int64.f l0).bind fun t155 => (if (l0.length : Int) = 1 then (some (t155, 0)) else ((impl_Break.f k l0).bind fun bt158 => (impl_Homogen.l0 k t155 (l0.length : Int) bt158.1 0 0 l0 (l0.length : Int) 0)))) else (some (([] : List Int), 0)))
theorem impl_Homogen.mono_l : ∀ k, (∀ y0 y1 y2 y3 y4 y5 y6 y7, LeO (impl_Homogen.l0 k y0 y1 y2 y3 y4 y5 y6 y7) (impl_Homogen.l0 (k + 1) y0 y1 y2 y3 y4 y5 y6 y7)) ∧ (∀ y0 y1 y2 y3, LeO (impl_Homogen.l1 k y0 y1 y2 y3) (impl_Homogen.l1 (k + 1) y0 y1 y2 y3))
 | 0 => ⟨fun _ _ _ _ _ _ _ _ r h => by simp [impl_Homogen.l0] at h, fun _ _ _ _ r h => by simp [impl_Homogen.l1] at h⟩
 | k + 1 => by
  obtain ⟨ih0, ih1⟩ := impl_Homogen.mono_l k
  refine ⟨?_, ?_⟩
  ·intro y0 y1 y2 y3 y4 y5 y6 y7
   unfold impl_Homogen.l0
   repeat' first
   | (with_reducible exact ih0 _ _ _ _ _ _ _ _)
   | (with_reducible exact ih1 _ _ _ _)
   | (with_reducible exact impl_Break.mono _ _)
   | (with_reducible exact impl_seriesOk.mono _ _)
   | (with_reducible exact LeO.refl _)
   | (with_reducible exact LeO.none _)
   | (with_reducible refine LeO.ite ?_ ?_)
   | (with_reducible refine LeO.bind ?_ (fun _ => ?_))
   | exact ih0 _ _ _ _ _ _ _ _
   | exact ih1 _ _ _ _
   | exact impl_Break.mono _ _
   | exact impl_seriesOk.mono _ _
   | exact LeO.none _
   | refine LeO.ite ?_ ?_
   | refine LeO.bind ?_ (fun _ => ?_)
  ·intro y0 y1 y2 y3
   unfold impl_Homogen.l1
   repeat' first
   | (with_reducible exact ih0 _ _ _ _ _ _ _ _)
   | (with_reducible exact ih1 _ _ _ _)
   | (with_reducible exact impl_Break.mono _ _)
   | (with_reducible exact impl_seriesOk.mono _ _)
   | (with_reducible exact LeO.refl _)
   | (with_reducible exact LeO.none _)
   | (with_reducible refine LeO.ite ?_ ?_)
   | (with_reducible refine LeO.bind ?_ (fun _ => ?_))
   | exact ih0 _ _ _ _ _ _ _ _
   | exact ih1 _ _ _ _
   | exact impl_Break.mono _ _
   | exact impl_seriesOk.mono _ _
   | exact LeO.none _
   | refine LeO.ite ?_ ?_
   | refine LeO.bind ?_ (fun _ => ?_)
theorem impl_Homogen.mono : ∀ a0 k, LeO (impl_Homogen.f k a0) (impl_Homogen.f (k + 1) a0) := by
 intro a0 k
 obtain ⟨ih0, ih1⟩ := impl_Homogen.mono_l k
 unfold impl_Homogen.f
 repeat' first
   | (with_reducible exact ih0 _ _ _ _ _ _ _ _)
   | (with_reducible exact ih1 _ _ _ _)
   | (with_reducible exact impl_Break.mono _ _)
   | (with_reducible exact impl_seriesOk.mono _ _)
   | (with_reducible exact LeO.refl _)
   | (with_reducible exact LeO.none _)
   | (with_reducible refine LeO.ite ?_ ?_)
   | (with_reducible refine LeO.bind ?_ (fun _ => ?_))
   | exact ih0 _ _ _ _ _ _ _ _
   | exact ih1 _ _ _ _
   | exact impl_Break.mono _ _
   | exact impl_seriesOk.mono _ _
   | exact LeO.none _
   | refine LeO.ite ?_ ?_
   | refine LeO.bind ?_ (fun _ => ?_)
set_option maxHeartbeats 8000000 in
set_option maxRecDepth 100000 in
theorem impl_Homogen.calls (k : Nat) (A0 : Option Addr) (c0 : Nat) (l0 : List Int) (r1 : List Int) (r2 : Int) (w : World) (hr0 : Kd.C (Kd.int .i64) w A0 l0.length l0) (hc0 : l0.length ≤ c0) (h : impl_Homogen.f k l0 = some (r1, r2)) :
  Calls Try.prog 30 #[.slice A0 l0.length c0] w fun e w' => ∃ v0_ : Value, e = .returned (.tuple #[v0_, .int .i64 r2]) ∧ Kd.R (Kd.int .i64) 2 w' w.heap.size (fun _ => True) v0_ r1 ∧ Below w.heap.size w w' := by
 have HR0 := Aside0.mk hr0
 have HC0 := Aside0.mk hc0
 clear hr0 hc0
 have HB := Aside0.mk (Below.refl w.heap.size w)
 have H : ((impl_seriesOk.f k l0).bind fun t154 => (if t154 = true then ((slices_Clone_int64_int64.f l0).bind fun t155 => (if (l0.length : Int) = 1 then (some (t155, 0)) else ((impl_Break.f k l0).bind fun bt158 => (impl_Homogen.l0 k t155 (l0.length : Int) bt158.1 0 0 l0 (l0.length : Int) 0)))) else (some (([] : List Int), 0)))) = some (r1, r2) := h
 clear h
 replace H := Option.bind_eq_some_iff.mp H
 obtain ⟨t154, A20, H⟩ := H
 replace H : (if t154 = true then ((slices_Clone_int64_int64.f l0).bind fun t155 => (if (l0.length : Int) = 1 then (some (t155, 0)) else ((impl_Break.f k l0).bind fun bt158 => (impl_Homogen.l0 k t155 (l0.length : Int) bt158.1 0 0 l0 (l0.length : Int) 0)))) else (some (([] : List Int), 0))) = some (r1, r2) := H
 have A2 := Aside0.mk A20
 clear A20
 by_cases c3 : t154 = true
 ·subst c3
  have H1 : ((slices_Clone_int64_int64.f l0).bind fun t155 => (if (l0.length : Int) = 1 then (some (t155, 0)) else ((impl_Break.f k l0).bind fun bt158 => (impl_Homogen.l0 k t155 (l0.length : Int) bt158.1 0 0 l0 (l0.length : Int) 0)))) = some (r1, r2) := by rw [if_pos rfl] at H; exact H
  clear H
  have H := H1
  clear H1
  replace H := Option.bind_eq_some_iff.mp H
  obtain ⟨t155, A40, H⟩ := H
  replace H : (if (l0.length : Int) = 1 then (some (t155, 0)) else ((impl_Break.f k l0).bind fun bt158 => (impl_Homogen.l0 k t155 (l0.length : Int) bt158.1 0 0 l0 (l0.length : Int) 0))) = some (r1, r2) := H
  have A4 := Aside0.mk A40
  clear A40
  by_cases c5 : (l0.length : Int) = 1
  ·rw [if_pos c5] at H
   have c5b0 : ((l0.length : Int) == 1) = true := beq_iff_eq.mpr c5
   have c5b1 : ((l0.length : Int) != 1) = false := bne_eq_false_iff_eq.mpr c5
   clear c5
   simp only [Option.some.injEq, Prod.mk.injEq] at H
   obtain ⟨rfl, rfl⟩ := H
   go_enter Try.func30, Try.ntmps30
   go_wp2_with (first | ((with_reducible refine gate_callee (f := 60) rfl ?_); refine goesL_ (some 15) rfl rfl Try.func60 (by kernel_rfl) rfl #[.slice A0 l0.length c0] rfl (by (try simp only [List.map_toArray, List.map_cons, List.map_nil]); first | done | rfl | (simp only [List.length_drop, List.length_take]; rfl)) ?_; (with_reducible refine (impl_seriesOk.calls k _ _ l0 true _ ?side1 ?side2 A2.out).mono ?_); (case side1 => repeat (first | exact HR0.out | (with_reducible refine Kd.C_alloc ?_ _) | (with_reducible refine Kd.C_drewN ?_ _) | (with_reducible refine Kd.C_drew ?_))); (case side2 => exact HC0.out); rintro e w' ⟨rfl, ⟨nd, rfl⟩⟩; refine ⟨_, rfl, ?_⟩) | ((with_reducible refine gate_callee (f := 65) rfl ?_); refine goesL_ (some 18) rfl rfl Try.func65 (by kernel_rfl) rfl #[.slice A0 l0.length c0] rfl (by (try simp only [List.map_toArray, List.map_cons, List.map_nil]); first | done | rfl | (simp only [List.length_drop, List.length_take]; rfl)) ?_; (with_reducible refine (slices_Clone_int64_int64.calls _ _ l0 t155 _ ?side1 ?side2 A4.out).mono ?_); (case side1 => repeat (first | exact HR0.out | (with_reducible refine Kd.C_alloc ?_ _) | (with_reducible refine Kd.C_drewN ?_ _) | (with_reducible refine Kd.C_drew ?_))); (case side2 => exact HC0.out); rintro e w6 ⟨v156, rfl, ho0, hb⟩; refine ⟨_, rfl, ?_⟩; have n0_ := Aside0.mk (Kd.R_lower ho0 (below_size (by repeat (first | (with_reducible first | exact HB.out | apply below_alloc | apply pw_below_drewN | apply below_drew1) | exact HB.out)))); have n1_ := Aside0.mk (below_step (by repeat (first | (with_reducible first | exact HB.out | apply below_alloc | apply pw_below_drewN | apply below_drew1) | exact HB.out)) hb); clear HB; have HO157 := n0_; have HB := n1_; clear n0_ n1_; (try clear hb); (try clear hb2); (try clear hk); (try clear hi); (try clear ho0)))
   go_ret2
   exact ⟨_, by first | rfl | (simp [errW_none, errW_some] <;> rfl) | (simp [*, errW_none, errW_some] <;> rfl), by (with_reducible repeat (first | apply Kd.R_alloc | apply Kd.R_drewN | apply Kd.R_drew)); exact HO157.out, by repeat (first | (with_reducible first | exact HB.out | apply below_alloc | apply pw_below_drewN | apply below_drew1) | exact HB.out)⟩
  ·rw [if_neg c5] at H
   have c5b0 : ((l0.length : Int) == 1) = false := beq_eq_false_iff_ne.mpr c5
   have c5b1 : ((l0.length : Int) != 1) = true := bne_iff_ne.mpr c5
   replace H := Option.bind_eq_some_iff.mp H
   obtain ⟨⟨t158, t159⟩, A70, H⟩ := H
   replace H : (impl_Homogen.l0 k t155 (l0.length : Int) t158 0 0 l0 (l0.length : Int) 0) = some (r1, r2) := H
   have A7 := Aside0.mk A70
   clear A70
   have H' := Aside0.mk H
   clear H
   go_enter Try.func30, Try.ntmps30
   go_wp2_with (first | ((with_reducible refine gate_callee (f := 60) rfl ?_); refine goesL_ (some 15) rfl rfl Try.func60 (by kernel_rfl) rfl #[.slice A0 l0.length c0] rfl (by (try simp only [List.map_toArray, List.map_cons, List.map_nil]); first | done | rfl | (simp only [List.length_drop, List.length_take]; rfl)) ?_; (with_reducible refine (impl_seriesOk.calls k _ _ l0 true _ ?side1 ?side2 A2.out).mono ?_); (case side1 => repeat (first | exact HR0.out | (with_reducible refine Kd.C_alloc ?_ _) | (with_reducible refine Kd.C_drewN ?_ _) | (with_reducible refine Kd.C_drew ?_))); (case side2 => exact HC0.out); rintro e w' ⟨rfl, ⟨nd, rfl⟩⟩; refine ⟨_, rfl, ?_⟩) | ((with_reducible refine gate_callee (f := 65) rfl ?_); refine goesL_ (some 18) rfl rfl Try.func65 (by kernel_rfl) rfl #[.slice A0 l0.length c0] rfl (by (try simp only [List.map_toArray, List.map_cons, List.map_nil]); first | done | rfl | (simp only [List.length_drop, List.length_take]; rfl)) ?_; (with_reducible refine (slices_Clone_int64_int64.calls _ _ l0 t155 _ ?side1 ?side2 A4.out).mono ?_); (case side1 => repeat (first | exact HR0.out | (with_reducible refine Kd.C_alloc ?_ _) | (with_reducible refine Kd.C_drewN ?_ _) | (with_reducible refine Kd.C_drew ?_))); (case side2 => exact HC0.out); rintro e w8 ⟨v156, rfl, ho0, hb⟩; refine ⟨_, rfl, ?_⟩; have n0_ := Aside0.mk (Kd.R_lower ho0 (below_size (by repeat (first | (with_reducible first | exact HB.out | apply below_alloc | apply pw_below_drewN | apply below_drew1) | exact HB.out)))); have n1_ := Aside0.mk (below_step (by repeat (first | (with_reducible first | exact HB.out | apply below_alloc | apply pw_below_drewN | apply below_drew1) | exact HB.out)) hb); clear HB; have HO157 := n0_; have HB := n1_; clear n0_ n1_; (try clear hb); (try clear hb2); (try clear hk); (try clear hi); (try clear ho0)) | ((with_reducible refine gate_callee (f := 66) rfl ?_); refine goesL_ (some 26) rfl rfl Try.func66 (by kernel_rfl) rfl #[.slice A0 l0.length c0] rfl (by (try simp only [List.map_toArray, List.map_cons, List.map_nil]); first | done | rfl | (simp only [List.length_drop, List.length_take]; rfl)) ?_; (with_reducible refine (impl_Break.calls k _ _ l0 t158 t159 _ ?side1 ?side2 A7.out).mono ?_); (case side1 => repeat (first | exact (Kd.C_below HR0.out HB.out) | (with_reducible refine Kd.C_alloc ?_ _) | (with_reducible refine Kd.C_drewN ?_ _) | (with_reducible refine Kd.C_drew ?_))); (case side2 => exact HC0.out); rintro e w9 ⟨rfl, hb⟩; refine ⟨_, rfl, ?_⟩; have n0_ := Aside0.mk (Kd.R_below (by (with_reducible repeat (first | apply Kd.R_alloc | apply Kd.R_drewN | apply Kd.R_drew)); exact HO157.out) hb); have n1_ := Aside0.mk (below_step (by repeat (first | (with_reducible first | exact HB.out | apply below_alloc | apply pw_below_drewN | apply below_drew1) | exact HB.out)) hb); clear HO157; clear HB; have HO157 := n0_; have HB := n1_; clear n0_ n1_; (try clear hb); (try clear hb2); (try clear hk); (try clear hi)))
   go_loopg [8, 9, 31] k (fun kq v8 v9 v31 w' => ∃ (x8_1 : Int) (x9_1 : Int) (x31_1 : Int), v8 = .int .i64 x8_1 ∧ v9 = .int .i64 x9_1 ∧ v31 = .int .i64 x31_1 ∧ Aside0 (impl_Homogen.l0 kq t155 (l0.length : Int) t158 x8_1 x9_1 l0 (l0.length : Int) x31_1 = some (r1, r2)) ∧ Aside0 (kq ≤ k) ∧ Aside0 (Kd.R (Kd.int .i64) 2 w' w.heap.size (fun _ => True) v156 t155) ∧ Aside0 (Below w.heap.size w w'))
   case atStart => exact ⟨(0), (0), (0), (by first | rfl | (simp; done) | (simp [*]; done)), (by first | rfl | (simp; done) | (simp [*]; done)), (by first | rfl | (simp; done) | (simp [*]; done)), H', ⟨Nat.le_refl _⟩, ⟨by (with_reducible repeat (first | apply Kd.R_alloc | apply Kd.R_drewN | apply Kd.R_drew)); exact HO157.out⟩, ⟨by repeat (first | (with_reducible first | exact HB.out | apply below_alloc | apply pw_below_drewN | apply below_drew1) | exact HB.out)⟩⟩
   case round =>
    clear H'
    try clear p2
    try clear c3
    try clear c5
    try clear c5b0
    try clear c5b1
    try clear c6
    obtain ⟨x8_1, x9_1, x31_1, rfl, rfl, rfl, HA, HK1, HO_4, HB⟩ := hrel
    cases gk with
    | zero => exact absurd HA.out (by simp [impl_Homogen.l0])
    | succ k1 =>
     have H := HA.out
     clear HA
     simp only [impl_Homogen.l0] at H
     by_cases c10 : x31_1 < (l0.length : Int)
     ·rw [if_pos c10] at H
      have c10b0 : decide (x31_1 < (l0.length : Int)) = true := decide_eq_true c10
      clear c10
      by_cases c11 : 0 ≤ x31_1
      ·rw [if_pos c11] at H
       have c11b0 : decide (0 ≤ x31_1) = true := decide_eq_true c11
       clear c11
       by_cases c12 : x31_1 < (l0.length : Int)
       ·rw [if_pos c12] at H
        have c12b0 : decide (x31_1 < (l0.length : Int)) = true := decide_eq_true c12
        clear c12
        by_cases c13 : x31_1 < t158
        ·rw [if_pos c13] at H
         have c13b0 : decide (x31_1 < t158) = true := decide_eq_true c13
         clear c13
         have H' := Aside0.mk H
         clear H
         have p160 : 0 ≤ (x31_1 : Int) := of_decide_eq_true (by first | (with_reducible assumption) | assumption)
         have q160 : x31_1 < (l0.length : Int) := of_decide_eq_true (by first | (with_reducible assumption) | assumption)
         obtain ⟨ad160, e160, hx160_0⟩ := Kd.at_int HR0.out x31_1 p160 q160
         cases e160
         replace hx160_0 := (HB.out.cell (World.block_lt_of_cell? w _ hx160_0)).trans hx160_0
         replace p160 := eq_true p160
         replace q160 := eq_true q160
         go_wp2
         go_roundg k1
         case measure => have := HK1.out; omega
         case rel => exact ⟨(wrap64 (x8_1 + (rd l0 x31_1))), (x9_1), (wrap64 (x31_1 + 1)), (by first | rfl | (simp; done) | (simp [*]; done)), (by first | rfl | (simp; done) | (simp [*]; done)), (by first | rfl | (simp; done) | (simp [*]; done)), H', ⟨by have := HK1.out; omega⟩, ⟨by (with_reducible repeat (first | apply Kd.R_alloc | apply Kd.R_drewN | apply Kd.R_drew)); exact HO_4.out⟩, ⟨by repeat (first | (with_reducible first | exact HB.out | apply below_alloc | apply pw_below_drewN | apply below_drew1) | exact HB.out)⟩⟩
        ·rw [if_neg c13] at H
         have c13b0 : decide (x31_1 < t158) = false := decide_eq_false c13
         clear c13
         have H' := Aside0.mk H
         clear H
         have p160 : 0 ≤ (x31_1 : Int) := of_decide_eq_true (by first | (with_reducible assumption) | assumption)
         have q160 : x31_1 < (l0.length : Int) := of_decide_eq_true (by first | (with_reducible assumption) | assumption)
         obtain ⟨ad160, e160, hx160_0⟩ := Kd.at_int HR0.out x31_1 p160 q160
         cases e160
         replace hx160_0 := (HB.out.cell (World.block_lt_of_cell? w _ hx160_0)).trans hx160_0
         replace p160 := eq_true p160
         replace q160 := eq_true q160
         go_wp2
         go_roundg k1
         case measure => have := HK1.out; omega
         case rel => exact ⟨(x8_1), (wrap64 (x9_1 + (rd l0 x31_1))), (wrap64 (x31_1 + 1)), (by first | rfl | (simp; done) | (simp [*]; done)), (by first | rfl | (simp; done) | (simp [*]; done)), (by first | rfl | (simp; done) | (simp [*]; done)), H', ⟨by have := HK1.out; omega⟩, ⟨by (with_reducible repeat (first | apply Kd.R_alloc | apply Kd.R_drewN | apply Kd.R_drew)); exact HO_4.out⟩, ⟨by repeat (first | (with_reducible first | exact HB.out | apply below_alloc | apply pw_below_drewN | apply below_drew1) | exact HB.out)⟩⟩
       ·rw [if_neg c12] at H
        exact absurd H (by simp)
      ·rw [if_neg c11] at H
       exact absurd H (by simp)
     ·rw [if_neg c10] at H
      have c10b0 : decide (x31_1 < (l0.length : Int)) = false := decide_eq_false c10
      clear c10
      by_cases c14 : (wrap64 (t158 * (wrap64 ((l0.length : Int) - t158)))) = 0
      ·rw [if_pos c14] at H
       exact absurd H (by simp)
      ·rw [if_neg c14] at H
       have c14b0 : ((wrap64 (t158 * (wrap64 ((l0.length : Int) - t158)))) == 0) = false := beq_eq_false_iff_ne.mpr c14
       have c14b1 : ((wrap64 (t158 * (wrap64 ((l0.length : Int) - t158)))) != 0) = true := bne_iff_ne.mpr c14
       have H' := Aside0.mk H
       clear H
       go_wp2
       go_loopg [13] k1 (fun kq v13 w' => ∃ (x4_2 : List Int) (x13_2 : Int), v13 = .int .i64 x13_2 ∧ Aside0 (impl_Homogen.l1 kq x4_2 t158 (wrap64 (Int.tdiv (wrap64 ((wrap64 (x9_1 * t158)) - (wrap64 (x8_1 * (wrap64 ((l0.length : Int) - t158)))))) (wrap64 (t158 * (wrap64 ((l0.length : Int) - t158)))))) x13_2 = some (r1, r2)) ∧ Aside0 (kq ≤ k1) ∧ Aside0 (Kd.R (Kd.int .i64) 2 w' w.heap.size (fun _ => True) v156 x4_2) ∧ Aside0 (Below w.heap.size w w'))
       case atStart => exact ⟨(t155), (0), (by first | rfl | (simp; done) | (simp [*]; done)), H', ⟨Nat.le_refl _⟩, ⟨by (with_reducible repeat (first | apply Kd.R_alloc | apply Kd.R_drewN | apply Kd.R_drew)); exact HO_4.out⟩, ⟨by repeat (first | (with_reducible first | exact HB.out | apply below_alloc | apply pw_below_drewN | apply below_drew1) | exact HB.out)⟩⟩
       case round =>
        clear H'
        try clear c1
        try clear p1
        try clear q1
        try clear hx1
        try clear p2
        try clear c3
        try clear c5
        try clear c5b0
        try clear c5b1
        try clear c6
        try clear p6
        try clear c10
        try clear c10b0
        try clear c11
        try clear c11b0
        try clear c12
        try clear c12b0
        try clear c13
        try clear c13b0
        try clear c14
        try clear c14b0
        try clear c14b1
        try clear hx160_0
        try clear p160
        try clear p2
        try clear q160
        obtain ⟨x4_2, x13_2, rfl, HA, HK2, HO_4, HB⟩ := hrel
        cases gk with
        | zero => exact absurd HA.out (by simp [impl_Homogen.l1])
        | succ k2 =>
         have H := HA.out
         clear HA
         simp only [impl_Homogen.l1] at H
         by_cases c15 : x13_2 < t158
         ·rw [if_pos c15] at H
          have c15b0 : decide (x13_2 < t158) = true := decide_eq_true c15
          clear c15
          by_cases c16 : 0 ≤ x13_2
          ·rw [if_pos c16] at H
           have c16b0 : decide (0 ≤ x13_2) = true := decide_eq_true c16
           clear c16
           by_cases c17 : x13_2 < (x4_2.length : Int)
           ·rw [if_pos c17] at H
            have c17b0 : decide (x13_2 < (x4_2.length : Int)) = true := decide_eq_true c17
            clear c17
            obtain ⟨y162, hy162⟩ : ∃ y_ : List Int, y_ = (x4_2.set (x13_2 : Int).toNat (wrap64 ((rd x4_2 x13_2) + (wrap64 (Int.tdiv (wrap64 ((wrap64 (x9_1 * t158)) - (wrap64 (x8_1 * (wrap64 ((l0.length : Int) - t158)))))) (wrap64 (t158 * (wrap64 ((l0.length : Int) - t158))))))))) := ⟨_, rfl⟩
            replace H : ((impl_in.f (rd y162 x13_2) (-100000) 100000).bind fun t164 => (if t164 = true then (impl_Homogen.l1 k2 y162 t158 (wrap64 (Int.tdiv (wrap64 ((wrap64 (x9_1 * t158)) - (wrap64 (x8_1 * (wrap64 ((l0.length : Int) - t158)))))) (wrap64 (t158 * (wrap64 ((l0.length : Int) - t158)))))) (wrap64 (x13_2 + 1))) else (some (([] : List Int), 0)))) = some (r1, r2) := by first | (rw [hy162]; with_reducible exact H) | (have H2_ := (Option.bind_some _ _).symm.trans H; rw [hy162]; with_reducible exact H2_) | (have H2_ := (Option.bind_some _ _).symm.trans H; with_reducible exact H2_) | with_reducible exact H | (rw [hy162]; exact H) | exact H
            have Ny162 := Aside0.mk hy162
            clear hy162
            replace H := Option.bind_eq_some_iff.mp H
            obtain ⟨t164, A190, H⟩ := H
            replace H : (if t164 = true then (impl_Homogen.l1 k2 y162 t158 (wrap64 (Int.tdiv (wrap64 ((wrap64 (x9_1 * t158)) - (wrap64 (x8_1 * (wrap64 ((l0.length : Int) - t158)))))) (wrap64 (t158 * (wrap64 ((l0.length : Int) - t158)))))) (wrap64 (x13_2 + 1))) else (some (([] : List Int), 0))) = some (r1, r2) := H
            have A19 := Aside0.mk A190
            clear A190
            by_cases c20 : t164 = true
            ·subst c20
             have H1 : (impl_Homogen.l1 k2 y162 t158 (wrap64 (Int.tdiv (wrap64 ((wrap64 (x9_1 * t158)) - (wrap64 (x8_1 * (wrap64 ((l0.length : Int) - t158)))))) (wrap64 (t158 * (wrap64 ((l0.length : Int) - t158)))))) (wrap64 (x13_2 + 1))) = some (r1, r2) := by rw [if_pos rfl] at H; exact H
             clear H
             have H := H1
             clear H1
             have H' := Aside0.mk H
             clear H
             obtain ⟨Ao21, co21, eo21⟩ := Kd.R_slice HO_4.out
             subst eo21
             have p161 : 0 ≤ (x13_2 : Int) := of_decide_eq_true (by first | (with_reducible assumption) | assumption)
             have q161 : x13_2 < (x4_2.length : Int) := of_decide_eq_true (by first | (with_reducible assumption) | assumption)
             obtain ⟨ad161, e161, hx161_0⟩ := Kd.at_int (Kd.R_reads' HO_4.out).2.2 x13_2 p161 q161
             cases e161
             replace p161 := eq_true p161
             replace q161 := eq_true q161
             have p18 : 0 ≤ (x13_2 : Int) := of_decide_eq_true (by first | (with_reducible assumption) | assumption)
             have q18 : (x13_2 : Int) < ((x4_2.length : Int) : Int) := of_decide_eq_true (by first | (with_reducible assumption) | assumption)
             obtain ⟨go18, co18, eo18, gb18, gl18, cl18, HG18⟩ := Kd.R_form HO_4.out (by omega)
             (first | cases eo18 | (injection eo18 with ea_ en_ ec_; (first | subst ea_ | (injection ea_ with ea_; subst ea_)); subst ec_; clear en_))
             have GB18 := Aside0.mk gb18
             have GG18 := Aside0.mk HG18
             clear gb18 gl18 HG18
             (first | simp only [add_plain] at hx161_0 | skip)
             obtain ⟨hx18_0, hf18_0⟩ := Kd.R_celln 0 HO_4.out (x13_2 : Int) p18 q18
             replace p18 := eq_true p18
             replace q18 := eq_true q18
             have HP22 := Kd.R_putg HO_4.out (x13_2 : Int) (wrap64 ((rd x4_2 x13_2) + (wrap64 (Int.tdiv (wrap64 ((wrap64 (x9_1 * t158)) - (wrap64 (x8_1 * (wrap64 ((l0.length : Int) - t158)))))) (wrap64 (t158 * (wrap64 ((l0.length : Int) - t158))))))))
             go_wp2_with (first | ((with_reducible refine gate_store (t := 2) (p := 72) rfl ?_); refine store_event (t := 2) (p := 72) (v := ?vo_w23) (w1 := (wr.setCell ⟨go18, (x13_2 : Int).toNat, none⟩ (.int .i64 (wrap64 ((rd x4_2 x13_2) + (wrap64 (Int.tdiv (wrap64 ((wrap64 (x9_1 * t158)) - (wrap64 (x8_1 * (wrap64 ((l0.length : Int) - t158)))))) (wrap64 (t158 * (wrap64 ((l0.length : Int) - t158))))))))))) ?hg ?ho ?hn ?hr ?_; (case ho => rfl); (case hg => rfl); (case hn => rfl); (case hr => first | (go_simp; done) | (go_simp; rfl)); intro w23 hw; have hg : wr.grownBy w23 (some go18) := (by rw [hw]; exact HP22.2); have hp_ : Kd.R (Kd.int .i64) 2 w23 w.heap.size (fun _ => True) (.slice (some ⟨go18, 0, none⟩) x4_2.length co21) y162 := (by rw [hw, Ny162.out]; exact HP22.1); clear HP22; have n0_ := Aside0.mk (hp_); have n1_ := Aside0.mk ((by rw [hw]; exact below_set (HB.out) GB18.out : Below w.heap.size w w23)); clear HO_4; clear HB; have HO_4 := n0_; have HB := n1_; clear n0_ n1_; clear hg hw hp_; have p163 : 0 ≤ (x13_2 : Int) := of_decide_eq_true (by first | (with_reducible assumption) | assumption); have q163 : x13_2 < (y162.length : Int) := (by have h_ : (x13_2 : Int) < ((x4_2.length : Int) : Int) := of_decide_eq_true (by first | (with_reducible assumption) | assumption); first | (have e_ := (Kd.R_reads' HO_4.out).1; omega) | simpa only [Ny162.out, List.length_set] using h_); have ql163 : ((x13_2 : Int) < ((x4_2.length : Int) : Int)) = True := eq_true (of_decide_eq_true (by first | (with_reducible assumption) | assumption)); obtain ⟨ad163, e163, hx163_0⟩ := Kd.at_int (Kd.R_reads' HO_4.out).2.2 x13_2 p163 q163; obtain rfl : (⟨go18, 0, none⟩ : Addr) = ad163 := (by injection e163); (first | simp only [add_plain] at hx163_0 | simp only [add_at] at hx163_0 | simp only [Addr.add, Nat.zero_add] at hx163_0 | skip); replace p163 := eq_true p163; replace q163 := eq_true q163) | ((with_reducible refine gate_callee (f := 42) rfl ?_); refine goesL_ (some 77) rfl rfl Try.func42 (by kernel_rfl) rfl #[.int .i64 (rd y162 x13_2), .int .i64 (-100000), .int .i64 100000] rfl (by (try simp only [List.map_toArray, List.map_cons, List.map_nil]); first | done | rfl | (simp only [List.length_drop, List.length_take]; rfl)) ?_; (with_reducible refine (impl_in.calls (rd y162 x13_2) (-100000) 100000 true _ A19.out).mono ?_); rintro e w' ⟨rfl, ⟨nd, rfl⟩⟩; refine ⟨_, rfl, ?_⟩))
             go_roundg k2
             case measure => have := HK1.out; have := HK2.out; omega
             case rel => exact ⟨(y162), (wrap64 (x13_2 + 1)), (by first | rfl | (simp; done) | (simp [*]; done)), H', ⟨by have := HK1.out; have := HK2.out; omega⟩, ⟨by (with_reducible repeat (first | apply Kd.R_alloc | apply Kd.R_drewN | apply Kd.R_drew)); exact HO_4.out⟩, ⟨by repeat (first | (with_reducible first | exact HB.out | apply below_alloc | apply pw_below_drewN | apply below_drew1) | exact HB.out)⟩⟩
            ·replace c20 := Bool.eq_false_iff.mpr c20
             subst c20
             have H1 : (some (([] : List Int), 0)) = some (r1, r2) := by rw [if_neg (show ¬ (false = true) by decide)] at H; exact H
             clear H
             have H := H1
             clear H1
             simp only [Option.some.injEq, Prod.mk.injEq] at H
             obtain ⟨rfl, rfl⟩ := H
             obtain ⟨Ao24, co24, eo24⟩ := Kd.R_slice HO_4.out
             subst eo24
             have p161 : 0 ≤ (x13_2 : Int) := of_decide_eq_true (by first | (with_reducible assumption) | assumption)
             have q161 : x13_2 < (x4_2.length : Int) := of_decide_eq_true (by first | (with_reducible assumption) | assumption)
             obtain ⟨ad161, e161, hx161_0⟩ := Kd.at_int (Kd.R_reads' HO_4.out).2.2 x13_2 p161 q161
             cases e161
             replace p161 := eq_true p161
             replace q161 := eq_true q161
             have p18 : 0 ≤ (x13_2 : Int) := of_decide_eq_true (by first | (with_reducible assumption) | assumption)
             have q18 : (x13_2 : Int) < ((x4_2.length : Int) : Int) := of_decide_eq_true (by first | (with_reducible assumption) | assumption)
             obtain ⟨go18, co18, eo18, gb18, gl18, cl18, HG18⟩ := Kd.R_form HO_4.out (by omega)
             (first | cases eo18 | (injection eo18 with ea_ en_ ec_; (first | subst ea_ | (injection ea_ with ea_; subst ea_)); subst ec_; clear en_))
             have GB18 := Aside0.mk gb18
             have GG18 := Aside0.mk HG18
             clear gb18 gl18 HG18
             (first | simp only [add_plain] at hx161_0 | skip)
             obtain ⟨hx18_0, hf18_0⟩ := Kd.R_celln 0 HO_4.out (x13_2 : Int) p18 q18
             replace p18 := eq_true p18
             replace q18 := eq_true q18
             have HP25 := Kd.R_putg HO_4.out (x13_2 : Int) (wrap64 ((rd x4_2 x13_2) + (wrap64 (Int.tdiv (wrap64 ((wrap64 (x9_1 * t158)) - (wrap64 (x8_1 * (wrap64 ((l0.length : Int) - t158)))))) (wrap64 (t158 * (wrap64 ((l0.length : Int) - t158))))))))
             go_wp2_with (first | ((with_reducible refine gate_store (t := 2) (p := 72) rfl ?_); refine store_event (t := 2) (p := 72) (v := ?vo_w26) (w1 := (wr.setCell ⟨go18, (x13_2 : Int).toNat, none⟩ (.int .i64 (wrap64 ((rd x4_2 x13_2) + (wrap64 (Int.tdiv (wrap64 ((wrap64 (x9_1 * t158)) - (wrap64 (x8_1 * (wrap64 ((l0.length : Int) - t158)))))) (wrap64 (t158 * (wrap64 ((l0.length : Int) - t158))))))))))) ?hg ?ho ?hn ?hr ?_; (case ho => rfl); (case hg => rfl); (case hn => rfl); (case hr => first | (go_simp; done) | (go_simp; rfl)); intro w26 hw; have hg : wr.grownBy w26 (some go18) := (by rw [hw]; exact HP25.2); have hp_ : Kd.R (Kd.int .i64) 2 w26 w.heap.size (fun _ => True) (.slice (some ⟨go18, 0, none⟩) x4_2.length co24) y162 := (by rw [hw, Ny162.out]; exact HP25.1); clear HP25; have n0_ := Aside0.mk (hp_); have n1_ := Aside0.mk ((by rw [hw]; exact below_set (HB.out) GB18.out : Below w.heap.size w w26)); clear HO_4; clear HB; have HO_4 := n0_; have HB := n1_; clear n0_ n1_; clear hg hw hp_; have p163 : 0 ≤ (x13_2 : Int) := of_decide_eq_true (by first | (with_reducible assumption) | assumption); have q163 : x13_2 < (y162.length : Int) := (by have h_ : (x13_2 : Int) < ((x4_2.length : Int) : Int) := of_decide_eq_true (by first | (with_reducible assumption) | assumption); first | (have e_ := (Kd.R_reads' HO_4.out).1; omega) | simpa only [Ny162.out, List.length_set] using h_); have ql163 : ((x13_2 : Int) < ((x4_2.length : Int) : Int)) = True := eq_true (of_decide_eq_true (by first | (with_reducible assumption) | assumption)); obtain ⟨ad163, e163, hx163_0⟩ := Kd.at_int (Kd.R_reads' HO_4.out).2.2 x13_2 p163 q163; obtain rfl : (⟨go18, 0, none⟩ : Addr) = ad163 := (by injection e163); (first | simp only [add_plain] at hx163_0 | simp only [add_at] at hx163_0 | simp only [Addr.add, Nat.zero_add] at hx163_0 | skip); replace p163 := eq_true p163; replace q163 := eq_true q163) | ((with_reducible refine gate_callee (f := 42) rfl ?_); refine goesL_ (some 77) rfl rfl Try.func42 (by kernel_rfl) rfl #[.int .i64 (rd y162 x13_2), .int .i64 (-100000), .int .i64 100000] rfl (by (try simp only [List.map_toArray, List.map_cons, List.map_nil]); first | done | rfl | (simp only [List.length_drop, List.length_take]; rfl)) ?_; (with_reducible refine (impl_in.calls (rd y162 x13_2) (-100000) 100000 false _ A19.out).mono ?_); rintro e w' ⟨rfl, ⟨nd, rfl⟩⟩; refine ⟨_, rfl, ?_⟩))
             go_ret2
             exact ⟨_, by first | rfl | (simp [errW_none, errW_some] <;> rfl) | (simp [*, errW_none, errW_some] <;> rfl), by first | exact Kd.R_nil _ _ _ _ _ | exact Kd.N_nil _ _ _ _ _ | exact Kd.V_nil _ _ _ _ _ | exact Kd.Q_nil _ _ _ _ _ | exact Kd.S_nil _ _ _ _ _, by repeat (first | (with_reducible first | exact HB.out | apply below_alloc | apply pw_below_drewN | apply below_drew1) | exact HB.out)⟩
           ·rw [if_neg c17] at H
            exact absurd H (by simp)
          ·rw [if_neg c16] at H
           exact absurd H (by simp)
         ·rw [if_neg c15] at H
          have c15b0 : decide (x13_2 < t158) = false := decide_eq_false c15
          clear c15
          simp only [Option.some.injEq, Prod.mk.injEq] at H
          obtain ⟨rfl, rfl⟩ := H
          go_wp2
          go_ret2
          exact ⟨_, by first | rfl | (simp [errW_none, errW_some] <;> rfl) | (simp [*, errW_none, errW_some] <;> rfl), by (with_reducible repeat (first | apply Kd.R_alloc | apply Kd.R_drewN | apply Kd.R_drew)); exact HO_4.out, by repeat (first | (with_reducible first | exact HB.out | apply below_alloc | apply pw_below_drewN | apply below_drew1) | exact HB.out)⟩
 ·replace c3 := Bool.eq_false_iff.mpr c3
  subst c3
  have H1 : (some (([] : List Int), 0)) = some (r1, r2) := by rw [if_neg (show ¬ (false = true) by decide)] at H; exact H
  clear H
  have H := H1
  clear H1
  simp only [Option.some.injEq, Prod.mk.injEq] at H
  obtain ⟨rfl, rfl⟩ := H
  go_enter Try.func30, Try.ntmps30
  go_wp2_with (first | ((with_reducible refine gate_callee (f := 60) rfl ?_); refine goesL_ (some 15) rfl rfl Try.func60 (by kernel_rfl) rfl #[.slice A0 l0.length c0] rfl (by (try simp only [List.map_toArray, List.map_cons, List.map_nil]); first | done | rfl | (simp only [List.length_drop, List.length_take]; rfl)) ?_; (with_reducible refine (impl_seriesOk.calls k _ _ l0 false _ ?side1 ?side2 A2.out).mono ?_); (case side1 => repeat (first | exact HR0.out | (with_reducible refine Kd.C_alloc ?_ _) | (with_reducible refine Kd.C_drewN ?_ _) | (with_reducible refine Kd.C_drew ?_))); (case side2 => exact HC0.out); rintro e w' ⟨rfl, ⟨nd, rfl⟩⟩; refine ⟨_, rfl, ?_⟩))
  go_ret2
  exact ⟨_, by first | rfl | (simp [errW_none, errW_some] <;> rfl) | (simp [*, errW_none, errW_some] <;> rfl), by first | exact Kd.R_nil _ _ _ _ _ | exact Kd.N_nil _ _ _ _ _ | exact Kd.V_nil _ _ _ _ _ | exact Kd.Q_nil _ _ _ _ _ | exact Kd.S_nil _ _ _ _ _, by repeat (first | (with_reducible first | exact HB.out | apply below_alloc | apply pw_below_drewN | apply below_drew1) | exact HB.out)⟩

end Go.Proofs.Yteobnbichpadjab.Q
