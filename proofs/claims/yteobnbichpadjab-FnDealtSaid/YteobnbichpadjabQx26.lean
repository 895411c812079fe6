/- Plain Lean functions with the same answers as the Go functions of this seat, and a proof for each that the Go code comes to just these answers; no condition. Written by a program of this session (the kit's printer, turned). -/
import Derived.Test.YteobnbichpadjabQx0
import Derived.Test.YteobnbichpadjabQx1
import Derived.Test.YteobnbichpadjabQx16
import Derived.Test.YteobnbichpadjabQx17
import Derived.Test.YteobnbichpadjabQx25
namespace Go.Proofs.Yteobnbichpadjab.Q
open Go.RowKit Go.Proofs.YteobnbichpadjabW.PrintWords Go.Proofs.YteobnbichpadjabW.PrintLast Go.Proofs.YteobnbichpadjabW.PrintMore Go.Proofs.YteobnbichpadjabW.PrintFlt
attribute [local go_sem] cmp_lss cmp_leq cmp_gtr cmp_geq cmp_eql cmp_neq flt_l flt_r fgt_l fgt_r feq_l feq_r fne_l fne_r ord_lt ord_gt ord_eq ord_ne conv_int foi_fold run_store_flt
attribute [local go_sem] max2_int min2_int max_two min_two max_three min_three max_four min_four   -- for this text's walks alone
set_option linter.unusedVariables false
set_option linter.unusedSimpArgs false

/-! ### laws_FnDealt: function 3 -/
mutual
def laws_FnDealt.l0 : Nat → List (S31) → Int → Int → List Int → List Int → Int → Option (Bool)
 | 0, _, _, _, _, _, _ => none
 | k + 1, x3, x4, x5, x8, x10, x11 => if x11 < (x8.length : Int) then (if 0 ≤ x11 then (if (rd x8 x11) < (-1) then (laws_FnDealt.j1 k x3 x4 x5 x8 x10 x11 true) else (laws_FnDealt.j1 k x3 x4 x5 x8 x10 x11 (decide ((rd x8 x11) ≥ x5)))) else (none)) else (some true)
def laws_FnDealt.j1 : Nat → List (S31) → Int → Int → List Int → List Int → Int → Bool → Option (Bool)
 | 0, _, _, _, _, _, _, _ => none
 | k + 1, x3, x4, x5, x8, x10, x11, x68 => if x68 = true then (some false) else (laws_FnDealt.l1 k x3 x4 x5 x8 x10 x11 0)
def laws_FnDealt.l1 : Nat → List (S31) → Int → Int → List Int → List Int → Int → Int → Option (Bool)
 | 0, _, _, _, _, _, _, _ => none
 | k + 1, x3, x4, x5, x8, x10, x11, x12 => if x12 < x5 then (if 0 ≤ x11 then (if x11 < (x8.length : Int) then (if (rd x8 x11) < 0 then (laws_FnDealt.j3 k x3 x4 x5 x8 x10 x11 x12 true) else (laws_FnDealt.j3 k x3 x4 x5 x8 x10 x11 x12 (decide (x12 < (rd x8 x11))))) else (none)) else (none)) else (laws_FnDealt.j3 k x3 x4 x5 x8 x10 x11 x12 false)
def laws_FnDealt.j3 : Nat → List (S31) → Int → Int → List Int → List Int → Int → Int → Bool → Option (Bool)
 | 0, _, _, _, _, _, _, _, _ => none
 | k + 1, x3, x4, x5, x8, x10, x11, x12, x86 => if x86 = true then (if 0 ≤ x12 then (if x12 < (x10.length : Int) then (if 0 ≤ x11 then (if x11 < (x3.length : Int) then (if (wrap64 ((rd x10 x12) + ((rd_T31 x3 x11).f4))) ≤ x4 then (some false) else (laws_FnDealt.l1 k x3 x4 x5 x8 x10 x11 (wrap64 (x12 + 1)))) else (none)) else (none)) else (none)) else (none)) else (if 0 ≤ x11 then (if x11 < (x8.length : Int) then (if (rd x8 x11) ≥ 0 then (if 0 ≤ (rd x8 x11) then (if (rd x8 x11) < (x10.length : Int) then (if x11 < (x3.length : Int) then (if (wrap64 ((rd x10 (rd x8 x11)) + ((rd_T31 x3 x11).f4))) > x4 then (some false) else (laws_FnDealt.l0 k x3 x4 x5 x8 (x10.set ((rd x8 x11) : Int).toNat (wrap64 ((rd x10 (rd x8 x11)) + ((rd_T31 x3 x11).f4)))) (wrap64 (x11 + 1)))) else (none)) else (none)) else (none)) else (laws_FnDealt.l0 k x3 x4 x5 x8 x10 (wrap64 (x11 + 1)))) else (none)) else (none))
end
def laws_FnDealt.f (k : Nat) (l0 : List Int) : Option (Bool) := (laws_big.f l0).bind fun t300 => (if t300 = true then (some true) else ((spec_DrawDeal.f k l0).bind fun bt301 => ((spec_Deal.f k bt301.1 bt301.2.1 bt301.2.2).bind fun bt306 => ((impl_Deal.f k bt301.1 bt301.2.1 bt301.2.2).bind fun bt310 => (if (bt310.2 != bt306.2) = true then (some false) else (if bt306.2 = true then (if (bt310.1.length : Int) = (bt301.1.length : Int) then (if 0 ≤ bt301.2.2 then (if (bt301.2.2 : Int).toNat ≤ 35184372088832 then (laws_FnDealt.l0 k bt301.1 bt301.2.1 bt301.2.2 bt310.1 (List.replicate (bt301.2.2 : Int).toNat 0) 0) else (none)) else (none)) else (some false)) else (some ((bt310.1.length : Int) == 0))))))))
theorem laws_FnDealt.mono_l : ∀ k, (∀ y0 y1 y2 y3 y4 y5, LeO (laws_FnDealt.l0 k y0 y1 y2 y3 y4 y5) (laws_FnDealt.l0 (k + 1) y0 y1 y2 y3 y4 y5)) ∧ (∀ y0 y1 y2 y3 y4 y5 y6, LeO (laws_FnDealt.j1 k y0 y1 y2 y3 y4 y5 y6) (laws_FnDealt.j1 (k + 1) y0 y1 y2 y3 y4 y5 y6)) ∧ (∀ y0 y1 y2 y3 y4 y5 y6, LeO (laws_FnDealt.l1 k y0 y1 y2 y3 y4 y5 y6) (laws_FnDealt.l1 (k + 1) y0 y1 y2 y3 y4 y5 y6)) ∧ (∀ y0 y1 y2 y3 y4 y5 y6 y7, LeO (laws_FnDealt.j3 k y0 y1 y2 y3 y4 y5 y6 y7) (laws_FnDealt.j3 (k + 1) y0 y1 y2 y3 y4 y5 y6 y7))
 | 0 => ⟨fun _ _ _ _ _ _ r h => by simp [laws_FnDealt.l0] at h, fun _ _ _ _ _ _ _ r h => by simp [laws_FnDealt.j1] at h, fun _ _ _ _ _ _ _ r h => by simp [laws_FnDealt.l1] at h, fun _ _ _ _ _ _ _ _ r h => by simp [laws_FnDealt.j3] at h⟩
 | k + 1 => by
  obtain ⟨ih0, ih1, ih2, ih3⟩ := laws_FnDealt.mono_l k
  refine ⟨?_, ?_, ?_, ?_⟩
  ·intro y0 y1 y2 y3 y4 y5
   unfold laws_FnDealt.l0
   repeat' first
   | (with_reducible exact ih0 _ _ _ _ _ _)
   | (with_reducible exact ih1 _ _ _ _ _ _ _)
   | (with_reducible exact ih2 _ _ _ _ _ _ _)
   | (with_reducible exact ih3 _ _ _ _ _ _ _ _)
   | (with_reducible exact impl_Deal.mono _ _ _ _)
   | (with_reducible exact spec_Deal.mono _ _ _ _)
   | (with_reducible exact spec_DrawDeal.mono _ _)
   | (with_reducible exact LeO.refl _)
   | (with_reducible exact LeO.none _)
   | (with_reducible refine LeO.ite ?_ ?_)
   | (with_reducible refine LeO.bind ?_ (fun _ => ?_))
   | exact ih0 _ _ _ _ _ _
   | exact ih1 _ _ _ _ _ _ _
   | exact ih2 _ _ _ _ _ _ _
   | exact ih3 _ _ _ _ _ _ _ _
   | exact impl_Deal.mono _ _ _ _
   | exact spec_Deal.mono _ _ _ _
   | exact spec_DrawDeal.mono _ _
   | exact LeO.none _
   | refine LeO.ite ?_ ?_
   | refine LeO.bind ?_ (fun _ => ?_)
  ·intro y0 y1 y2 y3 y4 y5 y6
   unfold laws_FnDealt.j1
   repeat' first
   | (with_reducible exact ih0 _ _ _ _ _ _)
   | (with_reducible exact ih1 _ _ _ _ _ _ _)
   | (with_reducible exact ih2 _ _ _ _ _ _ _)
   | (with_reducible exact ih3 _ _ _ _ _ _ _ _)
   | (with_reducible exact impl_Deal.mono _ _ _ _)
   | (with_reducible exact spec_Deal.mono _ _ _ _)
   | (with_reducible exact spec_DrawDeal.mono _ _)
   | (with_reducible exact LeO.refl _)
   | (with_reducible exact LeO.none _)
   | (with_reducible refine LeO.ite ?_ ?_)
   | (with_reducible refine LeO.bind ?_ (fun _ => ?_))
   | exact ih0 _ _ _ _ _ _
   | exact ih1 _ _ _ _ _ _ _
   | exact ih2 _ _ _ _ _ _ _
   | exact ih3 _ _ _ _ _ _ _ _
   | exact impl_Deal.mono _ _ _ _
   | exact spec_Deal.mono _ _ _ _
   | exact spec_DrawDeal.mono _ _
   | exact LeO.none _
   | refine LeO.ite ?_ ?_
   | refine LeO.bind ?_ (fun _ => ?_)
  ·intro y0 y1 y2 y3 y4 y5 y6
   unfold laws_FnDealt.l1
   repeat' first
   | (with_reducible exact ih0 _ _ _ _ _ _)
   | (with_reducible exact ih1 _ _ _ _ _ _ _)
   | (with_reducible exact ih2 _ _ _ _ _ _ _)
   | (with_reducible exact ih3 _ _ _ _ _ _ _ _)
   | (with_reducible exact impl_Deal.mono _ _ _ _)
   | (with_reducible exact spec_Deal.mono _ _ _ _)
   | (with_reducible exact spec_DrawDeal.mono _ _)
   | (with_reducible exact LeO.refl _)
   | (with_reducible exact LeO.none _)
   | (with_reducible refine LeO.ite ?_ ?_)
   | (with_reducible refine LeO.bind ?_ (fun _ => ?_))
   | exact ih0 _ _ _ _ _ _
   | exact ih1 _ _ _ _ _ _ _
   | exact ih2 _ _ _ _ _ _ _
   | exact ih3 _ _ _ _ _ _ _ _
   | exact impl_Deal.mono _ _ _ _
   | exact spec_Deal.mono _ _ _ _
   | exact spec_DrawDeal.mono _ _
   | exact LeO.none _
   | refine LeO.ite ?_ ?_
   | refine LeO.bind ?_ (fun _ => ?_)
  ·intro y0 y1 y2 y3 y4 y5 y6 y7
   unfold laws_FnDealt.j3
   repeat' first
   | (with_reducible exact ih0 _ _ _ _ _ _)
   | (with_reducible exact ih1 _ _ _ _ _ _ _)
   | (with_reducible exact ih2 _ _ _ _ _ _ _)
   | (with_reducible exact ih3 _ _ _ _ _ _ _ _)
   | (with_reducible exact impl_Deal.mono _ _ _ _)
   | (with_reducible exact spec_Deal.mono _ _ _ _)
   | (with_reducible exact spec_DrawDeal.mono _ _)
   | (with_reducible exact LeO.refl _)
   | (with_reducible exact LeO.none _)
   | (with_reducible refine LeO.ite ?_ ?_)
   | (with_reducible refine LeO.bind ?_ (fun _ => ?_))
   | exact ih0 _ _ _ _ _ _
   | exact ih1 _ _ _ _ _ _ _
   | exact ih2 _ _ _ _ _ _ _
   | exact ih3 _ _ _ _ _ _ _ _
   | exact impl_Deal.mono _ _ _ _
   | exact spec_Deal.mono _ _ _ _
   | exact spec_DrawDeal.mono _ _
   | exact LeO.none _
   | refine LeO.ite ?_ ?_
   | refine LeO.bind ?_ (fun _ => ?_)
theorem laws_FnDealt.mono : ∀ a0 k, LeO (laws_FnDealt.f k a0) (laws_FnDealt.f (k + 1) a0) := by
 intro a0 k
 obtain ⟨ih0, ih1, ih2, ih3⟩ := laws_FnDealt.mono_l k
 unfold laws_FnDealt.f
 repeat' first
   | (with_reducible exact ih0 _ _ _ _ _ _)
   | (with_reducible exact ih1 _ _ _ _ _ _ _)
   | (with_reducible exact ih2 _ _ _ _ _ _ _)
   | (with_reducible exact ih3 _ _ _ _ _ _ _ _)
   | (with_reducible exact impl_Deal.mono _ _ _ _)
   | (with_reducible exact spec_Deal.mono _ _ _ _)
   | (with_reducible exact spec_DrawDeal.mono _ _)
   | (with_reducible exact LeO.refl _)
   | (with_reducible exact LeO.none _)
   | (with_reducible refine LeO.ite ?_ ?_)
   | (with_reducible refine LeO.bind ?_ (fun _ => ?_))
   | exact ih0 _ _ _ _ _ _
   | exact ih1 _ _ _ _ _ _ _
   | exact ih2 _ _ _ _ _ _ _
   | exact ih3 _ _ _ _ _ _ _ _
   | exact impl_Deal.mono _ _ _ _
   | exact spec_Deal.mono _ _ _ _
   | exact spec_DrawDeal.mono _ _
   | exact LeO.none _
   | refine LeO.ite ?_ ?_
   | refine LeO.bind ?_ (fun _ => ?_)
def laws_FnDealt.T21 : Bool × List (List Nat × List Nat) := (true, [([], []), ([], []), ([0, 1], [0, 1]), ([2], [2]), ([], []), ([], []), ([4, 5], [4, 5]), ([6], [6]), ([7], [7]), ([3, 8], [3, 8]), ([], []), ([9, 10], [9, 10])])
def laws_FnDealt.B21 : List Nat := [0, 0, 3, 7, 0, 0, 48, 112, 240, 511, 0, 2047]
theorem laws_FnDealt.tab21 : rtab .any (opsOf Try.f3 21) = laws_FnDealt.T21 := by kernel_rfl
theorem laws_FnDealt.bits21 : waitsOk laws_FnDealt.T21.2 laws_FnDealt.B21 = true := by kernel_rfl
def laws_FnDealt.T24 : Bool × List (List Nat × List Nat) := (true, [([], []), ([], []), ([], []), ([1, 2], [1, 2]), ([3], [3]), ([], []), ([], []), ([], []), ([6, 7], [6, 7]), ([8], [8]), ([5, 9], [5, 9]), ([10], [10]), ([], []), ([], []), ([12, 13], [12, 13]), ([14], [14]), ([15], [15]), ([11, 16], [11, 16]), ([0, 4, 0, 1, 2, 3, 4, 5, 6, 7, 8, 9, 10, 11, 12, 13, 14, 15, 16, 17], [0, 4]), ([18, 17, 0, 1, 2, 3, 4, 5, 6, 7, 8, 9, 10, 11, 12, 13, 14, 15, 16, 17], [17, 18])])
def laws_FnDealt.B24 : List Nat := [0, 0, 0, 6, 14, 0, 0, 0, 192, 448, 992, 2016, 0, 0, 12288, 28672, 61440, 131040, 262143, 524287]
theorem laws_FnDealt.tab24 : rtab .any (opsOf Try.f3 24) = laws_FnDealt.T24 := by kernel_rfl
theorem laws_FnDealt.bits24 : waitsOk laws_FnDealt.T24.2 laws_FnDealt.B24 = true := by kernel_rfl
set_option maxHeartbeats 8000000 in
set_option maxRecDepth 100000 in
theorem laws_FnDealt.calls (k : Nat) (A0 : Option Addr) (c0 : Nat) (l0 : List Int) (r : Bool) (w : World) (hr0 : Kd.C (Kd.int .u8) w A0 l0.length l0) (hc0 : l0.length ≤ c0) (h : laws_FnDealt.f k l0 = some r) :
  Calls Try.prog 3 #[.slice A0 l0.length c0] w fun e w' => e = .returned (.bool r) ∧ Below w.heap.size w w' := by
 have HR0 := Aside0.mk hr0
 have HC0 := Aside0.mk hc0
 clear hr0 hc0
 have HB := Aside0.mk (Below.refl w.heap.size w)
 have H : ((laws_big.f l0).bind fun t300 => (if t300 = true then (some true) else ((spec_DrawDeal.f k l0).bind fun bt301 => ((spec_Deal.f k bt301.1 bt301.2.1 bt301.2.2).bind fun bt306 => ((impl_Deal.f k bt301.1 bt301.2.1 bt301.2.2).bind fun bt310 => (if (bt310.2 != bt306.2) = true then (some false) else (if bt306.2 = true then (if (bt310.1.length : Int) = (bt301.1.length : Int) then (if 0 ≤ bt301.2.2 then (if (bt301.2.2 : Int).toNat ≤ 35184372088832 then (laws_FnDealt.l0 k bt301.1 bt301.2.1 bt301.2.2 bt310.1 (List.replicate (bt301.2.2 : Int).toNat 0) 0) else (none)) else (none)) else (some false)) else (some ((bt310.1.length : Int) == 0))))))))) = some r := h
 clear h
 replace H := Option.bind_eq_some_iff.mp H
 obtain ⟨t300, A20, H⟩ := H
 replace H : (if t300 = true then (some true) else ((spec_DrawDeal.f k l0).bind fun bt301 => ((spec_Deal.f k bt301.1 bt301.2.1 bt301.2.2).bind fun bt306 => ((impl_Deal.f k bt301.1 bt301.2.1 bt301.2.2).bind fun bt310 => (if (bt310.2 != bt306.2) = true then (some false) else (if bt306.2 = true then (if (bt310.1.length : Int) = (bt301.1.length : Int) then (if 0 ≤ bt301.2.2 then (if (bt301.2.2 : Int).toNat ≤ 35184372088832 then (laws_FnDealt.l0 k bt301.1 bt301.2.1 bt301.2.2 bt310.1 (List.replicate (bt301.2.2 : Int).toNat 0) 0) else (none)) else (none)) else (some false)) else (some ((bt310.1.length : Int) == 0)))))))) = some r := H
 have A2 := Aside0.mk A20
 clear A20
 by_cases c3 : t300 = true
 ·subst c3
  have H1 : (some true) = some r := by rw [if_pos rfl] at H; exact H
  clear H
  have H := H1
  clear H1
  obtain rfl := Option.some.inj H
  go_enter Try.func3, Try.ntmps3
  go_wp2_with (first | ((with_reducible refine gate_callee (f := 9) rfl ?_); refine goesL_ (some 14) rfl rfl Try.func9 (by kernel_rfl) rfl #[.slice A0 l0.length c0] rfl (by (try simp only [List.map_toArray, List.map_cons, List.map_nil]); first | done | rfl | (simp only [List.length_drop, List.length_take]; rfl)) ?_; (with_reducible refine (laws_big.calls _ _ l0 true _ ?side1 ?side2 A2.out).mono ?_); (case side1 => repeat (first | exact HR0.out | (with_reducible refine Kd.C_alloc ?_ _) | (with_reducible refine Kd.C_drewN ?_ _) | (with_reducible refine Kd.C_drew ?_))); (case side2 => exact HC0.out); rintro e w' ⟨rfl, ⟨nd, rfl⟩⟩; refine ⟨_, rfl, ?_⟩))
  go_ret
  exact ⟨by first | rfl | (simp [errW_none, errW_some] <;> rfl) | (simp [*, errW_none, errW_some] <;> rfl), by repeat (first | (with_reducible first | exact HB.out | apply below_alloc | apply pw_below_drewN | apply below_drew1) | exact HB.out)⟩
 ·replace c3 := Bool.eq_false_iff.mpr c3
  subst c3
  have H1 : ((spec_DrawDeal.f k l0).bind fun bt301 => ((spec_Deal.f k bt301.1 bt301.2.1 bt301.2.2).bind fun bt306 => ((impl_Deal.f k bt301.1 bt301.2.1 bt301.2.2).bind fun bt310 => (if (bt310.2 != bt306.2) = true then (some false) else (if bt306.2 = true then (if (bt310.1.length : Int) = (bt301.1.length : Int) then (if 0 ≤ bt301.2.2 then (if (bt301.2.2 : Int).toNat ≤ 35184372088832 then (laws_FnDealt.l0 k bt301.1 bt301.2.1 bt301.2.2 bt310.1 (List.replicate (bt301.2.2 : Int).toNat 0) 0) else (none)) else (none)) else (some false)) else (some ((bt310.1.length : Int) == 0))))))) = some r := by rw [if_neg (show ¬ (false = true) by decide)] at H; exact H
  clear H
  have H := H1
  clear H1
  replace H := Option.bind_eq_some_iff.mp H
  obtain ⟨⟨t301, t302, t303⟩, A40, H⟩ := H
  replace H : ((spec_Deal.f k t301 t302 t303).bind fun bt306 => ((impl_Deal.f k t301 t302 t303).bind fun bt310 => (if (bt310.2 != bt306.2) = true then (some false) else (if bt306.2 = true then (if (bt310.1.length : Int) = (t301.length : Int) then (if 0 ≤ t303 then (if (t303 : Int).toNat ≤ 35184372088832 then (laws_FnDealt.l0 k t301 t302 t303 bt310.1 (List.replicate (t303 : Int).toNat 0) 0) else (none)) else (none)) else (some false)) else (some ((bt310.1.length : Int) == 0)))))) = some r := H
  have A4 := Aside0.mk A40
  clear A40
  replace H := Option.bind_eq_some_iff.mp H
  obtain ⟨⟨t306, t307⟩, A50, H⟩ := H
  replace H : ((impl_Deal.f k t301 t302 t303).bind fun bt310 => (if (bt310.2 != t307) = true then (some false) else (if t307 = true then (if (bt310.1.length : Int) = (t301.length : Int) then (if 0 ≤ t303 then (if (t303 : Int).toNat ≤ 35184372088832 then (laws_FnDealt.l0 k t301 t302 t303 bt310.1 (List.replicate (t303 : Int).toNat 0) 0) else (none)) else (none)) else (some false)) else (some ((bt310.1.length : Int) == 0))))) = some r := H
  have A5 := Aside0.mk A50
  clear A50
  replace H := Option.bind_eq_some_iff.mp H
  obtain ⟨⟨t310, t311⟩, A60, H⟩ := H
  replace H : (if (t311 != t307) = true then (some false) else (if t307 = true then (if (t310.length : Int) = (t301.length : Int) then (if 0 ≤ t303 then (if (t303 : Int).toNat ≤ 35184372088832 then (laws_FnDealt.l0 k t301 t302 t303 t310 (List.replicate (t303 : Int).toNat 0) 0) else (none)) else (none)) else (some false)) else (some ((t310.length : Int) == 0)))) = some r := H
  have A6 := Aside0.mk A60
  clear A60
  by_cases c7 : (t311 != t307) = true
  ·rw [if_pos c7] at H
   have c7b0 : (t311 != t307) = true := c7
   (try (have c7b1 : decide (t311 = t307) = false := by simpa using c7))
   (try (have c7b2 : (t311 == t307) = false := by simpa using c7))
   (try (have c7b3 : ¬ (t311 = t307) := by simpa using c7))
   clear c7
   obtain rfl := Option.some.inj H
   go_enter Try.func3, Try.ntmps3
   go_wp2_with (first | ((with_reducible refine gate_callee (f := 9) rfl ?_); refine goesL_ (some 14) rfl rfl Try.func9 (by kernel_rfl) rfl #[.slice A0 l0.length c0] rfl (by (try simp only [List.map_toArray, List.map_cons, List.map_nil]); first | done | rfl | (simp only [List.length_drop, List.length_take]; rfl)) ?_; (with_reducible refine (laws_big.calls _ _ l0 false _ ?side1 ?side2 A2.out).mono ?_); (case side1 => repeat (first | exact HR0.out | (with_reducible refine Kd.C_alloc ?_ _) | (with_reducible refine Kd.C_drewN ?_ _) | (with_reducible refine Kd.C_drew ?_))); (case side2 => exact HC0.out); rintro e w' ⟨rfl, ⟨nd, rfl⟩⟩; refine ⟨_, rfl, ?_⟩) | ((with_reducible refine gate_callee (f := 10) rfl ?_); refine goesL_ (some 17) rfl rfl Try.func10 (by kernel_rfl) rfl #[.slice A0 l0.length c0] rfl (by (try simp only [List.map_toArray, List.map_cons, List.map_nil]); first | done | rfl | (simp only [List.length_drop, List.length_take]; rfl)) ?_; (with_reducible refine (spec_DrawDeal.calls k _ _ l0 t301 t302 t303 _ ?side1 ?side2 A4.out).mono ?_); (case side1 => repeat (first | exact HR0.out | (with_reducible refine Kd.C_alloc ?_ _) | (with_reducible refine Kd.C_drewN ?_ _) | (with_reducible refine Kd.C_drew ?_))); (case side2 => exact HC0.out); rintro e w8 ⟨v304, rfl, ho0, hb⟩; refine ⟨_, rfl, ?_⟩; have n0_ := Aside0.mk (Kd.R_lower ho0 (below_size (by repeat (first | (with_reducible first | exact HB.out | apply below_alloc | apply pw_below_drewN | apply below_drew1) | exact HB.out)))); have n1_ := Aside0.mk (below_step (by repeat (first | (with_reducible first | exact HB.out | apply below_alloc | apply pw_below_drewN | apply below_drew1) | exact HB.out)) hb); clear HB; have HO305 := n0_; have HB := n1_; clear n0_ n1_; (try clear hb); (try clear hb2); (try clear hk); (try clear hi); (try clear ho0); obtain ⟨Ao9, co9, eo9⟩ := Kd.R_slice HO305.out; subst eo9) | ((with_reducible refine gate_callee (f := 11) rfl ?_); refine goesL_ (some 25) rfl rfl Try.func11 (by kernel_rfl) rfl #[.slice Ao9 t301.length co9, .int .i64 t302, .int .i64 t303] rfl (by (try simp only [List.map_toArray, List.map_cons, List.map_nil]); first | done | rfl | (simp only [List.length_drop, List.length_take]; rfl)) ?_; (with_reducible refine (spec_Deal.calls k _ _ t301 t302 t303 t306 t307 _ ?side1 ?side2 A5.out).mono ?_); (case side1 => repeat (first | exact (Kd.R_reads' HO305.out).2.2 | (with_reducible refine Kd.C_alloc ?_ _) | (with_reducible refine Kd.C_drewN ?_ _) | (with_reducible refine Kd.C_drew ?_))); (case side2 => exact (Kd.R_reads' HO305.out).2.1); rintro e w10 ⟨v308, rfl, ho0, hb⟩; refine ⟨_, rfl, ?_⟩; have n0_ := Aside0.mk (Kd.R_below (by (with_reducible repeat (first | apply Kd.R_alloc | apply Kd.R_drewN | apply Kd.R_drew)); exact HO305.out) hb); have n1_ := Aside0.mk (Kd.R_lower ho0 (below_size (by repeat (first | (with_reducible first | exact HB.out | apply below_alloc | apply pw_below_drewN | apply below_drew1) | exact HB.out)))); have n2_ := Aside0.mk (below_step (by repeat (first | (with_reducible first | exact HB.out | apply below_alloc | apply pw_below_drewN | apply below_drew1) | exact HB.out)) hb); clear HO305; clear HB; have HO305 := n0_; have HO309 := n1_; have HB := n2_; clear n0_ n1_ n2_; (try clear hb); (try clear hb2); (try clear hk); (try clear hi); (try clear ho0)) | ((with_reducible refine gate_callee (f := 12) rfl ?_); refine goesL_ (some 32) rfl rfl Try.func12 (by kernel_rfl) rfl #[.slice Ao9 t301.length co9, .int .i64 t302, .int .i64 t303] rfl (by (try simp only [List.map_toArray, List.map_cons, List.map_nil]); first | done | rfl | (simp only [List.length_drop, List.length_take]; rfl)) ?_; (with_reducible refine (impl_Deal.calls k _ _ t301 t302 t303 t310 t311 _ ?side1 ?side2 A6.out).mono ?_); (case side1 => repeat (first | exact (Kd.R_reads' HO305.out).2.2 | (with_reducible refine Kd.C_alloc ?_ _) | (with_reducible refine Kd.C_drewN ?_ _) | (with_reducible refine Kd.C_drew ?_))); (case side2 => exact (Kd.R_reads' HO305.out).2.1); rintro e w11 ⟨v312, rfl, ho0, hb⟩; refine ⟨_, rfl, ?_⟩; have n0_ := Aside0.mk (Kd.R_below (by (with_reducible repeat (first | apply Kd.R_alloc | apply Kd.R_drewN | apply Kd.R_drew)); exact HO305.out) hb); have n1_ := Aside0.mk (Kd.R_elder' (by (with_reducible repeat (first | apply Kd.R_alloc | apply Kd.R_drewN | apply Kd.R_drew)); exact HO309.out) (Kd.R_base ho0) hb); have n2_ := Aside0.mk (Kd.R_lower (Kd.R_new' ho0 (Kd.R_lt (by (with_reducible repeat (first | apply Kd.R_alloc | apply Kd.R_drewN | apply Kd.R_drew)); exact HO309.out))) (below_size (by repeat (first | (with_reducible first | exact HB.out | apply below_alloc | apply pw_below_drewN | apply below_drew1) | exact HB.out)))); have n3_ := Aside0.mk (below_step (by repeat (first | (with_reducible first | exact HB.out | apply below_alloc | apply pw_below_drewN | apply below_drew1) | exact HB.out)) hb); clear HO305; clear HO309; clear HB; have HO305 := n0_; have HO309 := n1_; have HO313 := n2_; have HB := n3_; clear n0_ n1_ n2_ n3_; (try clear hb); (try clear hb2); (try clear hk); (try clear hi); (try clear ho0)))
   go_ret
   exact ⟨by first | rfl | (simp [errW_none, errW_some] <;> rfl) | (simp [*, errW_none, errW_some] <;> rfl), by repeat (first | (with_reducible first | exact HB.out | apply below_alloc | apply pw_below_drewN | apply below_drew1) | exact HB.out)⟩
  ·rw [if_neg c7] at H
   have c7b0 : (t311 != t307) = false := by simpa using c7
   (try (have c7b1 : decide (t311 = t307) = true := by simpa using c7))
   (try (have c7b2 : (t311 == t307) = true := by simpa using c7))
   clear c7
   by_cases c12 : t307 = true
   ·subst c12
    have H1 : (if (t310.length : Int) = (t301.length : Int) then (if 0 ≤ t303 then (if (t303 : Int).toNat ≤ 35184372088832 then (laws_FnDealt.l0 k t301 t302 t303 t310 (List.replicate (t303 : Int).toNat 0) 0) else (none)) else (none)) else (some false)) = some r := by rw [if_pos rfl] at H; exact H
    clear H
    have H := H1
    clear H1
    by_cases c13 : (t310.length : Int) = (t301.length : Int)
    ·rw [if_pos c13] at H
     have c13b0 : ((t310.length : Int) == (t301.length : Int)) = true := beq_iff_eq.mpr c13
     have c13b1 : ((t310.length : Int) != (t301.length : Int)) = false := bne_eq_false_iff_eq.mpr c13
     have c13b2 : (t310.length == t301.length) = true := by first | simpa using c13 | (simp at c13 ⊢; omega)
     clear c13
     by_cases c14 : 0 ≤ t303
     ·rw [if_pos c14] at H
      have c14b0 := eq_true c14
      have c14b1 : decide (0 ≤ t303) = true := decide_eq_true c14
      clear c14
      by_cases c15 : (t303 : Int).toNat ≤ 35184372088832
      ·rw [if_pos c15] at H
       have c15b0 := eq_true c15
       have c15b1 : decide ((t303 : Int).toNat ≤ 35184372088832) = true := decide_eq_true c15
       clear c15
       obtain ⟨y314, hy314⟩ : ∃ y_ : List Int, y_ = (List.replicate (t303 : Int).toNat 0) := ⟨_, rfl⟩
       replace H : (laws_FnDealt.l0 k t301 t302 t303 t310 y314 0) = some r := by first | (rw [hy314]; with_reducible exact H) | (have H2_ := (Option.bind_some _ _).symm.trans H; rw [hy314]; with_reducible exact H2_) | (have H2_ := (Option.bind_some _ _).symm.trans H; with_reducible exact H2_) | with_reducible exact H | (rw [hy314]; exact H) | exact H
       have Ny314 := Aside0.mk hy314
       clear hy314
       have H' := Aside0.mk H
       clear H
       go_enter Try.func3, Try.ntmps3
       go_wp2_with (first | ((with_reducible refine gate_callee (f := 9) rfl ?_); refine goesL_ (some 14) rfl rfl Try.func9 (by kernel_rfl) rfl #[.slice A0 l0.length c0] rfl (by (try simp only [List.map_toArray, List.map_cons, List.map_nil]); first | done | rfl | (simp only [List.length_drop, List.length_take]; rfl)) ?_; (with_reducible refine (laws_big.calls _ _ l0 false _ ?side1 ?side2 A2.out).mono ?_); (case side1 => repeat (first | exact HR0.out | (with_reducible refine Kd.C_alloc ?_ _) | (with_reducible refine Kd.C_drewN ?_ _) | (with_reducible refine Kd.C_drew ?_))); (case side2 => exact HC0.out); rintro e w' ⟨rfl, ⟨nd, rfl⟩⟩; refine ⟨_, rfl, ?_⟩) | ((with_reducible refine gate_callee (f := 10) rfl ?_); refine goesL_ (some 17) rfl rfl Try.func10 (by kernel_rfl) rfl #[.slice A0 l0.length c0] rfl (by (try simp only [List.map_toArray, List.map_cons, List.map_nil]); first | done | rfl | (simp only [List.length_drop, List.length_take]; rfl)) ?_; (with_reducible refine (spec_DrawDeal.calls k _ _ l0 t301 t302 t303 _ ?side1 ?side2 A4.out).mono ?_); (case side1 => repeat (first | exact HR0.out | (with_reducible refine Kd.C_alloc ?_ _) | (with_reducible refine Kd.C_drewN ?_ _) | (with_reducible refine Kd.C_drew ?_))); (case side2 => exact HC0.out); rintro e w16 ⟨v304, rfl, ho0, hb⟩; refine ⟨_, rfl, ?_⟩; have n0_ := Aside0.mk (Kd.R_lower ho0 (below_size (by repeat (first | (with_reducible first | exact HB.out | apply below_alloc | apply pw_below_drewN | apply below_drew1) | exact HB.out)))); have n1_ := Aside0.mk (below_step (by repeat (first | (with_reducible first | exact HB.out | apply below_alloc | apply pw_below_drewN | apply below_drew1) | exact HB.out)) hb); clear HB; have HO305 := n0_; have HB := n1_; clear n0_ n1_; (try clear hb); (try clear hb2); (try clear hk); (try clear hi); (try clear ho0); obtain ⟨Ao17, co17, eo17⟩ := Kd.R_slice HO305.out; subst eo17) | ((with_reducible refine gate_callee (f := 11) rfl ?_); refine goesL_ (some 25) rfl rfl Try.func11 (by kernel_rfl) rfl #[.slice Ao17 t301.length co17, .int .i64 t302, .int .i64 t303] rfl (by (try simp only [List.map_toArray, List.map_cons, List.map_nil]); first | done | rfl | (simp only [List.length_drop, List.length_take]; rfl)) ?_; (with_reducible refine (spec_Deal.calls k _ _ t301 t302 t303 t306 true _ ?side1 ?side2 A5.out).mono ?_); (case side1 => repeat (first | exact (Kd.R_reads' HO305.out).2.2 | (with_reducible refine Kd.C_alloc ?_ _) | (with_reducible refine Kd.C_drewN ?_ _) | (with_reducible refine Kd.C_drew ?_))); (case side2 => exact (Kd.R_reads' HO305.out).2.1); rintro e w18 ⟨v308, rfl, ho0, hb⟩; refine ⟨_, rfl, ?_⟩; have n0_ := Aside0.mk (Kd.R_below (by (with_reducible repeat (first | apply Kd.R_alloc | apply Kd.R_drewN | apply Kd.R_drew)); exact HO305.out) hb); have n1_ := Aside0.mk (Kd.R_lower ho0 (below_size (by repeat (first | (with_reducible first | exact HB.out | apply below_alloc | apply pw_below_drewN | apply below_drew1) | exact HB.out)))); have n2_ := Aside0.mk (below_step (by repeat (first | (with_reducible first | exact HB.out | apply below_alloc | apply pw_below_drewN | apply below_drew1) | exact HB.out)) hb); clear HO305; clear HB; have HO305 := n0_; have HO309 := n1_; have HB := n2_; clear n0_ n1_ n2_; (try clear hb); (try clear hb2); (try clear hk); (try clear hi); (try clear ho0)) | ((with_reducible refine gate_callee (f := 12) rfl ?_); refine goesL_ (some 32) rfl rfl Try.func12 (by kernel_rfl) rfl #[.slice Ao17 t301.length co17, .int .i64 t302, .int .i64 t303] rfl (by (try simp only [List.map_toArray, List.map_cons, List.map_nil]); first | done | rfl | (simp only [List.length_drop, List.length_take]; rfl)) ?_; (with_reducible refine (impl_Deal.calls k _ _ t301 t302 t303 t310 t311 _ ?side1 ?side2 A6.out).mono ?_); (case side1 => repeat (first | exact (Kd.R_reads' HO305.out).2.2 | (with_reducible refine Kd.C_alloc ?_ _) | (with_reducible refine Kd.C_drewN ?_ _) | (with_reducible refine Kd.C_drew ?_))); (case side2 => exact (Kd.R_reads' HO305.out).2.1); rintro e w19 ⟨v312, rfl, ho0, hb⟩; refine ⟨_, rfl, ?_⟩; have n0_ := Aside0.mk (Kd.R_below (by (with_reducible repeat (first | apply Kd.R_alloc | apply Kd.R_drewN | apply Kd.R_drew)); exact HO305.out) hb); have n1_ := Aside0.mk (Kd.R_elder' (by (with_reducible repeat (first | apply Kd.R_alloc | apply Kd.R_drewN | apply Kd.R_drew)); exact HO309.out) (Kd.R_base ho0) hb); have n2_ := Aside0.mk (Kd.R_lower (Kd.R_new' ho0 (Kd.R_lt (by (with_reducible repeat (first | apply Kd.R_alloc | apply Kd.R_drewN | apply Kd.R_drew)); exact HO309.out))) (below_size (by repeat (first | (with_reducible first | exact HB.out | apply below_alloc | apply pw_below_drewN | apply below_drew1) | exact HB.out)))); have n3_ := Aside0.mk (below_step (by repeat (first | (with_reducible first | exact HB.out | apply below_alloc | apply pw_below_drewN | apply below_drew1) | exact HB.out)) hb); clear HO305; clear HO309; clear HB; have HO305 := n0_; have HO309 := n1_; have HO313 := n2_; have HB := n3_; clear n0_ n1_ n2_ n3_; (try clear hb); (try clear hb2); (try clear hk); (try clear hi); (try clear ho0); obtain ⟨Ao20, co20, eo20⟩ := Kd.R_slice HO313.out; subst eo20) | ((with_reducible refine gate_dst (N := 49) rfl ?_); refine Kd.R_make (Kd.int .i64) _ 2 rfl (N := 49) rfl 27 _ _ rfl t303 rfl rfl Try.underlying27 (.int .i64 0) 8 info2 rfl (by decide) (by omega) 0 (ok := fun _ => True) (okp := fun _ => True) rfl (fun _ hk => hk) trivial (of_decide_eq_true (by first | (with_reducible assumption) | assumption)) (Nat.le_trans (Nat.mul_le_mul_right _ (of_decide_eq_true (by first | (with_reducible assumption) | assumption) : t303.toNat ≤ 35184372088832)) (by omega)) (Below.refl _ _) (Nat.le_refl _) ?_; intro v315 w21 ho22 hb hg_ hnew_; clear hg_ hnew_; (first | rw [← Ny314.out] at ho22 | (simp only [Int.reduceToNat] at ho22; rw [← Ny314.out] at ho22)); have n0_ := Aside0.mk (Kd.R_below (by (with_reducible repeat (first | apply Kd.R_alloc | apply Kd.R_drewN | apply Kd.R_drew)); exact HO305.out) hb); have n1_ := Aside0.mk (Kd.R_elder' (by (with_reducible repeat (first | apply Kd.R_alloc | apply Kd.R_drewN | apply Kd.R_drew)); exact HO309.out) (Kd.R_base ho22) hb); have n2_ := Aside0.mk (Kd.R_elder' (by (with_reducible repeat (first | apply Kd.R_alloc | apply Kd.R_drewN | apply Kd.R_drew)); exact HO313.out) (Kd.R_base ho22) hb); have n3_ := Aside0.mk (Kd.R_lower (Kd.R_new' (Kd.R_new' ho22 (Kd.R_lt (by (with_reducible repeat (first | apply Kd.R_alloc | apply Kd.R_drewN | apply Kd.R_drew)); exact HO309.out))) (Kd.R_lt (by (with_reducible repeat (first | apply Kd.R_alloc | apply Kd.R_drewN | apply Kd.R_drew)); exact HO313.out))) (below_size (by repeat (first | (with_reducible first | exact HB.out | apply below_alloc | apply pw_below_drewN | apply below_drew1) | exact HB.out)))); have n4_ := Aside0.mk (below_step (by repeat (first | (with_reducible first | exact HB.out | apply below_alloc | apply pw_below_drewN | apply below_drew1) | exact HB.out)) hb); clear HO305; clear HO309; clear HO313; clear HB; have HO305 := n0_; have HO309 := n1_; have HO313 := n2_; have HO316 := n3_; have HB := n4_; clear n0_ n1_ n2_ n3_ n4_; clear hb ho22))
       go_loopg [11] k (fun kq v11 w' => ∃ (x10_1 : List Int) (x11_1 : Int), v11 = .int .i64 x11_1 ∧ Aside0 (laws_FnDealt.l0 kq t301 t302 t303 t310 x10_1 x11_1 = some r) ∧ Aside0 (kq ≤ k) ∧ Aside0 (Kd.R k31 31 w' w.heap.size (fun _ => True) (.slice Ao17 t301.length co17) t301) ∧ Aside0 (Kd.R (Kd.int .i64) 2 w' w.heap.size (fun k_ => some k_ ≠ (v315 : Value).ownBlock) (.slice Ao20 t310.length co20) t310) ∧ Aside0 (Kd.R (Kd.int .i64) 2 w' w.heap.size (fun k_ => some k_ ≠ ((.slice Ao20 t310.length co20) : Value).ownBlock) v315 x10_1) ∧ Aside0 (Below w.heap.size w w'))
       case atStart => exact ⟨(y314), (0), (by first | rfl | (simp; done) | (simp [*]; done)), H', ⟨Nat.le_refl _⟩, ⟨by (with_reducible repeat (first | apply Kd.R_alloc | apply Kd.R_drewN | apply Kd.R_drew)); exact HO305.out⟩, ⟨by (with_reducible repeat (first | apply Kd.R_alloc | apply Kd.R_drewN | apply Kd.R_drew)); exact Kd.R_mono HO313.out (fun _ hk => hk.2)⟩, ⟨by (with_reducible repeat (first | apply Kd.R_alloc | apply Kd.R_drewN | apply Kd.R_drew)); exact Kd.R_mono HO316.out (fun _ hk => hk.2)⟩, ⟨by repeat (first | (with_reducible first | exact HB.out | apply below_alloc | apply pw_below_drewN | apply below_drew1) | exact HB.out)⟩⟩
       case round =>
        clear H'
        try clear c1
        try clear p2
        try clear c3
        try clear c7
        try clear c7b0
        try clear c7b1
        try clear c7b2
        try clear c9
        try clear c10
        try clear c11
        try clear c12
        try clear c13
        try clear c13b0
        try clear c13b1
        try clear c13b2
        try clear c14
        try clear c14b0
        try clear c14b1
        try clear c15
        try clear c15b0
        try clear c15b1
        obtain ⟨x10_1, x11_1, rfl, HA, HK1, HO_3, HO_8, HO_10, HB⟩ := hrel
        cases gk with
        | zero => exact absurd HA.out (by simp [laws_FnDealt.l0])
        | succ k1 =>
         have H := HA.out
         clear HA
         simp only [laws_FnDealt.l0] at H
         by_cases c23 : x11_1 < (t310.length : Int)
         ·rw [if_pos c23] at H
          have c23b0 : decide (x11_1 < (t310.length : Int)) = true := decide_eq_true c23
          clear c23
          have HC24 := Aside0.mk H
          clear H
          go_upto_region 16 with (fail)
          go_cut [68] (fun v68 wc => ∃ (kq : Nat) (x68_23 : Bool), v68 = .bool x68_23 ∧ Aside0 (laws_FnDealt.j1 kq t301 t302 t303 t310 x10_1 x11_1 x68_23 = some r) ∧ Aside0 (kq ≤ k1) ∧ Aside0 (Kd.R k31 31 wc w.heap.size (fun _ => True) (.slice Ao17 t301.length co17) t301) ∧ Aside0 (Kd.R (Kd.int .i64) 2 wc w.heap.size (fun k_ => some k_ ≠ (v315 : Value).ownBlock) (.slice Ao20 t310.length co20) t310) ∧ Aside0 (Kd.R (Kd.int .i64) 2 wc w.heap.size (fun k_ => some k_ ≠ ((.slice Ao20 t310.length co20) : Value).ownBlock) v315 x10_1) ∧ Aside0 (Below w.heap.size w wc))
          case first =>
           have H := HC24.out
           clear HC24
           by_cases c25 : 0 ≤ x11_1
           ·rw [if_pos c25] at H
            have c25b0 : decide (0 ≤ x11_1) = true := decide_eq_true c25
            clear c25
            (first | rw [c25b0] | (simp only [i64_w, i32_w]; rw [c25b0]) | skip)
            by_cases c26 : (rd t310 x11_1) < (-1)
            ·rw [if_pos c26] at H
             have c26b0 : decide ((rd t310 x11_1) < (-1)) = true := decide_eq_true c26
             clear c26
             have H' := Aside0.mk H
             clear H
             have p317 : 0 ≤ (x11_1 : Int) := of_decide_eq_true (by first | (with_reducible assumption) | assumption)
             have q317 : x11_1 < (t310.length : Int) := of_decide_eq_true (by first | (with_reducible assumption) | assumption)
             obtain ⟨ad317, e317, hx317_0⟩ := Kd.at_int (Kd.R_reads' HO_8.out).2.2 x11_1 p317 q317
             cases e317
             replace p317 := eq_true p317
             replace q317 := eq_true q317
             go_wp2
             go_meet
             case rel => exact ⟨_, (true), (by first | rfl | (simp; done) | (simp [*]; done)), H', ⟨by have := HK1.out; first | omega | exact Nat.le_refl _⟩, ⟨by (with_reducible repeat (first | apply Kd.R_alloc | apply Kd.R_drewN | apply Kd.R_drew)); exact HO_3.out⟩, ⟨by (with_reducible repeat (first | apply Kd.R_alloc | apply Kd.R_drewN | apply Kd.R_drew)); exact HO_8.out⟩, ⟨by (with_reducible repeat (first | apply Kd.R_alloc | apply Kd.R_drewN | apply Kd.R_drew)); exact HO_10.out⟩, ⟨by repeat (first | (with_reducible first | exact HB.out | apply below_alloc | apply pw_below_drewN | apply below_drew1) | exact HB.out)⟩⟩
            ·rw [if_neg c26] at H
             have c26b0 : decide ((rd t310 x11_1) < (-1)) = false := decide_eq_false c26
             clear c26
             have H' := Aside0.mk H
             clear H
             have p317 : 0 ≤ (x11_1 : Int) := of_decide_eq_true (by first | (with_reducible assumption) | assumption)
             have q317 : x11_1 < (t310.length : Int) := of_decide_eq_true (by first | (with_reducible assumption) | assumption)
             obtain ⟨ad317, e317, hx317_0⟩ := Kd.at_int (Kd.R_reads' HO_8.out).2.2 x11_1 p317 q317
             cases e317
             replace p317 := eq_true p317
             replace q317 := eq_true q317
             have p318 : 0 ≤ (x11_1 : Int) := of_decide_eq_true (by first | (with_reducible assumption) | assumption)
             have q318 : x11_1 < (t310.length : Int) := of_decide_eq_true (by first | (with_reducible assumption) | assumption)
             obtain ⟨ad318, e318, hx318_0⟩ := Kd.at_int (Kd.R_reads' HO_8.out).2.2 x11_1 p318 q318
             obtain rfl : ad317 = ad318 := (by injection e318)
             replace p318 := eq_true p318
             replace q318 := eq_true q318
             go_wp2
             go_meet
             case rel => exact ⟨_, (decide ((rd t310 x11_1) ≥ t303)), (by first | rfl | (simp; done) | (simp [*]; done)), H', ⟨by have := HK1.out; first | omega | exact Nat.le_refl _⟩, ⟨by (with_reducible repeat (first | apply Kd.R_alloc | apply Kd.R_drewN | apply Kd.R_drew)); exact HO_3.out⟩, ⟨by (with_reducible repeat (first | apply Kd.R_alloc | apply Kd.R_drewN | apply Kd.R_drew)); exact HO_8.out⟩, ⟨by (with_reducible repeat (first | apply Kd.R_alloc | apply Kd.R_drewN | apply Kd.R_drew)); exact HO_10.out⟩, ⟨by repeat (first | (with_reducible first | exact HB.out | apply below_alloc | apply pw_below_drewN | apply below_drew1) | exact HB.out)⟩⟩
           ·rw [if_neg c25] at H
            exact absurd H (by simp)
          case rest =>
           clear HC24
           try clear c1
           try clear c2
           try clear p2
           try clear c3
           try clear p3
           try clear q3
           try clear hx3
           try clear c7
           try clear c7b0
           try clear c7b1
           try clear c7b2
           try clear c9
           try clear c10
           try clear c11
           try clear c12
           try clear c13
           try clear c13b0
           try clear c13b1
           try clear c13b2
           try clear c14
           try clear c14b0
           try clear c14b1
           try clear c15
           try clear c15b0
           try clear c15b1
           try clear c23
           try clear c23b0
           try clear c25
           try clear c25b0
           try clear c26
           try clear c26b0
           try clear hx317_0
           try clear hx318_0
           try clear p2
           try clear p317
           try clear p318
           try clear q317
           try clear q318
           obtain ⟨kq, x68_23, rfl, HA, HJ23, HO_3, HO_8, HO_10, HB⟩ := hcut
           cases kq with
           | zero => exact absurd HA.out (by simp [laws_FnDealt.j1])
           | succ kj23 =>
            have H := HA.out
            clear HA
            simp only [laws_FnDealt.j1] at H
            by_cases c27 : x68_23 = true
            ·subst c27
             have H1 : (some false) = some r := by rw [if_pos rfl] at H; exact H
             clear H
             have H := H1
             clear H1
             obtain rfl := Option.some.inj H
             go_wp2
             go_ret
             exact ⟨by first | rfl | (simp [errW_none, errW_some] <;> rfl) | (simp [*, errW_none, errW_some] <;> rfl), by repeat (first | (with_reducible first | exact HB.out | apply below_alloc | apply pw_below_drewN | apply below_drew1) | exact HB.out)⟩
            ·replace c27 := Bool.eq_false_iff.mpr c27
             subst c27
             have H1 : (laws_FnDealt.l1 kj23 t301 t302 t303 t310 x10_1 x11_1 0) = some r := by rw [if_neg (show ¬ (false = true) by decide)] at H; exact H
             clear H
             have H := H1
             clear H1
             have H' := Aside0.mk H
             clear H
             go_wp2
             go_loopg [12] kj23 (fun kq v12 w' => ∃ (x12_3 : Int), v12 = .int .i64 x12_3 ∧ Aside0 (laws_FnDealt.l1 kq t301 t302 t303 t310 x10_1 x11_1 x12_3 = some r) ∧ Aside0 (kq ≤ kj23) ∧ Aside0 (Kd.R k31 31 w' w.heap.size (fun _ => True) (.slice Ao17 t301.length co17) t301) ∧ Aside0 (Kd.R (Kd.int .i64) 2 w' w.heap.size (fun k_ => some k_ ≠ (v315 : Value).ownBlock) (.slice Ao20 t310.length co20) t310) ∧ Aside0 (Kd.R (Kd.int .i64) 2 w' w.heap.size (fun k_ => some k_ ≠ ((.slice Ao20 t310.length co20) : Value).ownBlock) v315 x10_1) ∧ Aside0 (Below w.heap.size w w'))
             case atStart => exact ⟨(0), (by first | rfl | (simp; done) | (simp [*]; done)), H', ⟨Nat.le_refl _⟩, ⟨by (with_reducible repeat (first | apply Kd.R_alloc | apply Kd.R_drewN | apply Kd.R_drew)); exact HO_3.out⟩, ⟨by (with_reducible repeat (first | apply Kd.R_alloc | apply Kd.R_drewN | apply Kd.R_drew)); exact HO_8.out⟩, ⟨by (with_reducible repeat (first | apply Kd.R_alloc | apply Kd.R_drewN | apply Kd.R_drew)); exact HO_10.out⟩, ⟨by repeat (first | (with_reducible first | exact HB.out | apply below_alloc | apply pw_below_drewN | apply below_drew1) | exact HB.out)⟩⟩
             case round =>
              clear H'
              try clear c1
              try clear c2
              try clear p2
              try clear c3
              try clear p3
              try clear q3
              try clear hx3
              try clear c7
              try clear c7b0
              try clear c7b1
              try clear c7b2
              try clear c9
              try clear c10
              try clear c11
              try clear c12
              try clear c13
              try clear c13b0
              try clear c13b1
              try clear c13b2
              try clear c14
              try clear c14b0
              try clear c14b1
              try clear c15
              try clear c15b0
              try clear c15b1
              try clear c23
              try clear c23b0
              try clear c25
              try clear c25b0
              try clear c26
              try clear c26b0
              try clear c27
              try clear hx317_0
              try clear hx318_0
              try clear p2
              try clear p3
              try clear p317
              try clear p318
              try clear q3
              try clear q317
              try clear q318
              obtain ⟨x12_3, rfl, HA, HK3, HO_3, HO_8, HO_10, HB⟩ := hrel
              cases gk with
              | zero => exact absurd HA.out (by simp [laws_FnDealt.l1])
              | succ k3 =>
               have H := HA.out
               clear HA
               simp only [laws_FnDealt.l1] at H
               have HC28 := Aside0.mk H
               clear H
               go_upto_region 19 with (fail)
               go_cut [86] (fun v86 wc => ∃ (kq : Nat) (x86_27 : Bool), v86 = .bool x86_27 ∧ Aside0 (laws_FnDealt.j3 kq t301 t302 t303 t310 x10_1 x11_1 x12_3 x86_27 = some r) ∧ Aside0 (kq ≤ k3) ∧ Aside0 (Kd.R k31 31 wc w.heap.size (fun _ => True) (.slice Ao17 t301.length co17) t301) ∧ Aside0 (Kd.R (Kd.int .i64) 2 wc w.heap.size (fun k_ => some k_ ≠ (v315 : Value).ownBlock) (.slice Ao20 t310.length co20) t310) ∧ Aside0 (Kd.R (Kd.int .i64) 2 wc w.heap.size (fun k_ => some k_ ≠ ((.slice Ao20 t310.length co20) : Value).ownBlock) v315 x10_1) ∧ Aside0 (Below w.heap.size w wc))
               case first =>
                have H := HC28.out
                clear HC28
                by_cases c29 : x12_3 < t303
                ·rw [if_pos c29] at H
                 have c29b0 : decide (x12_3 < t303) = true := decide_eq_true c29
                 clear c29
                 (first | rw [c29b0] | (simp only [i64_w, i32_w]; rw [c29b0]) | skip)
                 by_cases c30 : 0 ≤ x11_1
                 ·rw [if_pos c30] at H
                  have c30b0 : decide (0 ≤ x11_1) = true := decide_eq_true c30
                  clear c30
                  by_cases c31 : x11_1 < (t310.length : Int)
                  ·rw [if_pos c31] at H
                   have c31b0 : decide (x11_1 < (t310.length : Int)) = true := decide_eq_true c31
                   clear c31
                   by_cases c32 : (rd t310 x11_1) < 0
                   ·rw [if_pos c32] at H
                    have c32b0 : decide ((rd t310 x11_1) < 0) = true := decide_eq_true c32
                    clear c32
                    have H' := Aside0.mk H
                    clear H
                    have p319 : 0 ≤ (x11_1 : Int) := of_decide_eq_true (by first | (with_reducible assumption) | assumption)
                    have q319 : x11_1 < (t310.length : Int) := of_decide_eq_true (by first | (with_reducible assumption) | assumption)
                    obtain ⟨ad319, e319, hx319_0⟩ := Kd.at_int (Kd.R_reads' HO_8.out).2.2 x11_1 p319 q319
                    cases e319
                    replace p319 := eq_true p319
                    replace q319 := eq_true q319
                    go_wp2
                    go_meet
                    case rel => exact ⟨_, (true), (by first | rfl | (simp; done) | (simp [*]; done)), H', ⟨by have := HK1.out; have := HJ23.out; have := HK3.out; first | omega | exact Nat.le_refl _⟩, ⟨by (with_reducible repeat (first | apply Kd.R_alloc | apply Kd.R_drewN | apply Kd.R_drew)); exact HO_3.out⟩, ⟨by (with_reducible repeat (first | apply Kd.R_alloc | apply Kd.R_drewN | apply Kd.R_drew)); exact HO_8.out⟩, ⟨by (with_reducible repeat (first | apply Kd.R_alloc | apply Kd.R_drewN | apply Kd.R_drew)); exact HO_10.out⟩, ⟨by repeat (first | (with_reducible first | exact HB.out | apply below_alloc | apply pw_below_drewN | apply below_drew1) | exact HB.out)⟩⟩
                   ·rw [if_neg c32] at H
                    have c32b0 : decide ((rd t310 x11_1) < 0) = false := decide_eq_false c32
                    clear c32
                    have H' := Aside0.mk H
                    clear H
                    have p319 : 0 ≤ (x11_1 : Int) := of_decide_eq_true (by first | (with_reducible assumption) | assumption)
                    have q319 : x11_1 < (t310.length : Int) := of_decide_eq_true (by first | (with_reducible assumption) | assumption)
                    obtain ⟨ad319, e319, hx319_0⟩ := Kd.at_int (Kd.R_reads' HO_8.out).2.2 x11_1 p319 q319
                    cases e319
                    replace p319 := eq_true p319
                    replace q319 := eq_true q319
                    have p320 : 0 ≤ (x11_1 : Int) := of_decide_eq_true (by first | (with_reducible assumption) | assumption)
                    have q320 : x11_1 < (t310.length : Int) := of_decide_eq_true (by first | (with_reducible assumption) | assumption)
                    obtain ⟨ad320, e320, hx320_0⟩ := Kd.at_int (Kd.R_reads' HO_8.out).2.2 x11_1 p320 q320
                    obtain rfl : ad319 = ad320 := (by injection e320)
                    replace p320 := eq_true p320
                    replace q320 := eq_true q320
                    go_wp2
                    go_meet
                    case rel => exact ⟨_, (decide (x12_3 < (rd t310 x11_1))), (by first | rfl | (simp; done) | (simp [*]; done)), H', ⟨by have := HK1.out; have := HJ23.out; have := HK3.out; first | omega | exact Nat.le_refl _⟩, ⟨by (with_reducible repeat (first | apply Kd.R_alloc | apply Kd.R_drewN | apply Kd.R_drew)); exact HO_3.out⟩, ⟨by (with_reducible repeat (first | apply Kd.R_alloc | apply Kd.R_drewN | apply Kd.R_drew)); exact HO_8.out⟩, ⟨by (with_reducible repeat (first | apply Kd.R_alloc | apply Kd.R_drewN | apply Kd.R_drew)); exact HO_10.out⟩, ⟨by repeat (first | (with_reducible first | exact HB.out | apply below_alloc | apply pw_below_drewN | apply below_drew1) | exact HB.out)⟩⟩
                  ·rw [if_neg c31] at H
                   exact absurd H (by simp)
                 ·rw [if_neg c30] at H
                  exact absurd H (by simp)
                ·rw [if_neg c29] at H
                 have c29b0 : decide (x12_3 < t303) = false := decide_eq_false c29
                 clear c29
                 (first | rw [c29b0] | (simp only [i64_w, i32_w]; rw [c29b0]) | skip)
                 have H' := Aside0.mk H
                 clear H
                 go_wp2
                 go_meet
                 case rel => exact ⟨_, (false), (by first | rfl | (simp; done) | (simp [*]; done)), H', ⟨by have := HK1.out; have := HJ23.out; have := HK3.out; first | omega | exact Nat.le_refl _⟩, ⟨by (with_reducible repeat (first | apply Kd.R_alloc | apply Kd.R_drewN | apply Kd.R_drew)); exact HO_3.out⟩, ⟨by (with_reducible repeat (first | apply Kd.R_alloc | apply Kd.R_drewN | apply Kd.R_drew)); exact HO_8.out⟩, ⟨by (with_reducible repeat (first | apply Kd.R_alloc | apply Kd.R_drewN | apply Kd.R_drew)); exact HO_10.out⟩, ⟨by repeat (first | (with_reducible first | exact HB.out | apply below_alloc | apply pw_below_drewN | apply below_drew1) | exact HB.out)⟩⟩
               case rest =>
                clear HC28
                try clear c1
                try clear c2
                try clear p2
                try clear c3
                try clear p3
                try clear q3
                try clear hx3
                try clear c7
                try clear c7b0
                try clear c7b1
                try clear c7b2
                try clear c9
                try clear c10
                try clear c11
                try clear c12
                try clear c13
                try clear c13b0
                try clear c13b1
                try clear c13b2
                try clear c14
                try clear c14b0
                try clear c14b1
                try clear c15
                try clear c15b0
                try clear c15b1
                try clear c23
                try clear c23b0
                try clear c25
                try clear c25b0
                try clear c26
                try clear c26b0
                try clear c27
                try clear c29
                try clear c29b0
                try clear c30
                try clear c30b0
                try clear c31
                try clear c31b0
                try clear p31
                try clear q31
                try clear hx31
                try clear c32
                try clear c32b0
                try clear p32
                try clear q32
                try clear hx32
                try clear hx317_0
                try clear hx318_0
                try clear hx319_0
                try clear hx320_0
                try clear p2
                try clear p3
                try clear p317
                try clear p318
                try clear p319
                try clear p320
                try clear q3
                try clear q317
                try clear q318
                try clear q319
                try clear q320
                obtain ⟨kq, x86_27, rfl, HA, HJ27, HO_3, HO_8, HO_10, HB⟩ := hcut
                cases kq with
                | zero => exact absurd HA.out (by simp [laws_FnDealt.j3])
                | succ kj27 =>
                 have H := HA.out
                 clear HA
                 simp only [laws_FnDealt.j3] at H
                 by_cases c33 : x86_27 = true
                 ·subst c33
                  have H1 : (if 0 ≤ x12_3 then (if x12_3 < (x10_1.length : Int) then (if 0 ≤ x11_1 then (if x11_1 < (t301.length : Int) then (if (wrap64 ((rd x10_1 x12_3) + ((rd_T31 t301 x11_1).f4))) ≤ t302 then (some false) else (laws_FnDealt.l1 kj27 t301 t302 t303 t310 x10_1 x11_1 (wrap64 (x12_3 + 1)))) else (none)) else (none)) else (none)) else (none)) = some r := by rw [if_pos rfl] at H; exact H
                  clear H
                  have H := H1
                  clear H1
                  by_cases c34 : 0 ≤ x12_3
                  ·rw [if_pos c34] at H
                   have c34b0 : decide (0 ≤ x12_3) = true := decide_eq_true c34
                   clear c34
                   by_cases c35 : x12_3 < (x10_1.length : Int)
                   ·rw [if_pos c35] at H
                    have c35b0 : decide (x12_3 < (x10_1.length : Int)) = true := decide_eq_true c35
                    clear c35
                    by_cases c36 : 0 ≤ x11_1
                    ·rw [if_pos c36] at H
                     have c36b0 : decide (0 ≤ x11_1) = true := decide_eq_true c36
                     clear c36
                     by_cases c37 : x11_1 < (t301.length : Int)
                     ·rw [if_pos c37] at H
                      have c37b0 : decide (x11_1 < (t301.length : Int)) = true := decide_eq_true c37
                      clear c37
                      by_cases c38 : (wrap64 ((rd x10_1 x12_3) + ((rd_T31 t301 x11_1).f4))) ≤ t302
                      ·rw [if_pos c38] at H
                       have c38b0 : decide ((wrap64 ((rd x10_1 x12_3) + ((rd_T31 t301 x11_1).f4))) ≤ t302) = true := decide_eq_true c38
                       clear c38
                       obtain rfl := Option.some.inj H
                       try go_wp2
                       have n0_ := Aside0.mk (Kd.R_drew HO_3.out)
                       have n1_ := Aside0.mk (Kd.R_drew HO_8.out)
                       have n2_ := Aside0.mk (Kd.R_drew HO_10.out)
                       have n3_ := Aside0.mk (below_drew1 HB.out)
                       clear HO_3
                       clear HO_8
                       clear HO_10
                       clear HB
                       have HO_3 := n0_
                       have HO_8 := n1_
                       have HO_10 := n2_
                       have HB := n3_
                       clear n0_ n1_ n2_ n3_
                       obtain ⟨Ao40, co40, eo40⟩ := Kd.R_slice HO_10.out
                       (first | subst eo40 | (injection eo40 with f1_ f2_ f3_; have f4_ := f1_.symm; have f5_ := f3_.symm; clear f1_ f2_ f3_; subst f4_; subst f5_))
                       have p321 : 0 ≤ (x12_3 : Int) := of_decide_eq_true (by first | (with_reducible assumption) | assumption)
                       have q321 : x12_3 < (x10_1.length : Int) := of_decide_eq_true (by first | (with_reducible assumption) | assumption)
                       obtain ⟨ad321, e321, hx321_0⟩ := Kd.at_int (Kd.R_reads' HO_10.out).2.2 x12_3 p321 q321
                       cases e321
                       replace p321 := eq_true p321
                       replace q321 := eq_true q321
                       have p322 : 0 ≤ (x11_1 : Int) := of_decide_eq_true (by first | (with_reducible assumption) | assumption)
                       have q322 : x11_1 < (t301.length : Int) := of_decide_eq_true (by first | (with_reducible assumption) | assumption)
                       obtain ⟨ad322, e322, hx322_0, hx322_1, hx322_2, hx322_3, hx322_4⟩ := at_T31 (Kd.R_reads' HO_3.out).2.2 x11_1 p322 q322
                       cases e322
                       replace p322 := eq_true p322
                       replace q322 := eq_true q322
                       refine start_ (n := 12) (S := fun w' => w'.cell? (ad321.add (x12_3).toNat) = some (.int .i64 (rd x10_1 x12_3)) ∧ w'.cell? (ad322.add ((x11_1).toNat * 5)) = some (.string ((rd_T31 t301 x11_1).f0)) ∧ w'.cell? ⟨(ad322.add ((x11_1).toNat * 5)).block, (ad322.add ((x11_1).toNat * 5)).off + 1, none⟩ = some (.int .i64 ((rd_T31 t301 x11_1).f1)) ∧ w'.cell? ⟨(ad322.add ((x11_1).toNat * 5)).block, (ad322.add ((x11_1).toNat * 5)).off + 2, none⟩ = some (.int .i64 ((rd_T31 t301 x11_1).f2)) ∧ w'.cell? ⟨(ad322.add ((x11_1).toNat * 5)).block, (ad322.add ((x11_1).toNat * 5)).off + 3, none⟩ = some (.int .i64 ((rd_T31 t301 x11_1).f3)) ∧ w'.cell? ⟨(ad322.add ((x11_1).toNat * 5)).block, (ad322.add ((x11_1).toNat * 5)).off + 4, none⟩ = some (.int .i64 ((rd_T31 t301 x11_1).f4))) (ds := []) #[false, false, false, false, false, false, false, false, false, false, false, false] (by kernel_rfl) rfl rfl ⟨hx321_0, hx322_0, hx322_1, hx322_2, hx322_3, hx322_4⟩ (fun hHeld => ?_); refine with_tabW laws_FnDealt.tab21 laws_FnDealt.bits21 (fun HT_ HW_ => ?_)
                       generalize wc.drew = w39 at HO_3 HO_8 HO_10 HB hx321_0 hx322_0 hx322_1 hx322_2 hx322_3 hx322_4 hHeld ⊢
                       refine pure_ (i := 0) (N := some 89) (v := ?_) (a' := ?_) #[true, false, false, false, false, false, false, false, false, false, false, false] rfl rfl (any_of HT_.out (by kernel_rfl)) (fun _ _ _ h => h) (Or.inl ⟨by rfl, ?_⟩) ?_ ?_
                       rotate_left
                       ·intro w'
                        go_simp
                        with_reducible rfl
                       rotate_left
                       ·simp only [Act.put, sqA, sqZ, sqS, i64_w, i32_w]
                        rfl
                       refine pure_ (i := 1) (N := some 90) (v := ?_) (a' := ?_) #[true, true, false, false, false, false, false, false, false, false, false, false] rfl rfl (any_of HT_.out (by kernel_rfl)) (fun _ _ _ h => h) (Or.inl ⟨by rfl, ?_⟩) ?_ ?_
                       rotate_left
                       ·intro w'
                        go_simp
                        with_reducible rfl
                       rotate_left
                       ·simp only [Act.put, sqA, sqZ, sqS, i64_w, i32_w]
                        rfl
                       refine pure_ (i := 2) (N := some 91) (v := ?_) (a' := ?_) #[true, true, true, false, false, false, false, false, false, false, false, false] rfl rfl (any_of HT_.out (by kernel_rfl)) (fun _ _ _ h => h) (Or.inl ⟨by rfl, ?_⟩) ?_ ?_
                       rotate_left
                       ·intro w'
                        go_simp
                        with_reducible rfl
                       rotate_left
                       ·simp only [Act.put, sqA, sqZ, sqS, i64_w, i32_w]
                        rfl
                       refine pure_ (i := 4) (N := some 93) (v := ?_) (a' := ?_) #[true, true, true, false, true, false, false, false, false, false, false, false] rfl rfl (any_of HT_.out (by kernel_rfl)) (fun _ _ _ h => h) (Or.inl ⟨by rfl, ?_⟩) ?_ ?_
                       rotate_left
                       ·intro w'
                        go_simp
                        with_reducible rfl
                       rotate_left
                       ·simp only [Act.put, sqA, sqZ, sqS, i64_w, i32_w]
                        rfl
                       refine pure_ (i := 5) (N := some 94) (v := ?_) (a' := ?_) #[true, true, true, false, true, true, false, false, false, false, false, false] rfl rfl (any_of HT_.out (by kernel_rfl)) (fun _ _ _ h => h) (Or.inl ⟨by rfl, ?_⟩) ?_ ?_
                       rotate_left
                       ·intro w'
                        go_simp
                        with_reducible rfl
                       rotate_left
                       ·simp only [Act.put, sqA, sqZ, sqS, i64_w, i32_w]
                        rfl
                       refine pure_ (i := 6) (N := some 95) (v := ?_) (a' := ?_) #[true, true, true, false, true, true, true, false, false, false, false, false] rfl rfl (any_of HT_.out (by kernel_rfl)) (fun _ _ _ h => h) (Or.inl ⟨by rfl, ?_⟩) ?_ ?_
                       rotate_left
                       ·intro w'
                        go_simp
                        with_reducible rfl
                       rotate_left
                       ·simp only [Act.put, sqA, sqZ, sqS, i64_w, i32_w]
                        rfl
                       refine pure_ (i := 7) (N := some 96) (v := ?_) (a' := ?_) #[true, true, true, false, true, true, true, true, false, false, false, false] rfl rfl (any_of HT_.out (by kernel_rfl)) (fun _ _ _ h => h) (Or.inl ⟨by rfl, ?_⟩) ?_ ?_
                       rotate_left
                       ·intro w'
                        go_simp
                        with_reducible rfl
                       rotate_left
                       ·simp only [Act.put, sqA, sqZ, sqS, i64_w, i32_w]
                        rfl
                       refine pure_ (i := 10) (N := some 99) (v := ?_) (a' := ?_) #[true, true, true, false, true, true, true, true, false, false, true, false] rfl rfl (any_of HT_.out (by kernel_rfl)) (fun _ _ _ h => h) (Or.inl ⟨by rfl, ?_⟩) ?_ ?_
                       rotate_left
                       ·intro w'
                        go_simp
                        with_reducible rfl
                       rotate_left
                       ·simp only [Act.put, sqA, sqZ, sqS, i64_w, i32_w]
                        rfl
                       refine take_ (i := 3) (N := some 92) (v := ?_) (a' := ?_) #[true, true, true, true, true, true, true, true, false, false, true, false] rfl rfl (take_ofW HT_.out HW_.out (by kernel_rfl)) (fun _ _ _ h => h) (Or.inl ⟨by rfl, ?_⟩) hHeld ?_ ?_
                       rotate_left
                       ·rintro w' ⟨s0, s1, s2, s3, s4, s5⟩
                        go_simp
                        with_reducible rfl
                       rotate_left
                       ·simp only [Act.put, sqA, sqZ, sqS, i64_w, i32_w]
                        rfl
                       refine take_ (i := 8) (N := some 97) (v := ?_) (a' := ?_) #[true, true, true, true, true, true, true, true, true, false, true, false] rfl rfl (take_ofW HT_.out HW_.out (by kernel_rfl)) (fun _ _ _ h => h) (Or.inl ⟨by rfl, ?_⟩) hHeld ?_ ?_
                       rotate_left
                       ·rintro w' ⟨s0, s1, s2, s3, s4, s5⟩
                        go_simp
                        with_reducible rfl
                       rotate_left
                       ·simp only [Act.put, sqA, sqZ, sqS, i64_w, i32_w]
                        rfl
                       refine pure_ (i := 9) (N := some 98) (v := ?_) (a' := ?_) #[true, true, true, true, true, true, true, true, true, true, true, false] rfl rfl (any_of HT_.out (by kernel_rfl)) (fun _ _ _ h => h) (Or.inl ⟨by rfl, ?_⟩) ?_ ?_
                       rotate_left
                       ·intro w'
                        go_simp
                        with_reducible rfl
                       rotate_left
                       ·simp only [Act.put, sqA, sqZ, sqS, i64_w, i32_w]
                        rfl
                       refine pure_ (i := 11) (N := some 100) (v := ?_) (a' := ?_) #[true, true, true, true, true, true, true, true, true, true, true, true] rfl rfl (any_of HT_.out (by kernel_rfl)) (fun _ _ _ h => h) (Or.inl ⟨by rfl, ?_⟩) ?_ ?_
                       rotate_left
                       ·intro w'
                        go_simp
                        with_reducible rfl
                       rotate_left
                       ·simp only [Act.put, sqA, sqZ, sqS, i64_w, i32_w]
                        rfl
                       refine done_ (done_of HT_.out (by kernel_rfl)) ?_
                       try go_wp2
                       go_ret
                       exact ⟨by first | rfl | (simp [errW_none, errW_some] <;> rfl) | (simp [*, errW_none, errW_some] <;> rfl), by repeat (first | (with_reducible first | exact HB.out | apply below_alloc | apply pw_below_drewN | apply below_drew1) | exact HB.out)⟩
                      ·rw [if_neg c38] at H
                       have c38b0 : decide ((wrap64 ((rd x10_1 x12_3) + ((rd_T31 t301 x11_1).f4))) ≤ t302) = false := decide_eq_false c38
                       clear c38
                       have H' := Aside0.mk H
                       clear H
                       try go_wp2
                       have n0_ := Aside0.mk (Kd.R_drew HO_3.out)
                       have n1_ := Aside0.mk (Kd.R_drew HO_8.out)
                       have n2_ := Aside0.mk (Kd.R_drew HO_10.out)
                       have n3_ := Aside0.mk (below_drew1 HB.out)
                       clear HO_3
                       clear HO_8
                       clear HO_10
                       clear HB
                       have HO_3 := n0_
                       have HO_8 := n1_
                       have HO_10 := n2_
                       have HB := n3_
                       clear n0_ n1_ n2_ n3_
                       obtain ⟨Ao42, co42, eo42⟩ := Kd.R_slice HO_10.out
                       (first | subst eo42 | (injection eo42 with f1_ f2_ f3_; have f4_ := f1_.symm; have f5_ := f3_.symm; clear f1_ f2_ f3_; subst f4_; subst f5_))
                       have p321 : 0 ≤ (x12_3 : Int) := of_decide_eq_true (by first | (with_reducible assumption) | assumption)
                       have q321 : x12_3 < (x10_1.length : Int) := of_decide_eq_true (by first | (with_reducible assumption) | assumption)
                       obtain ⟨ad321, e321, hx321_0⟩ := Kd.at_int (Kd.R_reads' HO_10.out).2.2 x12_3 p321 q321
                       cases e321
                       replace p321 := eq_true p321
                       replace q321 := eq_true q321
                       have p322 : 0 ≤ (x11_1 : Int) := of_decide_eq_true (by first | (with_reducible assumption) | assumption)
                       have q322 : x11_1 < (t301.length : Int) := of_decide_eq_true (by first | (with_reducible assumption) | assumption)
                       obtain ⟨ad322, e322, hx322_0, hx322_1, hx322_2, hx322_3, hx322_4⟩ := at_T31 (Kd.R_reads' HO_3.out).2.2 x11_1 p322 q322
                       cases e322
                       replace p322 := eq_true p322
                       replace q322 := eq_true q322
                       refine start_ (n := 12) (S := fun w' => w'.cell? (ad321.add (x12_3).toNat) = some (.int .i64 (rd x10_1 x12_3)) ∧ w'.cell? (ad322.add ((x11_1).toNat * 5)) = some (.string ((rd_T31 t301 x11_1).f0)) ∧ w'.cell? ⟨(ad322.add ((x11_1).toNat * 5)).block, (ad322.add ((x11_1).toNat * 5)).off + 1, none⟩ = some (.int .i64 ((rd_T31 t301 x11_1).f1)) ∧ w'.cell? ⟨(ad322.add ((x11_1).toNat * 5)).block, (ad322.add ((x11_1).toNat * 5)).off + 2, none⟩ = some (.int .i64 ((rd_T31 t301 x11_1).f2)) ∧ w'.cell? ⟨(ad322.add ((x11_1).toNat * 5)).block, (ad322.add ((x11_1).toNat * 5)).off + 3, none⟩ = some (.int .i64 ((rd_T31 t301 x11_1).f3)) ∧ w'.cell? ⟨(ad322.add ((x11_1).toNat * 5)).block, (ad322.add ((x11_1).toNat * 5)).off + 4, none⟩ = some (.int .i64 ((rd_T31 t301 x11_1).f4))) (ds := []) #[false, false, false, false, false, false, false, false, false, false, false, false] (by kernel_rfl) rfl rfl ⟨hx321_0, hx322_0, hx322_1, hx322_2, hx322_3, hx322_4⟩ (fun hHeld => ?_); refine with_tabW laws_FnDealt.tab21 laws_FnDealt.bits21 (fun HT_ HW_ => ?_)
                       generalize wc.drew = w41 at HO_3 HO_8 HO_10 HB hx321_0 hx322_0 hx322_1 hx322_2 hx322_3 hx322_4 hHeld ⊢
                       refine pure_ (i := 0) (N := some 89) (v := ?_) (a' := ?_) #[true, false, false, false, false, false, false, false, false, false, false, false] rfl rfl (any_of HT_.out (by kernel_rfl)) (fun _ _ _ h => h) (Or.inl ⟨by rfl, ?_⟩) ?_ ?_
                       rotate_left
                       ·intro w'
                        go_simp
                        with_reducible rfl
                       rotate_left
                       ·simp only [Act.put, sqA, sqZ, sqS, i64_w, i32_w]
                        rfl
                       refine pure_ (i := 1) (N := some 90) (v := ?_) (a' := ?_) #[true, true, false, false, false, false, false, false, false, false, false, false] rfl rfl (any_of HT_.out (by kernel_rfl)) (fun _ _ _ h => h) (Or.inl ⟨by rfl, ?_⟩) ?_ ?_
                       rotate_left
                       ·intro w'
                        go_simp
                        with_reducible rfl
                       rotate_left
                       ·simp only [Act.put, sqA, sqZ, sqS, i64_w, i32_w]
                        rfl
                       refine pure_ (i := 2) (N := some 91) (v := ?_) (a' := ?_) #[true, true, true, false, false, false, false, false, false, false, false, false] rfl rfl (any_of HT_.out (by kernel_rfl)) (fun _ _ _ h => h) (Or.inl ⟨by rfl, ?_⟩) ?_ ?_
                       rotate_left
                       ·intro w'
                        go_simp
                        with_reducible rfl
                       rotate_left
                       ·simp only [Act.put, sqA, sqZ, sqS, i64_w, i32_w]
                        rfl
                       refine pure_ (i := 4) (N := some 93) (v := ?_) (a' := ?_) #[true, true, true, false, true, false, false, false, false, false, false, false] rfl rfl (any_of HT_.out (by kernel_rfl)) (fun _ _ _ h => h) (Or.inl ⟨by rfl, ?_⟩) ?_ ?_
                       rotate_left
                       ·intro w'
                        go_simp
                        with_reducible rfl
                       rotate_left
                       ·simp only [Act.put, sqA, sqZ, sqS, i64_w, i32_w]
                        rfl
                       refine pure_ (i := 5) (N := some 94) (v := ?_) (a' := ?_) #[true, true, true, false, true, true, false, false, false, false, false, false] rfl rfl (any_of HT_.out (by kernel_rfl)) (fun _ _ _ h => h) (Or.inl ⟨by rfl, ?_⟩) ?_ ?_
                       rotate_left
                       ·intro w'
                        go_simp
                        with_reducible rfl
                       rotate_left
                       ·simp only [Act.put, sqA, sqZ, sqS, i64_w, i32_w]
                        rfl
                       refine pure_ (i := 6) (N := some 95) (v := ?_) (a' := ?_) #[true, true, true, false, true, true, true, false, false, false, false, false] rfl rfl (any_of HT_.out (by kernel_rfl)) (fun _ _ _ h => h) (Or.inl ⟨by rfl, ?_⟩) ?_ ?_
                       rotate_left
                       ·intro w'
                        go_simp
                        with_reducible rfl
                       rotate_left
                       ·simp only [Act.put, sqA, sqZ, sqS, i64_w, i32_w]
                        rfl
                       refine pure_ (i := 7) (N := some 96) (v := ?_) (a' := ?_) #[true, true, true, false, true, true, true, true, false, false, false, false] rfl rfl (any_of HT_.out (by kernel_rfl)) (fun _ _ _ h => h) (Or.inl ⟨by rfl, ?_⟩) ?_ ?_
                       rotate_left
                       ·intro w'
                        go_simp
                        with_reducible rfl
                       rotate_left
                       ·simp only [Act.put, sqA, sqZ, sqS, i64_w, i32_w]
                        rfl
                       refine pure_ (i := 10) (N := some 99) (v := ?_) (a' := ?_) #[true, true, true, false, true, true, true, true, false, false, true, false] rfl rfl (any_of HT_.out (by kernel_rfl)) (fun _ _ _ h => h) (Or.inl ⟨by rfl, ?_⟩) ?_ ?_
                       rotate_left
                       ·intro w'
                        go_simp
                        with_reducible rfl
                       rotate_left
                       ·simp only [Act.put, sqA, sqZ, sqS, i64_w, i32_w]
                        rfl
                       refine take_ (i := 3) (N := some 92) (v := ?_) (a' := ?_) #[true, true, true, true, true, true, true, true, false, false, true, false] rfl rfl (take_ofW HT_.out HW_.out (by kernel_rfl)) (fun _ _ _ h => h) (Or.inl ⟨by rfl, ?_⟩) hHeld ?_ ?_
                       rotate_left
                       ·rintro w' ⟨s0, s1, s2, s3, s4, s5⟩
                        go_simp
                        with_reducible rfl
                       rotate_left
                       ·simp only [Act.put, sqA, sqZ, sqS, i64_w, i32_w]
                        rfl
                       refine take_ (i := 8) (N := some 97) (v := ?_) (a' := ?_) #[true, true, true, true, true, true, true, true, true, false, true, false] rfl rfl (take_ofW HT_.out HW_.out (by kernel_rfl)) (fun _ _ _ h => h) (Or.inl ⟨by rfl, ?_⟩) hHeld ?_ ?_
                       rotate_left
                       ·rintro w' ⟨s0, s1, s2, s3, s4, s5⟩
                        go_simp
                        with_reducible rfl
                       rotate_left
                       ·simp only [Act.put, sqA, sqZ, sqS, i64_w, i32_w]
                        rfl
                       refine pure_ (i := 9) (N := some 98) (v := ?_) (a' := ?_) #[true, true, true, true, true, true, true, true, true, true, true, false] rfl rfl (any_of HT_.out (by kernel_rfl)) (fun _ _ _ h => h) (Or.inl ⟨by rfl, ?_⟩) ?_ ?_
                       rotate_left
                       ·intro w'
                        go_simp
                        with_reducible rfl
                       rotate_left
                       ·simp only [Act.put, sqA, sqZ, sqS, i64_w, i32_w]
                        rfl
                       refine pure_ (i := 11) (N := some 100) (v := ?_) (a' := ?_) #[true, true, true, true, true, true, true, true, true, true, true, true] rfl rfl (any_of HT_.out (by kernel_rfl)) (fun _ _ _ h => h) (Or.inl ⟨by rfl, ?_⟩) ?_ ?_
                       rotate_left
                       ·intro w'
                        go_simp
                        with_reducible rfl
                       rotate_left
                       ·simp only [Act.put, sqA, sqZ, sqS, i64_w, i32_w]
                        rfl
                       refine done_ (done_of HT_.out (by kernel_rfl)) ?_
                       try go_wp2
                       go_roundg kj27
                       case measure => have := HK1.out; have := HJ23.out; have := HK3.out; have := HJ27.out; omega
                       case rel => exact ⟨(wrap64 (x12_3 + 1)), (by first | rfl | (simp; done) | (simp [*]; done)), H', ⟨by have := HK1.out; have := HJ23.out; have := HK3.out; have := HJ27.out; omega⟩, ⟨by (with_reducible repeat (first | apply Kd.R_alloc | apply Kd.R_drewN | apply Kd.R_drew)); exact HO_3.out⟩, ⟨by (with_reducible repeat (first | apply Kd.R_alloc | apply Kd.R_drewN | apply Kd.R_drew)); exact HO_8.out⟩, ⟨by (with_reducible repeat (first | apply Kd.R_alloc | apply Kd.R_drewN | apply Kd.R_drew)); exact HO_10.out⟩, ⟨by repeat (first | (with_reducible first | exact HB.out | apply below_alloc | apply pw_below_drewN | apply below_drew1) | exact HB.out)⟩⟩
                     ·rw [if_neg c37] at H
                      exact absurd H (by simp)
                    ·rw [if_neg c36] at H
                     exact absurd H (by simp)
                   ·rw [if_neg c35] at H
                    exact absurd H (by simp)
                  ·rw [if_neg c34] at H
                   exact absurd H (by simp)
                 ·replace c33 := Bool.eq_false_iff.mpr c33
                  subst c33
                  have H1 : (if 0 ≤ x11_1 then (if x11_1 < (t310.length : Int) then (if (rd t310 x11_1) ≥ 0 then (if 0 ≤ (rd t310 x11_1) then (if (rd t310 x11_1) < (x10_1.length : Int) then (if x11_1 < (t301.length : Int) then (if (wrap64 ((rd x10_1 (rd t310 x11_1)) + ((rd_T31 t301 x11_1).f4))) > t302 then (some false) else (laws_FnDealt.l0 kj27 t301 t302 t303 t310 (x10_1.set ((rd t310 x11_1) : Int).toNat (wrap64 ((rd x10_1 (rd t310 x11_1)) + ((rd_T31 t301 x11_1).f4)))) (wrap64 (x11_1 + 1)))) else (none)) else (none)) else (none)) else (laws_FnDealt.l0 kj27 t301 t302 t303 t310 x10_1 (wrap64 (x11_1 + 1)))) else (none)) else (none)) = some r := by rw [if_neg (show ¬ (false = true) by decide)] at H; exact H
                  clear H
                  have H := H1
                  clear H1
                  by_cases c43 : 0 ≤ x11_1
                  ·rw [if_pos c43] at H
                   have c43b0 : decide (0 ≤ x11_1) = true := decide_eq_true c43
                   clear c43
                   by_cases c44 : x11_1 < (t310.length : Int)
                   ·rw [if_pos c44] at H
                    have c44b0 : decide (x11_1 < (t310.length : Int)) = true := decide_eq_true c44
                    clear c44
                    by_cases c45 : (rd t310 x11_1) ≥ 0
                    ·rw [if_pos c45] at H
                     have c45b0 : decide (0 ≤ (rd t310 x11_1)) = true := decide_eq_true c45
                     clear c45
                     by_cases c46 : 0 ≤ (rd t310 x11_1)
                     ·rw [if_pos c46] at H
                      have c46b0 : decide (0 ≤ (rd t310 x11_1)) = true := decide_eq_true c46
                      clear c46
                      by_cases c47 : (rd t310 x11_1) < (x10_1.length : Int)
                      ·rw [if_pos c47] at H
                       have c47b0 : decide ((rd t310 x11_1) < (x10_1.length : Int)) = true := decide_eq_true c47
                       clear c47
                       by_cases c48 : x11_1 < (t301.length : Int)
                       ·rw [if_pos c48] at H
                        have c48b0 : decide (x11_1 < (t301.length : Int)) = true := decide_eq_true c48
                        clear c48
                        obtain ⟨y328, hy328⟩ : ∃ y_ : List Int, y_ = (x10_1.set ((rd t310 x11_1) : Int).toNat (wrap64 ((rd x10_1 (rd t310 x11_1)) + ((rd_T31 t301 x11_1).f4)))) := ⟨_, rfl⟩
                        replace H : (if (wrap64 ((rd x10_1 (rd t310 x11_1)) + ((rd_T31 t301 x11_1).f4))) > t302 then (some false) else (laws_FnDealt.l0 kj27 t301 t302 t303 t310 y328 (wrap64 (x11_1 + 1)))) = some r := by first | (rw [hy328]; with_reducible exact H) | (have H2_ := (Option.bind_some _ _).symm.trans H; rw [hy328]; with_reducible exact H2_) | (have H2_ := (Option.bind_some _ _).symm.trans H; with_reducible exact H2_) | with_reducible exact H | (rw [hy328]; exact H) | exact H
                        have Ny328 := Aside0.mk hy328
                        clear hy328
                        by_cases c51 : (wrap64 ((rd x10_1 (rd t310 x11_1)) + ((rd_T31 t301 x11_1).f4))) > t302
                        ·rw [if_pos c51] at H
                         have c51b0 : decide (t302 < (wrap64 ((rd x10_1 (rd t310 x11_1)) + ((rd_T31 t301 x11_1).f4)))) = true := decide_eq_true c51
                         clear c51
                         obtain rfl := Option.some.inj H
                         have p323 : 0 ≤ (x11_1 : Int) := of_decide_eq_true (by first | (with_reducible assumption) | assumption)
                         have q323 : x11_1 < (t310.length : Int) := of_decide_eq_true (by first | (with_reducible assumption) | assumption)
                         obtain ⟨ad323, e323, hx323_0⟩ := Kd.at_int (Kd.R_reads' HO_8.out).2.2 x11_1 p323 q323
                         cases e323
                         replace p323 := eq_true p323
                         replace q323 := eq_true q323
                         try go_wp2
                         have n0_ := Aside0.mk (Kd.R_drew HO_3.out)
                         have n1_ := Aside0.mk (Kd.R_drew HO_8.out)
                         have n2_ := Aside0.mk (Kd.R_drew HO_10.out)
                         have n3_ := Aside0.mk (below_drew1 HB.out)
                         clear HO_3
                         clear HO_8
                         clear HO_10
                         clear HB
                         have HO_3 := n0_
                         have HO_8 := n1_
                         have HO_10 := n2_
                         have HB := n3_
                         clear n0_ n1_ n2_ n3_
                         have p324 : 0 ≤ (x11_1 : Int) := of_decide_eq_true (by first | (with_reducible assumption) | assumption)
                         have q324 : x11_1 < (t310.length : Int) := of_decide_eq_true (by first | (with_reducible assumption) | assumption)
                         obtain ⟨ad324, e324, hx324_0⟩ := Kd.at_int (Kd.R_reads' HO_8.out).2.2 x11_1 p324 q324
                         obtain rfl : ad323 = ad324 := (by injection e324)
                         replace p324 := eq_true p324
                         replace q324 := eq_true q324
                         have p325 : 0 ≤ (x11_1 : Int) := of_decide_eq_true (by first | (with_reducible assumption) | assumption)
                         have q325 : x11_1 < (t310.length : Int) := of_decide_eq_true (by first | (with_reducible assumption) | assumption)
                         obtain ⟨ad325, e325, hx325_0⟩ := Kd.at_int (Kd.R_reads' HO_8.out).2.2 x11_1 p325 q325
                         obtain rfl : ad323 = ad325 := (by injection e325)
                         replace p325 := eq_true p325
                         replace q325 := eq_true q325
                         obtain ⟨Ao53, co53, eo53⟩ := Kd.R_slice HO_10.out
                         (first | subst eo53 | (injection eo53 with f1_ f2_ f3_; have f4_ := f1_.symm; have f5_ := f3_.symm; clear f1_ f2_ f3_; subst f4_; subst f5_))
                         have p326 : 0 ≤ ((rd t310 x11_1) : Int) := of_decide_eq_true (by first | (with_reducible assumption) | assumption)
                         have q326 : (rd t310 x11_1) < (x10_1.length : Int) := of_decide_eq_true (by first | (with_reducible assumption) | assumption)
                         obtain ⟨ad326, e326, hx326_0⟩ := Kd.at_int (Kd.R_reads' HO_10.out).2.2 (rd t310 x11_1) p326 q326
                         cases e326
                         replace p326 := eq_true p326
                         replace q326 := eq_true q326
                         have p327 : 0 ≤ (x11_1 : Int) := of_decide_eq_true (by first | (with_reducible assumption) | assumption)
                         have q327 : x11_1 < (t301.length : Int) := of_decide_eq_true (by first | (with_reducible assumption) | assumption)
                         obtain ⟨ad327, e327, hx327_0, hx327_1, hx327_2, hx327_3, hx327_4⟩ := at_T31 (Kd.R_reads' HO_3.out).2.2 x11_1 p327 q327
                         cases e327
                         replace p327 := eq_true p327
                         replace q327 := eq_true q327
                         have p49 : 0 ≤ ((rd t310 x11_1) : Int) := of_decide_eq_true (by first | (with_reducible assumption) | assumption)
                         have q49 : ((rd t310 x11_1) : Int) < ((x10_1.length : Int) : Int) := of_decide_eq_true (by first | (with_reducible assumption) | assumption)
                         obtain ⟨go49, co49, eo49, gb49, gl49, cl49, HG49⟩ := Kd.R_form HO_10.out (by omega)
                         (first | cases eo49 | (injection eo49 with ea_ en_ ec_; (first | subst ea_ | (injection ea_ with ea_; subst ea_)); subst ec_; clear en_))
                         have GB49 := Aside0.mk gb49
                         have GG49 := Aside0.mk HG49
                         clear gb49 gl49 HG49
                         (first | simp only [add_plain] at hx326_0 | skip)
                         obtain ⟨hx49_0, hf49_0⟩ := Kd.R_celln 0 HO_10.out ((rd t310 x11_1) : Int) p49 q49
                         replace p49 := eq_true p49
                         replace q49 := eq_true q49
                         have HP54 := Kd.R_putn HO_10.out ((rd t310 x11_1) : Int) (wrap64 ((rd x10_1 (rd t310 x11_1)) + ((rd_T31 t301 x11_1).f4)))
                         rw [← Ny328.out] at HP54
                         have HQ54 := Aside0.mk HP54
                         clear HP54
                         refine start_ (n := 20) (S := fun w' => w'.cell? (ad323.add (x11_1).toNat) = some (.int .i64 (rd t310 x11_1)) ∧ w'.cell? (ad323.add (x11_1).toNat) = some (.int .i64 (rd t310 x11_1)) ∧ w'.cell? ⟨go49, ((rd t310 x11_1)).toNat, none⟩ = some (.int .i64 (rd x10_1 (rd t310 x11_1))) ∧ w'.cell? (ad327.add ((x11_1).toNat * 5)) = some (.string ((rd_T31 t301 x11_1).f0)) ∧ w'.cell? ⟨(ad327.add ((x11_1).toNat * 5)).block, (ad327.add ((x11_1).toNat * 5)).off + 1, none⟩ = some (.int .i64 ((rd_T31 t301 x11_1).f1)) ∧ w'.cell? ⟨(ad327.add ((x11_1).toNat * 5)).block, (ad327.add ((x11_1).toNat * 5)).off + 2, none⟩ = some (.int .i64 ((rd_T31 t301 x11_1).f2)) ∧ w'.cell? ⟨(ad327.add ((x11_1).toNat * 5)).block, (ad327.add ((x11_1).toNat * 5)).off + 3, none⟩ = some (.int .i64 ((rd_T31 t301 x11_1).f3)) ∧ w'.cell? ⟨(ad327.add ((x11_1).toNat * 5)).block, (ad327.add ((x11_1).toNat * 5)).off + 4, none⟩ = some (.int .i64 ((rd_T31 t301 x11_1).f4))) (ds := [19]) #[false, false, false, false, false, false, false, false, false, false, false, false, false, false, false, false, false, false, false, false] (by kernel_rfl) rfl rfl ⟨hx324_0, hx325_0, hx326_0, hx327_0, hx327_1, hx327_2, hx327_3, hx327_4⟩ (fun hHeld => ?_); refine with_tabW laws_FnDealt.tab24 laws_FnDealt.bits24 (fun HT_ HW_ => ?_)
                         generalize wc.drew = w52 at HO_3 HO_8 HO_10 HB GG49 HQ54 hf49_0 hx324_0 hx325_0 hx326_0 hx327_0 hx327_1 hx327_2 hx327_3 hx327_4 hx49_0 hHeld ⊢
                         refine pure_ (i := 0) (N := some 106) (v := ?_) (a' := ?_) #[true, false, false, false, false, false, false, false, false, false, false, false, false, false, false, false, false, false, false, false] rfl rfl (any_of HT_.out (by kernel_rfl)) (fun _ _ _ h => h) (Or.inl ⟨by rfl, ?_⟩) ?_ ?_
                         rotate_left
                         ·intro w'
                          go_simp
                          with_reducible rfl
                         rotate_left
                         ·simp only [Act.put, sqA, sqZ, sqS, i64_w, i32_w]
                          rfl
                         refine pure_ (i := 1) (N := some 107) (v := ?_) (a' := ?_) #[true, true, false, false, false, false, false, false, false, false, false, false, false, false, false, false, false, false, false, false] rfl rfl (any_of HT_.out (by kernel_rfl)) (fun _ _ _ h => h) (Or.inl ⟨by rfl, ?_⟩) ?_ ?_
                         rotate_left
                         ·intro w'
                          go_simp
                          with_reducible rfl
                         rotate_left
                         ·simp only [Act.put, sqA, sqZ, sqS, i64_w, i32_w]
                          rfl
                         refine pure_ (i := 2) (N := some 108) (v := ?_) (a' := ?_) #[true, true, true, false, false, false, false, false, false, false, false, false, false, false, false, false, false, false, false, false] rfl rfl (any_of HT_.out (by kernel_rfl)) (fun _ _ _ h => h) (Or.inl ⟨by rfl, ?_⟩) ?_ ?_
                         rotate_left
                         ·intro w'
                          go_simp
                          with_reducible rfl
                         rotate_left
                         ·simp only [Act.put, sqA, sqZ, sqS, i64_w, i32_w]
                          rfl
                         refine pure_ (i := 3) (N := some 109) (v := ?_) (a' := ?_) #[true, true, true, true, false, false, false, false, false, false, false, false, false, false, false, false, false, false, false, false] rfl rfl (any_of HT_.out (by kernel_rfl)) (fun _ _ _ h => h) (Or.inl ⟨by rfl, ?_⟩) ?_ ?_
                         rotate_left
                         ·intro w'
                          go_simp
                          with_reducible rfl
                         rotate_left
                         ·simp only [Act.put, sqA, sqZ, sqS, i64_w, i32_w]
                          rfl
                         refine pure_ (i := 5) (N := some 111) (v := ?_) (a' := ?_) #[true, true, true, true, false, true, false, false, false, false, false, false, false, false, false, false, false, false, false, false] rfl rfl (any_of HT_.out (by kernel_rfl)) (fun _ _ _ h => h) (Or.inl ⟨by rfl, ?_⟩) ?_ ?_
                         rotate_left
                         ·intro w'
                          go_simp
                          with_reducible rfl
                         rotate_left
                         ·simp only [Act.put, sqA, sqZ, sqS, i64_w, i32_w]
                          rfl
                         refine pure_ (i := 6) (N := some 112) (v := ?_) (a' := ?_) #[true, true, true, true, false, true, true, false, false, false, false, false, false, false, false, false, false, false, false, false] rfl rfl (any_of HT_.out (by kernel_rfl)) (fun _ _ _ h => h) (Or.inl ⟨by rfl, ?_⟩) ?_ ?_
                         rotate_left
                         ·intro w'
                          go_simp
                          with_reducible rfl
                         rotate_left
                         ·simp only [Act.put, sqA, sqZ, sqS, i64_w, i32_w]
                          rfl
                         refine pure_ (i := 7) (N := some 113) (v := ?_) (a' := ?_) #[true, true, true, true, false, true, true, true, false, false, false, false, false, false, false, false, false, false, false, false] rfl rfl (any_of HT_.out (by kernel_rfl)) (fun _ _ _ h => h) (Or.inl ⟨by rfl, ?_⟩) ?_ ?_
                         rotate_left
                         ·intro w'
                          go_simp
                          with_reducible rfl
                         rotate_left
                         ·simp only [Act.put, sqA, sqZ, sqS, i64_w, i32_w]
                          rfl
                         refine pure_ (i := 8) (N := some 114) (v := ?_) (a' := ?_) #[true, true, true, true, false, true, true, true, true, false, false, false, false, false, false, false, false, false, false, false] rfl rfl (any_of HT_.out (by kernel_rfl)) (fun _ _ _ h => h) (Or.inl ⟨by rfl, ?_⟩) ?_ ?_
                         rotate_left
                         ·intro w'
                          go_simp
                          with_reducible rfl
                         rotate_left
                         ·simp only [Act.put, sqA, sqZ, sqS, i64_w, i32_w]
                          rfl
                         refine pure_ (i := 12) (N := some 118) (v := ?_) (a' := ?_) #[true, true, true, true, false, true, true, true, true, false, false, false, true, false, false, false, false, false, false, false] rfl rfl (any_of HT_.out (by kernel_rfl)) (fun _ _ _ h => h) (Or.inl ⟨by rfl, ?_⟩) ?_ ?_
                         rotate_left
                         ·intro w'
                          go_simp
                          with_reducible rfl
                         rotate_left
                         ·simp only [Act.put, sqA, sqZ, sqS, i64_w, i32_w]
                          rfl
                         refine pure_ (i := 13) (N := some 119) (v := ?_) (a' := ?_) #[true, true, true, true, false, true, true, true, true, false, false, false, true, true, false, false, false, false, false, false] rfl rfl (any_of HT_.out (by kernel_rfl)) (fun _ _ _ h => h) (Or.inl ⟨by rfl, ?_⟩) ?_ ?_
                         rotate_left
                         ·intro w'
                          go_simp
                          with_reducible rfl
                         rotate_left
                         ·simp only [Act.put, sqA, sqZ, sqS, i64_w, i32_w]
                          rfl
                         refine pure_ (i := 14) (N := some 120) (v := ?_) (a' := ?_) #[true, true, true, true, false, true, true, true, true, false, false, false, true, true, true, false, false, false, false, false] rfl rfl (any_of HT_.out (by kernel_rfl)) (fun _ _ _ h => h) (Or.inl ⟨by rfl, ?_⟩) ?_ ?_
                         rotate_left
                         ·intro w'
                          go_simp
                          with_reducible rfl
                         rotate_left
                         ·simp only [Act.put, sqA, sqZ, sqS, i64_w, i32_w]
                          rfl
                         refine pure_ (i := 15) (N := some 121) (v := ?_) (a' := ?_) #[true, true, true, true, false, true, true, true, true, false, false, false, true, true, true, true, false, false, false, false] rfl rfl (any_of HT_.out (by kernel_rfl)) (fun _ _ _ h => h) (Or.inl ⟨by rfl, ?_⟩) ?_ ?_
                         rotate_left
                         ·intro w'
                          go_simp
                          with_reducible rfl
                         rotate_left
                         ·simp only [Act.put, sqA, sqZ, sqS, i64_w, i32_w]
                          rfl
                         refine take_ (i := 4) (N := some 110) (v := ?_) (a' := ?_) #[true, true, true, true, true, true, true, true, true, false, false, false, true, true, true, true, false, false, false, false] rfl rfl (take_ofW HT_.out HW_.out (by kernel_rfl)) (fun _ _ _ h => h) (Or.inl ⟨by rfl, ?_⟩) hHeld ?_ ?_
                         rotate_left
                         ·rintro w' ⟨s0, s1, s2, s3, s4, s5, s6, s7⟩
                          go_simp
                          with_reducible rfl
                         rotate_left
                         ·simp only [Act.put, sqA, sqZ, sqS, i64_w, i32_w]
                          rfl
                         refine take_ (i := 9) (N := some 115) (v := ?_) (a' := ?_) #[true, true, true, true, true, true, true, true, true, true, false, false, true, true, true, true, false, false, false, false] rfl rfl (take_ofW HT_.out HW_.out (by kernel_rfl)) (fun _ _ _ h => h) (Or.inl ⟨by rfl, ?_⟩) hHeld ?_ ?_
                         rotate_left
                         ·rintro w' ⟨s0, s1, s2, s3, s4, s5, s6, s7⟩
                          go_simp
                          with_reducible rfl
                         rotate_left
                         ·simp only [Act.put, sqA, sqZ, sqS, i64_w, i32_w]
                          rfl
                         refine pure_ (i := 10) (N := some 116) (v := ?_) (a' := ?_) #[true, true, true, true, true, true, true, true, true, true, true, false, true, true, true, true, false, false, false, false] rfl rfl (any_of HT_.out (by kernel_rfl)) (fun _ _ _ h => h) (Or.inl ⟨by rfl, ?_⟩) ?_ ?_
                         rotate_left
                         ·intro w'
                          go_simp
                          with_reducible rfl
                         rotate_left
                         ·simp only [Act.put, sqA, sqZ, sqS, i64_w, i32_w]
                          rfl
                         refine take_ (i := 11) (N := some 117) (v := ?_) (a' := ?_) #[true, true, true, true, true, true, true, true, true, true, true, true, true, true, true, true, false, false, false, false] rfl rfl (take_ofW HT_.out HW_.out (by kernel_rfl)) (fun _ _ _ h => h) (Or.inl ⟨by rfl, ?_⟩) hHeld ?_ ?_
                         rotate_left
                         ·rintro w' ⟨s0, s1, s2, s3, s4, s5, s6, s7⟩
                          go_simp
                          with_reducible rfl
                         rotate_left
                         ·simp only [Act.put, sqA, sqZ, sqS, i64_w, i32_w]
                          rfl
                         refine take_ (i := 16) (N := some 122) (v := ?_) (a' := ?_) #[true, true, true, true, true, true, true, true, true, true, true, true, true, true, true, true, true, false, false, false] rfl rfl (take_ofW HT_.out HW_.out (by kernel_rfl)) (fun _ _ _ h => h) (Or.inl ⟨by rfl, ?_⟩) hHeld ?_ ?_
                         rotate_left
                         ·rintro w' ⟨s0, s1, s2, s3, s4, s5, s6, s7⟩
                          go_simp
                          with_reducible rfl
                         rotate_left
                         ·simp only [Act.put, sqA, sqZ, sqS, i64_w, i32_w]
                          rfl
                         refine pure_ (i := 17) (N := some 123) (v := ?_) (a' := ?_) #[true, true, true, true, true, true, true, true, true, true, true, true, true, true, true, true, true, true, false, false] rfl rfl (any_of HT_.out (by kernel_rfl)) (fun _ _ _ h => h) (Or.inl ⟨by rfl, ?_⟩) ?_ ?_
                         rotate_left
                         ·intro w'
                          go_simp
                          with_reducible rfl
                         rotate_left
                         ·simp only [Act.put, sqA, sqZ, sqS, i64_w, i32_w]
                          rfl
                         refine pure_ (i := 18) (N := some 124) (v := ?_) (a' := ?_) #[true, true, true, true, true, true, true, true, true, true, true, true, true, true, true, true, true, true, true, false] rfl rfl (any_of HT_.out (by kernel_rfl)) (fun _ _ _ h => h) (Or.inl ⟨by rfl, ?_⟩) ?_ ?_
                         rotate_left
                         ·intro w'
                          go_simp
                          with_reducible rfl
                         rotate_left
                         ·simp only [Act.put, sqA, sqZ, sqS, i64_w, i32_w]
                          rfl
                         refine last_ (i := 19) (N := none) #[true, true, true, true, true, true, true, true, true, true, true, true, true, true, true, true, true, true, true, true] rfl rfl (one_of HT_.out (by kernel_rfl)) (by decide) (fun K hK => ?_)
                         refine skip_ (w1 := ?_) (by rfl) rfl ?_ ?_
                         rotate_left
                         ·go_simp
                          rfl
                         refine hK.out _ _ ?_
                         clear hK K
                         refine done_ (done_of HT_.out (by kernel_rfl)) ?_
                         have p329 : 0 ≤ (x11_1 : Int) := of_decide_eq_true (by first | (with_reducible assumption) | assumption)
                         have q329 : x11_1 < (t310.length : Int) := of_decide_eq_true (by first | (with_reducible assumption) | assumption)
                         obtain ⟨ad329, e329, hx329_0⟩ := Kd.at_int (Kd.R_reads' (Kd.R_far (p := ⟨go49, ((rd t310 x11_1) : Int).toNat, none⟩) (Kd.R_mono HO_8.out (fun k_ hk => (⟨hk, fun e_ => hk (by rw [e_]; rfl)⟩ : _ ∧ k_ ≠ go49))) (fun _ hk => hk.2) (.int .i64 (wrap64 ((rd x10_1 (rd t310 x11_1)) + ((rd_T31 t301 x11_1).f4)))))).2.2 x11_1 p329 q329
                         obtain rfl : ad323 = ad329 := (by injection e329)
                         replace p329 := eq_true p329
                         replace q329 := eq_true q329
                         have p50 : 0 ≤ ((rd t310 x11_1) : Int) := of_decide_eq_true (by first | (with_reducible assumption) | assumption)
                         have q50 : ((rd t310 x11_1) : Int) < ((x10_1.length : Int) : Int) := of_decide_eq_true (by first | (with_reducible assumption) | assumption)
                         replace p50 := eq_true p50
                         replace q50 := eq_true q50
                         try go_wp2
                         go_ret
                         exact ⟨by first | rfl | (simp [errW_none, errW_some] <;> rfl) | (simp [*, errW_none, errW_some] <;> rfl), by repeat (first | (with_reducible first | exact HB.out | apply below_alloc | apply pw_below_drewN | apply below_drew1 | refine below_set ?_ GB49.out) | exact HB.out)⟩
                        ·rw [if_neg c51] at H
                         have c51b0 : decide (t302 < (wrap64 ((rd x10_1 (rd t310 x11_1)) + ((rd_T31 t301 x11_1).f4)))) = false := decide_eq_false c51
                         clear c51
                         have H' := Aside0.mk H
                         clear H
                         have p323 : 0 ≤ (x11_1 : Int) := of_decide_eq_true (by first | (with_reducible assumption) | assumption)
                         have q323 : x11_1 < (t310.length : Int) := of_decide_eq_true (by first | (with_reducible assumption) | assumption)
                         obtain ⟨ad323, e323, hx323_0⟩ := Kd.at_int (Kd.R_reads' HO_8.out).2.2 x11_1 p323 q323
                         cases e323
                         replace p323 := eq_true p323
                         replace q323 := eq_true q323
                         try go_wp2
                         have n0_ := Aside0.mk (Kd.R_drew HO_3.out)
                         have n1_ := Aside0.mk (Kd.R_drew HO_8.out)
                         have n2_ := Aside0.mk (Kd.R_drew HO_10.out)
                         have n3_ := Aside0.mk (below_drew1 HB.out)
                         clear HO_3
                         clear HO_8
                         clear HO_10
                         clear HB
                         have HO_3 := n0_
                         have HO_8 := n1_
                         have HO_10 := n2_
                         have HB := n3_
                         clear n0_ n1_ n2_ n3_
                         have p324 : 0 ≤ (x11_1 : Int) := of_decide_eq_true (by first | (with_reducible assumption) | assumption)
                         have q324 : x11_1 < (t310.length : Int) := of_decide_eq_true (by first | (with_reducible assumption) | assumption)
                         obtain ⟨ad324, e324, hx324_0⟩ := Kd.at_int (Kd.R_reads' HO_8.out).2.2 x11_1 p324 q324
                         obtain rfl : ad323 = ad324 := (by injection e324)
                         replace p324 := eq_true p324
                         replace q324 := eq_true q324
                         have p325 : 0 ≤ (x11_1 : Int) := of_decide_eq_true (by first | (with_reducible assumption) | assumption)
                         have q325 : x11_1 < (t310.length : Int) := of_decide_eq_true (by first | (with_reducible assumption) | assumption)
                         obtain ⟨ad325, e325, hx325_0⟩ := Kd.at_int (Kd.R_reads' HO_8.out).2.2 x11_1 p325 q325
                         obtain rfl : ad323 = ad325 := (by injection e325)
                         replace p325 := eq_true p325
                         replace q325 := eq_true q325
                         obtain ⟨Ao56, co56, eo56⟩ := Kd.R_slice HO_10.out
                         (first | subst eo56 | (injection eo56 with f1_ f2_ f3_; have f4_ := f1_.symm; have f5_ := f3_.symm; clear f1_ f2_ f3_; subst f4_; subst f5_))
                         have p326 : 0 ≤ ((rd t310 x11_1) : Int) := of_decide_eq_true (by first | (with_reducible assumption) | assumption)
                         have q326 : (rd t310 x11_1) < (x10_1.length : Int) := of_decide_eq_true (by first | (with_reducible assumption) | assumption)
                         obtain ⟨ad326, e326, hx326_0⟩ := Kd.at_int (Kd.R_reads' HO_10.out).2.2 (rd t310 x11_1) p326 q326
                         cases e326
                         replace p326 := eq_true p326
                         replace q326 := eq_true q326
                         have p327 : 0 ≤ (x11_1 : Int) := of_decide_eq_true (by first | (with_reducible assumption) | assumption)
                         have q327 : x11_1 < (t301.length : Int) := of_decide_eq_true (by first | (with_reducible assumption) | assumption)
                         obtain ⟨ad327, e327, hx327_0, hx327_1, hx327_2, hx327_3, hx327_4⟩ := at_T31 (Kd.R_reads' HO_3.out).2.2 x11_1 p327 q327
                         cases e327
                         replace p327 := eq_true p327
                         replace q327 := eq_true q327
                         have p49 : 0 ≤ ((rd t310 x11_1) : Int) := of_decide_eq_true (by first | (with_reducible assumption) | assumption)
                         have q49 : ((rd t310 x11_1) : Int) < ((x10_1.length : Int) : Int) := of_decide_eq_true (by first | (with_reducible assumption) | assumption)
                         obtain ⟨go49, co49, eo49, gb49, gl49, cl49, HG49⟩ := Kd.R_form HO_10.out (by omega)
                         (first | cases eo49 | (injection eo49 with ea_ en_ ec_; (first | subst ea_ | (injection ea_ with ea_; subst ea_)); subst ec_; clear en_))
                         have GB49 := Aside0.mk gb49
                         have GG49 := Aside0.mk HG49
                         clear gb49 gl49 HG49
                         (first | simp only [add_plain] at hx326_0 | skip)
                         obtain ⟨hx49_0, hf49_0⟩ := Kd.R_celln 0 HO_10.out ((rd t310 x11_1) : Int) p49 q49
                         replace p49 := eq_true p49
                         replace q49 := eq_true q49
                         have HP57 := Kd.R_putn HO_10.out ((rd t310 x11_1) : Int) (wrap64 ((rd x10_1 (rd t310 x11_1)) + ((rd_T31 t301 x11_1).f4)))
                         rw [← Ny328.out] at HP57
                         have HQ57 := Aside0.mk HP57
                         clear HP57
                         refine start_ (n := 20) (S := fun w' => w'.cell? (ad323.add (x11_1).toNat) = some (.int .i64 (rd t310 x11_1)) ∧ w'.cell? (ad323.add (x11_1).toNat) = some (.int .i64 (rd t310 x11_1)) ∧ w'.cell? ⟨go49, ((rd t310 x11_1)).toNat, none⟩ = some (.int .i64 (rd x10_1 (rd t310 x11_1))) ∧ w'.cell? (ad327.add ((x11_1).toNat * 5)) = some (.string ((rd_T31 t301 x11_1).f0)) ∧ w'.cell? ⟨(ad327.add ((x11_1).toNat * 5)).block, (ad327.add ((x11_1).toNat * 5)).off + 1, none⟩ = some (.int .i64 ((rd_T31 t301 x11_1).f1)) ∧ w'.cell? ⟨(ad327.add ((x11_1).toNat * 5)).block, (ad327.add ((x11_1).toNat * 5)).off + 2, none⟩ = some (.int .i64 ((rd_T31 t301 x11_1).f2)) ∧ w'.cell? ⟨(ad327.add ((x11_1).toNat * 5)).block, (ad327.add ((x11_1).toNat * 5)).off + 3, none⟩ = some (.int .i64 ((rd_T31 t301 x11_1).f3)) ∧ w'.cell? ⟨(ad327.add ((x11_1).toNat * 5)).block, (ad327.add ((x11_1).toNat * 5)).off + 4, none⟩ = some (.int .i64 ((rd_T31 t301 x11_1).f4))) (ds := [19]) #[false, false, false, false, false, false, false, false, false, false, false, false, false, false, false, false, false, false, false, false] (by kernel_rfl) rfl rfl ⟨hx324_0, hx325_0, hx326_0, hx327_0, hx327_1, hx327_2, hx327_3, hx327_4⟩ (fun hHeld => ?_); refine with_tabW laws_FnDealt.tab24 laws_FnDealt.bits24 (fun HT_ HW_ => ?_)
                         generalize wc.drew = w55 at HO_3 HO_8 HO_10 HB GG49 HQ57 hf49_0 hx324_0 hx325_0 hx326_0 hx327_0 hx327_1 hx327_2 hx327_3 hx327_4 hx49_0 hHeld ⊢
                         refine pure_ (i := 0) (N := some 106) (v := ?_) (a' := ?_) #[true, false, false, false, false, false, false, false, false, false, false, false, false, false, false, false, false, false, false, false] rfl rfl (any_of HT_.out (by kernel_rfl)) (fun _ _ _ h => h) (Or.inl ⟨by rfl, ?_⟩) ?_ ?_
                         rotate_left
                         ·intro w'
                          go_simp
                          with_reducible rfl
                         rotate_left
                         ·simp only [Act.put, sqA, sqZ, sqS, i64_w, i32_w]
                          rfl
                         refine pure_ (i := 1) (N := some 107) (v := ?_) (a' := ?_) #[true, true, false, false, false, false, false, false, false, false, false, false, false, false, false, false, false, false, false, false] rfl rfl (any_of HT_.out (by kernel_rfl)) (fun _ _ _ h => h) (Or.inl ⟨by rfl, ?_⟩) ?_ ?_
                         rotate_left
                         ·intro w'
                          go_simp
                          with_reducible rfl
                         rotate_left
                         ·simp only [Act.put, sqA, sqZ, sqS, i64_w, i32_w]
                          rfl
                         refine pure_ (i := 2) (N := some 108) (v := ?_) (a' := ?_) #[true, true, true, false, false, false, false, false, false, false, false, false, false, false, false, false, false, false, false, false] rfl rfl (any_of HT_.out (by kernel_rfl)) (fun _ _ _ h => h) (Or.inl ⟨by rfl, ?_⟩) ?_ ?_
                         rotate_left
                         ·intro w'
                          go_simp
                          with_reducible rfl
                         rotate_left
                         ·simp only [Act.put, sqA, sqZ, sqS, i64_w, i32_w]
                          rfl
                         refine pure_ (i := 3) (N := some 109) (v := ?_) (a' := ?_) #[true, true, true, true, false, false, false, false, false, false, false, false, false, false, false, false, false, false, false, false] rfl rfl (any_of HT_.out (by kernel_rfl)) (fun _ _ _ h => h) (Or.inl ⟨by rfl, ?_⟩) ?_ ?_
                         rotate_left
                         ·intro w'
                          go_simp
                          with_reducible rfl
                         rotate_left
                         ·simp only [Act.put, sqA, sqZ, sqS, i64_w, i32_w]
                          rfl
                         refine pure_ (i := 5) (N := some 111) (v := ?_) (a' := ?_) #[true, true, true, true, false, true, false, false, false, false, false, false, false, false, false, false, false, false, false, false] rfl rfl (any_of HT_.out (by kernel_rfl)) (fun _ _ _ h => h) (Or.inl ⟨by rfl, ?_⟩) ?_ ?_
                         rotate_left
                         ·intro w'
                          go_simp
                          with_reducible rfl
                         rotate_left
                         ·simp only [Act.put, sqA, sqZ, sqS, i64_w, i32_w]
                          rfl
                         refine pure_ (i := 6) (N := some 112) (v := ?_) (a' := ?_) #[true, true, true, true, false, true, true, false, false, false, false, false, false, false, false, false, false, false, false, false] rfl rfl (any_of HT_.out (by kernel_rfl)) (fun _ _ _ h => h) (Or.inl ⟨by rfl, ?_⟩) ?_ ?_
                         rotate_left
                         ·intro w'
                          go_simp
                          with_reducible rfl
                         rotate_left
                         ·simp only [Act.put, sqA, sqZ, sqS, i64_w, i32_w]
                          rfl
                         refine pure_ (i := 7) (N := some 113) (v := ?_) (a' := ?_) #[true, true, true, true, false, true, true, true, false, false, false, false, false, false, false, false, false, false, false, false] rfl rfl (any_of HT_.out (by kernel_rfl)) (fun _ _ _ h => h) (Or.inl ⟨by rfl, ?_⟩) ?_ ?_
                         rotate_left
                         ·intro w'
                          go_simp
                          with_reducible rfl
                         rotate_left
                         ·simp only [Act.put, sqA, sqZ, sqS, i64_w, i32_w]
                          rfl
                         refine pure_ (i := 8) (N := some 114) (v := ?_) (a' := ?_) #[true, true, true, true, false, true, true, true, true, false, false, false, false, false, false, false, false, false, false, false] rfl rfl (any_of HT_.out (by kernel_rfl)) (fun _ _ _ h => h) (Or.inl ⟨by rfl, ?_⟩) ?_ ?_
                         rotate_left
                         ·intro w'
                          go_simp
                          with_reducible rfl
                         rotate_left
                         ·simp only [Act.put, sqA, sqZ, sqS, i64_w, i32_w]
                          rfl
                         refine pure_ (i := 12) (N := some 118) (v := ?_) (a' := ?_) #[true, true, true, true, false, true, true, true, true, false, false, false, true, false, false, false, false, false, false, false] rfl rfl (any_of HT_.out (by kernel_rfl)) (fun _ _ _ h => h) (Or.inl ⟨by rfl, ?_⟩) ?_ ?_
                         rotate_left
                         ·intro w'
                          go_simp
                          with_reducible rfl
                         rotate_left
                         ·simp only [Act.put, sqA, sqZ, sqS, i64_w, i32_w]
                          rfl
                         refine pure_ (i := 13) (N := some 119) (v := ?_) (a' := ?_) #[true, true, true, true, false, true, true, true, true, false, false, false, true, true, false, false, false, false, false, false] rfl rfl (any_of HT_.out (by kernel_rfl)) (fun _ _ _ h => h) (Or.inl ⟨by rfl, ?_⟩) ?_ ?_
                         rotate_left
                         ·intro w'
                          go_simp
                          with_reducible rfl
                         rotate_left
                         ·simp only [Act.put, sqA, sqZ, sqS, i64_w, i32_w]
                          rfl
                         refine pure_ (i := 14) (N := some 120) (v := ?_) (a' := ?_) #[true, true, true, true, false, true, true, true, true, false, false, false, true, true, true, false, false, false, false, false] rfl rfl (any_of HT_.out (by kernel_rfl)) (fun _ _ _ h => h) (Or.inl ⟨by rfl, ?_⟩) ?_ ?_
                         rotate_left
                         ·intro w'
                          go_simp
                          with_reducible rfl
                         rotate_left
                         ·simp only [Act.put, sqA, sqZ, sqS, i64_w, i32_w]
                          rfl
                         refine pure_ (i := 15) (N := some 121) (v := ?_) (a' := ?_) #[true, true, true, true, false, true, true, true, true, false, false, false, true, true, true, true, false, false, false, false] rfl rfl (any_of HT_.out (by kernel_rfl)) (fun _ _ _ h => h) (Or.inl ⟨by rfl, ?_⟩) ?_ ?_
                         rotate_left
                         ·intro w'
                          go_simp
                          with_reducible rfl
                         rotate_left
                         ·simp only [Act.put, sqA, sqZ, sqS, i64_w, i32_w]
                          rfl
                         refine take_ (i := 4) (N := some 110) (v := ?_) (a' := ?_) #[true, true, true, true, true, true, true, true, true, false, false, false, true, true, true, true, false, false, false, false] rfl rfl (take_ofW HT_.out HW_.out (by kernel_rfl)) (fun _ _ _ h => h) (Or.inl ⟨by rfl, ?_⟩) hHeld ?_ ?_
                         rotate_left
                         ·rintro w' ⟨s0, s1, s2, s3, s4, s5, s6, s7⟩
                          go_simp
                          with_reducible rfl
                         rotate_left
                         ·simp only [Act.put, sqA, sqZ, sqS, i64_w, i32_w]
                          rfl
                         refine take_ (i := 9) (N := some 115) (v := ?_) (a' := ?_) #[true, true, true, true, true, true, true, true, true, true, false, false, true, true, true, true, false, false, false, false] rfl rfl (take_ofW HT_.out HW_.out (by kernel_rfl)) (fun _ _ _ h => h) (Or.inl ⟨by rfl, ?_⟩) hHeld ?_ ?_
                         rotate_left
                         ·rintro w' ⟨s0, s1, s2, s3, s4, s5, s6, s7⟩
                          go_simp
                          with_reducible rfl
                         rotate_left
                         ·simp only [Act.put, sqA, sqZ, sqS, i64_w, i32_w]
                          rfl
                         refine pure_ (i := 10) (N := some 116) (v := ?_) (a' := ?_) #[true, true, true, true, true, true, true, true, true, true, true, false, true, true, true, true, false, false, false, false] rfl rfl (any_of HT_.out (by kernel_rfl)) (fun _ _ _ h => h) (Or.inl ⟨by rfl, ?_⟩) ?_ ?_
                         rotate_left
                         ·intro w'
                          go_simp
                          with_reducible rfl
                         rotate_left
                         ·simp only [Act.put, sqA, sqZ, sqS, i64_w, i32_w]
                          rfl
                         refine take_ (i := 11) (N := some 117) (v := ?_) (a' := ?_) #[true, true, true, true, true, true, true, true, true, true, true, true, true, true, true, true, false, false, false, false] rfl rfl (take_ofW HT_.out HW_.out (by kernel_rfl)) (fun _ _ _ h => h) (Or.inl ⟨by rfl, ?_⟩) hHeld ?_ ?_
                         rotate_left
                         ·rintro w' ⟨s0, s1, s2, s3, s4, s5, s6, s7⟩
                          go_simp
                          with_reducible rfl
                         rotate_left
                         ·simp only [Act.put, sqA, sqZ, sqS, i64_w, i32_w]
                          rfl
                         refine take_ (i := 16) (N := some 122) (v := ?_) (a' := ?_) #[true, true, true, true, true, true, true, true, true, true, true, true, true, true, true, true, true, false, false, false] rfl rfl (take_ofW HT_.out HW_.out (by kernel_rfl)) (fun _ _ _ h => h) (Or.inl ⟨by rfl, ?_⟩) hHeld ?_ ?_
                         rotate_left
                         ·rintro w' ⟨s0, s1, s2, s3, s4, s5, s6, s7⟩
                          go_simp
                          with_reducible rfl
                         rotate_left
                         ·simp only [Act.put, sqA, sqZ, sqS, i64_w, i32_w]
                          rfl
                         refine pure_ (i := 17) (N := some 123) (v := ?_) (a' := ?_) #[true, true, true, true, true, true, true, true, true, true, true, true, true, true, true, true, true, true, false, false] rfl rfl (any_of HT_.out (by kernel_rfl)) (fun _ _ _ h => h) (Or.inl ⟨by rfl, ?_⟩) ?_ ?_
                         rotate_left
                         ·intro w'
                          go_simp
                          with_reducible rfl
                         rotate_left
                         ·simp only [Act.put, sqA, sqZ, sqS, i64_w, i32_w]
                          rfl
                         refine pure_ (i := 18) (N := some 124) (v := ?_) (a' := ?_) #[true, true, true, true, true, true, true, true, true, true, true, true, true, true, true, true, true, true, true, false] rfl rfl (any_of HT_.out (by kernel_rfl)) (fun _ _ _ h => h) (Or.inl ⟨by rfl, ?_⟩) ?_ ?_
                         rotate_left
                         ·intro w'
                          go_simp
                          with_reducible rfl
                         rotate_left
                         ·simp only [Act.put, sqA, sqZ, sqS, i64_w, i32_w]
                          rfl
                         refine last_ (i := 19) (N := none) #[true, true, true, true, true, true, true, true, true, true, true, true, true, true, true, true, true, true, true, true] rfl rfl (one_of HT_.out (by kernel_rfl)) (by decide) (fun K hK => ?_)
                         refine skip_ (w1 := ?_) (by rfl) rfl ?_ ?_
                         rotate_left
                         ·go_simp
                          rfl
                         refine hK.out _ _ ?_
                         clear hK K
                         refine done_ (done_of HT_.out (by kernel_rfl)) ?_
                         have p329 : 0 ≤ (x11_1 : Int) := of_decide_eq_true (by first | (with_reducible assumption) | assumption)
                         have q329 : x11_1 < (t310.length : Int) := of_decide_eq_true (by first | (with_reducible assumption) | assumption)
                         obtain ⟨ad329, e329, hx329_0⟩ := Kd.at_int (Kd.R_reads' (Kd.R_far (p := ⟨go49, ((rd t310 x11_1) : Int).toNat, none⟩) (Kd.R_mono HO_8.out (fun k_ hk => (⟨hk, fun e_ => hk (by rw [e_]; rfl)⟩ : _ ∧ k_ ≠ go49))) (fun _ hk => hk.2) (.int .i64 (wrap64 ((rd x10_1 (rd t310 x11_1)) + ((rd_T31 t301 x11_1).f4)))))).2.2 x11_1 p329 q329
                         obtain rfl : ad323 = ad329 := (by injection e329)
                         replace p329 := eq_true p329
                         replace q329 := eq_true q329
                         have p50 : 0 ≤ ((rd t310 x11_1) : Int) := of_decide_eq_true (by first | (with_reducible assumption) | assumption)
                         have q50 : ((rd t310 x11_1) : Int) < ((x10_1.length : Int) : Int) := of_decide_eq_true (by first | (with_reducible assumption) | assumption)
                         replace p50 := eq_true p50
                         replace q50 := eq_true q50
                         try go_wp2
                         go_roundg kj27
                         case measure => have := HK1.out; have := HJ23.out; have := HK3.out; have := HJ27.out; omega
                         case rel => exact ⟨(y328), (wrap64 (x11_1 + 1)), (by first | rfl | (simp; done) | (simp [*]; done)), H', ⟨by have := HK1.out; have := HJ23.out; have := HK3.out; have := HJ27.out; omega⟩, ⟨by (with_reducible repeat (first | apply Kd.R_alloc | apply Kd.R_drewN | apply Kd.R_drew)); exact Kd.R_mono (Kd.R_far (p := ⟨go49, ((rd t310 x11_1) : Int).toNat, none⟩) (Kd.R_types HO_3.out GG49.out (by decide)) (fun _ hk => hk.2) (.int .i64 (wrap64 ((rd x10_1 (rd t310 x11_1)) + ((rd_T31 t301 x11_1).f4))))) (fun _ hk => trivial)⟩, ⟨by (with_reducible repeat (first | apply Kd.R_alloc | apply Kd.R_drewN | apply Kd.R_drew)); exact Kd.R_mono (Kd.R_far (p := ⟨go49, ((rd t310 x11_1) : Int).toNat, none⟩) (Kd.R_mono HO_8.out (fun k_ hk => (⟨hk, fun e_ => hk (by rw [e_]; rfl)⟩ : _ ∧ k_ ≠ go49))) (fun _ hk => hk.2) (.int .i64 (wrap64 ((rd x10_1 (rd t310 x11_1)) + ((rd_T31 t301 x11_1).f4))))) (fun _ hk => hk.1)⟩, ⟨by (with_reducible repeat (first | apply Kd.R_alloc | apply Kd.R_drewN | apply Kd.R_drew)); exact HQ57.out⟩, ⟨by repeat (first | (with_reducible first | exact HB.out | apply below_alloc | apply pw_below_drewN | apply below_drew1 | refine below_set ?_ GB49.out) | exact HB.out)⟩⟩
                       ·rw [if_neg c48] at H
                        exact absurd H (by simp)
                      ·rw [if_neg c47] at H
                       exact absurd H (by simp)
                     ·rw [if_neg c46] at H
                      exact absurd H (by simp)
                    ·rw [if_neg c45] at H
                     have c45b0 : decide (0 ≤ (rd t310 x11_1)) = false := decide_eq_false c45
                     clear c45
                     have H' := Aside0.mk H
                     clear H
                     have p323 : 0 ≤ (x11_1 : Int) := of_decide_eq_true (by first | (with_reducible assumption) | assumption)
                     have q323 : x11_1 < (t310.length : Int) := of_decide_eq_true (by first | (with_reducible assumption) | assumption)
                     obtain ⟨ad323, e323, hx323_0⟩ := Kd.at_int (Kd.R_reads' HO_8.out).2.2 x11_1 p323 q323
                     cases e323
                     replace p323 := eq_true p323
                     replace q323 := eq_true q323
                     go_wp2
                     go_roundg kj27
                     case measure => have := HK1.out; have := HJ23.out; have := HK3.out; have := HJ27.out; omega
                     case rel => exact ⟨(x10_1), (wrap64 (x11_1 + 1)), (by first | rfl | (simp; done) | (simp [*]; done)), H', ⟨by have := HK1.out; have := HJ23.out; have := HK3.out; have := HJ27.out; omega⟩, ⟨by (with_reducible repeat (first | apply Kd.R_alloc | apply Kd.R_drewN | apply Kd.R_drew)); exact HO_3.out⟩, ⟨by (with_reducible repeat (first | apply Kd.R_alloc | apply Kd.R_drewN | apply Kd.R_drew)); exact HO_8.out⟩, ⟨by (with_reducible repeat (first | apply Kd.R_alloc | apply Kd.R_drewN | apply Kd.R_drew)); exact HO_10.out⟩, ⟨by repeat (first | (with_reducible first | exact HB.out | apply below_alloc | apply pw_below_drewN | apply below_drew1) | exact HB.out)⟩⟩
                   ·rw [if_neg c44] at H
                    exact absurd H (by simp)
                  ·rw [if_neg c43] at H
                   exact absurd H (by simp)
         ·rw [if_neg c23] at H
          have c23b0 : decide (x11_1 < (t310.length : Int)) = false := decide_eq_false c23
          clear c23
          obtain rfl := Option.some.inj H
          go_wp2
          go_ret
          exact ⟨by first | rfl | (simp [errW_none, errW_some] <;> rfl) | (simp [*, errW_none, errW_some] <;> rfl), by repeat (first | (with_reducible first | exact HB.out | apply below_alloc | apply pw_below_drewN | apply below_drew1) | exact HB.out)⟩
      ·rw [if_neg c15] at H
       exact absurd H (by simp)
     ·rw [if_neg c14] at H
      exact absurd H (by simp)
    ·rw [if_neg c13] at H
     have c13b0 : ((t310.length : Int) == (t301.length : Int)) = false := beq_eq_false_iff_ne.mpr c13
     have c13b1 : ((t310.length : Int) != (t301.length : Int)) = true := bne_iff_ne.mpr c13
     have c13b2 : (t310.length == t301.length) = false := by first | simpa using c13 | (simp at c13 ⊢; omega)
     obtain rfl := Option.some.inj H
     go_enter Try.func3, Try.ntmps3
     go_wp2_with (first | ((with_reducible refine gate_callee (f := 9) rfl ?_); refine goesL_ (some 14) rfl rfl Try.func9 (by kernel_rfl) rfl #[.slice A0 l0.length c0] rfl (by (try simp only [List.map_toArray, List.map_cons, List.map_nil]); first | done | rfl | (simp only [List.length_drop, List.length_take]; rfl)) ?_; (with_reducible refine (laws_big.calls _ _ l0 false _ ?side1 ?side2 A2.out).mono ?_); (case side1 => repeat (first | exact HR0.out | (with_reducible refine Kd.C_alloc ?_ _) | (with_reducible refine Kd.C_drewN ?_ _) | (with_reducible refine Kd.C_drew ?_))); (case side2 => exact HC0.out); rintro e w' ⟨rfl, ⟨nd, rfl⟩⟩; refine ⟨_, rfl, ?_⟩) | ((with_reducible refine gate_callee (f := 10) rfl ?_); refine goesL_ (some 17) rfl rfl Try.func10 (by kernel_rfl) rfl #[.slice A0 l0.length c0] rfl (by (try simp only [List.map_toArray, List.map_cons, List.map_nil]); first | done | rfl | (simp only [List.length_drop, List.length_take]; rfl)) ?_; (with_reducible refine (spec_DrawDeal.calls k _ _ l0 t301 t302 t303 _ ?side1 ?side2 A4.out).mono ?_); (case side1 => repeat (first | exact HR0.out | (with_reducible refine Kd.C_alloc ?_ _) | (with_reducible refine Kd.C_drewN ?_ _) | (with_reducible refine Kd.C_drew ?_))); (case side2 => exact HC0.out); rintro e w58 ⟨v304, rfl, ho0, hb⟩; refine ⟨_, rfl, ?_⟩; have n0_ := Aside0.mk (Kd.R_lower ho0 (below_size (by repeat (first | (with_reducible first | exact HB.out | apply below_alloc | apply pw_below_drewN | apply below_drew1) | exact HB.out)))); have n1_ := Aside0.mk (below_step (by repeat (first | (with_reducible first | exact HB.out | apply below_alloc | apply pw_below_drewN | apply below_drew1) | exact HB.out)) hb); clear HB; have HO305 := n0_; have HB := n1_; clear n0_ n1_; (try clear hb); (try clear hb2); (try clear hk); (try clear hi); (try clear ho0); obtain ⟨Ao59, co59, eo59⟩ := Kd.R_slice HO305.out; subst eo59) | ((with_reducible refine gate_callee (f := 11) rfl ?_); refine goesL_ (some 25) rfl rfl Try.func11 (by kernel_rfl) rfl #[.slice Ao59 t301.length co59, .int .i64 t302, .int .i64 t303] rfl (by (try simp only [List.map_toArray, List.map_cons, List.map_nil]); first | done | rfl | (simp only [List.length_drop, List.length_take]; rfl)) ?_; (with_reducible refine (spec_Deal.calls k _ _ t301 t302 t303 t306 true _ ?side1 ?side2 A5.out).mono ?_); (case side1 => repeat (first | exact (Kd.R_reads' HO305.out).2.2 | (with_reducible refine Kd.C_alloc ?_ _) | (with_reducible refine Kd.C_drewN ?_ _) | (with_reducible refine Kd.C_drew ?_))); (case side2 => exact (Kd.R_reads' HO305.out).2.1); rintro e w60 ⟨v308, rfl, ho0, hb⟩; refine ⟨_, rfl, ?_⟩; have n0_ := Aside0.mk (Kd.R_below (by (with_reducible repeat (first | apply Kd.R_alloc | apply Kd.R_drewN | apply Kd.R_drew)); exact HO305.out) hb); have n1_ := Aside0.mk (Kd.R_lower ho0 (below_size (by repeat (first | (with_reducible first | exact HB.out | apply below_alloc | apply pw_below_drewN | apply below_drew1) | exact HB.out)))); have n2_ := Aside0.mk (below_step (by repeat (first | (with_reducible first | exact HB.out | apply below_alloc | apply pw_below_drewN | apply below_drew1) | exact HB.out)) hb); clear HO305; clear HB; have HO305 := n0_; have HO309 := n1_; have HB := n2_; clear n0_ n1_ n2_; (try clear hb); (try clear hb2); (try clear hk); (try clear hi); (try clear ho0)) | ((with_reducible refine gate_callee (f := 12) rfl ?_); refine goesL_ (some 32) rfl rfl Try.func12 (by kernel_rfl) rfl #[.slice Ao59 t301.length co59, .int .i64 t302, .int .i64 t303] rfl (by (try simp only [List.map_toArray, List.map_cons, List.map_nil]); first | done | rfl | (simp only [List.length_drop, List.length_take]; rfl)) ?_; (with_reducible refine (impl_Deal.calls k _ _ t301 t302 t303 t310 t311 _ ?side1 ?side2 A6.out).mono ?_); (case side1 => repeat (first | exact (Kd.R_reads' HO305.out).2.2 | (with_reducible refine Kd.C_alloc ?_ _) | (with_reducible refine Kd.C_drewN ?_ _) | (with_reducible refine Kd.C_drew ?_))); (case side2 => exact (Kd.R_reads' HO305.out).2.1); rintro e w61 ⟨v312, rfl, ho0, hb⟩; refine ⟨_, rfl, ?_⟩; have n0_ := Aside0.mk (Kd.R_below (by (with_reducible repeat (first | apply Kd.R_alloc | apply Kd.R_drewN | apply Kd.R_drew)); exact HO305.out) hb); have n1_ := Aside0.mk (Kd.R_elder' (by (with_reducible repeat (first | apply Kd.R_alloc | apply Kd.R_drewN | apply Kd.R_drew)); exact HO309.out) (Kd.R_base ho0) hb); have n2_ := Aside0.mk (Kd.R_lower (Kd.R_new' ho0 (Kd.R_lt (by (with_reducible repeat (first | apply Kd.R_alloc | apply Kd.R_drewN | apply Kd.R_drew)); exact HO309.out))) (below_size (by repeat (first | (with_reducible first | exact HB.out | apply below_alloc | apply pw_below_drewN | apply below_drew1) | exact HB.out)))); have n3_ := Aside0.mk (below_step (by repeat (first | (with_reducible first | exact HB.out | apply below_alloc | apply pw_below_drewN | apply below_drew1) | exact HB.out)) hb); clear HO305; clear HO309; clear HB; have HO305 := n0_; have HO309 := n1_; have HO313 := n2_; have HB := n3_; clear n0_ n1_ n2_ n3_; (try clear hb); (try clear hb2); (try clear hk); (try clear hi); (try clear ho0); obtain ⟨Ao62, co62, eo62⟩ := Kd.R_slice HO313.out; subst eo62))
     go_ret
     exact ⟨by first | rfl | (simp [errW_none, errW_some] <;> rfl) | (simp [*, errW_none, errW_some] <;> rfl), by repeat (first | (with_reducible first | exact HB.out | apply below_alloc | apply pw_below_drewN | apply below_drew1) | exact HB.out)⟩
   ·replace c12 := Bool.eq_false_iff.mpr c12
    subst c12
    have H1 : (some ((t310.length : Int) == 0)) = some r := by rw [if_neg (show ¬ (false = true) by decide)] at H; exact H
    clear H
    have H := H1
    clear H1
    obtain rfl := Option.some.inj H
    go_enter Try.func3, Try.ntmps3
    go_wp2_with (first | ((with_reducible refine gate_callee (f := 9) rfl ?_); refine goesL_ (some 14) rfl rfl Try.func9 (by kernel_rfl) rfl #[.slice A0 l0.length c0] rfl (by (try simp only [List.map_toArray, List.map_cons, List.map_nil]); first | done | rfl | (simp only [List.length_drop, List.length_take]; rfl)) ?_; (with_reducible refine (laws_big.calls _ _ l0 false _ ?side1 ?side2 A2.out).mono ?_); (case side1 => repeat (first | exact HR0.out | (with_reducible refine Kd.C_alloc ?_ _) | (with_reducible refine Kd.C_drewN ?_ _) | (with_reducible refine Kd.C_drew ?_))); (case side2 => exact HC0.out); rintro e w' ⟨rfl, ⟨nd, rfl⟩⟩; refine ⟨_, rfl, ?_⟩) | ((with_reducible refine gate_callee (f := 10) rfl ?_); refine goesL_ (some 17) rfl rfl Try.func10 (by kernel_rfl) rfl #[.slice A0 l0.length c0] rfl (by (try simp only [List.map_toArray, List.map_cons, List.map_nil]); first | done | rfl | (simp only [List.length_drop, List.length_take]; rfl)) ?_; (with_reducible refine (spec_DrawDeal.calls k _ _ l0 t301 t302 t303 _ ?side1 ?side2 A4.out).mono ?_); (case side1 => repeat (first | exact HR0.out | (with_reducible refine Kd.C_alloc ?_ _) | (with_reducible refine Kd.C_drewN ?_ _) | (with_reducible refine Kd.C_drew ?_))); (case side2 => exact HC0.out); rintro e w63 ⟨v304, rfl, ho0, hb⟩; refine ⟨_, rfl, ?_⟩; have n0_ := Aside0.mk (Kd.R_lower ho0 (below_size (by repeat (first | (with_reducible first | exact HB.out | apply below_alloc | apply pw_below_drewN | apply below_drew1) | exact HB.out)))); have n1_ := Aside0.mk (below_step (by repeat (first | (with_reducible first | exact HB.out | apply below_alloc | apply pw_below_drewN | apply below_drew1) | exact HB.out)) hb); clear HB; have HO305 := n0_; have HB := n1_; clear n0_ n1_; (try clear hb); (try clear hb2); (try clear hk); (try clear hi); (try clear ho0); obtain ⟨Ao64, co64, eo64⟩ := Kd.R_slice HO305.out; subst eo64) | ((with_reducible refine gate_callee (f := 11) rfl ?_); refine goesL_ (some 25) rfl rfl Try.func11 (by kernel_rfl) rfl #[.slice Ao64 t301.length co64, .int .i64 t302, .int .i64 t303] rfl (by (try simp only [List.map_toArray, List.map_cons, List.map_nil]); first | done | rfl | (simp only [List.length_drop, List.length_take]; rfl)) ?_; (with_reducible refine (spec_Deal.calls k _ _ t301 t302 t303 t306 false _ ?side1 ?side2 A5.out).mono ?_); (case side1 => repeat (first | exact (Kd.R_reads' HO305.out).2.2 | (with_reducible refine Kd.C_alloc ?_ _) | (with_reducible refine Kd.C_drewN ?_ _) | (with_reducible refine Kd.C_drew ?_))); (case side2 => exact (Kd.R_reads' HO305.out).2.1); rintro e w65 ⟨v308, rfl, ho0, hb⟩; refine ⟨_, rfl, ?_⟩; have n0_ := Aside0.mk (Kd.R_below (by (with_reducible repeat (first | apply Kd.R_alloc | apply Kd.R_drewN | apply Kd.R_drew)); exact HO305.out) hb); have n1_ := Aside0.mk (Kd.R_lower ho0 (below_size (by repeat (first | (with_reducible first | exact HB.out | apply below_alloc | apply pw_below_drewN | apply below_drew1) | exact HB.out)))); have n2_ := Aside0.mk (below_step (by repeat (first | (with_reducible first | exact HB.out | apply below_alloc | apply pw_below_drewN | apply below_drew1) | exact HB.out)) hb); clear HO305; clear HB; have HO305 := n0_; have HO309 := n1_; have HB := n2_; clear n0_ n1_ n2_; (try clear hb); (try clear hb2); (try clear hk); (try clear hi); (try clear ho0)) | ((with_reducible refine gate_callee (f := 12) rfl ?_); refine goesL_ (some 32) rfl rfl Try.func12 (by kernel_rfl) rfl #[.slice Ao64 t301.length co64, .int .i64 t302, .int .i64 t303] rfl (by (try simp only [List.map_toArray, List.map_cons, List.map_nil]); first | done | rfl | (simp only [List.length_drop, List.length_take]; rfl)) ?_; (with_reducible refine (impl_Deal.calls k _ _ t301 t302 t303 t310 t311 _ ?side1 ?side2 A6.out).mono ?_); (case side1 => repeat (first | exact (Kd.R_reads' HO305.out).2.2 | (with_reducible refine Kd.C_alloc ?_ _) | (with_reducible refine Kd.C_drewN ?_ _) | (with_reducible refine Kd.C_drew ?_))); (case side2 => exact (Kd.R_reads' HO305.out).2.1); rintro e w66 ⟨v312, rfl, ho0, hb⟩; refine ⟨_, rfl, ?_⟩; have n0_ := Aside0.mk (Kd.R_below (by (with_reducible repeat (first | apply Kd.R_alloc | apply Kd.R_drewN | apply Kd.R_drew)); exact HO305.out) hb); have n1_ := Aside0.mk (Kd.R_elder' (by (with_reducible repeat (first | apply Kd.R_alloc | apply Kd.R_drewN | apply Kd.R_drew)); exact HO309.out) (Kd.R_base ho0) hb); have n2_ := Aside0.mk (Kd.R_lower (Kd.R_new' ho0 (Kd.R_lt (by (with_reducible repeat (first | apply Kd.R_alloc | apply Kd.R_drewN | apply Kd.R_drew)); exact HO309.out))) (below_size (by repeat (first | (with_reducible first | exact HB.out | apply below_alloc | apply pw_below_drewN | apply below_drew1) | exact HB.out)))); have n3_ := Aside0.mk (below_step (by repeat (first | (with_reducible first | exact HB.out | apply below_alloc | apply pw_below_drewN | apply below_drew1) | exact HB.out)) hb); clear HO305; clear HO309; clear HB; have HO305 := n0_; have HO309 := n1_; have HO313 := n2_; have HB := n3_; clear n0_ n1_ n2_ n3_; (try clear hb); (try clear hb2); (try clear hk); (try clear hi); (try clear ho0); obtain ⟨Ao67, co67, eo67⟩ := Kd.R_slice HO313.out; subst eo67))
    go_ret
    exact ⟨by first | rfl | (simp [errW_none, errW_some] <;> rfl) | (simp [*, errW_none, errW_some] <;> rfl), by repeat (first | (with_reducible first | exact HB.out | apply below_alloc | apply pw_below_drewN | apply below_drew1) | exact HB.out)⟩

/-- THE ONE PURE STATEMENT of laws_FnDealt: yours. -/
def laws_FnDealt.Pure : Prop := ∀ (l0 : List Int), l0.length ≤ maxLen → l0.length * 1 ≤ 140737488351232 → (∀ x ∈ l0, (Lit.int .u8 x).wf = true) → ∃ k, laws_FnDealt.f k l0 = some true
theorem laws_FnDealt.walk (P : laws_FnDealt.Pure) (a0 : Option Addr) (len0 cap0 : Nat) (z0 : List Int) (w : World) (w0 : (a0 = none ∧ len0 = 0 ∧ cap0 = 0 ∧ z0 = []) ∨ ∃ x, a0 = some x ∧ len0 ≤ cap0 ∧ cap0 ≤ maxLen ∧ z0.length = cap0 ∧ (∀ i, i < z0.length → w.cell? (x.add i) = some (.int .u8 (z0.getD i 0))) ∧ ∀ n ∈ z0, (Lit.int .u8 n).wf = true) (y0 : len0 * 1 ≤ 140737488351232) :
  Calls Try.prog 3 #[.slice a0 len0 cap0] w fun e w' => e = .returned (.bool true) ∧ Below w.heap.size w w' := by
 obtain ⟨l0, rfl, hr0, hm0, hw0, hc0⟩ := ReadsInt.ofRowC w0
 obtain ⟨k, h⟩ := P l0 hm0 y0 hw0
 refine (laws_FnDealt.calls k _ _ l0 true w (Kd.C_of_reads (d := (0 : Int)) (h1 := fun _ => rfl) hr0) hc0 h).mono ?_
 rintro e w' ⟨rfl, hd⟩
 exact ⟨rfl, hd⟩

end Go.Proofs.Yteobnbichpadjab.Q
