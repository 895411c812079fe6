/- Plain Lean functions with the same answers as the Go functions of this seat, and a proof for each that the Go code comes to just these answers; no condition. Written by a program of this session (the kit's printer, turned). -/
import Derived.Test.YteobnbichpadjabQx0
import Derived.Test.YteobnbichpadjabQx23
namespace Go.Proofs.Yteobnbichpadjab.Q
open Go.RowKit Go.Proofs.YteobnbichpadjabW.PrintWords Go.Proofs.YteobnbichpadjabW.PrintLast Go.Proofs.YteobnbichpadjabW.PrintMore Go.Proofs.YteobnbichpadjabW.PrintFlt
attribute [local go_sem] cmp_lss cmp_leq cmp_gtr cmp_geq cmp_eql cmp_neq flt_l flt_r fgt_l fgt_r feq_l feq_r fne_l fne_r ord_lt ord_gt ord_eq ord_ne conv_int foi_fold run_store_flt
attribute [local go_sem] max2_int min2_int max_two min_two max_three min_three max_four min_four   -- for this text's walks alone
set_option linter.unusedVariables false
set_option linter.unusedSimpArgs false

/-! ### slices_IndexFunc_int64_int64_impl_Deal_1: function 44 -/
def slices_IndexFunc_int64_int64_impl_Deal_1.l0 : Nat → List Int → Int → Int → List (S31) → List Int → Option (Int)
 | 0, _, _, _, _, _ => none
 | k + 1, x0, x7, x8, x901, x902 => if x8 < x7 then (if 0 ≤ x8 then (if x8 < (x0.length : Int) then ((impl_Deal_1.f (rd x0 x8) x901 x902).bind fun t276 => (if t276 = true then (some x8) else (slices_IndexFunc_int64_int64_impl_Deal_1.l0 k x0 x7 (wrap64 (x8 + 1)) x901 x902))) else (none)) else (none)) else (some (-1))
def slices_IndexFunc_int64_int64_impl_Deal_1.f (k : Nat) (l0 : List Int) (l1 : List (S31)) (l2 : List Int) : Option (Int) := slices_IndexFunc_int64_int64_impl_Deal_1.l0 k l0 (l0.length : Int) 0 l1 l2
theorem slices_IndexFunc_int64_int64_impl_Deal_1.mono_l : ∀ k, (∀ y0 y1 y2 y3 y4, LeO (slices_IndexFunc_int64_int64_impl_Deal_1.l0 k y0 y1 y2 y3 y4) (slices_IndexFunc_int64_int64_impl_Deal_1.l0 (k + 1) y0 y1 y2 y3 y4))
 | 0 => fun _ _ _ _ _ r h => by simp [slices_IndexFunc_int64_int64_impl_Deal_1.l0] at h
 | k + 1 => by
  have ih0 := slices_IndexFunc_int64_int64_impl_Deal_1.mono_l k
  ·intro y0 y1 y2 y3 y4
   unfold slices_IndexFunc_int64_int64_impl_Deal_1.l0
   repeat' first
   | (with_reducible exact ih0 _ _ _ _ _)
   | (with_reducible exact LeO.refl _)
   | (with_reducible exact LeO.none _)
   | (with_reducible refine LeO.ite ?_ ?_)
   | (with_reducible refine LeO.bind ?_ (fun _ => ?_))
   | exact ih0 _ _ _ _ _
   | exact LeO.none _
   | refine LeO.ite ?_ ?_
   | refine LeO.bind ?_ (fun _ => ?_)
theorem slices_IndexFunc_int64_int64_impl_Deal_1.mono : ∀ a0 a1 a2 k, LeO (slices_IndexFunc_int64_int64_impl_Deal_1.f k a0 a1 a2) (slices_IndexFunc_int64_int64_impl_Deal_1.f (k + 1) a0 a1 a2) := by
 intro a0 a1 a2 k
 have ih0 := slices_IndexFunc_int64_int64_impl_Deal_1.mono_l k
 unfold slices_IndexFunc_int64_int64_impl_Deal_1.f
 repeat' first
   | (with_reducible exact ih0 _ _ _ _ _)
   | (with_reducible exact LeO.refl _)
   | (with_reducible exact LeO.none _)
   | (with_reducible refine LeO.ite ?_ ?_)
   | (with_reducible refine LeO.bind ?_ (fun _ => ?_))
   | exact ih0 _ _ _ _ _
   | exact LeO.none _
   | refine LeO.ite ?_ ?_
   | refine LeO.bind ?_ (fun _ => ?_)
set_option maxHeartbeats 8000000 in
set_option maxRecDepth 100000 in
theorem slices_IndexFunc_int64_int64_impl_Deal_1.calls (k : Nat) (A0 : Option Addr) (c0 : Nat) (l0 : List Int) (G1 : Nat) (l1 : List (S31)) (G2 : Nat) (l2 : List Int) (r : Int) (w : World) (hr0 : Kd.C (Kd.int .i64) w A0 l0.length l0) (hc0 : l0.length ≤ c0) (hr1 : Kd.C k31 w (some ⟨G1, 0, none⟩) l1.length l1) (hc1 : l1.length ≤ l1.length) (hr2 : Kd.C (Kd.int .i64) w (some ⟨G2, 0, none⟩) l2.length l2) (hc2 : l2.length ≤ l2.length) (h : slices_IndexFunc_int64_int64_impl_Deal_1.f k l0 l1 l2 = some r) :
  Calls Try.prog 44 #[.slice A0 l0.length c0, .func (.func 45) #[] #[.pointer (some ⟨G1, 0, none⟩), .pointer (some ⟨G2, 0, none⟩)]] w fun e w' => e = .returned (.int .i64 r) ∧ Drawn0 w w' := by
 have HR0 := Aside0.mk hr0
 have HC0 := Aside0.mk hc0
 clear hr0 hc0
 have HR1 := Aside0.mk hr1
 have HC1 := Aside0.mk hc1
 clear hr1 hc1
 have HR2 := Aside0.mk hr2
 have HC2 := Aside0.mk hc2
 clear hr2 hc2
 have H : (slices_IndexFunc_int64_int64_impl_Deal_1.l0 k l0 (l0.length : Int) 0 l1 l2) = some r := h
 clear h
 have H' := Aside0.mk H
 clear H
 go_enter Try.func44, Try.ntmps44
 go_wp2
 go_loopg [8] k (fun kq v8 w' => ∃ (x8_1 : Int), v8 = .int .i64 x8_1 ∧ Aside0 (slices_IndexFunc_int64_int64_impl_Deal_1.l0 kq l0 (l0.length : Int) x8_1 l1 l2 = some r) ∧ Aside0 (kq ≤ k) ∧ Drawn0 w w')
 case atStart => exact ⟨(0), (by first | rfl | (simp; done) | (simp [*]; done)), H', ⟨Nat.le_refl _⟩, by repeat (first | exact Drawn0.refl _ | apply Drawn0.step)⟩
 case round =>
  clear H'
  try clear c1
  try clear c2
  try clear p2
  obtain ⟨x8_1, rfl, HA, HK1, ⟨m1, rfl⟩⟩ := hrel
  cases gk with
  | zero => exact absurd HA.out (by simp [slices_IndexFunc_int64_int64_impl_Deal_1.l0])
  | succ k1 =>
   have H := HA.out
   clear HA
   simp only [slices_IndexFunc_int64_int64_impl_Deal_1.l0] at H
   by_cases c4 : x8_1 < (l0.length : Int)
   ·rw [if_pos c4] at H
    have c4b0 : decide (x8_1 < (l0.length : Int)) = true := decide_eq_true c4
    clear c4
    by_cases c5 : 0 ≤ x8_1
    ·rw [if_pos c5] at H
     have c5b0 : decide (0 ≤ x8_1) = true := decide_eq_true c5
     clear c5
     by_cases c6 : x8_1 < (l0.length : Int)
     ·rw [if_pos c6] at H
      have c6b0 : decide (x8_1 < (l0.length : Int)) = true := decide_eq_true c6
      clear c6
      replace H := Option.bind_eq_some_iff.mp H
      obtain ⟨t276, A70, H⟩ := H
      replace H : (if t276 = true then (some x8_1) else (slices_IndexFunc_int64_int64_impl_Deal_1.l0 k1 l0 (l0.length : Int) (wrap64 (x8_1 + 1)) l1 l2)) = some r := H
      have A7 := Aside0.mk A70
      clear A70
      by_cases c8 : t276 = true
      ·subst c8
       have H1 : (some x8_1) = some r := by rw [if_pos rfl] at H; exact H
       clear H
       have H := H1
       clear H1
       obtain rfl := Option.some.inj H
       have p275 : 0 ≤ (x8_1 : Int) := of_decide_eq_true (by first | (with_reducible assumption) | assumption)
       have q275 : x8_1 < (l0.length : Int) := of_decide_eq_true (by first | (with_reducible assumption) | assumption)
       obtain ⟨ad275, e275, hx275_0⟩ := Kd.at_int HR0.out x8_1 p275 q275
       cases e275
       replace p275 := eq_true p275
       replace q275 := eq_true q275
       go_wp2_with (first | ((with_reducible refine gate_calleeV (x := 11) rfl ?_); refine goesV_ (some 16) rfl rfl Try.func45 (by kernel_rfl) rfl #[.int .i64 (rd l0 x8_1), .pointer (some ⟨G1, 0, none⟩), .pointer (some ⟨G2, 0, none⟩)] rfl rfl (by (try simp only [List.map_toArray, List.map_cons, List.map_nil]); first | done | rfl | (simp only [List.length_drop, List.length_take]; rfl)) ?_; (with_reducible refine (impl_Deal_1.calls (rd l0 x8_1) _ l1 _ l2 true _ ?side1 ?side2 ?side3 ?side4 A7.out).mono ?_); (case side1 => repeat (first | exact HR1.out | (with_reducible refine Kd.C_alloc ?_ _) | (with_reducible refine Kd.C_drewN ?_ _) | (with_reducible refine Kd.C_drew ?_))); (case side2 => exact HC1.out); (case side3 => repeat (first | exact HR2.out | (with_reducible refine Kd.C_alloc ?_ _) | (with_reducible refine Kd.C_drewN ?_ _) | (with_reducible refine Kd.C_drew ?_))); (case side4 => exact HC2.out); rintro e w' ⟨rfl, ⟨nd, rfl⟩⟩; refine ⟨_, rfl, ?_⟩))
       go_ret
       exact ⟨by first | rfl | (simp; done) | (simp [*]; done), by repeat (first | exact Drawn0.refl _ | apply Drawn0.step)⟩
      ·replace c8 := Bool.eq_false_iff.mpr c8
       subst c8
       have H1 : (slices_IndexFunc_int64_int64_impl_Deal_1.l0 k1 l0 (l0.length : Int) (wrap64 (x8_1 + 1)) l1 l2) = some r := by rw [if_neg (show ¬ (false = true) by decide)] at H; exact H
       clear H
       have H := H1
       clear H1
       have H' := Aside0.mk H
       clear H
       have p275 : 0 ≤ (x8_1 : Int) := of_decide_eq_true (by first | (with_reducible assumption) | assumption)
       have q275 : x8_1 < (l0.length : Int) := of_decide_eq_true (by first | (with_reducible assumption) | assumption)
       obtain ⟨ad275, e275, hx275_0⟩ := Kd.at_int HR0.out x8_1 p275 q275
       cases e275
       replace p275 := eq_true p275
       replace q275 := eq_true q275
       go_wp2_with (first | ((with_reducible refine gate_calleeV (x := 11) rfl ?_); refine goesV_ (some 16) rfl rfl Try.func45 (by kernel_rfl) rfl #[.int .i64 (rd l0 x8_1), .pointer (some ⟨G1, 0, none⟩), .pointer (some ⟨G2, 0, none⟩)] rfl rfl (by (try simp only [List.map_toArray, List.map_cons, List.map_nil]); first | done | rfl | (simp only [List.length_drop, List.length_take]; rfl)) ?_; (with_reducible refine (impl_Deal_1.calls (rd l0 x8_1) _ l1 _ l2 false _ ?side1 ?side2 ?side3 ?side4 A7.out).mono ?_); (case side1 => repeat (first | exact HR1.out | (with_reducible refine Kd.C_alloc ?_ _) | (with_reducible refine Kd.C_drewN ?_ _) | (with_reducible refine Kd.C_drew ?_))); (case side2 => exact HC1.out); (case side3 => repeat (first | exact HR2.out | (with_reducible refine Kd.C_alloc ?_ _) | (with_reducible refine Kd.C_drewN ?_ _) | (with_reducible refine Kd.C_drew ?_))); (case side4 => exact HC2.out); rintro e w' ⟨rfl, ⟨nd, rfl⟩⟩; refine ⟨_, rfl, ?_⟩))
       go_roundg k1
       case measure => have := HK1.out; omega
       case rel => exact ⟨(wrap64 (x8_1 + 1)), (by first | rfl | (simp; done) | (simp [*]; done)), H', ⟨by have := HK1.out; omega⟩, by repeat (first | exact Drawn0.refl _ | apply Drawn0.step)⟩
     ·rw [if_neg c6] at H
      exact absurd H (by simp)
    ·rw [if_neg c5] at H
     exact absurd H (by simp)
   ·rw [if_neg c4] at H
    have c4b0 : decide (x8_1 < (l0.length : Int)) = false := decide_eq_false c4
    clear c4
    obtain rfl := Option.some.inj H
    go_wp2
    go_ret
    exact ⟨by first | rfl | (simp; done) | (simp [*]; done), by repeat (first | exact Drawn0.refl _ | apply Drawn0.step)⟩

end Go.Proofs.Yteobnbichpadjab.Q
