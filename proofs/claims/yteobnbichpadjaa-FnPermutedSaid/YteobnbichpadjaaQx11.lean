/- Plain Lean functions with the same answers as the Go functions of this seat, and a proof for each that the Go code comes to just these answers; no condition. Written by a program of this session (the kit's printer, turned). -/
import Derived.Test.YteobnbichpadjaaQx0
namespace Go.Proofs.Yteobnbichpadjaa.Q
open Go.RowKit Go.Proofs.YteobnbichpadjaaW.PrintWords Go.Proofs.YteobnbichpadjaaW.PrintLast Go.Proofs.YteobnbichpadjaaW.PrintMore Go.Proofs.YteobnbichpadjaaW.PrintFlt
attribute [local go_sem] cmp_lss cmp_leq cmp_gtr cmp_geq cmp_eql cmp_neq flt_l flt_r fgt_l fgt_r feq_l feq_r fne_l fne_r ord_lt ord_gt ord_eq ord_ne conv_int conv_flt foi_fold run_store_flt
attribute [local go_sem] max2_int min2_int max_two min_two max_three min_three max_four min_four   -- for this text's walks alone
set_option linter.unusedVariables false
set_option linter.unusedSimpArgs false

/-! ### spec_l18Ways: function 54 -/
def spec_l18Ways.f : Nat → List Int → Int → Int → Int → Option (Int × Int)
 | 0, _, _, _, _ => none
 | k + 1, l0, a1, a2, a3 => if a2 = 0 then (if a3 ≤ 0 then (some (1, 1)) else (some (0, 1))) else (if (wrap64 ((l0.length : Int) - a1)) < a2 then (some (0, 0)) else (if 0 ≤ a1 then (if a1 < (l0.length : Int) then ((spec_l18Ways.f k l0 (wrap64 (a1 + 1)) (wrap64 (a2 - 1)) (wrap64 (a3 - (rd l0 a1)))).bind fun bt160 => ((spec_l18Ways.f k l0 (wrap64 (a1 + 1)) a2 a3).bind fun bt162 => (some (wrap64 (bt160.1 + bt162.1), wrap64 (bt160.2 + bt162.2))))) else (none)) else (none)))
theorem spec_l18Ways.mono_l : ∀ k, (∀ y0 y1 y2 y3, LeO (spec_l18Ways.f k y0 y1 y2 y3) (spec_l18Ways.f (k + 1) y0 y1 y2 y3))
 | 0 => fun _ _ _ _ r h => by simp [spec_l18Ways.f] at h
 | k + 1 => by
  have ih0 := spec_l18Ways.mono_l k
  ·intro y0 y1 y2 y3
   unfold spec_l18Ways.f
   repeat' first
   | (with_reducible exact ih0 _ _ _ _)
   | (with_reducible exact LeO.refl _)
   | (with_reducible exact LeO.none _)
   | (with_reducible refine LeO.ite ?_ ?_)
   | (with_reducible refine LeO.bind ?_ (fun _ => ?_))
   | exact ih0 _ _ _ _
   | exact LeO.none _
   | refine LeO.ite ?_ ?_
   | refine LeO.bind ?_ (fun _ => ?_)
theorem spec_l18Ways.mono : ∀ a0 a1 a2 a3 k, LeO (spec_l18Ways.f k a0 a1 a2 a3) (spec_l18Ways.f (k + 1) a0 a1 a2 a3) := by
 intro a0 a1 a2 a3 k
 have ih0 := spec_l18Ways.mono_l k
 exact ih0 a0 a1 a2 a3
set_option maxHeartbeats 8000000 in
set_option maxRecDepth 100000 in
theorem spec_l18Ways.calls (k : Nat) : ∀ (A0 : Option Addr) (c0 : Nat) (l0 : List Int) (a1 : Int) (a2 : Int) (a3 : Int) (r1 : Int) (r2 : Int) (w : World) (hr0 : Kd.C (Kd.int .i64) w A0 l0.length l0) (hc0 : l0.length ≤ c0) (h : spec_l18Ways.f k l0 a1 a2 a3 = some (r1, r2)),
  Calls Try.prog 54 #[.slice A0 l0.length c0, .int .i64 a1, .int .i64 a2, .int .i64 a3] w fun e w' => e = .returned (.tuple #[.int .i64 r1, .int .i64 r2]) ∧ Drawn0 w w' := by
 induction k using Nat.strongRecOn with
 | _ k ih =>
 intro A0 c0 l0 a1 a2 a3 r1 r2 w hr0 hc0 h
 cases k with
 | zero => exact absurd h (by simp [spec_l18Ways.f])
 | succ k =>
 simp only [spec_l18Ways.f] at h
 have HR0 := Aside0.mk hr0
 have HC0 := Aside0.mk hc0
 clear hr0 hc0
 have H : (if a2 = 0 then (if a3 ≤ 0 then (some (1, 1)) else (some (0, 1))) else (if (wrap64 ((l0.length : Int) - a1)) < a2 then (some (0, 0)) else (if 0 ≤ a1 then (if a1 < (l0.length : Int) then ((spec_l18Ways.f k l0 (wrap64 (a1 + 1)) (wrap64 (a2 - 1)) (wrap64 (a3 - (rd l0 a1)))).bind fun bt160 => ((spec_l18Ways.f k l0 (wrap64 (a1 + 1)) a2 a3).bind fun bt162 => (some (wrap64 (bt160.1 + bt162.1), wrap64 (bt160.2 + bt162.2))))) else (none)) else (none)))) = some (r1, r2) := h
 clear h
 by_cases c5 : a2 = 0
 ·rw [if_pos c5] at H
  have c5b0 : (a2 == 0) = true := beq_iff_eq.mpr c5
  have c5b1 : (a2 != 0) = false := bne_eq_false_iff_eq.mpr c5
  clear c5
  by_cases c6 : a3 ≤ 0
  ·rw [if_pos c6] at H
   have c6b0 : decide (a3 ≤ 0) = true := decide_eq_true c6
   clear c6
   simp only [Option.some.injEq, Prod.mk.injEq] at H
   obtain ⟨rfl, rfl⟩ := H
   go_enter Try.func54, Try.ntmps54
   go_wp2
   go_ret2
   exact ⟨by first | rfl | (simp; done) | (simp [*]; done), by repeat (first | exact Drawn0.refl _ | apply Drawn0.step)⟩
  ·rw [if_neg c6] at H
   have c6b0 : decide (a3 ≤ 0) = false := decide_eq_false c6
   clear c6
   simp only [Option.some.injEq, Prod.mk.injEq] at H
   obtain ⟨rfl, rfl⟩ := H
   go_enter Try.func54, Try.ntmps54
   go_wp2
   go_ret2
   exact ⟨by first | rfl | (simp; done) | (simp [*]; done), by repeat (first | exact Drawn0.refl _ | apply Drawn0.step)⟩
 ·rw [if_neg c5] at H
  have c5b0 : (a2 == 0) = false := beq_eq_false_iff_ne.mpr c5
  have c5b1 : (a2 != 0) = true := bne_iff_ne.mpr c5
  by_cases c7 : (wrap64 ((l0.length : Int) - a1)) < a2
  ·rw [if_pos c7] at H
   have c7b0 : decide ((wrap64 ((l0.length : Int) - a1)) < a2) = true := decide_eq_true c7
   clear c7
   simp only [Option.some.injEq, Prod.mk.injEq] at H
   obtain ⟨rfl, rfl⟩ := H
   go_enter Try.func54, Try.ntmps54
   go_wp2
   go_ret2
   exact ⟨by first | rfl | (simp; done) | (simp [*]; done), by repeat (first | exact Drawn0.refl _ | apply Drawn0.step)⟩
  ·rw [if_neg c7] at H
   have c7b0 : decide ((wrap64 ((l0.length : Int) - a1)) < a2) = false := decide_eq_false c7
   clear c7
   by_cases c8 : 0 ≤ a1
   ·rw [if_pos c8] at H
    have c8b0 : decide (0 ≤ a1) = true := decide_eq_true c8
    clear c8
    by_cases c9 : a1 < (l0.length : Int)
    ·rw [if_pos c9] at H
     have c9b0 : decide (a1 < (l0.length : Int)) = true := decide_eq_true c9
     clear c9
     replace H := Option.bind_eq_some_iff.mp H
     obtain ⟨⟨t160, t161⟩, A100, H⟩ := H
     replace H : ((spec_l18Ways.f k l0 (wrap64 (a1 + 1)) a2 a3).bind fun bt162 => (some (wrap64 (t160 + bt162.1), wrap64 (t161 + bt162.2)))) = some (r1, r2) := H
     have A10 := Aside0.mk A100
     clear A100
     replace H := Option.bind_eq_some_iff.mp H
     obtain ⟨⟨t162, t163⟩, A110, H⟩ := H
     replace H : (some (wrap64 (t160 + t162), wrap64 (t161 + t163))) = some (r1, r2) := H
     have A11 := Aside0.mk A110
     clear A110
     simp only [Option.some.injEq, Prod.mk.injEq] at H
     obtain ⟨rfl, rfl⟩ := H
     have p159 : 0 ≤ (a1 : Int) := of_decide_eq_true (by first | (with_reducible assumption) | assumption)
     have q159 : a1 < (l0.length : Int) := of_decide_eq_true (by first | (with_reducible assumption) | assumption)
     obtain ⟨ad159, e159, hx159_0⟩ := Kd.at_int HR0.out a1 p159 q159
     cases e159
     replace p159 := eq_true p159
     replace q159 := eq_true q159
     go_enter Try.func54, Try.ntmps54
     go_wp2_with (first | ((with_reducible refine gate_callee (f := 54) rfl ?_); refine goesL_ (some 36) rfl rfl Try.func54 (by kernel_rfl) rfl #[.slice (some ad159) l0.length c0, .int .i64 (wrap64 (a1 + 1)), .int .i64 (wrap64 (a2 - 1)), .int .i64 (wrap64 (a3 - (rd l0 a1)))] rfl (by (try simp only [List.map_toArray, List.map_cons, List.map_nil]); first | done | rfl | (simp only [List.length_drop, List.length_take]; rfl)) ?_; (with_reducible refine (ih k (by omega) _ _ l0 (wrap64 (a1 + 1)) (wrap64 (a2 - 1)) (wrap64 (a3 - (rd l0 a1))) t160 t161 _ ?side1 ?side2 A10.out).mono ?_); (case side1 => repeat (first | exact HR0.out | (with_reducible refine Kd.C_alloc ?_ _) | (with_reducible refine Kd.C_drewN ?_ _) | (with_reducible refine Kd.C_drew ?_))); (case side2 => exact HC0.out); rintro e w' ⟨rfl, ⟨nd, rfl⟩⟩; refine ⟨_, rfl, ?_⟩) | ((with_reducible refine gate_callee (f := 54) rfl ?_); refine goesL_ (some 45) rfl rfl Try.func54 (by kernel_rfl) rfl #[.slice (some ad159) l0.length c0, .int .i64 (wrap64 (a1 + 1)), .int .i64 a2, .int .i64 a3] rfl (by (try simp only [List.map_toArray, List.map_cons, List.map_nil]); first | done | rfl | (simp only [List.length_drop, List.length_take]; rfl)) ?_; (with_reducible refine (ih k (by omega) _ _ l0 (wrap64 (a1 + 1)) a2 a3 t162 t163 _ ?side1 ?side2 A11.out).mono ?_); (case side1 => repeat (first | exact HR0.out | (with_reducible refine Kd.C_alloc ?_ _) | (with_reducible refine Kd.C_drewN ?_ _) | (with_reducible refine Kd.C_drew ?_))); (case side2 => exact HC0.out); rintro e w' ⟨rfl, ⟨nd, rfl⟩⟩; refine ⟨_, rfl, ?_⟩))
     go_ret2
     exact ⟨by first | rfl | (simp; done) | (simp [*]; done), by repeat (first | exact Drawn0.refl _ | apply Drawn0.step)⟩
    ·rw [if_neg c9] at H
     exact absurd H (by simp)
   ·rw [if_neg c8] at H
    exact absurd H (by simp)

end Go.Proofs.Yteobnbichpadjaa.Q
