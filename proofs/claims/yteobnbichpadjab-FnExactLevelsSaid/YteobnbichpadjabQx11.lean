/- Plain Lean functions with the same answers as the Go functions of this seat, and a proof for each that the Go code comes to just these answers; no condition. Written by a program of this session (the kit's printer, turned). -/
import Derived.Test.YteobnbichpadjabQx0
namespace Go.Proofs.Yteobnbichpadjab.Q
open Go.RowKit Go.Proofs.YteobnbichpadjabW.PrintWords Go.Proofs.YteobnbichpadjabW.PrintLast Go.Proofs.YteobnbichpadjabW.PrintMore Go.Proofs.YteobnbichpadjabW.PrintFlt
attribute [local go_sem] cmp_lss cmp_leq cmp_gtr cmp_geq cmp_eql cmp_neq flt_l flt_r fgt_l fgt_r feq_l feq_r fne_l fne_r ord_lt ord_gt ord_eq ord_ne conv_int foi_fold run_store_flt
attribute [local go_sem] max2_int min2_int max_two min_two max_three min_three max_four min_four   -- for this text's walks alone
set_option linter.unusedVariables false
set_option linter.unusedSimpArgs false

/-! ### impl_Levels_1: function 62 -/
def impl_Levels_1.l0 : Nat → List Int → Int → Int → Option (Int)
 | 0, _, _, _ => none
 | k + 1, x0, x1, x6 => if x6 > 0 then (if 0 ≤ (wrap64 (x6 - 1)) then (if (wrap64 (x6 - 1)) < (x0.length : Int) then (if x1 ≥ (rd x0 (wrap64 (x6 - 1))) then (some x6) else (impl_Levels_1.l0 k x0 x1 (wrap64 (x6 - 1)))) else (none)) else (none)) else (some 0)
def impl_Levels_1.f (k : Nat) (l0 : List Int) (a1 : Int) (l2 : List Int) : Option (Int) := if 0 < (l2.length : Int) then (impl_Levels_1.l0 k l0 a1 (rd l2 0)) else (none)
theorem impl_Levels_1.mono_l : ∀ k, (∀ y0 y1 y2, LeO (impl_Levels_1.l0 k y0 y1 y2) (impl_Levels_1.l0 (k + 1) y0 y1 y2))
 | 0 => fun _ _ _ r h => by simp [impl_Levels_1.l0] at h
 | k + 1 => by
  have ih0 := impl_Levels_1.mono_l k
  ·intro y0 y1 y2
   unfold impl_Levels_1.l0
   repeat' first
   | (with_reducible exact ih0 _ _ _)
   | (with_reducible exact LeO.refl _)
   | (with_reducible exact LeO.none _)
   | (with_reducible refine LeO.ite ?_ ?_)
   | (with_reducible refine LeO.bind ?_ (fun _ => ?_))
   | exact ih0 _ _ _
   | exact LeO.none _
   | refine LeO.ite ?_ ?_
   | refine LeO.bind ?_ (fun _ => ?_)
theorem impl_Levels_1.mono : ∀ a0 a1 a2 k, LeO (impl_Levels_1.f k a0 a1 a2) (impl_Levels_1.f (k + 1) a0 a1 a2) := by
 intro a0 a1 a2 k
 have ih0 := impl_Levels_1.mono_l k
 unfold impl_Levels_1.f
 repeat' first
   | (with_reducible exact ih0 _ _ _)
   | (with_reducible exact LeO.refl _)
   | (with_reducible exact LeO.none _)
   | (with_reducible refine LeO.ite ?_ ?_)
   | (with_reducible refine LeO.bind ?_ (fun _ => ?_))
   | exact ih0 _ _ _
   | exact LeO.none _
   | refine LeO.ite ?_ ?_
   | refine LeO.bind ?_ (fun _ => ?_)
set_option maxHeartbeats 8000000 in
set_option maxRecDepth 100000 in
theorem impl_Levels_1.calls (k : Nat) (A0 : Option Addr) (c0 : Nat) (l0 : List Int) (a1 : Int) (G2 : Nat) (l2 : List Int) (r : Int) (w : World) (hr0 : Kd.C (Kd.int .i64) w A0 l0.length l0) (hc0 : l0.length ≤ c0) (hr2 : Kd.C (Kd.int .i64) w (some ⟨G2, 0, none⟩) l2.length l2) (hc2 : l2.length ≤ l2.length) (h : impl_Levels_1.f k l0 a1 l2 = some r) :
  Calls Try.prog 62 #[.slice A0 l0.length c0, .int .i64 a1, .pointer (some ⟨G2, 0, none⟩)] w fun e w' => e = .returned (.int .i64 r) ∧ Drawn0 w w' := by
 have HR0 := Aside0.mk hr0
 have HC0 := Aside0.mk hc0
 clear hr0 hc0
 have HR2 := Aside0.mk hr2
 have HC2 := Aside0.mk hc2
 clear hr2 hc2
 have H : (if 0 < (l2.length : Int) then (impl_Levels_1.l0 k l0 a1 (rd l2 0)) else (none)) = some r := h
 clear h
 by_cases c4 : 0 < (l2.length : Int)
 ·rw [if_pos c4] at H
  have c4b0 : decide (0 < (l2.length : Int)) = true := decide_eq_true c4
  have c4b1 : decide (0 < l2.length) = true := decide_eq_true (by omega)
  clear c4
  have H' := Aside0.mk H
  clear H
  have p145 : 0 ≤ (0 : Int) := (by omega)
  have q145 : 0 < (l2.length : Int) := of_decide_eq_true (by first | (with_reducible assumption) | assumption)
  obtain ⟨ad145, e145, hx145_0⟩ := Kd.at_int HR2.out 0 p145 q145
  obtain rfl : (⟨G2, 0, none⟩ : Addr) = ad145 := (by injection e145)
  (first | simp only [add_plain] at hx145_0 | simp only [add_at] at hx145_0 | simp only [Addr.add, Nat.zero_add] at hx145_0 | skip)
  have qi145 : (0 < l2.length) = True := eq_true (by omega)
  (try rw [show ((0 : Int)).toNat = 0 from rfl] at hx145_0)
  (try rw [Addr.add_zero'] at hx145_0)
  replace p145 := eq_true p145
  replace q145 := eq_true q145
  go_enter Try.func62, Try.ntmps62
  go_wp2
  go_loopg [6] k (fun kq v6 w' => ∃ (x6_1 : Int), v6 = .int .i64 x6_1 ∧ Aside0 (impl_Levels_1.l0 kq l0 a1 x6_1 = some r) ∧ Aside0 (kq ≤ k) ∧ Drawn0 w w')
  case atStart => exact ⟨(rd l2 0), (by first | rfl | (simp; done) | (simp [*]; done)), H', ⟨Nat.le_refl _⟩, by repeat (first | exact Drawn0.refl _ | apply Drawn0.step)⟩
  case round =>
   clear H'
   try clear p1
   try clear q1
   try clear hx1
   try clear qi1
   try clear c2
   try clear p2
   try clear c4
   try clear c4b0
   try clear c4b1
   try clear hx145_0
   try clear p145
   try clear q145
   obtain ⟨x6_1, rfl, HA, HK1, ⟨m1, rfl⟩⟩ := hrel
   cases gk with
   | zero => exact absurd HA.out (by simp [impl_Levels_1.l0])
   | succ k1 =>
    have H := HA.out
    clear HA
    simp only [impl_Levels_1.l0] at H
    by_cases c5 : x6_1 > 0
    ·rw [if_pos c5] at H
     have c5b0 : decide (0 < x6_1) = true := decide_eq_true c5
     clear c5
     obtain ⟨ji6, hji6⟩ : ∃ j_ : Int, (wrap64 (x6_1 - 1)) = j_ := ⟨_, rfl⟩
     replace H : (if 0 ≤ (ji6) then (if (ji6) < (l0.length : Int) then (if a1 ≥ (rd l0 (ji6)) then (some x6_1) else (impl_Levels_1.l0 k1 l0 a1 ji6)) else (none)) else (none)) = some r := by first | (rw [hji6] at H; exact H) | (simp only [hji6] at H ⊢; exact H)
     have hji6w : (IntKind.i64.wrap (x6_1 - 1)) = ji6 := (i64_w _).trans hji6
     by_cases c7 : 0 ≤ (ji6)
     ·rw [if_pos c7] at H
      have c7b0 : decide (0 ≤ (ji6)) = true := decide_eq_true c7
      clear c7
      by_cases c8 : (ji6) < (l0.length : Int)
      ·rw [if_pos c8] at H
       have c8b0 : decide ((ji6) < (l0.length : Int)) = true := decide_eq_true c8
       clear c8
       by_cases c9 : a1 ≥ (rd l0 (ji6))
       ·rw [if_pos c9] at H
        have c9b0 : decide ((rd l0 (ji6)) ≤ a1) = true := decide_eq_true c9
        clear c9
        obtain rfl := Option.some.inj H
        have p146 : 0 ≤ ((ji6) : Int) := of_decide_eq_true (by first | (with_reducible assumption) | assumption)
        have q146 : (ji6) < (l0.length : Int) := of_decide_eq_true (by first | (with_reducible assumption) | assumption)
        obtain ⟨ad146, e146, hx146_0⟩ := Kd.at_int HR0.out (ji6) p146 q146
        cases e146
        replace p146 := eq_true p146
        replace q146 := eq_true q146
        go_wp2
        go_ret
        exact ⟨by first | rfl | (simp; done) | (simp only [← hji6] <;> (first | rfl | simp)) | (simp [*]; done), by repeat (first | exact Drawn0.refl _ | apply Drawn0.step)⟩
       ·rw [if_neg c9] at H
        have c9b0 : decide ((rd l0 (ji6)) ≤ a1) = false := decide_eq_false c9
        clear c9
        have H' := Aside0.mk H
        clear H
        have p146 : 0 ≤ ((ji6) : Int) := of_decide_eq_true (by first | (with_reducible assumption) | assumption)
        have q146 : (ji6) < (l0.length : Int) := of_decide_eq_true (by first | (with_reducible assumption) | assumption)
        obtain ⟨ad146, e146, hx146_0⟩ := Kd.at_int HR0.out (ji6) p146 q146
        cases e146
        replace p146 := eq_true p146
        replace q146 := eq_true q146
        go_wp2
        go_roundg k1
        case measure => have := HK1.out; omega
        case rel => exact ⟨(ji6), (by first | rfl | (simp; done) | (simp only [← hji6] <;> (first | rfl | simp)) | (simp [*]; done)), H', ⟨by have := HK1.out; omega⟩, by repeat (first | exact Drawn0.refl _ | apply Drawn0.step)⟩
      ·rw [if_neg c8] at H
       exact absurd H (by simp)
     ·rw [if_neg c7] at H
      exact absurd H (by simp)
    ·rw [if_neg c5] at H
     have c5b0 : decide (0 < x6_1) = false := decide_eq_false c5
     clear c5
     obtain rfl := Option.some.inj H
     go_wp2
     go_ret
     exact ⟨by first | rfl | (simp; done) | (simp [*]; done), by repeat (first | exact Drawn0.refl _ | apply Drawn0.step)⟩
 ·rw [if_neg c4] at H
  exact absurd H (by simp)

end Go.Proofs.Yteobnbichpadjab.Q
