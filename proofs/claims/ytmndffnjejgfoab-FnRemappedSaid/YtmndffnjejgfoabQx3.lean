/- Plain Lean functions with the same answers as the Go functions of this seat, and a proof for each that the Go code comes to just these answers; no condition. Written by a program of this session (the kit's printer, turned). -/
import Derived.Test.YtmndffnjejgfoabQx0
namespace Go.Proofs.Ytmndffnjejgfoab.Q
open Go.RowKit Go.Proofs.YtmndffnjejgfoabW.PrintWords Go.Proofs.YtmndffnjejgfoabW.PrintLast Go.Proofs.YtmndffnjejgfoabW.PrintMore Go.Proofs.YtmndffnjejgfoabW.PrintFlt
attribute [local go_sem] cmp_lss cmp_leq cmp_gtr cmp_geq cmp_eql cmp_neq flt_l flt_r fgt_l fgt_r feq_l feq_r fne_l fne_r ord_lt ord_gt ord_eq ord_ne conv_int foi_fold run_store_flt
attribute [local go_sem] max2_int min2_int max_two min_two max_three min_three max_four min_four   -- for this text's walks alone
set_option linter.unusedVariables false
set_option linter.unusedSimpArgs false

/-! ### spec_l11Below: function 29 -/
def spec_l11Below.l0 : Nat → List Int → List Int → Int → Int → Int → Option (Int)
 | 0, _, _, _, _, _ => none
 | k + 1, x0, x1, x2, x7, x8 => if x8 < (x1.length : Int) then (if 0 ≤ (wrap64 (x8 + 1)) then (if (wrap64 (x8 + 1)) < (x0.length : Int) then (if (rd x0 (wrap64 (x8 + 1))) ≤ x2 then (if 0 ≤ x8 then (spec_l11Below.l0 k x0 x1 x2 (wrap64 (x7 + (rd x1 x8))) (wrap64 (x8 + 1))) else (none)) else (if 0 ≤ x8 then (if x8 < (x0.length : Int) then (if (rd x0 x8) < x2 then (if (wrap64 ((rd x0 (wrap64 (x8 + 1))) - (rd x0 x8))) = 0 then (none) else (spec_l11Below.l0 k x0 x1 x2 (wrap64 (x7 + (wrap64 (Int.tdiv (wrap64 ((rd x1 x8) * (wrap64 (x2 - (rd x0 x8))))) (wrap64 ((rd x0 (wrap64 (x8 + 1))) - (rd x0 x8))))))) (wrap64 (x8 + 1)))) else (spec_l11Below.l0 k x0 x1 x2 x7 (wrap64 (x8 + 1)))) else (none)) else (none))) else (none)) else (none)) else (some x7)
def spec_l11Below.f (k : Nat) (l0 : List Int) (l1 : List Int) (a2 : Int) : Option (Int) := spec_l11Below.l0 k l0 l1 a2 0 0
theorem spec_l11Below.mono_l : ∀ k, (∀ y0 y1 y2 y3 y4, LeO (spec_l11Below.l0 k y0 y1 y2 y3 y4) (spec_l11Below.l0 (k + 1) y0 y1 y2 y3 y4))
 | 0 => fun _ _ _ _ _ r h => by simp [spec_l11Below.l0] at h
 | k + 1 => by
  have ih0 := spec_l11Below.mono_l k
  ·intro y0 y1 y2 y3 y4
   unfold spec_l11Below.l0
   repeat' first
   | (with_reducible exact ih0 _ _ _ _ _)
   | (with_reducible exact LeO.refl _)
   | (with_reducible exact LeO.none _)
   | (with_reducible refine LeO.ite ?_ ?_)
   | (with_reducible refine LeO.bind ?_ (fun _ => ?_))
   | exact ih0 _ _ _ _ _
   | exact LeO.none _
   | refine LeO.ite ?_ ?_
   | refine LeO.bind ?_ (fun _ => ?_)
theorem spec_l11Below.mono : ∀ a0 a1 a2 k, LeO (spec_l11Below.f k a0 a1 a2) (spec_l11Below.f (k + 1) a0 a1 a2) := by
 intro a0 a1 a2 k
 have ih0 := spec_l11Below.mono_l k
 unfold spec_l11Below.f
 repeat' first
   | (with_reducible exact ih0 _ _ _ _ _)
   | (with_reducible exact LeO.refl _)
   | (with_reducible exact LeO.none _)
   | (with_reducible refine LeO.ite ?_ ?_)
   | (with_reducible refine LeO.bind ?_ (fun _ => ?_))
   | exact ih0 _ _ _ _ _
   | exact LeO.none _
   | refine LeO.ite ?_ ?_
   | refine LeO.bind ?_ (fun _ => ?_)
set_option maxHeartbeats 8000000 in
set_option maxRecDepth 100000 in
theorem spec_l11Below.calls (k : Nat) (A0 : Option Addr) (c0 : Nat) (l0 : List Int) (A1 : Option Addr) (c1 : Nat) (l1 : List Int) (a2 : Int) (r : Int) (w : World) (hr0 : Kd.C (Kd.int .i64) w A0 l0.length l0) (hc0 : l0.length ≤ c0) (hr1 : Kd.C (Kd.int .i64) w A1 l1.length l1) (hc1 : l1.length ≤ c1) (h : spec_l11Below.f k l0 l1 a2 = some r) :
  Calls Try.prog 29 #[.slice A0 l0.length c0, .slice A1 l1.length c1, .int .i64 a2] w fun e w' => e = .returned (.int .i64 r) ∧ Drawn0 w w' := by
 have HR0 := Aside0.mk hr0
 have HC0 := Aside0.mk hc0
 clear hr0 hc0
 have HR1 := Aside0.mk hr1
 have HC1 := Aside0.mk hc1
 clear hr1 hc1
 have H : (spec_l11Below.l0 k l0 l1 a2 0 0) = some r := h
 clear h
 have H' := Aside0.mk H
 clear H
 go_enter Try.func29, Try.ntmps29
 go_wp2
 repeat (go_quiet (fail); try go_wp2)
 go_loopg [7, 8] k (fun kq v7 v8 w' => ∃ (x7_1 : Int) (x8_1 : Int), v7 = .int .i64 x7_1 ∧ v8 = .int .i64 x8_1 ∧ Aside0 (spec_l11Below.l0 kq l0 l1 a2 x7_1 x8_1 = some r) ∧ Aside0 (kq ≤ k) ∧ Drawn0 w w')
 case atStart => exact ⟨(0), (0), (by first | rfl | (simp; done) | (simp [*]; done)), (by first | rfl | (simp; done) | (simp [*]; done)), H', ⟨Nat.le_refl _⟩, by repeat (first | exact Drawn0.refl _ | apply Drawn0.step)⟩
 case round =>
  clear H'
  try clear c1
  try clear c2
  try clear p2
  obtain ⟨x7_1, x8_1, rfl, rfl, HA, HK1, ⟨m1, rfl⟩⟩ := hrel
  cases gk with
  | zero => exact absurd HA.out (by simp [spec_l11Below.l0])
  | succ k1 =>
   have H := HA.out
   clear HA
   simp only [spec_l11Below.l0] at H
   by_cases c4 : x8_1 < (l1.length : Int)
   ·rw [if_pos c4] at H
    have c4b0 : decide (x8_1 < (l1.length : Int)) = true := decide_eq_true c4
    clear c4
    obtain ⟨ji5, hji5⟩ : ∃ j_ : Int, (wrap64 (x8_1 + 1)) = j_ := ⟨_, rfl⟩
    replace H : (if 0 ≤ (ji5) then (if (ji5) < (l0.length : Int) then (if (rd l0 (ji5)) ≤ a2 then (if 0 ≤ x8_1 then (spec_l11Below.l0 k1 l0 l1 a2 (wrap64 (x7_1 + (rd l1 x8_1))) ji5) else (none)) else (if 0 ≤ x8_1 then (if x8_1 < (l0.length : Int) then (if (rd l0 x8_1) < a2 then (if (wrap64 ((rd l0 (ji5)) - (rd l0 x8_1))) = 0 then (none) else (spec_l11Below.l0 k1 l0 l1 a2 (wrap64 (x7_1 + (wrap64 (Int.tdiv (wrap64 ((rd l1 x8_1) * (wrap64 (a2 - (rd l0 x8_1))))) (wrap64 ((rd l0 (ji5)) - (rd l0 x8_1))))))) ji5)) else (spec_l11Below.l0 k1 l0 l1 a2 x7_1 ji5)) else (none)) else (none))) else (none)) else (none)) = some r := by first | (rw [hji5] at H; exact H) | (simp only [hji5] at H ⊢; exact H)
    have hji5w : (IntKind.i64.wrap (x8_1 + 1)) = ji5 := (i64_w _).trans hji5
    by_cases c6 : 0 ≤ (ji5)
    ·rw [if_pos c6] at H
     have c6b0 : decide (0 ≤ (ji5)) = true := decide_eq_true c6
     clear c6
     by_cases c7 : (ji5) < (l0.length : Int)
     ·rw [if_pos c7] at H
      have c7b0 : decide ((ji5) < (l0.length : Int)) = true := decide_eq_true c7
      clear c7
      by_cases c8 : (rd l0 (ji5)) ≤ a2
      ·rw [if_pos c8] at H
       have c8b0 : decide ((rd l0 (ji5)) ≤ a2) = true := decide_eq_true c8
       clear c8
       by_cases c9 : 0 ≤ x8_1
       ·rw [if_pos c9] at H
        have c9b0 : decide (0 ≤ x8_1) = true := decide_eq_true c9
        clear c9
        have H' := Aside0.mk H
        clear H
        have p105 : 0 ≤ ((ji5) : Int) := of_decide_eq_true (by first | (with_reducible assumption) | assumption)
        have q105 : (ji5) < (l0.length : Int) := of_decide_eq_true (by first | (with_reducible assumption) | assumption)
        obtain ⟨ad105, e105, hx105_0⟩ := Kd.at_int HR0.out (ji5) p105 q105
        cases e105
        replace p105 := eq_true p105
        replace q105 := eq_true q105
        have p106 : 0 ≤ (x8_1 : Int) := of_decide_eq_true (by first | (with_reducible assumption) | assumption)
        have q106 : x8_1 < (l1.length : Int) := of_decide_eq_true (by first | (with_reducible assumption) | assumption)
        obtain ⟨ad106, e106, hx106_0⟩ := Kd.at_int HR1.out x8_1 p106 q106
        cases e106
        replace p106 := eq_true p106
        replace q106 := eq_true q106
        go_wp2
        repeat (go_quiet (fail); try go_wp2)
        go_roundg k1
        case measure => have := HK1.out; omega
        case rel => exact ⟨(wrap64 (x7_1 + (rd l1 x8_1))), (ji5), (by first | rfl | (simp; done) | (simp [*]; done)), (by first | rfl | (simp; done) | (simp only [← hji5] <;> (first | rfl | simp)) | (simp [*]; done)), H', ⟨by have := HK1.out; omega⟩, by repeat (first | exact Drawn0.refl _ | apply Drawn0.step)⟩
       ·rw [if_neg c9] at H
        exact absurd H (by simp)
      ·rw [if_neg c8] at H
       have c8b0 : decide ((rd l0 (ji5)) ≤ a2) = false := decide_eq_false c8
       clear c8
       by_cases c10 : 0 ≤ x8_1
       ·rw [if_pos c10] at H
        have c10b0 : decide (0 ≤ x8_1) = true := decide_eq_true c10
        clear c10
        by_cases c11 : x8_1 < (l0.length : Int)
        ·rw [if_pos c11] at H
         have c11b0 : decide (x8_1 < (l0.length : Int)) = true := decide_eq_true c11
         clear c11
         by_cases c12 : (rd l0 x8_1) < a2
         ·rw [if_pos c12] at H
          have c12b0 : decide ((rd l0 x8_1) < a2) = true := decide_eq_true c12
          clear c12
          by_cases c13 : (wrap64 ((rd l0 (ji5)) - (rd l0 x8_1))) = 0
          ·rw [if_pos c13] at H
           exact absurd H (by simp)
          ·rw [if_neg c13] at H
           have c13b0 : ((wrap64 ((rd l0 (ji5)) - (rd l0 x8_1))) == 0) = false := beq_eq_false_iff_ne.mpr c13
           have c13b1 : ((wrap64 ((rd l0 (ji5)) - (rd l0 x8_1))) != 0) = true := bne_iff_ne.mpr c13
           have H' := Aside0.mk H
           clear H
           have p105 : 0 ≤ ((ji5) : Int) := of_decide_eq_true (by first | (with_reducible assumption) | assumption)
           have q105 : (ji5) < (l0.length : Int) := of_decide_eq_true (by first | (with_reducible assumption) | assumption)
           obtain ⟨ad105, e105, hx105_0⟩ := Kd.at_int HR0.out (ji5) p105 q105
           cases e105
           replace p105 := eq_true p105
           replace q105 := eq_true q105
           have p107 : 0 ≤ (x8_1 : Int) := of_decide_eq_true (by first | (with_reducible assumption) | assumption)
           have q107 : x8_1 < (l0.length : Int) := of_decide_eq_true (by first | (with_reducible assumption) | assumption)
           obtain ⟨ad107, e107, hx107_0⟩ := Kd.at_int HR0.out x8_1 p107 q107
           obtain rfl : ad105 = ad107 := (by injection e107)
           replace p107 := eq_true p107
           replace q107 := eq_true q107
           have p108 : 0 ≤ (x8_1 : Int) := of_decide_eq_true (by first | (with_reducible assumption) | assumption)
           have q108 : x8_1 < (l1.length : Int) := of_decide_eq_true (by first | (with_reducible assumption) | assumption)
           obtain ⟨ad108, e108, hx108_0⟩ := Kd.at_int HR1.out x8_1 p108 q108
           cases e108
           replace p108 := eq_true p108
           replace q108 := eq_true q108
           have p109 : 0 ≤ (x8_1 : Int) := of_decide_eq_true (by first | (with_reducible assumption) | assumption)
           have q109 : x8_1 < (l0.length : Int) := of_decide_eq_true (by first | (with_reducible assumption) | assumption)
           obtain ⟨ad109, e109, hx109_0⟩ := Kd.at_int HR0.out x8_1 p109 q109
           obtain rfl : ad105 = ad109 := (by injection e109)
           replace p109 := eq_true p109
           replace q109 := eq_true q109
           have p110 : 0 ≤ ((ji5) : Int) := of_decide_eq_true (by first | (with_reducible assumption) | assumption)
           have q110 : (ji5) < (l0.length : Int) := of_decide_eq_true (by first | (with_reducible assumption) | assumption)
           obtain ⟨ad110, e110, hx110_0⟩ := Kd.at_int HR0.out (ji5) p110 q110
           obtain rfl : ad105 = ad110 := (by injection e110)
           replace p110 := eq_true p110
           replace q110 := eq_true q110
           have p111 : 0 ≤ (x8_1 : Int) := of_decide_eq_true (by first | (with_reducible assumption) | assumption)
           have q111 : x8_1 < (l0.length : Int) := of_decide_eq_true (by first | (with_reducible assumption) | assumption)
           obtain ⟨ad111, e111, hx111_0⟩ := Kd.at_int HR0.out x8_1 p111 q111
           obtain rfl : ad105 = ad111 := (by injection e111)
           replace p111 := eq_true p111
           replace q111 := eq_true q111
           go_wp2
           repeat (go_quiet (fail); try go_wp2)
           go_roundg k1
           case measure => have := HK1.out; omega
           case rel => exact ⟨(wrap64 (x7_1 + (wrap64 (Int.tdiv (wrap64 ((rd l1 x8_1) * (wrap64 (a2 - (rd l0 x8_1))))) (wrap64 ((rd l0 (ji5)) - (rd l0 x8_1))))))), (ji5), (by first | rfl | (simp; done) | (simp only [← hji5] <;> (first | rfl | simp)) | (simp [*]; done)), (by first | rfl | (simp; done) | (simp only [← hji5] <;> (first | rfl | simp)) | (simp [*]; done)), H', ⟨by have := HK1.out; omega⟩, by repeat (first | exact Drawn0.refl _ | apply Drawn0.step)⟩
         ·rw [if_neg c12] at H
          have c12b0 : decide ((rd l0 x8_1) < a2) = false := decide_eq_false c12
          clear c12
          have H' := Aside0.mk H
          clear H
          have p105 : 0 ≤ ((ji5) : Int) := of_decide_eq_true (by first | (with_reducible assumption) | assumption)
          have q105 : (ji5) < (l0.length : Int) := of_decide_eq_true (by first | (with_reducible assumption) | assumption)
          obtain ⟨ad105, e105, hx105_0⟩ := Kd.at_int HR0.out (ji5) p105 q105
          cases e105
          replace p105 := eq_true p105
          replace q105 := eq_true q105
          have p107 : 0 ≤ (x8_1 : Int) := of_decide_eq_true (by first | (with_reducible assumption) | assumption)
          have q107 : x8_1 < (l0.length : Int) := of_decide_eq_true (by first | (with_reducible assumption) | assumption)
          obtain ⟨ad107, e107, hx107_0⟩ := Kd.at_int HR0.out x8_1 p107 q107
          obtain rfl : ad105 = ad107 := (by injection e107)
          replace p107 := eq_true p107
          replace q107 := eq_true q107
          go_wp2
          repeat (go_quiet (fail); try go_wp2)
          go_roundg k1
          case measure => have := HK1.out; omega
          case rel => exact ⟨(x7_1), (ji5), (by first | rfl | (simp; done) | (simp [*]; done)), (by first | rfl | (simp; done) | (simp only [← hji5] <;> (first | rfl | simp)) | (simp [*]; done)), H', ⟨by have := HK1.out; omega⟩, by repeat (first | exact Drawn0.refl _ | apply Drawn0.step)⟩
        ·rw [if_neg c11] at H
         exact absurd H (by simp)
       ·rw [if_neg c10] at H
        exact absurd H (by simp)
     ·rw [if_neg c7] at H
      exact absurd H (by simp)
    ·rw [if_neg c6] at H
     exact absurd H (by simp)
   ·rw [if_neg c4] at H
    have c4b0 : decide (x8_1 < (l1.length : Int)) = false := decide_eq_false c4
    clear c4
    obtain rfl := Option.some.inj H
    go_wp2
    repeat (go_quiet (fail); try go_wp2)
    go_ret
    exact ⟨by first | rfl | (simp; done) | (simp [*]; done), by repeat (first | exact Drawn0.refl _ | apply Drawn0.step)⟩

end Go.Proofs.Ytmndffnjejgfoab.Q
