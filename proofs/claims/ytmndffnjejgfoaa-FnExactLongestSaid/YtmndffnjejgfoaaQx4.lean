/- Plain Lean functions with the same answers as the Go functions of this seat, and a proof for each that the Go code comes to just these answers; no condition. Written by a program of this session (the kit's printer, turned). -/
import Derived.Test.YtmndffnjejgfoaaQx0
namespace Go.Proofs.Ytmndffnjejgfoaa.Q
open Go.RowKit Go.Proofs.YtmndffnjejgfoaaW.PrintWords Go.Proofs.YtmndffnjejgfoaaW.PrintLast Go.Proofs.YtmndffnjejgfoaaW.PrintMore Go.Proofs.YtmndffnjejgfoaaW.PrintFlt
attribute [local go_sem] cmp_lss cmp_leq cmp_gtr cmp_geq cmp_eql cmp_neq flt_l flt_r fgt_l fgt_r feq_l feq_r fne_l fne_r ord_lt ord_gt ord_eq ord_ne conv_int foi_fold run_store_flt
attribute [local go_sem] max2_int min2_int max_two min_two max_three min_three max_four min_four   -- for this text's walks alone
set_option linter.unusedVariables false
set_option linter.unusedSimpArgs false

/-! ### spec_Longest: function 10 -/
mutual
def spec_Longest.l0 : Nat → List (S54) → Int → Int → Int → Option (Int)
 | 0, _, _, _, _ => none
 | k + 1, x0, x3, x4, x5 => if x5 < (x0.length : Int) then (spec_Longest.j1 k x0 x3 x4 x5 (decide ((x0.length : Int) ≤ 1200))) else (spec_Longest.j1 k x0 x3 x4 x5 false)
def spec_Longest.j1 : Nat → List (S54) → Int → Int → Int → Bool → Option (Int)
 | 0, _, _, _, _, _ => none
 | k + 1, x0, x3, x4, x5, x14 => if x14 = true then (if 0 ≤ x5 then (if x5 < (x0.length : Int) then (if (((rd_T54 x0 x5).f2).length : Int) > x4 then (spec_Longest.l0 k x0 ((rd_T54 x0 x5).f0) (((rd_T54 x0 x5).f2).length : Int) (wrap64 (x5 + 1))) else (spec_Longest.l0 k x0 x3 x4 (wrap64 (x5 + 1)))) else (none)) else (none)) else (some x3)
end
def spec_Longest.f (k : Nat) (l0 : List (S54)) : Option (Int) := spec_Longest.l0 k l0 0 (-1) 0
theorem spec_Longest.mono_l : ∀ k, (∀ y0 y1 y2 y3, LeO (spec_Longest.l0 k y0 y1 y2 y3) (spec_Longest.l0 (k + 1) y0 y1 y2 y3)) ∧ (∀ y0 y1 y2 y3 y4, LeO (spec_Longest.j1 k y0 y1 y2 y3 y4) (spec_Longest.j1 (k + 1) y0 y1 y2 y3 y4))
 | 0 => ⟨fun _ _ _ _ r h => by simp [spec_Longest.l0] at h, fun _ _ _ _ _ r h => by simp [spec_Longest.j1] at h⟩
 | k + 1 => by
  obtain ⟨ih0, ih1⟩ := spec_Longest.mono_l k
  refine ⟨?_, ?_⟩
  ·intro y0 y1 y2 y3
   unfold spec_Longest.l0
   repeat' first
   | (with_reducible exact ih0 _ _ _ _)
   | (with_reducible exact ih1 _ _ _ _ _)
   | (with_reducible exact LeO.refl _)
   | (with_reducible exact LeO.none _)
   | (with_reducible refine LeO.ite ?_ ?_)
   | (with_reducible refine LeO.bind ?_ (fun _ => ?_))
   | exact ih0 _ _ _ _
   | exact ih1 _ _ _ _ _
   | exact LeO.none _
   | refine LeO.ite ?_ ?_
   | refine LeO.bind ?_ (fun _ => ?_)
  ·intro y0 y1 y2 y3 y4
   unfold spec_Longest.j1
   repeat' first
   | (with_reducible exact ih0 _ _ _ _)
   | (with_reducible exact ih1 _ _ _ _ _)
   | (with_reducible exact LeO.refl _)
   | (with_reducible exact LeO.none _)
   | (with_reducible refine LeO.ite ?_ ?_)
   | (with_reducible refine LeO.bind ?_ (fun _ => ?_))
   | exact ih0 _ _ _ _
   | exact ih1 _ _ _ _ _
   | exact LeO.none _
   | refine LeO.ite ?_ ?_
   | refine LeO.bind ?_ (fun _ => ?_)
theorem spec_Longest.mono : ∀ a0 k, LeO (spec_Longest.f k a0) (spec_Longest.f (k + 1) a0) := by
 intro a0 k
 obtain ⟨ih0, ih1⟩ := spec_Longest.mono_l k
 unfold spec_Longest.f
 repeat' first
   | (with_reducible exact ih0 _ _ _ _)
   | (with_reducible exact ih1 _ _ _ _ _)
   | (with_reducible exact LeO.refl _)
   | (with_reducible exact LeO.none _)
   | (with_reducible refine LeO.ite ?_ ?_)
   | (with_reducible refine LeO.bind ?_ (fun _ => ?_))
   | exact ih0 _ _ _ _
   | exact ih1 _ _ _ _ _
   | exact LeO.none _
   | refine LeO.ite ?_ ?_
   | refine LeO.bind ?_ (fun _ => ?_)
set_option maxHeartbeats 8000000 in
set_option maxRecDepth 100000 in
theorem spec_Longest.calls (k : Nat) (A0 : Option Addr) (c0 : Nat) (l0 : List (S54)) (r : Int) (w : World) (hr0 : Kd.C k54 w A0 l0.length l0) (hc0 : l0.length ≤ c0) (h : spec_Longest.f k l0 = some r) :
  Calls Try.prog 10 #[.slice A0 l0.length c0] w fun e w' => e = .returned (.int .i64 r) ∧ Drawn0 w w' := by
 have HR0 := Aside0.mk hr0
 have HC0 := Aside0.mk hc0
 clear hr0 hc0
 have H : (spec_Longest.l0 k l0 0 (-1) 0) = some r := h
 clear h
 have H' := Aside0.mk H
 clear H
 go_enter Try.func10, Try.ntmps10
 go_wp2
 go_loopg [3, 4, 5] k (fun kq v3 v4 v5 w' => ∃ (x3_1 : Int) (x4_1 : Int) (x5_1 : Int), v3 = .int .i64 x3_1 ∧ v4 = .int .i64 x4_1 ∧ v5 = .int .i64 x5_1 ∧ Aside0 (spec_Longest.l0 kq l0 x3_1 x4_1 x5_1 = some r) ∧ Aside0 (kq ≤ k) ∧ Drawn0 w w')
 case atStart => exact ⟨(0), ((-1)), (0), (by first | rfl | (simp; done) | (simp [*]; done)), (by first | rfl | (simp; done) | (simp [*]; done)), (by first | rfl | (simp; done) | (simp [*]; done)), H', ⟨Nat.le_refl _⟩, by repeat (first | exact Drawn0.refl _ | apply Drawn0.step)⟩
 case round =>
  clear H'
  try clear c1
  obtain ⟨x3_1, x4_1, x5_1, rfl, rfl, rfl, HA, HK1, ⟨m1, rfl⟩⟩ := hrel
  cases gk with
  | zero => exact absurd HA.out (by simp [spec_Longest.l0])
  | succ k1 =>
   have H := HA.out
   clear HA
   simp only [spec_Longest.l0] at H
   have HC2 := Aside0.mk H
   clear H
   go_upto_region 4 with (fail)
   go_cut [14] (fun v14 wc => ∃ (kq : Nat) (x14_1 : Bool), v14 = .bool x14_1 ∧ Aside0 (spec_Longest.j1 kq l0 x3_1 x4_1 x5_1 x14_1 = some r) ∧ Aside0 (kq ≤ k1) ∧ Drawn0 w wc)
   case first =>
    have H := HC2.out
    clear HC2
    by_cases c3 : x5_1 < (l0.length : Int)
    ·rw [if_pos c3] at H
     have c3b0 : decide (x5_1 < (l0.length : Int)) = true := decide_eq_true c3
     clear c3
     (first | rw [c3b0] | (simp only [i64_w, i32_w]; rw [c3b0]) | skip)
     have H' := Aside0.mk H
     clear H
     go_wp2
     go_meet
     case rel => exact ⟨_, (decide ((l0.length : Int) ≤ 1200)), (by first | rfl | (simp; done) | (simp [*]; done)), H', ⟨by have := HK1.out; first | omega | exact Nat.le_refl _⟩, by repeat (first | exact Drawn0.refl _ | apply Drawn0.step)⟩
    ·rw [if_neg c3] at H
     have c3b0 : decide (x5_1 < (l0.length : Int)) = false := decide_eq_false c3
     clear c3
     (first | rw [c3b0] | (simp only [i64_w, i32_w]; rw [c3b0]) | skip)
     have H' := Aside0.mk H
     clear H
     go_wp2
     go_meet
     case rel => exact ⟨_, (false), (by first | rfl | (simp; done) | (simp [*]; done)), H', ⟨by have := HK1.out; first | omega | exact Nat.le_refl _⟩, by repeat (first | exact Drawn0.refl _ | apply Drawn0.step)⟩
   case rest =>
    clear HC2
    try clear c1
    try clear p2
    try clear c3
    try clear c3b0
    obtain ⟨kq, x14_1, rfl, HA, HJ1, ⟨mc1, rfl⟩⟩ := hcut
    cases kq with
    | zero => exact absurd HA.out (by simp [spec_Longest.j1])
    | succ kj1 =>
     have H := HA.out
     clear HA
     simp only [spec_Longest.j1] at H
     by_cases c4 : x14_1 = true
     ·subst c4
      have H1 : (if 0 ≤ x5_1 then (if x5_1 < (l0.length : Int) then (if (((rd_T54 l0 x5_1).f2).length : Int) > x4_1 then (spec_Longest.l0 kj1 l0 ((rd_T54 l0 x5_1).f0) (((rd_T54 l0 x5_1).f2).length : Int) (wrap64 (x5_1 + 1))) else (spec_Longest.l0 kj1 l0 x3_1 x4_1 (wrap64 (x5_1 + 1)))) else (none)) else (none)) = some r := by rw [if_pos rfl] at H; exact H
      clear H
      have H := H1
      clear H1
      by_cases c5 : 0 ≤ x5_1
      ·rw [if_pos c5] at H
       have c5b0 : decide (0 ≤ x5_1) = true := decide_eq_true c5
       clear c5
       by_cases c6 : x5_1 < (l0.length : Int)
       ·rw [if_pos c6] at H
        have c6b0 : decide (x5_1 < (l0.length : Int)) = true := decide_eq_true c6
        clear c6
        by_cases c7 : (((rd_T54 l0 x5_1).f2).length : Int) > x4_1
        ·rw [if_pos c7] at H
         have c7b0 : decide (x4_1 < (((rd_T54 l0 x5_1).f2).length : Int)) = true := decide_eq_true c7
         clear c7
         have H' := Aside0.mk H
         clear H
         have p105 : 0 ≤ (x5_1 : Int) := of_decide_eq_true (by first | (with_reducible assumption) | assumption)
         have q105 : x5_1 < (l0.length : Int) := of_decide_eq_true (by first | (with_reducible assumption) | assumption)
         obtain ⟨ad105, A105_2, c105_2, e105, hx105_0, hx105_1, hx105_2, hx105_3, hx105_4, hl105_2, hi105_2⟩ := at_T54 HR0.out x5_1 p105 q105
         cases e105
         have HR105_2 := Aside0.mk hi105_2
         have HC105_2 := Aside0.mk hl105_2
         clear hi105_2 hl105_2
         replace p105 := eq_true p105
         replace q105 := eq_true q105
         have p106 : 0 ≤ (x5_1 : Int) := of_decide_eq_true (by first | (with_reducible assumption) | assumption)
         have q106 : x5_1 < (l0.length : Int) := of_decide_eq_true (by first | (with_reducible assumption) | assumption)
         obtain ⟨ad106, A106_2, c106_2, e106, hx106_0, hx106_1, hx106_2, hx106_3, hx106_4, hl106_2, hi106_2⟩ := at_T54 HR0.out x5_1 p106 q106
         obtain rfl : ad105 = ad106 := (by injection e106)
         have HR106_2 := Aside0.mk hi106_2
         have HC106_2 := Aside0.mk hl106_2
         clear hi106_2 hl106_2
         replace p106 := eq_true p106
         replace q106 := eq_true q106
         have ea_ := Option.some.inj (hx105_2.symm.trans hx106_2)
         injection ea_ with ea_ en_ ec_
         subst ea_
         subst ec_
         clear en_
         have p107 : 0 ≤ (x5_1 : Int) := of_decide_eq_true (by first | (with_reducible assumption) | assumption)
         have q107 : x5_1 < (l0.length : Int) := of_decide_eq_true (by first | (with_reducible assumption) | assumption)
         obtain ⟨ad107, A107_2, c107_2, e107, hx107_0, hx107_1, hx107_2, hx107_3, hx107_4, hl107_2, hi107_2⟩ := at_T54 HR0.out x5_1 p107 q107
         obtain rfl : ad105 = ad107 := (by injection e107)
         have HR107_2 := Aside0.mk hi107_2
         have HC107_2 := Aside0.mk hl107_2
         clear hi107_2 hl107_2
         replace p107 := eq_true p107
         replace q107 := eq_true q107
         have ea_ := Option.some.inj (hx105_2.symm.trans hx107_2)
         injection ea_ with ea_ en_ ec_
         subst ea_
         subst ec_
         clear en_
         go_wp2
         go_roundg kj1
         case measure => have := HK1.out; have := HJ1.out; omega
         case rel => exact ⟨((rd_T54 l0 x5_1).f0), ((((rd_T54 l0 x5_1).f2).length : Int)), (wrap64 (x5_1 + 1)), (by first | rfl | (simp; done) | (simp [*]; done)), (by first | rfl | (simp; done) | (simp [*]; done)), (by first | rfl | (simp; done) | (simp [*]; done)), H', ⟨by have := HK1.out; have := HJ1.out; omega⟩, by repeat (first | exact Drawn0.refl _ | apply Drawn0.step)⟩
        ·rw [if_neg c7] at H
         have c7b0 : decide (x4_1 < (((rd_T54 l0 x5_1).f2).length : Int)) = false := decide_eq_false c7
         clear c7
         have H' := Aside0.mk H
         clear H
         have p105 : 0 ≤ (x5_1 : Int) := of_decide_eq_true (by first | (with_reducible assumption) | assumption)
         have q105 : x5_1 < (l0.length : Int) := of_decide_eq_true (by first | (with_reducible assumption) | assumption)
         obtain ⟨ad105, A105_2, c105_2, e105, hx105_0, hx105_1, hx105_2, hx105_3, hx105_4, hl105_2, hi105_2⟩ := at_T54 HR0.out x5_1 p105 q105
         cases e105
         have HR105_2 := Aside0.mk hi105_2
         have HC105_2 := Aside0.mk hl105_2
         clear hi105_2 hl105_2
         replace p105 := eq_true p105
         replace q105 := eq_true q105
         go_wp2
         go_roundg kj1
         case measure => have := HK1.out; have := HJ1.out; omega
         case rel => exact ⟨(x3_1), (x4_1), (wrap64 (x5_1 + 1)), (by first | rfl | (simp; done) | (simp [*]; done)), (by first | rfl | (simp; done) | (simp [*]; done)), (by first | rfl | (simp; done) | (simp [*]; done)), H', ⟨by have := HK1.out; have := HJ1.out; omega⟩, by repeat (first | exact Drawn0.refl _ | apply Drawn0.step)⟩
       ·rw [if_neg c6] at H
        exact absurd H (by simp)
      ·rw [if_neg c5] at H
       exact absurd H (by simp)
     ·replace c4 := Bool.eq_false_iff.mpr c4
      subst c4
      have H1 : (some x3_1) = some r := by rw [if_neg (show ¬ (false = true) by decide)] at H; exact H
      clear H
      have H := H1
      clear H1
      obtain rfl := Option.some.inj H
      go_wp2
      go_ret
      exact ⟨by first | rfl | (simp; done) | (simp [*]; done), by repeat (first | exact Drawn0.refl _ | apply Drawn0.step)⟩

end Go.Proofs.Ytmndffnjejgfoaa.Q
