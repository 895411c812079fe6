/- Plain Lean functions with the same answers as the Go functions of this seat, and a proof for each that the Go code comes to just these answers; no condition. Written by a program of this session (the kit's printer, turned). -/
import Derived.Test.YtmndffnjejgfoabQx0
namespace Go.Proofs.Ytmndffnjejgfoab.Q
open Go.RowKit Go.Proofs.YtmndffnjejgfoabW.PrintWords Go.Proofs.YtmndffnjejgfoabW.PrintLast Go.Proofs.YtmndffnjejgfoabW.PrintMore Go.Proofs.YtmndffnjejgfoabW.PrintFlt
attribute [local go_sem] cmp_lss cmp_leq cmp_gtr cmp_geq cmp_eql cmp_neq flt_l flt_r fgt_l fgt_r feq_l feq_r fne_l fne_r ord_lt ord_gt ord_eq ord_ne conv_int foi_fold run_store_flt
attribute [local go_sem] max2_int min2_int max_two min_two max_three min_three max_four min_four   -- for this text's walks alone
set_option linter.unusedVariables false
set_option linter.unusedSimpArgs false

/-! ### impl_Remap_1: function 32 -/
def impl_Remap_1.l0 : Nat → Int → List (List Int) → Int → List Int → Int → Int → Option (Int)
 | 0, _, _, _, _, _, _ => none
 | k + 1, x0, x2, x5, x10, x11, x12 => if x12 < x11 then (if 0 ≤ x12 then (if x12 < (x10.length : Int) then (if 0 < (x2.length : Int) then (if x12 < ((rd_L1 x2 0).length : Int) then (if 0 ≤ (wrap64 (x12 + 1)) then (if (wrap64 (x12 + 1)) < ((rd_L1 x2 0).length : Int) then (if (rd (rd_L1 x2 0) (wrap64 (x12 + 1))) ≤ x0 then (impl_Remap_1.l0 k x0 x2 (wrap64 (x5 + (rd x10 x12))) x10 x11 (wrap64 (x12 + 1))) else (if (rd (rd_L1 x2 0) x12) < x0 then (if (wrap64 ((rd (rd_L1 x2 0) (wrap64 (x12 + 1))) - (rd (rd_L1 x2 0) x12))) = 0 then (none) else (impl_Remap_1.l0 k x0 x2 (wrap64 (x5 + (wrap64 (Int.tdiv (wrap64 ((rd x10 x12) * (wrap64 (x0 - (rd (rd_L1 x2 0) x12))))) (wrap64 ((rd (rd_L1 x2 0) (wrap64 (x12 + 1))) - (rd (rd_L1 x2 0) x12))))))) x10 x11 (wrap64 (x12 + 1)))) else (impl_Remap_1.l0 k x0 x2 x5 x10 x11 (wrap64 (x12 + 1))))) else (none)) else (none)) else (none)) else (none)) else (none)) else (none)) else (some x5)
def impl_Remap_1.f (k : Nat) (a0 : Int) (l1 : List (List Int)) (l2 : List (List Int)) : Option (Int) := if 0 < (l1.length : Int) then (impl_Remap_1.l0 k a0 l2 0 (rd_L1 l1 0) ((rd_L1 l1 0).length : Int) 0) else (none)
theorem impl_Remap_1.mono_l : ∀ k, (∀ y0 y1 y2 y3 y4 y5, LeO (impl_Remap_1.l0 k y0 y1 y2 y3 y4 y5) (impl_Remap_1.l0 (k + 1) y0 y1 y2 y3 y4 y5))
 | 0 => fun _ _ _ _ _ _ r h => by simp [impl_Remap_1.l0] at h
 | k + 1 => by
  have ih0 := impl_Remap_1.mono_l k
  ·intro y0 y1 y2 y3 y4 y5
   unfold impl_Remap_1.l0
   repeat' first
   | (with_reducible exact ih0 _ _ _ _ _ _)
   | (with_reducible exact LeO.refl _)
   | (with_reducible exact LeO.none _)
   | (with_reducible refine LeO.ite ?_ ?_)
   | (with_reducible refine LeO.bind ?_ (fun _ => ?_))
   | exact ih0 _ _ _ _ _ _
   | exact LeO.none _
   | refine LeO.ite ?_ ?_
   | refine LeO.bind ?_ (fun _ => ?_)
theorem impl_Remap_1.mono : ∀ a0 a1 a2 k, LeO (impl_Remap_1.f k a0 a1 a2) (impl_Remap_1.f (k + 1) a0 a1 a2) := by
 intro a0 a1 a2 k
 have ih0 := impl_Remap_1.mono_l k
 unfold impl_Remap_1.f
 repeat' first
   | (with_reducible exact ih0 _ _ _ _ _ _)
   | (with_reducible exact LeO.refl _)
   | (with_reducible exact LeO.none _)
   | (with_reducible refine LeO.ite ?_ ?_)
   | (with_reducible refine LeO.bind ?_ (fun _ => ?_))
   | exact ih0 _ _ _ _ _ _
   | exact LeO.none _
   | refine LeO.ite ?_ ?_
   | refine LeO.bind ?_ (fun _ => ?_)
set_option maxHeartbeats 8000000 in
set_option maxRecDepth 100000 in
theorem impl_Remap_1.calls (k : Nat) (a0 : Int) (G1 : Nat) (l1 : List (List Int)) (G2 : Nat) (l2 : List (List Int)) (r : Int) (w : World) (hr1 : Kd.C (Kd.slice 2 (Kd.int .i64)) w (some ⟨G1, 0, none⟩) l1.length l1) (hc1 : l1.length ≤ l1.length) (hr2 : Kd.C (Kd.slice 2 (Kd.int .i64)) w (some ⟨G2, 0, none⟩) l2.length l2) (hc2 : l2.length ≤ l2.length) (h : impl_Remap_1.f k a0 l1 l2 = some r) :
  Calls Try.prog 32 #[.int .i64 a0, .pointer (some ⟨G1, 0, none⟩), .pointer (some ⟨G2, 0, none⟩)] w fun e w' => e = .returned (.int .i64 r) ∧ Drawn0 w w' := by
 have HR1 := Aside0.mk hr1
 have HC1 := Aside0.mk hc1
 clear hr1 hc1
 have HR2 := Aside0.mk hr2
 have HC2 := Aside0.mk hc2
 clear hr2 hc2
 have H : (if 0 < (l1.length : Int) then (impl_Remap_1.l0 k a0 l2 0 (rd_L1 l1 0) ((rd_L1 l1 0).length : Int) 0) else (none)) = some r := h
 clear h
 by_cases c4 : 0 < (l1.length : Int)
 ·rw [if_pos c4] at H
  have c4b0 : decide (0 < (l1.length : Int)) = true := decide_eq_true c4
  have c4b1 : decide (0 < l1.length) = true := decide_eq_true (by omega)
  clear c4
  have H' := Aside0.mk H
  clear H
  have p130 : 0 ≤ (0 : Int) := (by omega)
  have q130 : 0 < (l1.length : Int) := of_decide_eq_true (by first | (with_reducible assumption) | assumption)
  obtain ⟨ad130, A130_0, c130_0, e130, hx130_0, hl130_0, hi130_0⟩ := at_L1 HR1.out 0 p130 q130
  obtain rfl : (⟨G1, 0, none⟩ : Addr) = ad130 := (by injection e130)
  (first | simp only [add_plain] at hx130_0 | simp only [add_at] at hx130_0 | simp only [Addr.add, Nat.zero_add] at hx130_0 | skip)
  have qi130 : (0 < l1.length) = True := eq_true (by omega)
  (try rw [show ((0 : Int)).toNat = 0 from rfl] at hx130_0)
  (try rw [Addr.add_zero'] at hx130_0)
  have HR130_0 := Aside0.mk hi130_0
  have HC130_0 := Aside0.mk hl130_0
  clear hi130_0 hl130_0
  replace p130 := eq_true p130
  replace q130 := eq_true q130
  go_enter Try.func32, Try.ntmps32
  go_wp2
  repeat (go_quiet (fail); try go_wp2)
  go_loopg [5, 12] k (fun kq v5 v12 w' => ∃ (x5_1 : Int) (x12_1 : Int), v5 = .int .i64 x5_1 ∧ v12 = .int .i64 x12_1 ∧ Aside0 (impl_Remap_1.l0 kq a0 l2 x5_1 (rd_L1 l1 0) ((rd_L1 l1 0).length : Int) x12_1 = some r) ∧ Aside0 (kq ≤ k) ∧ Drawn0 w w')
  case atStart => exact ⟨(0), (0), (by first | rfl | (simp; done) | (simp [*]; done)), (by first | rfl | (simp; done) | (simp [*]; done)), H', ⟨Nat.le_refl _⟩, by repeat (first | exact Drawn0.refl _ | apply Drawn0.step)⟩
  case round =>
   clear H'
   try clear c1
   try clear p1
   try clear q1
   try clear hx1
   try clear qi1
   try clear c2
   try clear p2
   try clear c3
   try clear c4
   try clear c4b0
   try clear c4b1
   try clear hx130_0
   try clear p130
   try clear q130
   obtain ⟨x5_1, x12_1, rfl, rfl, HA, HK1, ⟨m1, rfl⟩⟩ := hrel
   cases gk with
   | zero => exact absurd HA.out (by simp [impl_Remap_1.l0])
   | succ k1 =>
    have H := HA.out
    clear HA
    simp only [impl_Remap_1.l0] at H
    by_cases c5 : x12_1 < ((rd_L1 l1 0).length : Int)
    ·rw [if_pos c5] at H
     have c5b0 : decide (x12_1 < ((rd_L1 l1 0).length : Int)) = true := decide_eq_true c5
     clear c5
     by_cases c6 : 0 ≤ x12_1
     ·rw [if_pos c6] at H
      have c6b0 : decide (0 ≤ x12_1) = true := decide_eq_true c6
      clear c6
      by_cases c7 : x12_1 < ((rd_L1 l1 0).length : Int)
      ·rw [if_pos c7] at H
       have c7b0 : decide (x12_1 < ((rd_L1 l1 0).length : Int)) = true := decide_eq_true c7
       clear c7
       by_cases c8 : 0 < (l2.length : Int)
       ·rw [if_pos c8] at H
        have c8b0 : decide (0 < (l2.length : Int)) = true := decide_eq_true c8
        have c8b1 : decide (0 < l2.length) = true := decide_eq_true (by omega)
        clear c8
        by_cases c9 : x12_1 < ((rd_L1 l2 0).length : Int)
        ·rw [if_pos c9] at H
         have c9b0 : decide (x12_1 < ((rd_L1 l2 0).length : Int)) = true := decide_eq_true c9
         clear c9
         obtain ⟨ji10, hji10⟩ : ∃ j_ : Int, (wrap64 (x12_1 + 1)) = j_ := ⟨_, rfl⟩
         replace H : (if 0 ≤ (ji10) then (if (ji10) < ((rd_L1 l2 0).length : Int) then (if (rd (rd_L1 l2 0) (ji10)) ≤ a0 then (impl_Remap_1.l0 k1 a0 l2 (wrap64 (x5_1 + (rd (rd_L1 l1 0) x12_1))) (rd_L1 l1 0) ((rd_L1 l1 0).length : Int) ji10) else (if (rd (rd_L1 l2 0) x12_1) < a0 then (if (wrap64 ((rd (rd_L1 l2 0) (ji10)) - (rd (rd_L1 l2 0) x12_1))) = 0 then (none) else (impl_Remap_1.l0 k1 a0 l2 (wrap64 (x5_1 + (wrap64 (Int.tdiv (wrap64 ((rd (rd_L1 l1 0) x12_1) * (wrap64 (a0 - (rd (rd_L1 l2 0) x12_1))))) (wrap64 ((rd (rd_L1 l2 0) (ji10)) - (rd (rd_L1 l2 0) x12_1))))))) (rd_L1 l1 0) ((rd_L1 l1 0).length : Int) ji10)) else (impl_Remap_1.l0 k1 a0 l2 x5_1 (rd_L1 l1 0) ((rd_L1 l1 0).length : Int) ji10))) else (none)) else (none)) = some r := by first | (rw [hji10] at H; exact H) | (simp only [hji10] at H ⊢; exact H)
         have hji10w : (IntKind.i64.wrap (x12_1 + 1)) = ji10 := (i64_w _).trans hji10
         by_cases c11 : 0 ≤ (ji10)
         ·rw [if_pos c11] at H
          have c11b0 : decide (0 ≤ (ji10)) = true := decide_eq_true c11
          clear c11
          by_cases c12 : (ji10) < ((rd_L1 l2 0).length : Int)
          ·rw [if_pos c12] at H
           have c12b0 : decide ((ji10) < ((rd_L1 l2 0).length : Int)) = true := decide_eq_true c12
           clear c12
           by_cases c13 : (rd (rd_L1 l2 0) (ji10)) ≤ a0
           ·rw [if_pos c13] at H
            have c13b0 : decide ((rd (rd_L1 l2 0) (ji10)) ≤ a0) = true := decide_eq_true c13
            clear c13
            have H' := Aside0.mk H
            clear H
            have p131 : 0 ≤ (x12_1 : Int) := of_decide_eq_true (by first | (with_reducible assumption) | assumption)
            have q131 : x12_1 < ((rd_L1 l1 0).length : Int) := of_decide_eq_true (by first | (with_reducible assumption) | assumption)
            obtain ⟨ad131, e131, hx131_0⟩ := Kd.at_int HR130_0.out x12_1 p131 q131
            cases e131
            replace p131 := eq_true p131
            replace q131 := eq_true q131
            have p132 : 0 ≤ (0 : Int) := (by omega)
            have q132 : 0 < (l2.length : Int) := of_decide_eq_true (by first | (with_reducible assumption) | assumption)
            obtain ⟨ad132, A132_0, c132_0, e132, hx132_0, hl132_0, hi132_0⟩ := at_L1 HR2.out 0 p132 q132
            obtain rfl : (⟨G2, 0, none⟩ : Addr) = ad132 := (by injection e132)
            (first | simp only [add_plain] at hx132_0 | simp only [add_at] at hx132_0 | simp only [Addr.add, Nat.zero_add] at hx132_0 | skip)
            have qi132 : (0 < l2.length) = True := eq_true (by omega)
            (try rw [show ((0 : Int)).toNat = 0 from rfl] at hx132_0)
            (try rw [Addr.add_zero'] at hx132_0)
            have HR132_0 := Aside0.mk hi132_0
            have HC132_0 := Aside0.mk hl132_0
            clear hi132_0 hl132_0
            replace p132 := eq_true p132
            replace q132 := eq_true q132
            have p133 : 0 ≤ (x12_1 : Int) := of_decide_eq_true (by first | (with_reducible assumption) | assumption)
            have q133 : x12_1 < ((rd_L1 l2 0).length : Int) := of_decide_eq_true (by first | (with_reducible assumption) | assumption)
            obtain ⟨ad133, e133, hx133_0⟩ := Kd.at_int HR132_0.out x12_1 p133 q133
            cases e133
            replace p133 := eq_true p133
            replace q133 := eq_true q133
            have p134 : 0 ≤ (0 : Int) := (by omega)
            have q134 : 0 < (l2.length : Int) := of_decide_eq_true (by first | (with_reducible assumption) | assumption)
            obtain ⟨ad134, A134_0, c134_0, e134, hx134_0, hl134_0, hi134_0⟩ := at_L1 HR2.out 0 p134 q134
            obtain rfl : (⟨G2, 0, none⟩ : Addr) = ad134 := (by injection e134)
            (first | simp only [add_plain] at hx134_0 | simp only [add_at] at hx134_0 | simp only [Addr.add, Nat.zero_add] at hx134_0 | skip)
            have qi134 : (0 < l2.length) = True := eq_true (by omega)
            (try rw [show ((0 : Int)).toNat = 0 from rfl] at hx134_0)
            (try rw [Addr.add_zero'] at hx134_0)
            have HR134_0 := Aside0.mk hi134_0
            have HC134_0 := Aside0.mk hl134_0
            clear hi134_0 hl134_0
            replace p134 := eq_true p134
            replace q134 := eq_true q134
            have ea_ := Option.some.inj (hx132_0.symm.trans hx134_0)
            injection ea_ with ea_ en_ ec_
            subst ea_
            subst ec_
            clear en_
            have p135 : 0 ≤ ((ji10) : Int) := of_decide_eq_true (by first | (with_reducible assumption) | assumption)
            have q135 : (ji10) < ((rd_L1 l2 0).length : Int) := of_decide_eq_true (by first | (with_reducible assumption) | assumption)
            obtain ⟨ad135, e135, hx135_0⟩ := Kd.at_int HR134_0.out (ji10) p135 q135
            cases e135
            replace p135 := eq_true p135
            replace q135 := eq_true q135
            go_wp2
            repeat (go_quiet (fail); try go_wp2)
            go_roundg k1
            case measure => have := HK1.out; omega
            case rel => exact ⟨(wrap64 (x5_1 + (rd (rd_L1 l1 0) x12_1))), (ji10), (by first | rfl | (simp; done) | (simp [*]; done)), (by first | rfl | (simp; done) | (simp only [← hji10] <;> (first | rfl | simp)) | (simp [*]; done)), H', ⟨by have := HK1.out; omega⟩, by repeat (first | exact Drawn0.refl _ | apply Drawn0.step)⟩
           ·rw [if_neg c13] at H
            have c13b0 : decide ((rd (rd_L1 l2 0) (ji10)) ≤ a0) = false := decide_eq_false c13
            clear c13
            by_cases c14 : (rd (rd_L1 l2 0) x12_1) < a0
            ·rw [if_pos c14] at H
             have c14b0 : decide ((rd (rd_L1 l2 0) x12_1) < a0) = true := decide_eq_true c14
             clear c14
             by_cases c15 : (wrap64 ((rd (rd_L1 l2 0) (ji10)) - (rd (rd_L1 l2 0) x12_1))) = 0
             ·rw [if_pos c15] at H
              exact absurd H (by simp)
             ·rw [if_neg c15] at H
              have c15b0 : ((wrap64 ((rd (rd_L1 l2 0) (ji10)) - (rd (rd_L1 l2 0) x12_1))) == 0) = false := beq_eq_false_iff_ne.mpr c15
              have c15b1 : ((wrap64 ((rd (rd_L1 l2 0) (ji10)) - (rd (rd_L1 l2 0) x12_1))) != 0) = true := bne_iff_ne.mpr c15
              have H' := Aside0.mk H
              clear H
              have p131 : 0 ≤ (x12_1 : Int) := of_decide_eq_true (by first | (with_reducible assumption) | assumption)
              have q131 : x12_1 < ((rd_L1 l1 0).length : Int) := of_decide_eq_true (by first | (with_reducible assumption) | assumption)
              obtain ⟨ad131, e131, hx131_0⟩ := Kd.at_int HR130_0.out x12_1 p131 q131
              cases e131
              replace p131 := eq_true p131
              replace q131 := eq_true q131
              have p132 : 0 ≤ (0 : Int) := (by omega)
              have q132 : 0 < (l2.length : Int) := of_decide_eq_true (by first | (with_reducible assumption) | assumption)
              obtain ⟨ad132, A132_0, c132_0, e132, hx132_0, hl132_0, hi132_0⟩ := at_L1 HR2.out 0 p132 q132
              obtain rfl : (⟨G2, 0, none⟩ : Addr) = ad132 := (by injection e132)
              (first | simp only [add_plain] at hx132_0 | simp only [add_at] at hx132_0 | simp only [Addr.add, Nat.zero_add] at hx132_0 | skip)
              have qi132 : (0 < l2.length) = True := eq_true (by omega)
              (try rw [show ((0 : Int)).toNat = 0 from rfl] at hx132_0)
              (try rw [Addr.add_zero'] at hx132_0)
              have HR132_0 := Aside0.mk hi132_0
              have HC132_0 := Aside0.mk hl132_0
              clear hi132_0 hl132_0
              replace p132 := eq_true p132
              replace q132 := eq_true q132
              have p133 : 0 ≤ (x12_1 : Int) := of_decide_eq_true (by first | (with_reducible assumption) | assumption)
              have q133 : x12_1 < ((rd_L1 l2 0).length : Int) := of_decide_eq_true (by first | (with_reducible assumption) | assumption)
              obtain ⟨ad133, e133, hx133_0⟩ := Kd.at_int HR132_0.out x12_1 p133 q133
              cases e133
              replace p133 := eq_true p133
              replace q133 := eq_true q133
              have p134 : 0 ≤ (0 : Int) := (by omega)
              have q134 : 0 < (l2.length : Int) := of_decide_eq_true (by first | (with_reducible assumption) | assumption)
              obtain ⟨ad134, A134_0, c134_0, e134, hx134_0, hl134_0, hi134_0⟩ := at_L1 HR2.out 0 p134 q134
              obtain rfl : (⟨G2, 0, none⟩ : Addr) = ad134 := (by injection e134)
              (first | simp only [add_plain] at hx134_0 | simp only [add_at] at hx134_0 | simp only [Addr.add, Nat.zero_add] at hx134_0 | skip)
              have qi134 : (0 < l2.length) = True := eq_true (by omega)
              (try rw [show ((0 : Int)).toNat = 0 from rfl] at hx134_0)
              (try rw [Addr.add_zero'] at hx134_0)
              have HR134_0 := Aside0.mk hi134_0
              have HC134_0 := Aside0.mk hl134_0
              clear hi134_0 hl134_0
              replace p134 := eq_true p134
              replace q134 := eq_true q134
              have ea_ := Option.some.inj (hx132_0.symm.trans hx134_0)
              injection ea_ with ea_ en_ ec_
              subst ea_
              subst ec_
              clear en_
              have p135 : 0 ≤ ((ji10) : Int) := of_decide_eq_true (by first | (with_reducible assumption) | assumption)
              have q135 : (ji10) < ((rd_L1 l2 0).length : Int) := of_decide_eq_true (by first | (with_reducible assumption) | assumption)
              obtain ⟨ad135, e135, hx135_0⟩ := Kd.at_int HR134_0.out (ji10) p135 q135
              cases e135
              replace p135 := eq_true p135
              replace q135 := eq_true q135
              go_wp2
              repeat (go_quiet (fail); try go_wp2)
              go_roundg k1
              case measure => have := HK1.out; omega
              case rel => exact ⟨(wrap64 (x5_1 + (wrap64 (Int.tdiv (wrap64 ((rd (rd_L1 l1 0) x12_1) * (wrap64 (a0 - (rd (rd_L1 l2 0) x12_1))))) (wrap64 ((rd (rd_L1 l2 0) (ji10)) - (rd (rd_L1 l2 0) x12_1))))))), (ji10), (by first | rfl | (simp; done) | (simp only [← hji10] <;> (first | rfl | simp)) | (simp [*]; done)), (by first | rfl | (simp; done) | (simp only [← hji10] <;> (first | rfl | simp)) | (simp [*]; done)), H', ⟨by have := HK1.out; omega⟩, by repeat (first | exact Drawn0.refl _ | apply Drawn0.step)⟩
            ·rw [if_neg c14] at H
             have c14b0 : decide ((rd (rd_L1 l2 0) x12_1) < a0) = false := decide_eq_false c14
             clear c14
             have H' := Aside0.mk H
             clear H
             have p131 : 0 ≤ (x12_1 : Int) := of_decide_eq_true (by first | (with_reducible assumption) | assumption)
             have q131 : x12_1 < ((rd_L1 l1 0).length : Int) := of_decide_eq_true (by first | (with_reducible assumption) | assumption)
             obtain ⟨ad131, e131, hx131_0⟩ := Kd.at_int HR130_0.out x12_1 p131 q131
             cases e131
             replace p131 := eq_true p131
             replace q131 := eq_true q131
             have p132 : 0 ≤ (0 : Int) := (by omega)
             have q132 : 0 < (l2.length : Int) := of_decide_eq_true (by first | (with_reducible assumption) | assumption)
             obtain ⟨ad132, A132_0, c132_0, e132, hx132_0, hl132_0, hi132_0⟩ := at_L1 HR2.out 0 p132 q132
             obtain rfl : (⟨G2, 0, none⟩ : Addr) = ad132 := (by injection e132)
             (first | simp only [add_plain] at hx132_0 | simp only [add_at] at hx132_0 | simp only [Addr.add, Nat.zero_add] at hx132_0 | skip)
             have qi132 : (0 < l2.length) = True := eq_true (by omega)
             (try rw [show ((0 : Int)).toNat = 0 from rfl] at hx132_0)
             (try rw [Addr.add_zero'] at hx132_0)
             have HR132_0 := Aside0.mk hi132_0
             have HC132_0 := Aside0.mk hl132_0
             clear hi132_0 hl132_0
             replace p132 := eq_true p132
             replace q132 := eq_true q132
             have p133 : 0 ≤ (x12_1 : Int) := of_decide_eq_true (by first | (with_reducible assumption) | assumption)
             have q133 : x12_1 < ((rd_L1 l2 0).length : Int) := of_decide_eq_true (by first | (with_reducible assumption) | assumption)
             obtain ⟨ad133, e133, hx133_0⟩ := Kd.at_int HR132_0.out x12_1 p133 q133
             cases e133
             replace p133 := eq_true p133
             replace q133 := eq_true q133
             have p134 : 0 ≤ (0 : Int) := (by omega)
             have q134 : 0 < (l2.length : Int) := of_decide_eq_true (by first | (with_reducible assumption) | assumption)
             obtain ⟨ad134, A134_0, c134_0, e134, hx134_0, hl134_0, hi134_0⟩ := at_L1 HR2.out 0 p134 q134
             obtain rfl : (⟨G2, 0, none⟩ : Addr) = ad134 := (by injection e134)
             (first | simp only [add_plain] at hx134_0 | simp only [add_at] at hx134_0 | simp only [Addr.add, Nat.zero_add] at hx134_0 | skip)
             have qi134 : (0 < l2.length) = True := eq_true (by omega)
             (try rw [show ((0 : Int)).toNat = 0 from rfl] at hx134_0)
             (try rw [Addr.add_zero'] at hx134_0)
             have HR134_0 := Aside0.mk hi134_0
             have HC134_0 := Aside0.mk hl134_0
             clear hi134_0 hl134_0
             replace p134 := eq_true p134
             replace q134 := eq_true q134
             have ea_ := Option.some.inj (hx132_0.symm.trans hx134_0)
             injection ea_ with ea_ en_ ec_
             subst ea_
             subst ec_
             clear en_
             have p135 : 0 ≤ ((ji10) : Int) := of_decide_eq_true (by first | (with_reducible assumption) | assumption)
             have q135 : (ji10) < ((rd_L1 l2 0).length : Int) := of_decide_eq_true (by first | (with_reducible assumption) | assumption)
             obtain ⟨ad135, e135, hx135_0⟩ := Kd.at_int HR134_0.out (ji10) p135 q135
             cases e135
             replace p135 := eq_true p135
             replace q135 := eq_true q135
             go_wp2
             repeat (go_quiet (fail); try go_wp2)
             go_roundg k1
             case measure => have := HK1.out; omega
             case rel => exact ⟨(x5_1), (ji10), (by first | rfl | (simp; done) | (simp [*]; done)), (by first | rfl | (simp; done) | (simp only [← hji10] <;> (first | rfl | simp)) | (simp [*]; done)), H', ⟨by have := HK1.out; omega⟩, by repeat (first | exact Drawn0.refl _ | apply Drawn0.step)⟩
          ·rw [if_neg c12] at H
           exact absurd H (by simp)
         ·rw [if_neg c11] at H
          exact absurd H (by simp)
        ·rw [if_neg c9] at H
         exact absurd H (by simp)
       ·rw [if_neg c8] at H
        exact absurd H (by simp)
      ·rw [if_neg c7] at H
       exact absurd H (by simp)
     ·rw [if_neg c6] at H
      exact absurd H (by simp)
    ·rw [if_neg c5] at H
     have c5b0 : decide (x12_1 < ((rd_L1 l1 0).length : Int)) = false := decide_eq_false c5
     clear c5
     obtain rfl := Option.some.inj H
     go_wp2
     repeat (go_quiet (fail); try go_wp2)
     go_ret
     exact ⟨by first | rfl | (simp; done) | (simp [*]; done), by repeat (first | exact Drawn0.refl _ | apply Drawn0.step)⟩
 ·rw [if_neg c4] at H
  exact absurd H (by simp)

end Go.Proofs.Ytmndffnjejgfoab.Q
