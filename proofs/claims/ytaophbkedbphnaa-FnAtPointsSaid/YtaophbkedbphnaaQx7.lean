/- Plain Lean functions with the same answers as the Go functions of this seat, and a proof for each that the Go code comes to just these answers; no condition. Written by a program of this session (the kit's printer, turned). -/
import Derived.Test.YtaophbkedbphnaaQx0
namespace Go.Proofs.Ytaophbkedbphnaa.Q
open Go.RowKit Go.Proofs.YtaophbkedbphnaaW.PrintWords Go.Proofs.YtaophbkedbphnaaW.PrintLast Go.Proofs.YtaophbkedbphnaaW.PrintMore Go.Proofs.YtaophbkedbphnaaW.PrintFlt
attribute [local go_sem] cmp_lss cmp_leq cmp_gtr cmp_geq cmp_eql cmp_neq flt_l flt_r fgt_l fgt_r feq_l feq_r fne_l fne_r ord_lt ord_gt ord_eq ord_ne conv_int foi_fold run_store_flt
attribute [local go_sem] max2_int min2_int max_two min_two max_three min_three max_four min_four   -- for this text's walks alone
set_option linter.unusedVariables false
set_option linter.unusedSimpArgs false

/-! ### impl_At_1: function 52 -/
def impl_At_1.f (a0 : Int) (a1 : Int) (l2 : List (List (Nat))) (l3 : List (S43)) : Option (Nat) := if 0 < (l2.length : Int) then (if 0 < (l3.length : Int) then (if 0 ≤ (wrap64 ((wrap64 (a0 * ((rd_T43 l3 0).f1))) + a1)) then (if (wrap64 ((wrap64 (a0 * ((rd_T43 l3 0).f1))) + a1)) < ((rd_L1 l2 0).length : Int) then (some (rd_F (rd_L1 l2 0) (wrap64 ((wrap64 (a0 * ((rd_T43 l3 0).f1))) + a1)))) else (none)) else (none)) else (none)) else (none)
set_option maxHeartbeats 8000000 in
set_option maxRecDepth 100000 in
theorem impl_At_1.calls (a0 : Int) (a1 : Int) (G2 : Nat) (l2 : List (List (Nat))) (G3 : Nat) (l3 : List (S43)) (r : Nat) (w : World) (hr2 : Kd.C (Kd.slice 33 Kd.flt) w (some ⟨G2, 0, none⟩) l2.length l2) (hc2 : l2.length ≤ l2.length) (hr3 : Kd.C k43 w (some ⟨G3, 0, none⟩) l3.length l3) (hc3 : l3.length ≤ l3.length) (h : impl_At_1.f a0 a1 l2 l3 = some r) :
  Calls Try.prog 52 #[.int .i64 a0, .int .i64 a1, .pointer (some ⟨G2, 0, none⟩), .pointer (some ⟨G3, 0, none⟩)] w fun e w' => ∃ q0_ : Nat, e = .returned (.float .f64 (un q0_ r)) ∧ Drawn0 w w' := by
 have HR2 := Aside0.mk hr2
 have HC2 := Aside0.mk hc2
 clear hr2 hc2
 have HR3 := Aside0.mk hr3
 have HC3 := Aside0.mk hc3
 clear hr3 hc3
 have H : (if 0 < (l2.length : Int) then (if 0 < (l3.length : Int) then (if 0 ≤ (wrap64 ((wrap64 (a0 * ((rd_T43 l3 0).f1))) + a1)) then (if (wrap64 ((wrap64 (a0 * ((rd_T43 l3 0).f1))) + a1)) < ((rd_L1 l2 0).length : Int) then (some (rd_F (rd_L1 l2 0) (wrap64 ((wrap64 (a0 * ((rd_T43 l3 0).f1))) + a1)))) else (none)) else (none)) else (none)) else (none)) = some r := h
 clear h
 by_cases c5 : 0 < (l2.length : Int)
 ·rw [if_pos c5] at H
  have c5b0 : decide (0 < (l2.length : Int)) = true := decide_eq_true c5
  have c5b1 : decide (0 < l2.length) = true := decide_eq_true (by omega)
  clear c5
  by_cases c6 : 0 < (l3.length : Int)
  ·rw [if_pos c6] at H
   have c6b0 : decide (0 < (l3.length : Int)) = true := decide_eq_true c6
   have c6b1 : decide (0 < l3.length) = true := decide_eq_true (by omega)
   clear c6
   obtain ⟨ji7, hji7⟩ : ∃ j_ : Int, (wrap64 ((wrap64 (a0 * ((rd_T43 l3 0).f1))) + a1)) = j_ := ⟨_, rfl⟩
   replace H : (if 0 ≤ (ji7) then (if (ji7) < ((rd_L1 l2 0).length : Int) then (some (rd_F (rd_L1 l2 0) (ji7))) else (none)) else (none)) = some r := by first | (rw [hji7] at H; exact H) | (simp only [hji7] at H ⊢; exact H)
   have hji7w : (IntKind.i64.wrap ((wrap64 (a0 * ((rd_T43 l3 0).f1))) + a1)) = ji7 := (i64_w _).trans hji7
   by_cases c8 : 0 ≤ (ji7)
   ·rw [if_pos c8] at H
    have c8b0 : decide (0 ≤ (ji7)) = true := decide_eq_true c8
    clear c8
    by_cases c9 : (ji7) < ((rd_L1 l2 0).length : Int)
    ·rw [if_pos c9] at H
     have c9b0 : decide ((ji7) < ((rd_L1 l2 0).length : Int)) = true := decide_eq_true c9
     clear c9
     obtain rfl := Option.some.inj H
     have p111 : 0 ≤ (0 : Int) := (by omega)
     have q111 : 0 < (l2.length : Int) := of_decide_eq_true (by first | (with_reducible assumption) | assumption)
     obtain ⟨ad111, A111_0, c111_0, e111, hx111_0, hl111_0, hi111_0⟩ := at_L1 HR2.out 0 p111 q111
     obtain rfl : (⟨G2, 0, none⟩ : Addr) = ad111 := (by injection e111)
     (first | simp only [add_plain] at hx111_0 | simp only [add_at] at hx111_0 | simp only [Addr.add, Nat.zero_add] at hx111_0 | skip)
     have qi111 : (0 < l2.length) = True := eq_true (by omega)
     (try rw [show ((0 : Int)).toNat = 0 from rfl] at hx111_0)
     (try rw [Addr.add_zero'] at hx111_0)
     have HR111_0 := Aside0.mk hi111_0
     have HC111_0 := Aside0.mk hl111_0
     clear hi111_0 hl111_0
     replace p111 := eq_true p111
     replace q111 := eq_true q111
     have p112 : 0 ≤ (0 : Int) := (by omega)
     have q112 : 0 < (l3.length : Int) := of_decide_eq_true (by first | (with_reducible assumption) | assumption)
     obtain ⟨ad112, e112, hx112_0, hx112_1, hx112_2, hx112_3, hx112_4⟩ := at_T43 HR3.out 0 p112 q112
     obtain rfl : (⟨G3, 0, none⟩ : Addr) = ad112 := (by injection e112)
     (first | simp only [add_plain] at hx112_0 | simp only [add_at] at hx112_0 | simp only [Addr.add, Nat.zero_add] at hx112_0 | skip)
     (first | simp only [add_plain] at hx112_1 | simp only [add_at] at hx112_1 | simp only [Addr.add, Nat.zero_add] at hx112_1 | skip)
     (first | simp only [add_plain] at hx112_2 | simp only [add_at] at hx112_2 | simp only [Addr.add, Nat.zero_add] at hx112_2 | skip)
     (first | simp only [add_plain] at hx112_3 | simp only [add_at] at hx112_3 | simp only [Addr.add, Nat.zero_add] at hx112_3 | skip)
     (first | simp only [add_plain] at hx112_4 | simp only [add_at] at hx112_4 | simp only [Addr.add, Nat.zero_add] at hx112_4 | skip)
     have qi112 : (0 < l3.length) = True := eq_true (by omega)
     (try rw [show ((0 : Int)).toNat = 0 from rfl] at hx112_0)
     (try rw [show 0 * 5 = 0 from rfl] at hx112_0)
     (try rw [Addr.add_zero'] at hx112_0)
     (try rw [show ((0 : Int)).toNat = 0 from rfl] at hx112_1)
     (try rw [show 0 * 5 = 0 from rfl] at hx112_1)
     (try rw [Addr.add_zero'] at hx112_1)
     (try rw [show ((0 : Int)).toNat = 0 from rfl] at hx112_2)
     (try rw [show 0 * 5 = 0 from rfl] at hx112_2)
     (try rw [Addr.add_zero'] at hx112_2)
     (try rw [show ((0 : Int)).toNat = 0 from rfl] at hx112_3)
     (try rw [show 0 * 5 = 0 from rfl] at hx112_3)
     (try rw [Addr.add_zero'] at hx112_3)
     (try rw [show ((0 : Int)).toNat = 0 from rfl] at hx112_4)
     (try rw [show 0 * 5 = 0 from rfl] at hx112_4)
     (try rw [Addr.add_zero'] at hx112_4)
     replace p112 := eq_true p112
     replace q112 := eq_true q112
     have p113 : 0 ≤ ((ji7) : Int) := of_decide_eq_true (by first | (with_reducible assumption) | assumption)
     have q113 : (ji7) < ((rd_L1 l2 0).length : Int) := of_decide_eq_true (by first | (with_reducible assumption) | assumption)
     obtain ⟨ad113, pf113_0, e113, hx113_0⟩ := at_F HR111_0.out (ji7) p113 q113
     cases e113
     replace p113 := eq_true p113
     replace q113 := eq_true q113
     go_enter Try.func52, Try.ntmps52
     go_wp2
     go_ret
     first | (exact ⟨pf113_0, by first | rfl | (simp; done) | (simp only [← hji7] <;> (first | rfl | simp)) | (simp [*]; done), by repeat (first | exact Drawn0.refl _ | apply Drawn0.step)⟩) | (exact ⟨⟨pf113_0, by first | rfl | (simp; done) | (simp only [← hji7] <;> (first | rfl | simp)) | (simp [*]; done)⟩, by repeat (first | exact Drawn0.refl _ | apply Drawn0.step)⟩)
    ·rw [if_neg c9] at H
     exact absurd H (by simp)
   ·rw [if_neg c8] at H
    exact absurd H (by simp)
  ·rw [if_neg c6] at H
   exact absurd H (by simp)
 ·rw [if_neg c5] at H
  exact absurd H (by simp)

end Go.Proofs.Ytaophbkedbphnaa.Q
