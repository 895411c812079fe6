/- Plain Lean functions with the same answers as the Go functions of this seat, and a proof for each that the Go code comes to just these answers; no condition. Written by a program of this session (the kit's printer, turned). -/
import Derived.Test.YteobnbichpadjabQx0
namespace Go.Proofs.Yteobnbichpadjab.Q
open Go.RowKit Go.Proofs.YteobnbichpadjabW.PrintWords Go.Proofs.YteobnbichpadjabW.PrintLast Go.Proofs.YteobnbichpadjabW.PrintMore Go.Proofs.YteobnbichpadjabW.PrintFlt
attribute [local go_sem] cmp_lss cmp_leq cmp_gtr cmp_geq cmp_eql cmp_neq flt_l flt_r fgt_l fgt_r feq_l feq_r fne_l fne_r ord_lt ord_gt ord_eq ord_ne conv_int foi_fold run_store_flt
attribute [local go_sem] max2_int min2_int max_two min_two max_three min_three max_four min_four   -- for this text's walks alone
set_option linter.unusedVariables false
set_option linter.unusedSimpArgs false

/-! ### impl_Deal_1: function 45 -/
def impl_Deal_1.f (a0 : Int) (l1 : List (S31)) (l2 : List Int) : Option (Bool) := if 0 < (l1.length : Int) then (if 0 < (l2.length : Int) then (some (decide ((wrap64 (a0 + ((rd_T31 l1 0).f4))) ≤ (rd l2 0)))) else (none)) else (none)
set_option maxHeartbeats 8000000 in
set_option maxRecDepth 100000 in
theorem impl_Deal_1.calls (a0 : Int) (G1 : Nat) (l1 : List (S31)) (G2 : Nat) (l2 : List Int) (r : Bool) (w : World) (hr1 : Kd.C k31 w (some ⟨G1, 0, none⟩) l1.length l1) (hc1 : l1.length ≤ l1.length) (hr2 : Kd.C (Kd.int .i64) w (some ⟨G2, 0, none⟩) l2.length l2) (hc2 : l2.length ≤ l2.length) (h : impl_Deal_1.f a0 l1 l2 = some r) :
  Calls Try.prog 45 #[.int .i64 a0, .pointer (some ⟨G1, 0, none⟩), .pointer (some ⟨G2, 0, none⟩)] w fun e w' => e = .returned (.bool r) ∧ Drawn0 w w' := by
 have HR1 := Aside0.mk hr1
 have HC1 := Aside0.mk hc1
 clear hr1 hc1
 have HR2 := Aside0.mk hr2
 have HC2 := Aside0.mk hc2
 clear hr2 hc2
 have H : (if 0 < (l1.length : Int) then (if 0 < (l2.length : Int) then (some (decide ((wrap64 (a0 + ((rd_T31 l1 0).f4))) ≤ (rd l2 0)))) else (none)) else (none)) = some r := h
 clear h
 by_cases c4 : 0 < (l1.length : Int)
 ·rw [if_pos c4] at H
  have c4b0 : decide (0 < (l1.length : Int)) = true := decide_eq_true c4
  have c4b1 : decide (0 < l1.length) = true := decide_eq_true (by omega)
  clear c4
  by_cases c5 : 0 < (l2.length : Int)
  ·rw [if_pos c5] at H
   have c5b0 : decide (0 < (l2.length : Int)) = true := decide_eq_true c5
   have c5b1 : decide (0 < l2.length) = true := decide_eq_true (by omega)
   clear c5
   obtain rfl := Option.some.inj H
   have p273 : 0 ≤ (0 : Int) := (by omega)
   have q273 : 0 < (l1.length : Int) := of_decide_eq_true (by first | (with_reducible assumption) | assumption)
   obtain ⟨ad273, e273, hx273_0, hx273_1, hx273_2, hx273_3, hx273_4⟩ := at_T31 HR1.out 0 p273 q273
   obtain rfl : (⟨G1, 0, none⟩ : Addr) = ad273 := (by injection e273)
   (first | simp only [add_plain] at hx273_0 | simp only [add_at] at hx273_0 | simp only [Addr.add, Nat.zero_add] at hx273_0 | skip)
   (first | simp only [add_plain] at hx273_1 | simp only [add_at] at hx273_1 | simp only [Addr.add, Nat.zero_add] at hx273_1 | skip)
   (first | simp only [add_plain] at hx273_2 | simp only [add_at] at hx273_2 | simp only [Addr.add, Nat.zero_add] at hx273_2 | skip)
   (first | simp only [add_plain] at hx273_3 | simp only [add_at] at hx273_3 | simp only [Addr.add, Nat.zero_add] at hx273_3 | skip)
   (first | simp only [add_plain] at hx273_4 | simp only [add_at] at hx273_4 | simp only [Addr.add, Nat.zero_add] at hx273_4 | skip)
   have qi273 : (0 < l1.length) = True := eq_true (by omega)
   (try rw [show ((0 : Int)).toNat = 0 from rfl] at hx273_0)
   (try rw [show 0 * 5 = 0 from rfl] at hx273_0)
   (try rw [Addr.add_zero'] at hx273_0)
   (try rw [show ((0 : Int)).toNat = 0 from rfl] at hx273_1)
   (try rw [show 0 * 5 = 0 from rfl] at hx273_1)
   (try rw [Addr.add_zero'] at hx273_1)
   (try rw [show ((0 : Int)).toNat = 0 from rfl] at hx273_2)
   (try rw [show 0 * 5 = 0 from rfl] at hx273_2)
   (try rw [Addr.add_zero'] at hx273_2)
   (try rw [show ((0 : Int)).toNat = 0 from rfl] at hx273_3)
   (try rw [show 0 * 5 = 0 from rfl] at hx273_3)
   (try rw [Addr.add_zero'] at hx273_3)
   (try rw [show ((0 : Int)).toNat = 0 from rfl] at hx273_4)
   (try rw [show 0 * 5 = 0 from rfl] at hx273_4)
   (try rw [Addr.add_zero'] at hx273_4)
   replace p273 := eq_true p273
   replace q273 := eq_true q273
   have p274 : 0 ≤ (0 : Int) := (by omega)
   have q274 : 0 < (l2.length : Int) := of_decide_eq_true (by first | (with_reducible assumption) | assumption)
   obtain ⟨ad274, e274, hx274_0⟩ := Kd.at_int HR2.out 0 p274 q274
   obtain rfl : (⟨G2, 0, none⟩ : Addr) = ad274 := (by injection e274)
   (first | simp only [add_plain] at hx274_0 | simp only [add_at] at hx274_0 | simp only [Addr.add, Nat.zero_add] at hx274_0 | skip)
   have qi274 : (0 < l2.length) = True := eq_true (by omega)
   (try rw [show ((0 : Int)).toNat = 0 from rfl] at hx274_0)
   (try rw [Addr.add_zero'] at hx274_0)
   replace p274 := eq_true p274
   replace q274 := eq_true q274
   go_enter Try.func45, Try.ntmps45
   go_wp2
   go_ret
   exact ⟨by first | rfl | (simp; done) | (simp [*]; done), by repeat (first | exact Drawn0.refl _ | apply Drawn0.step)⟩
  ·rw [if_neg c5] at H
   exact absurd H (by simp)
 ·rw [if_neg c4] at H
  exact absurd H (by simp)

end Go.Proofs.Yteobnbichpadjab.Q
