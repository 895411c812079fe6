/- Plain Lean functions with the same answers as the Go functions of this seat, and a proof for each that the Go code comes to just these answers; no condition. Written by a program of this session (the kit's printer, turned). -/
import Derived.Test.YtaophbkedbphnabQx0
import Derived.Test.YtaophbkedbphnabQx22
namespace Go.Proofs.Ytaophbkedbphnab.Q
open Go.RowKit Go.Proofs.YtaophbkedbphnabW.PrintWords Go.Proofs.YtaophbkedbphnabW.PrintLast Go.Proofs.YtaophbkedbphnabW.PrintMore Go.Proofs.YtaophbkedbphnabW.PrintFlt
attribute [local go_sem] cmp_lss cmp_leq cmp_gtr cmp_geq cmp_eql cmp_neq flt_l flt_r fgt_l fgt_r feq_l feq_r fne_l fne_r ord_lt ord_gt ord_eq ord_ne conv_int foi_fold run_store_flt
attribute [local go_sem] max2_int min2_int max_two min_two max_three min_three max_four min_four   -- for this text's walks alone
set_option linter.unusedVariables false
set_option linter.unusedSimpArgs false

/-! ### impl_Sum: function 73 -/
def impl_Sum.l0 : Nat → Nat → Int → List (Nat) → Int → Int → Option (Nat × Int)
 | 0, _, _, _, _, _ => none
 | k + 1, x4, x5, x11, x12, x13 => if x13 < x12 then (if 0 ≤ x13 then (if x13 < (x11.length : Int) then ((impl_Known.f (rd_F x11 x13)).bind fun t178 => (if t178 = true then (impl_Sum.l0 k (fadd x4 (rd_F x11 x13)) (wrap64 (x5 + 1)) x11 x12 (wrap64 (x13 + 1))) else (impl_Sum.l0 k x4 x5 x11 x12 (wrap64 (x13 + 1))))) else (none)) else (none)) else (some (x4, x5))
def impl_Sum.f (k : Nat) (l0 : List (Nat)) : Option (Nat × Int) := if (l0.length : Int) > 4000 then (some (0, (-1))) else (impl_Sum.l0 k 0 0 l0 (l0.length : Int) 0)
theorem impl_Sum.mono_l : ∀ k, (∀ y0 y1 y2 y3 y4, LeO (impl_Sum.l0 k y0 y1 y2 y3 y4) (impl_Sum.l0 (k + 1) y0 y1 y2 y3 y4))
 | 0 => fun _ _ _ _ _ r h => by simp [impl_Sum.l0] at h
 | k + 1 => by
  have ih0 := impl_Sum.mono_l k
  ·intro y0 y1 y2 y3 y4
   unfold impl_Sum.l0
   repeat' first
   | (with_reducible exact ih0 _ _ _ _ _)
   | (with_reducible exact LeO.refl _)
   | (with_reducible exact LeO.none _)
   | (with_reducible refine LeO.ite ?_ ?_)
   | (with_reducible refine LeO.bind ?_ (fun _ => ?_))
   | exact ih0 _ _ _ _ _
   | exact LeO.none _
   | refine LeO.ite ?_ ?_
   | refine LeO.bind ?_ (fun _ => ?_)
theorem impl_Sum.mono : ∀ a0 k, LeO (impl_Sum.f k a0) (impl_Sum.f (k + 1) a0) := by
 intro a0 k
 have ih0 := impl_Sum.mono_l k
 unfold impl_Sum.f
 repeat' first
   | (with_reducible exact ih0 _ _ _ _ _)
   | (with_reducible exact LeO.refl _)
   | (with_reducible exact LeO.none _)
   | (with_reducible refine LeO.ite ?_ ?_)
   | (with_reducible refine LeO.bind ?_ (fun _ => ?_))
   | exact ih0 _ _ _ _ _
   | exact LeO.none _
   | refine LeO.ite ?_ ?_
   | refine LeO.bind ?_ (fun _ => ?_)
set_option maxHeartbeats 8000000 in
set_option maxRecDepth 100000 in
theorem impl_Sum.calls (k : Nat) (A0 : Option Addr) (c0 : Nat) (l0 : List (Nat)) (r1 : Nat) (r2 : Int) (w : World) (hr0 : Kd.C Kd.flt w A0 l0.length l0) (hc0 : l0.length ≤ c0) (h : impl_Sum.f k l0 = some (r1, r2)) :
  Calls Try.prog 73 #[.slice A0 l0.length c0] w fun e w' => ∃ q0_ : Nat, e = .returned (.tuple #[.float .f64 (un q0_ r1), .int .i64 r2]) ∧ Drawn0 w w' := by
 have HR0 := Aside0.mk hr0
 have HC0 := Aside0.mk hc0
 clear hr0 hc0
 have H : (if (l0.length : Int) > 4000 then (some (0, (-1))) else (impl_Sum.l0 k 0 0 l0 (l0.length : Int) 0)) = some (r1, r2) := h
 clear h
 by_cases c2 : (l0.length : Int) > 4000
 ·rw [if_pos c2] at H
  have c2b0 : decide (4000 < (l0.length : Int)) = true := decide_eq_true c2
  have c2b1 : decide (4000 < l0.length) = true := decide_eq_true (by omega)
  clear c2
  simp only [Option.some.injEq, Prod.mk.injEq] at H
  obtain ⟨rfl, rfl⟩ := H
  go_enter Try.func73, Try.ntmps73
  go_wp2
  go_ret2
  first | (exact ⟨0, by first | rfl | (simp; done) | (simp [*]; done), by repeat (first | exact Drawn0.refl _ | apply Drawn0.step)⟩) | (exact ⟨⟨0, by first | rfl | (simp; done) | (simp [*]; done)⟩, by repeat (first | exact Drawn0.refl _ | apply Drawn0.step)⟩)
 ·rw [if_neg c2] at H
  have c2b0 : decide (4000 < (l0.length : Int)) = false := decide_eq_false c2
  have c2b1 : decide (4000 < l0.length) = false := decide_eq_false (by omega)
  clear c2
  have H' := Aside0.mk H
  clear H
  go_enter Try.func73, Try.ntmps73
  go_wp2
  go_loopg [4, 5, 13] k (fun kq v4 v5 v13 w' => ∃ (x4_1 : Nat) (x5_1 : Int) (x13_1 : Int) (pg4 : Nat), v4 = .float .f64 (un pg4 x4_1) ∧ v5 = .int .i64 x5_1 ∧ v13 = .int .i64 x13_1 ∧ Aside0 (impl_Sum.l0 kq x4_1 x5_1 l0 (l0.length : Int) x13_1 = some (r1, r2)) ∧ Aside0 (kq ≤ k) ∧ Drawn0 w w')
  case atStart => exact ⟨(0), (0), (0), (0), (by first | rfl | (simp; done) | (simp [*]; done)), (by first | rfl | (simp; done) | (simp [*]; done)), (by first | rfl | (simp; done) | (simp [*]; done)), H', ⟨Nat.le_refl _⟩, by repeat (first | exact Drawn0.refl _ | apply Drawn0.step)⟩
  case round =>
   clear H'
   try clear c2
   try clear c2b0
   try clear c2b1
   try clear p2
   obtain ⟨x4_1, x5_1, x13_1, pg4, rfl, rfl, rfl, HA, HK1, ⟨m1, rfl⟩⟩ := hrel
   cases gk with
   | zero => exact absurd HA.out (by simp [impl_Sum.l0])
   | succ k1 =>
    have H := HA.out
    clear HA
    simp only [impl_Sum.l0] at H
    by_cases c3 : x13_1 < (l0.length : Int)
    ·rw [if_pos c3] at H
     have c3b0 : decide (x13_1 < (l0.length : Int)) = true := decide_eq_true c3
     clear c3
     by_cases c4 : 0 ≤ x13_1
     ·rw [if_pos c4] at H
      have c4b0 : decide (0 ≤ x13_1) = true := decide_eq_true c4
      clear c4
      by_cases c5 : x13_1 < (l0.length : Int)
      ·rw [if_pos c5] at H
       have c5b0 : decide (x13_1 < (l0.length : Int)) = true := decide_eq_true c5
       clear c5
       replace H := Option.bind_eq_some_iff.mp H
       obtain ⟨t178, A60, H⟩ := H
       replace H : (if t178 = true then (impl_Sum.l0 k1 (fadd x4_1 (rd_F l0 x13_1)) (wrap64 (x5_1 + 1)) l0 (l0.length : Int) (wrap64 (x13_1 + 1))) else (impl_Sum.l0 k1 x4_1 x5_1 l0 (l0.length : Int) (wrap64 (x13_1 + 1)))) = some (r1, r2) := H
       have A6 := Aside0.mk A60
       clear A60
       by_cases c7 : t178 = true
       ·subst c7
        have H1 : (impl_Sum.l0 k1 (fadd x4_1 (rd_F l0 x13_1)) (wrap64 (x5_1 + 1)) l0 (l0.length : Int) (wrap64 (x13_1 + 1))) = some (r1, r2) := by rw [if_pos rfl] at H; exact H
        clear H
        have H := H1
        clear H1
        have H' := Aside0.mk H
        clear H
        have p177 : 0 ≤ (x13_1 : Int) := of_decide_eq_true (by first | (with_reducible assumption) | assumption)
        have q177 : x13_1 < (l0.length : Int) := of_decide_eq_true (by first | (with_reducible assumption) | assumption)
        obtain ⟨ad177, pf177_0, e177, hx177_0⟩ := at_F HR0.out x13_1 p177 q177
        cases e177
        replace p177 := eq_true p177
        replace q177 := eq_true q177
        go_wp2_with (first | ((with_reducible refine gate_callee (f := 57) rfl ?_); refine goesL_ (some 18) rfl rfl Try.func57 (by kernel_rfl) rfl #[.float .f64 (un pf177_0 (rd_F l0 x13_1))] rfl (by (try simp only [List.map_toArray, List.map_cons, List.map_nil]); first | done | rfl | (simp only [List.length_drop, List.length_take]; rfl)) ?_; (with_reducible refine (impl_Known.calls pf177_0 (rd_F l0 x13_1) true _ A6.out).mono ?_); rintro e w' ⟨rfl, ⟨nd, rfl⟩⟩; refine ⟨_, rfl, ?_⟩) | ((with_reducible refine gate_dst (N := 21) rfl ?_); refine fop_event rfl (N := 21) rfl (op := .add) rfl rfl pg4 x4_1 pf177_0 (rd_F l0 x13_1) rfl rfl ?hA ?hB fadd rfl ?_; (case hA => first | rfl | exact (un_zero _).symm); (case hB => first | rfl | exact (un_zero _).symm); rintro pb179 _ ⟨nd, rfl⟩))
        go_roundg k1
        case measure => have := HK1.out; omega
        case rel => exact ⟨(fadd x4_1 (rd_F l0 x13_1)), (wrap64 (x5_1 + 1)), (wrap64 (x13_1 + 1)), (pb179), (by first | rfl | (simp; done) | (simp [*]; done)), (by first | rfl | (simp; done) | (simp [*]; done)), (by first | rfl | (simp; done) | (simp [*]; done)), H', ⟨by have := HK1.out; omega⟩, by repeat (first | exact Drawn0.refl _ | apply Drawn0.step)⟩
       ·replace c7 := Bool.eq_false_iff.mpr c7
        subst c7
        have H1 : (impl_Sum.l0 k1 x4_1 x5_1 l0 (l0.length : Int) (wrap64 (x13_1 + 1))) = some (r1, r2) := by rw [if_neg (show ¬ (false = true) by decide)] at H; exact H
        clear H
        have H := H1
        clear H1
        have H' := Aside0.mk H
        clear H
        have p177 : 0 ≤ (x13_1 : Int) := of_decide_eq_true (by first | (with_reducible assumption) | assumption)
        have q177 : x13_1 < (l0.length : Int) := of_decide_eq_true (by first | (with_reducible assumption) | assumption)
        obtain ⟨ad177, pf177_0, e177, hx177_0⟩ := at_F HR0.out x13_1 p177 q177
        cases e177
        replace p177 := eq_true p177
        replace q177 := eq_true q177
        go_wp2_with (first | ((with_reducible refine gate_callee (f := 57) rfl ?_); refine goesL_ (some 18) rfl rfl Try.func57 (by kernel_rfl) rfl #[.float .f64 (un pf177_0 (rd_F l0 x13_1))] rfl (by (try simp only [List.map_toArray, List.map_cons, List.map_nil]); first | done | rfl | (simp only [List.length_drop, List.length_take]; rfl)) ?_; (with_reducible refine (impl_Known.calls pf177_0 (rd_F l0 x13_1) false _ A6.out).mono ?_); rintro e w' ⟨rfl, ⟨nd, rfl⟩⟩; refine ⟨_, rfl, ?_⟩))
        go_roundg k1
        case measure => have := HK1.out; omega
        case rel => exact ⟨(x4_1), (x5_1), (wrap64 (x13_1 + 1)), (pg4), (by first | rfl | (simp; done) | (simp [*]; done)), (by first | rfl | (simp; done) | (simp [*]; done)), (by first | rfl | (simp; done) | (simp [*]; done)), H', ⟨by have := HK1.out; omega⟩, by repeat (first | exact Drawn0.refl _ | apply Drawn0.step)⟩
      ·rw [if_neg c5] at H
       exact absurd H (by simp)
     ·rw [if_neg c4] at H
      exact absurd H (by simp)
    ·rw [if_neg c3] at H
     have c3b0 : decide (x13_1 < (l0.length : Int)) = false := decide_eq_false c3
     clear c3
     simp only [Option.some.injEq, Prod.mk.injEq] at H
     obtain ⟨rfl, rfl⟩ := H
     go_wp2
     go_ret2
     first | (exact ⟨pg4, by first | rfl | (simp; done) | (simp [*]; done), by repeat (first | exact Drawn0.refl _ | apply Drawn0.step)⟩) | (exact ⟨⟨pg4, by first | rfl | (simp; done) | (simp [*]; done)⟩, by repeat (first | exact Drawn0.refl _ | apply Drawn0.step)⟩)

end Go.Proofs.Ytaophbkedbphnab.Q
