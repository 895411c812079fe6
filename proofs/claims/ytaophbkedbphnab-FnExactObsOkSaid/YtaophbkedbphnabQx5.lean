/- Plain Lean functions with the same answers as the Go functions of this seat, and a proof for each that the Go code comes to just these answers; no condition. Written by a program of this session (the kit's printer, turned). -/
import Derived.Test.YtaophbkedbphnabQx0
import Derived.Test.YtaophbkedbphnabQx4
namespace Go.Proofs.Ytaophbkedbphnab.Q
open Go.RowKit Go.Proofs.YtaophbkedbphnabW.PrintWords Go.Proofs.YtaophbkedbphnabW.PrintLast Go.Proofs.YtaophbkedbphnabW.PrintMore Go.Proofs.YtaophbkedbphnabW.PrintFlt
attribute [local go_sem] cmp_lss cmp_leq cmp_gtr cmp_geq cmp_eql cmp_neq flt_l flt_r fgt_l fgt_r feq_l feq_r fne_l fne_r ord_lt ord_gt ord_eq ord_ne conv_int conv_flt foi_fold run_store_flt
attribute [local go_sem] max2_int min2_int max_two min_two max_three min_three max_four min_four   -- for this text's walks alone
set_option linter.unusedVariables false
set_option linter.unusedSimpArgs false

/-! ### spec_Nearest: function 78 -/
def spec_Nearest.f (a0 : Nat) : Option (Int × Bool) := (spec_l1Whole.f a0).bind fun t106 => (if t106 = true then (if inI a0 = true then (if (fgt (foi (toi a0)) a0) = true then (if (fgt (fsub a0 (foi (wrap64 ((toi a0) - 1)))) 4602678819172646912) = true then (some (wrap64 ((wrap64 ((toi a0) - 1)) + 1), true)) else (if (feq (fsub a0 (foi (wrap64 ((toi a0) - 1)))) 4602678819172646912) = true then (if (Int.tmod (wrap64 ((toi a0) - 1)) 2) = 0 then (some (wrap64 ((toi a0) - 1), true)) else (some (wrap64 ((wrap64 ((toi a0) - 1)) + 1), true))) else (some (wrap64 ((toi a0) - 1), true)))) else (if (fgt (fsub a0 (foi (toi a0))) 4602678819172646912) = true then (some (wrap64 ((toi a0) + 1), true)) else (if (feq (fsub a0 (foi (toi a0))) 4602678819172646912) = true then (if (Int.tmod (toi a0) 2) = 0 then (some (toi a0, true)) else (some (wrap64 ((toi a0) + 1), true))) else (some (toi a0, true))))) else (none)) else (some (0, false)))
set_option maxHeartbeats 8000000 in
set_option maxRecDepth 100000 in
theorem spec_Nearest.calls (pa0 : Nat) (a0 : Nat) (r1 : Int) (r2 : Bool) (w : World) (h : spec_Nearest.f a0 = some (r1, r2)) :
  Calls Try.prog 78 #[.float .f64 (un pa0 a0)] w fun e w' => e = .returned (.tuple #[.int .i64 r1, .bool r2]) ∧ Drawn0 w w' := by
 have H : ((spec_l1Whole.f a0).bind fun t106 => (if t106 = true then (if inI a0 = true then (if (fgt (foi (toi a0)) a0) = true then (if (fgt (fsub a0 (foi (wrap64 ((toi a0) - 1)))) 4602678819172646912) = true then (some (wrap64 ((wrap64 ((toi a0) - 1)) + 1), true)) else (if (feq (fsub a0 (foi (wrap64 ((toi a0) - 1)))) 4602678819172646912) = true then (if (Int.tmod (wrap64 ((toi a0) - 1)) 2) = 0 then (some (wrap64 ((toi a0) - 1), true)) else (some (wrap64 ((wrap64 ((toi a0) - 1)) + 1), true))) else (some (wrap64 ((toi a0) - 1), true)))) else (if (fgt (fsub a0 (foi (toi a0))) 4602678819172646912) = true then (some (wrap64 ((toi a0) + 1), true)) else (if (feq (fsub a0 (foi (toi a0))) 4602678819172646912) = true then (if (Int.tmod (toi a0) 2) = 0 then (some (toi a0, true)) else (some (wrap64 ((toi a0) + 1), true))) else (some (toi a0, true))))) else (none)) else (some (0, false)))) = some (r1, r2) := h
 clear h
 replace H := Option.bind_eq_some_iff.mp H
 obtain ⟨t106, A20, H⟩ := H
 replace H : (if t106 = true then (if inI a0 = true then (if (fgt (foi (toi a0)) a0) = true then (if (fgt (fsub a0 (foi (wrap64 ((toi a0) - 1)))) 4602678819172646912) = true then (some (wrap64 ((wrap64 ((toi a0) - 1)) + 1), true)) else (if (feq (fsub a0 (foi (wrap64 ((toi a0) - 1)))) 4602678819172646912) = true then (if (Int.tmod (wrap64 ((toi a0) - 1)) 2) = 0 then (some (wrap64 ((toi a0) - 1), true)) else (some (wrap64 ((wrap64 ((toi a0) - 1)) + 1), true))) else (some (wrap64 ((toi a0) - 1), true)))) else (if (fgt (fsub a0 (foi (toi a0))) 4602678819172646912) = true then (some (wrap64 ((toi a0) + 1), true)) else (if (feq (fsub a0 (foi (toi a0))) 4602678819172646912) = true then (if (Int.tmod (toi a0) 2) = 0 then (some (toi a0, true)) else (some (wrap64 ((toi a0) + 1), true))) else (some (toi a0, true))))) else (none)) else (some (0, false))) = some (r1, r2) := H
 have A2 := Aside0.mk A20
 clear A20
 by_cases c3 : t106 = true
 ·subst c3
  have H1 : (if inI a0 = true then (if (fgt (foi (toi a0)) a0) = true then (if (fgt (fsub a0 (foi (wrap64 ((toi a0) - 1)))) 4602678819172646912) = true then (some (wrap64 ((wrap64 ((toi a0) - 1)) + 1), true)) else (if (feq (fsub a0 (foi (wrap64 ((toi a0) - 1)))) 4602678819172646912) = true then (if (Int.tmod (wrap64 ((toi a0) - 1)) 2) = 0 then (some (wrap64 ((toi a0) - 1), true)) else (some (wrap64 ((wrap64 ((toi a0) - 1)) + 1), true))) else (some (wrap64 ((toi a0) - 1), true)))) else (if (fgt (fsub a0 (foi (toi a0))) 4602678819172646912) = true then (some (wrap64 ((toi a0) + 1), true)) else (if (feq (fsub a0 (foi (toi a0))) 4602678819172646912) = true then (if (Int.tmod (toi a0) 2) = 0 then (some (toi a0, true)) else (some (wrap64 ((toi a0) + 1), true))) else (some (toi a0, true))))) else (none)) = some (r1, r2) := by rw [if_pos rfl] at H; exact H
  clear H
  have H := H1
  clear H1
  by_cases c4 : inI a0 = true
  ·rw [if_pos c4] at H
   have c4b0 := eq_true c4
   have c4b1 : decide (inI a0 = true) = true := decide_eq_true c4
   clear c4
   by_cases c5 : (fgt (foi (toi a0)) a0) = true
   ·rw [if_pos c5] at H
    have c5b0 : (fgt (foi (toi a0)) a0) = true := c5
    clear c5
    by_cases c6 : (fgt (fsub a0 (foi (wrap64 ((toi a0) - 1)))) 4602678819172646912) = true
    ·rw [if_pos c6] at H
     have c6b0 : (fgt (fsub a0 (foi (wrap64 ((toi a0) - 1)))) 4602678819172646912) = true := c6
     clear c6
     simp only [Option.some.injEq, Prod.mk.injEq] at H
     obtain ⟨rfl, rfl⟩ := H
     go_enter Try.func78, Try.ntmps78
     go_wp2_with (first | ((with_reducible refine gate_callee (f := 87) rfl ?_); refine goesL_ (some 7) rfl rfl Try.func87 (by kernel_rfl) rfl #[.float .f64 (un pa0 a0)] rfl (by (try simp only [List.map_toArray, List.map_cons, List.map_nil]); first | done | rfl | (simp only [List.length_drop, List.length_take]; rfl)) ?_; (with_reducible refine (spec_l1Whole.calls pa0 a0 true _ A2.out).mono ?_); rintro e w' ⟨rfl, ⟨nd, rfl⟩⟩; refine ⟨_, rfl, ?_⟩) | ((with_reducible refine gate_dst (N := 20) rfl ?_); (try (refine gate_guard (by rfl) ?_; dsimp only)); refine fop_event rfl (N := 20) rfl (op := .sub) rfl rfl pa0 a0 0 (foi (wrap64 ((toi a0) - 1))) rfl rfl ?hA ?hB fsub rfl ?_; (case hA => first | rfl | exact (un_zero _).symm); (case hB => first | rfl | exact (un_zero _).symm); rintro pb107 _ ⟨nd, rfl⟩))
     go_ret2
     exact ⟨by first | rfl | (simp; done) | (simp [*]; done), by repeat (first | exact Drawn0.refl _ | apply Drawn0.step)⟩
    ·rw [if_neg c6] at H
     have c6b0 : (fgt (fsub a0 (foi (wrap64 ((toi a0) - 1)))) 4602678819172646912) = false := by simpa using c6
     clear c6
     by_cases c7 : (feq (fsub a0 (foi (wrap64 ((toi a0) - 1)))) 4602678819172646912) = true
     ·rw [if_pos c7] at H
      have c7b0 : (feq (fsub a0 (foi (wrap64 ((toi a0) - 1)))) 4602678819172646912) = true := c7
      clear c7
      by_cases c8 : (Int.tmod (wrap64 ((toi a0) - 1)) 2) = 0
      ·rw [if_pos c8] at H
       have c8b0 : ((Int.tmod (wrap64 ((toi a0) - 1)) 2) == 0) = true := beq_iff_eq.mpr c8
       have c8b1 : ((Int.tmod (wrap64 ((toi a0) - 1)) 2) != 0) = false := bne_eq_false_iff_eq.mpr c8
       clear c8
       simp only [Option.some.injEq, Prod.mk.injEq] at H
       obtain ⟨rfl, rfl⟩ := H
       go_enter Try.func78, Try.ntmps78
       go_wp2_with (first | ((with_reducible refine gate_callee (f := 87) rfl ?_); refine goesL_ (some 7) rfl rfl Try.func87 (by kernel_rfl) rfl #[.float .f64 (un pa0 a0)] rfl (by (try simp only [List.map_toArray, List.map_cons, List.map_nil]); first | done | rfl | (simp only [List.length_drop, List.length_take]; rfl)) ?_; (with_reducible refine (spec_l1Whole.calls pa0 a0 true _ A2.out).mono ?_); rintro e w' ⟨rfl, ⟨nd, rfl⟩⟩; refine ⟨_, rfl, ?_⟩) | ((with_reducible refine gate_dst (N := 20) rfl ?_); (try (refine gate_guard (by rfl) ?_; dsimp only)); refine fop_event rfl (N := 20) rfl (op := .sub) rfl rfl pa0 a0 0 (foi (wrap64 ((toi a0) - 1))) rfl rfl ?hA ?hB fsub rfl ?_; (case hA => first | rfl | exact (un_zero _).symm); (case hB => first | rfl | exact (un_zero _).symm); rintro pb107 _ ⟨nd, rfl⟩))
       go_ret2
       exact ⟨by first | rfl | (simp; done) | (simp [*]; done), by repeat (first | exact Drawn0.refl _ | apply Drawn0.step)⟩
      ·rw [if_neg c8] at H
       have c8b0 : ((Int.tmod (wrap64 ((toi a0) - 1)) 2) == 0) = false := beq_eq_false_iff_ne.mpr c8
       have c8b1 : ((Int.tmod (wrap64 ((toi a0) - 1)) 2) != 0) = true := bne_iff_ne.mpr c8
       simp only [Option.some.injEq, Prod.mk.injEq] at H
       obtain ⟨rfl, rfl⟩ := H
       go_enter Try.func78, Try.ntmps78
       go_wp2_with (first | ((with_reducible refine gate_callee (f := 87) rfl ?_); refine goesL_ (some 7) rfl rfl Try.func87 (by kernel_rfl) rfl #[.float .f64 (un pa0 a0)] rfl (by (try simp only [List.map_toArray, List.map_cons, List.map_nil]); first | done | rfl | (simp only [List.length_drop, List.length_take]; rfl)) ?_; (with_reducible refine (spec_l1Whole.calls pa0 a0 true _ A2.out).mono ?_); rintro e w' ⟨rfl, ⟨nd, rfl⟩⟩; refine ⟨_, rfl, ?_⟩) | ((with_reducible refine gate_dst (N := 20) rfl ?_); (try (refine gate_guard (by rfl) ?_; dsimp only)); refine fop_event rfl (N := 20) rfl (op := .sub) rfl rfl pa0 a0 0 (foi (wrap64 ((toi a0) - 1))) rfl rfl ?hA ?hB fsub rfl ?_; (case hA => first | rfl | exact (un_zero _).symm); (case hB => first | rfl | exact (un_zero _).symm); rintro pb107 _ ⟨nd, rfl⟩))
       go_ret2
       exact ⟨by first | rfl | (simp; done) | (simp [*]; done), by repeat (first | exact Drawn0.refl _ | apply Drawn0.step)⟩
     ·rw [if_neg c7] at H
      have c7b0 : (feq (fsub a0 (foi (wrap64 ((toi a0) - 1)))) 4602678819172646912) = false := by simpa using c7
      clear c7
      simp only [Option.some.injEq, Prod.mk.injEq] at H
      obtain ⟨rfl, rfl⟩ := H
      go_enter Try.func78, Try.ntmps78
      go_wp2_with (first | ((with_reducible refine gate_callee (f := 87) rfl ?_); refine goesL_ (some 7) rfl rfl Try.func87 (by kernel_rfl) rfl #[.float .f64 (un pa0 a0)] rfl (by (try simp only [List.map_toArray, List.map_cons, List.map_nil]); first | done | rfl | (simp only [List.length_drop, List.length_take]; rfl)) ?_; (with_reducible refine (spec_l1Whole.calls pa0 a0 true _ A2.out).mono ?_); rintro e w' ⟨rfl, ⟨nd, rfl⟩⟩; refine ⟨_, rfl, ?_⟩) | ((with_reducible refine gate_dst (N := 20) rfl ?_); (try (refine gate_guard (by rfl) ?_; dsimp only)); refine fop_event rfl (N := 20) rfl (op := .sub) rfl rfl pa0 a0 0 (foi (wrap64 ((toi a0) - 1))) rfl rfl ?hA ?hB fsub rfl ?_; (case hA => first | rfl | exact (un_zero _).symm); (case hB => first | rfl | exact (un_zero _).symm); rintro pb107 _ ⟨nd, rfl⟩))
      go_ret2
      exact ⟨by first | rfl | (simp; done) | (simp [*]; done), by repeat (first | exact Drawn0.refl _ | apply Drawn0.step)⟩
   ·rw [if_neg c5] at H
    have c5b0 : (fgt (foi (toi a0)) a0) = false := by simpa using c5
    clear c5
    by_cases c9 : (fgt (fsub a0 (foi (toi a0))) 4602678819172646912) = true
    ·rw [if_pos c9] at H
     have c9b0 : (fgt (fsub a0 (foi (toi a0))) 4602678819172646912) = true := c9
     clear c9
     simp only [Option.some.injEq, Prod.mk.injEq] at H
     obtain ⟨rfl, rfl⟩ := H
     go_enter Try.func78, Try.ntmps78
     go_wp2_with (first | ((with_reducible refine gate_callee (f := 87) rfl ?_); refine goesL_ (some 7) rfl rfl Try.func87 (by kernel_rfl) rfl #[.float .f64 (un pa0 a0)] rfl (by (try simp only [List.map_toArray, List.map_cons, List.map_nil]); first | done | rfl | (simp only [List.length_drop, List.length_take]; rfl)) ?_; (with_reducible refine (spec_l1Whole.calls pa0 a0 true _ A2.out).mono ?_); rintro e w' ⟨rfl, ⟨nd, rfl⟩⟩; refine ⟨_, rfl, ?_⟩) | ((with_reducible refine gate_dst (N := 20) rfl ?_); (try (refine gate_guard (by rfl) ?_; dsimp only)); refine fop_event rfl (N := 20) rfl (op := .sub) rfl rfl pa0 a0 0 (foi (toi a0)) rfl rfl ?hA ?hB fsub rfl ?_; (case hA => first | rfl | exact (un_zero _).symm); (case hB => first | rfl | exact (un_zero _).symm); rintro pb108 _ ⟨nd, rfl⟩))
     go_ret2
     exact ⟨by first | rfl | (simp; done) | (simp [*]; done), by repeat (first | exact Drawn0.refl _ | apply Drawn0.step)⟩
    ·rw [if_neg c9] at H
     have c9b0 : (fgt (fsub a0 (foi (toi a0))) 4602678819172646912) = false := by simpa using c9
     clear c9
     by_cases c10 : (feq (fsub a0 (foi (toi a0))) 4602678819172646912) = true
     ·rw [if_pos c10] at H
      have c10b0 : (feq (fsub a0 (foi (toi a0))) 4602678819172646912) = true := c10
      clear c10
      by_cases c11 : (Int.tmod (toi a0) 2) = 0
      ·rw [if_pos c11] at H
       have c11b0 : ((Int.tmod (toi a0) 2) == 0) = true := beq_iff_eq.mpr c11
       have c11b1 : ((Int.tmod (toi a0) 2) != 0) = false := bne_eq_false_iff_eq.mpr c11
       clear c11
       simp only [Option.some.injEq, Prod.mk.injEq] at H
       obtain ⟨rfl, rfl⟩ := H
       go_enter Try.func78, Try.ntmps78
       go_wp2_with (first | ((with_reducible refine gate_callee (f := 87) rfl ?_); refine goesL_ (some 7) rfl rfl Try.func87 (by kernel_rfl) rfl #[.float .f64 (un pa0 a0)] rfl (by (try simp only [List.map_toArray, List.map_cons, List.map_nil]); first | done | rfl | (simp only [List.length_drop, List.length_take]; rfl)) ?_; (with_reducible refine (spec_l1Whole.calls pa0 a0 true _ A2.out).mono ?_); rintro e w' ⟨rfl, ⟨nd, rfl⟩⟩; refine ⟨_, rfl, ?_⟩) | ((with_reducible refine gate_dst (N := 20) rfl ?_); (try (refine gate_guard (by rfl) ?_; dsimp only)); refine fop_event rfl (N := 20) rfl (op := .sub) rfl rfl pa0 a0 0 (foi (toi a0)) rfl rfl ?hA ?hB fsub rfl ?_; (case hA => first | rfl | exact (un_zero _).symm); (case hB => first | rfl | exact (un_zero _).symm); rintro pb108 _ ⟨nd, rfl⟩))
       go_ret2
       exact ⟨by first | rfl | (simp; done) | (simp [*]; done), by repeat (first | exact Drawn0.refl _ | apply Drawn0.step)⟩
      ·rw [if_neg c11] at H
       have c11b0 : ((Int.tmod (toi a0) 2) == 0) = false := beq_eq_false_iff_ne.mpr c11
       have c11b1 : ((Int.tmod (toi a0) 2) != 0) = true := bne_iff_ne.mpr c11
       simp only [Option.some.injEq, Prod.mk.injEq] at H
       obtain ⟨rfl, rfl⟩ := H
       go_enter Try.func78, Try.ntmps78
       go_wp2_with (first | ((with_reducible refine gate_callee (f := 87) rfl ?_); refine goesL_ (some 7) rfl rfl Try.func87 (by kernel_rfl) rfl #[.float .f64 (un pa0 a0)] rfl (by (try simp only [List.map_toArray, List.map_cons, List.map_nil]); first | done | rfl | (simp only [List.length_drop, List.length_take]; rfl)) ?_; (with_reducible refine (spec_l1Whole.calls pa0 a0 true _ A2.out).mono ?_); rintro e w' ⟨rfl, ⟨nd, rfl⟩⟩; refine ⟨_, rfl, ?_⟩) | ((with_reducible refine gate_dst (N := 20) rfl ?_); (try (refine gate_guard (by rfl) ?_; dsimp only)); refine fop_event rfl (N := 20) rfl (op := .sub) rfl rfl pa0 a0 0 (foi (toi a0)) rfl rfl ?hA ?hB fsub rfl ?_; (case hA => first | rfl | exact (un_zero _).symm); (case hB => first | rfl | exact (un_zero _).symm); rintro pb108 _ ⟨nd, rfl⟩))
       go_ret2
       exact ⟨by first | rfl | (simp; done) | (simp [*]; done), by repeat (first | exact Drawn0.refl _ | apply Drawn0.step)⟩
     ·rw [if_neg c10] at H
      have c10b0 : (feq (fsub a0 (foi (toi a0))) 4602678819172646912) = false := by simpa using c10
      clear c10
      simp only [Option.some.injEq, Prod.mk.injEq] at H
      obtain ⟨rfl, rfl⟩ := H
      go_enter Try.func78, Try.ntmps78
      go_wp2_with (first | ((with_reducible refine gate_callee (f := 87) rfl ?_); refine goesL_ (some 7) rfl rfl Try.func87 (by kernel_rfl) rfl #[.float .f64 (un pa0 a0)] rfl (by (try simp only [List.map_toArray, List.map_cons, List.map_nil]); first | done | rfl | (simp only [List.length_drop, List.length_take]; rfl)) ?_; (with_reducible refine (spec_l1Whole.calls pa0 a0 true _ A2.out).mono ?_); rintro e w' ⟨rfl, ⟨nd, rfl⟩⟩; refine ⟨_, rfl, ?_⟩) | ((with_reducible refine gate_dst (N := 20) rfl ?_); (try (refine gate_guard (by rfl) ?_; dsimp only)); refine fop_event rfl (N := 20) rfl (op := .sub) rfl rfl pa0 a0 0 (foi (toi a0)) rfl rfl ?hA ?hB fsub rfl ?_; (case hA => first | rfl | exact (un_zero _).symm); (case hB => first | rfl | exact (un_zero _).symm); rintro pb108 _ ⟨nd, rfl⟩))
      go_ret2
      exact ⟨by first | rfl | (simp; done) | (simp [*]; done), by repeat (first | exact Drawn0.refl _ | apply Drawn0.step)⟩
  ·rw [if_neg c4] at H
   exact absurd H (by simp)
 ·replace c3 := Bool.eq_false_iff.mpr c3
  subst c3
  have H1 : (some (0, false)) = some (r1, r2) := by rw [if_neg (show ¬ (false = true) by decide)] at H; exact H
  clear H
  have H := H1
  clear H1
  simp only [Option.some.injEq, Prod.mk.injEq] at H
  obtain ⟨rfl, rfl⟩ := H
  go_enter Try.func78, Try.ntmps78
  go_wp2_with (first | ((with_reducible refine gate_callee (f := 87) rfl ?_); refine goesL_ (some 7) rfl rfl Try.func87 (by kernel_rfl) rfl #[.float .f64 (un pa0 a0)] rfl (by (try simp only [List.map_toArray, List.map_cons, List.map_nil]); first | done | rfl | (simp only [List.length_drop, List.length_take]; rfl)) ?_; (with_reducible refine (spec_l1Whole.calls pa0 a0 false _ A2.out).mono ?_); rintro e w' ⟨rfl, ⟨nd, rfl⟩⟩; refine ⟨_, rfl, ?_⟩))
  go_ret2
  exact ⟨by first | rfl | (simp; done) | (simp [*]; done), by repeat (first | exact Drawn0.refl _ | apply Drawn0.step)⟩

end Go.Proofs.Ytaophbkedbphnab.Q
