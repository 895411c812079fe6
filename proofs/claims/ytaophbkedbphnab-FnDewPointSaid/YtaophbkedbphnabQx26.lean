/- Plain Lean functions with the same answers as the Go functions of this seat, and a proof for each that the Go code comes to just these answers; no condition. Written by a program of this session (the kit's printer, turned). -/
import Derived.Test.YtaophbkedbphnabQx0
import Derived.Test.YtaophbkedbphnabQx18
import Derived.Test.YtaophbkedbphnabQx19
import Derived.Test.YtaophbkedbphnabQx20
namespace Go.Proofs.Ytaophbkedbphnab.Q
open Go.RowKit Go.Proofs.YtaophbkedbphnabW.PrintWords Go.Proofs.YtaophbkedbphnabW.PrintLast Go.Proofs.YtaophbkedbphnabW.PrintMore Go.Proofs.YtaophbkedbphnabW.PrintFlt
attribute [local go_sem] cmp_lss cmp_leq cmp_gtr cmp_geq cmp_eql cmp_neq flt_l flt_r fgt_l fgt_r feq_l feq_r fne_l fne_r ord_lt ord_gt ord_eq ord_ne conv_int foi_fold run_store_flt
attribute [local go_sem] max2_int min2_int max_two min_two max_three min_three max_four min_four   -- for this text's walks alone
set_option linter.unusedVariables false
set_option linter.unusedSimpArgs false

/-! ### impl_Humidity: function 30 -/
def impl_Humidity.f (k : Nat) (a0 : Nat) (a1 : Nat) : Option (Nat) := (impl_Vapour.f k a0).bind fun t230 => ((impl_Vapour.f k a1).bind fun t232 => ((impl_missing.f t230).bind fun t234 => (if t234 = true then ((impl_nan.f).bind fun t235 => (some t235)) else ((impl_missing.f t232).bind fun t237 => (if t237 = true then ((impl_nan.f).bind fun t238 => (some t238)) else (if (fgt a1 a0) = true then ((impl_nan.f).bind fun t240 => (some t240)) else (some (fdiv (fmul t232 4636737291354636288) t230))))))))
theorem impl_Humidity.mono : ∀ a0 a1 k, LeO (impl_Humidity.f k a0 a1) (impl_Humidity.f (k + 1) a0 a1) := by
 intro a0 a1 k
 unfold impl_Humidity.f
 repeat' first
   | (with_reducible exact impl_Vapour.mono _ _)
   | (with_reducible exact LeO.refl _)
   | (with_reducible exact LeO.none _)
   | (with_reducible refine LeO.ite ?_ ?_)
   | (with_reducible refine LeO.bind ?_ (fun _ => ?_))
   | exact impl_Vapour.mono _ _
   | exact LeO.none _
   | refine LeO.ite ?_ ?_
   | refine LeO.bind ?_ (fun _ => ?_)
set_option maxHeartbeats 8000000 in
set_option maxRecDepth 100000 in
theorem impl_Humidity.calls (k : Nat) (pa0 : Nat) (a0 : Nat) (pa1 : Nat) (a1 : Nat) (r : Nat) (w : World) (h : impl_Humidity.f k a0 a1 = some r) :
  Calls Try.prog 30 #[.float .f64 (un pa0 a0), .float .f64 (un pa1 a1)] w fun e w' => ∃ q0_ : Nat, e = .returned (.float .f64 (un q0_ r)) ∧ Below w.heap.size w w' := by
 have HB := Aside0.mk (Below.refl w.heap.size w)
 have H : ((impl_Vapour.f k a0).bind fun t230 => ((impl_Vapour.f k a1).bind fun t232 => ((impl_missing.f t230).bind fun t234 => (if t234 = true then ((impl_nan.f).bind fun t235 => (some t235)) else ((impl_missing.f t232).bind fun t237 => (if t237 = true then ((impl_nan.f).bind fun t238 => (some t238)) else (if (fgt a1 a0) = true then ((impl_nan.f).bind fun t240 => (some t240)) else (some (fdiv (fmul t232 4636737291354636288) t230))))))))) = some r := h
 clear h
 replace H := Option.bind_eq_some_iff.mp H
 obtain ⟨t230, A30, H⟩ := H
 replace H : ((impl_Vapour.f k a1).bind fun t232 => ((impl_missing.f t230).bind fun t234 => (if t234 = true then ((impl_nan.f).bind fun t235 => (some t235)) else ((impl_missing.f t232).bind fun t237 => (if t237 = true then ((impl_nan.f).bind fun t238 => (some t238)) else (if (fgt a1 a0) = true then ((impl_nan.f).bind fun t240 => (some t240)) else (some (fdiv (fmul t232 4636737291354636288) t230)))))))) = some r := H
 have A3 := Aside0.mk A30
 clear A30
 replace H := Option.bind_eq_some_iff.mp H
 obtain ⟨t232, A40, H⟩ := H
 replace H : ((impl_missing.f t230).bind fun t234 => (if t234 = true then ((impl_nan.f).bind fun t235 => (some t235)) else ((impl_missing.f t232).bind fun t237 => (if t237 = true then ((impl_nan.f).bind fun t238 => (some t238)) else (if (fgt a1 a0) = true then ((impl_nan.f).bind fun t240 => (some t240)) else (some (fdiv (fmul t232 4636737291354636288) t230))))))) = some r := H
 have A4 := Aside0.mk A40
 clear A40
 replace H := Option.bind_eq_some_iff.mp H
 obtain ⟨t234, A50, H⟩ := H
 replace H : (if t234 = true then ((impl_nan.f).bind fun t235 => (some t235)) else ((impl_missing.f t232).bind fun t237 => (if t237 = true then ((impl_nan.f).bind fun t238 => (some t238)) else (if (fgt a1 a0) = true then ((impl_nan.f).bind fun t240 => (some t240)) else (some (fdiv (fmul t232 4636737291354636288) t230)))))) = some r := H
 have A5 := Aside0.mk A50
 clear A50
 by_cases c6 : t234 = true
 ·subst c6
  have H1 : ((impl_nan.f).bind fun t235 => (some t235)) = some r := by rw [if_pos rfl] at H; exact H
  clear H
  have H := H1
  clear H1
  replace H := Option.bind_eq_some_iff.mp H
  obtain ⟨t235, A70, H⟩ := H
  replace H : (some t235) = some r := H
  have A7 := Aside0.mk A70
  clear A70
  obtain rfl := Option.some.inj H
  go_enter Try.func30, Try.ntmps30
  go_wp2_with (first | ((with_reducible refine gate_callee (f := 28) rfl ?_); refine goesL_ (some 8) rfl rfl Try.func28 (by kernel_rfl) rfl #[.float .f64 (un pa0 a0)] rfl (by (try simp only [List.map_toArray, List.map_cons, List.map_nil]); first | done | rfl | (simp only [List.length_drop, List.length_take]; rfl)) ?_; (with_reducible refine (impl_Vapour.calls k pa0 a0 t230 _ A3.out).mono ?_); rintro e w8 ⟨pr231, rfl, hb⟩; refine ⟨_, rfl, ?_⟩; have n0_ := Aside0.mk (below_step (by repeat (first | (with_reducible first | exact HB.out | apply below_alloc | apply pw_below_drewN | apply below_drew1) | exact HB.out)) hb); clear HB; have HB := n0_; clear n0_; (try clear hb); (try clear hb2); (try clear hk); (try clear hi)) | ((with_reducible refine gate_callee (f := 28) rfl ?_); refine goesL_ (some 10) rfl rfl Try.func28 (by kernel_rfl) rfl #[.float .f64 (un pa1 a1)] rfl (by (try simp only [List.map_toArray, List.map_cons, List.map_nil]); first | done | rfl | (simp only [List.length_drop, List.length_take]; rfl)) ?_; (with_reducible refine (impl_Vapour.calls k pa1 a1 t232 _ A4.out).mono ?_); rintro e w9 ⟨pr233, rfl, hb⟩; refine ⟨_, rfl, ?_⟩; have n0_ := Aside0.mk (below_step (by repeat (first | (with_reducible first | exact HB.out | apply below_alloc | apply pw_below_drewN | apply below_drew1) | exact HB.out)) hb); clear HB; have HB := n0_; clear n0_; (try clear hb); (try clear hb2); (try clear hk); (try clear hi)) | ((with_reducible refine gate_callee (f := 44) rfl ?_); refine goesL_ (some 12) rfl rfl Try.func44 (by kernel_rfl) rfl #[.float .f64 (un pr231 t230)] rfl (by (try simp only [List.map_toArray, List.map_cons, List.map_nil]); first | done | rfl | (simp only [List.length_drop, List.length_take]; rfl)) ?_; (with_reducible refine (impl_missing.calls pr231 t230 true _ A5.out).mono ?_); rintro e w' ⟨rfl, ⟨nd, rfl⟩⟩; refine ⟨_, rfl, ?_⟩) | ((with_reducible refine gate_callee (f := 45) rfl ?_); refine goesL_ (some 22) rfl rfl Try.func45 (by kernel_rfl) rfl #[] rfl (by (try simp only [List.map_toArray, List.map_cons, List.map_nil]); first | done | rfl | (simp only [List.length_drop, List.length_take]; rfl)) ?_; (with_reducible refine (impl_nan.calls  t235 _ A7.out).mono ?_); rintro e w' ⟨pr236, rfl, ⟨nd, rfl⟩⟩; refine ⟨_, rfl, ?_⟩))
  go_ret
  first | (exact ⟨pr236, by first | rfl | (simp [errW_none, errW_some] <;> rfl) | (simp [*, errW_none, errW_some] <;> rfl), by repeat (first | (with_reducible first | exact HB.out | apply below_alloc | apply pw_below_drewN | apply below_drew1) | exact HB.out)⟩) | (exact ⟨⟨pr236, by first | rfl | (simp [errW_none, errW_some] <;> rfl) | (simp [*, errW_none, errW_some] <;> rfl)⟩, by repeat (first | (with_reducible first | exact HB.out | apply below_alloc | apply pw_below_drewN | apply below_drew1) | exact HB.out)⟩)
 ·replace c6 := Bool.eq_false_iff.mpr c6
  subst c6
  have H1 : ((impl_missing.f t232).bind fun t237 => (if t237 = true then ((impl_nan.f).bind fun t238 => (some t238)) else (if (fgt a1 a0) = true then ((impl_nan.f).bind fun t240 => (some t240)) else (some (fdiv (fmul t232 4636737291354636288) t230))))) = some r := by rw [if_neg (show ¬ (false = true) by decide)] at H; exact H
  clear H
  have H := H1
  clear H1
  replace H := Option.bind_eq_some_iff.mp H
  obtain ⟨t237, A100, H⟩ := H
  replace H : (if t237 = true then ((impl_nan.f).bind fun t238 => (some t238)) else (if (fgt a1 a0) = true then ((impl_nan.f).bind fun t240 => (some t240)) else (some (fdiv (fmul t232 4636737291354636288) t230)))) = some r := H
  have A10 := Aside0.mk A100
  clear A100
  by_cases c11 : t237 = true
  ·subst c11
   have H1 : ((impl_nan.f).bind fun t238 => (some t238)) = some r := by rw [if_pos rfl] at H; exact H
   clear H
   have H := H1
   clear H1
   replace H := Option.bind_eq_some_iff.mp H
   obtain ⟨t238, A120, H⟩ := H
   replace H : (some t238) = some r := H
   have A12 := Aside0.mk A120
   clear A120
   obtain rfl := Option.some.inj H
   go_enter Try.func30, Try.ntmps30
   go_wp2_with (first | ((with_reducible refine gate_callee (f := 28) rfl ?_); refine goesL_ (some 8) rfl rfl Try.func28 (by kernel_rfl) rfl #[.float .f64 (un pa0 a0)] rfl (by (try simp only [List.map_toArray, List.map_cons, List.map_nil]); first | done | rfl | (simp only [List.length_drop, List.length_take]; rfl)) ?_; (with_reducible refine (impl_Vapour.calls k pa0 a0 t230 _ A3.out).mono ?_); rintro e w13 ⟨pr231, rfl, hb⟩; refine ⟨_, rfl, ?_⟩; have n0_ := Aside0.mk (below_step (by repeat (first | (with_reducible first | exact HB.out | apply below_alloc | apply pw_below_drewN | apply below_drew1) | exact HB.out)) hb); clear HB; have HB := n0_; clear n0_; (try clear hb); (try clear hb2); (try clear hk); (try clear hi)) | ((with_reducible refine gate_callee (f := 28) rfl ?_); refine goesL_ (some 10) rfl rfl Try.func28 (by kernel_rfl) rfl #[.float .f64 (un pa1 a1)] rfl (by (try simp only [List.map_toArray, List.map_cons, List.map_nil]); first | done | rfl | (simp only [List.length_drop, List.length_take]; rfl)) ?_; (with_reducible refine (impl_Vapour.calls k pa1 a1 t232 _ A4.out).mono ?_); rintro e w14 ⟨pr233, rfl, hb⟩; refine ⟨_, rfl, ?_⟩; have n0_ := Aside0.mk (below_step (by repeat (first | (with_reducible first | exact HB.out | apply below_alloc | apply pw_below_drewN | apply below_drew1) | exact HB.out)) hb); clear HB; have HB := n0_; clear n0_; (try clear hb); (try clear hb2); (try clear hk); (try clear hi)) | ((with_reducible refine gate_callee (f := 44) rfl ?_); refine goesL_ (some 12) rfl rfl Try.func44 (by kernel_rfl) rfl #[.float .f64 (un pr231 t230)] rfl (by (try simp only [List.map_toArray, List.map_cons, List.map_nil]); first | done | rfl | (simp only [List.length_drop, List.length_take]; rfl)) ?_; (with_reducible refine (impl_missing.calls pr231 t230 false _ A5.out).mono ?_); rintro e w' ⟨rfl, ⟨nd, rfl⟩⟩; refine ⟨_, rfl, ?_⟩) | (go_at_call 44; (with_reducible refine (impl_missing.calls pr233 t232 true _ A10.out).mono ?_); rintro e w' ⟨rfl, ⟨nd, rfl⟩⟩) | ((with_reducible refine gate_callee (f := 45) rfl ?_); refine goesL_ (some 22) rfl rfl Try.func45 (by kernel_rfl) rfl #[] rfl (by (try simp only [List.map_toArray, List.map_cons, List.map_nil]); first | done | rfl | (simp only [List.length_drop, List.length_take]; rfl)) ?_; (with_reducible refine (impl_nan.calls  t238 _ A12.out).mono ?_); rintro e w' ⟨pr239, rfl, ⟨nd, rfl⟩⟩; refine ⟨_, rfl, ?_⟩))
   go_ret
   first | (exact ⟨pr239, by first | rfl | (simp [errW_none, errW_some] <;> rfl) | (simp [*, errW_none, errW_some] <;> rfl), by repeat (first | (with_reducible first | exact HB.out | apply below_alloc | apply pw_below_drewN | apply below_drew1) | exact HB.out)⟩) | (exact ⟨⟨pr239, by first | rfl | (simp [errW_none, errW_some] <;> rfl) | (simp [*, errW_none, errW_some] <;> rfl)⟩, by repeat (first | (with_reducible first | exact HB.out | apply below_alloc | apply pw_below_drewN | apply below_drew1) | exact HB.out)⟩)
  ·replace c11 := Bool.eq_false_iff.mpr c11
   subst c11
   have H1 : (if (fgt a1 a0) = true then ((impl_nan.f).bind fun t240 => (some t240)) else (some (fdiv (fmul t232 4636737291354636288) t230))) = some r := by rw [if_neg (show ¬ (false = true) by decide)] at H; exact H
   clear H
   have H := H1
   clear H1
   by_cases c15 : (fgt a1 a0) = true
   ·rw [if_pos c15] at H
    have c15b0 : (fgt a1 a0) = true := c15
    clear c15
    replace H := Option.bind_eq_some_iff.mp H
    obtain ⟨t240, A160, H⟩ := H
    replace H : (some t240) = some r := H
    have A16 := Aside0.mk A160
    clear A160
    obtain rfl := Option.some.inj H
    go_enter Try.func30, Try.ntmps30
    go_wp2_with (first | ((with_reducible refine gate_callee (f := 28) rfl ?_); refine goesL_ (some 8) rfl rfl Try.func28 (by kernel_rfl) rfl #[.float .f64 (un pa0 a0)] rfl (by (try simp only [List.map_toArray, List.map_cons, List.map_nil]); first | done | rfl | (simp only [List.length_drop, List.length_take]; rfl)) ?_; (with_reducible refine (impl_Vapour.calls k pa0 a0 t230 _ A3.out).mono ?_); rintro e w17 ⟨pr231, rfl, hb⟩; refine ⟨_, rfl, ?_⟩; have n0_ := Aside0.mk (below_step (by repeat (first | (with_reducible first | exact HB.out | apply below_alloc | apply pw_below_drewN | apply below_drew1) | exact HB.out)) hb); clear HB; have HB := n0_; clear n0_; (try clear hb); (try clear hb2); (try clear hk); (try clear hi)) | ((with_reducible refine gate_callee (f := 28) rfl ?_); refine goesL_ (some 10) rfl rfl Try.func28 (by kernel_rfl) rfl #[.float .f64 (un pa1 a1)] rfl (by (try simp only [List.map_toArray, List.map_cons, List.map_nil]); first | done | rfl | (simp only [List.length_drop, List.length_take]; rfl)) ?_; (with_reducible refine (impl_Vapour.calls k pa1 a1 t232 _ A4.out).mono ?_); rintro e w18 ⟨pr233, rfl, hb⟩; refine ⟨_, rfl, ?_⟩; have n0_ := Aside0.mk (below_step (by repeat (first | (with_reducible first | exact HB.out | apply below_alloc | apply pw_below_drewN | apply below_drew1) | exact HB.out)) hb); clear HB; have HB := n0_; clear n0_; (try clear hb); (try clear hb2); (try clear hk); (try clear hi)) | ((with_reducible refine gate_callee (f := 44) rfl ?_); refine goesL_ (some 12) rfl rfl Try.func44 (by kernel_rfl) rfl #[.float .f64 (un pr231 t230)] rfl (by (try simp only [List.map_toArray, List.map_cons, List.map_nil]); first | done | rfl | (simp only [List.length_drop, List.length_take]; rfl)) ?_; (with_reducible refine (impl_missing.calls pr231 t230 false _ A5.out).mono ?_); rintro e w' ⟨rfl, ⟨nd, rfl⟩⟩; refine ⟨_, rfl, ?_⟩) | (go_at_call 44; (with_reducible refine (impl_missing.calls pr233 t232 false _ A10.out).mono ?_); rintro e w' ⟨rfl, ⟨nd, rfl⟩⟩) | ((with_reducible refine gate_callee (f := 45) rfl ?_); refine goesL_ (some 22) rfl rfl Try.func45 (by kernel_rfl) rfl #[] rfl (by (try simp only [List.map_toArray, List.map_cons, List.map_nil]); first | done | rfl | (simp only [List.length_drop, List.length_take]; rfl)) ?_; (with_reducible refine (impl_nan.calls  t240 _ A16.out).mono ?_); rintro e w' ⟨pr241, rfl, ⟨nd, rfl⟩⟩; refine ⟨_, rfl, ?_⟩))
    go_ret
    first | (exact ⟨pr241, by first | rfl | (simp [errW_none, errW_some] <;> rfl) | (simp [*, errW_none, errW_some] <;> rfl), by repeat (first | (with_reducible first | exact HB.out | apply below_alloc | apply pw_below_drewN | apply below_drew1) | exact HB.out)⟩) | (exact ⟨⟨pr241, by first | rfl | (simp [errW_none, errW_some] <;> rfl) | (simp [*, errW_none, errW_some] <;> rfl)⟩, by repeat (first | (with_reducible first | exact HB.out | apply below_alloc | apply pw_below_drewN | apply below_drew1) | exact HB.out)⟩)
   ·rw [if_neg c15] at H
    have c15b0 : (fgt a1 a0) = false := by simpa using c15
    clear c15
    obtain rfl := Option.some.inj H
    go_enter Try.func30, Try.ntmps30
    go_wp2_with (first | ((with_reducible refine gate_callee (f := 28) rfl ?_); refine goesL_ (some 8) rfl rfl Try.func28 (by kernel_rfl) rfl #[.float .f64 (un pa0 a0)] rfl (by (try simp only [List.map_toArray, List.map_cons, List.map_nil]); first | done | rfl | (simp only [List.length_drop, List.length_take]; rfl)) ?_; (with_reducible refine (impl_Vapour.calls k pa0 a0 t230 _ A3.out).mono ?_); rintro e w19 ⟨pr231, rfl, hb⟩; refine ⟨_, rfl, ?_⟩; have n0_ := Aside0.mk (below_step (by repeat (first | (with_reducible first | exact HB.out | apply below_alloc | apply pw_below_drewN | apply below_drew1) | exact HB.out)) hb); clear HB; have HB := n0_; clear n0_; (try clear hb); (try clear hb2); (try clear hk); (try clear hi)) | ((with_reducible refine gate_callee (f := 28) rfl ?_); refine goesL_ (some 10) rfl rfl Try.func28 (by kernel_rfl) rfl #[.float .f64 (un pa1 a1)] rfl (by (try simp only [List.map_toArray, List.map_cons, List.map_nil]); first | done | rfl | (simp only [List.length_drop, List.length_take]; rfl)) ?_; (with_reducible refine (impl_Vapour.calls k pa1 a1 t232 _ A4.out).mono ?_); rintro e w20 ⟨pr233, rfl, hb⟩; refine ⟨_, rfl, ?_⟩; have n0_ := Aside0.mk (below_step (by repeat (first | (with_reducible first | exact HB.out | apply below_alloc | apply pw_below_drewN | apply below_drew1) | exact HB.out)) hb); clear HB; have HB := n0_; clear n0_; (try clear hb); (try clear hb2); (try clear hk); (try clear hi)) | ((with_reducible refine gate_callee (f := 44) rfl ?_); refine goesL_ (some 12) rfl rfl Try.func44 (by kernel_rfl) rfl #[.float .f64 (un pr231 t230)] rfl (by (try simp only [List.map_toArray, List.map_cons, List.map_nil]); first | done | rfl | (simp only [List.length_drop, List.length_take]; rfl)) ?_; (with_reducible refine (impl_missing.calls pr231 t230 false _ A5.out).mono ?_); rintro e w' ⟨rfl, ⟨nd, rfl⟩⟩; refine ⟨_, rfl, ?_⟩) | (go_at_call 44; (with_reducible refine (impl_missing.calls pr233 t232 false _ A10.out).mono ?_); rintro e w' ⟨rfl, ⟨nd, rfl⟩⟩) | ((with_reducible refine gate_dst (N := 24) rfl ?_); (try (refine gate_guard (by rfl) ?_; dsimp only)); refine fop_eventB rfl (N := 24) rfl (op := .mul) rfl rfl pr233 t232 0 4636737291354636288 rfl rfl ?hA ?hB fmul rfl ?_; (case hA => first | rfl | exact (un_zero _).symm); (case hB => first | rfl | exact (un_zero _).symm); intro pb242 w21 hb; have n0_ := Aside0.mk (below_step (by repeat (first | (with_reducible first | exact HB.out | apply below_alloc | apply pw_below_drewN | apply below_drew1) | exact HB.out)) hb); clear HB; have HB := n0_; clear n0_; (try clear hb)) | ((with_reducible refine gate_dst (N := 26) rfl ?_); (try (refine gate_guard (by rfl) ?_; dsimp only)); refine fop_eventB rfl (N := 26) rfl (op := .quo) rfl rfl pb242 (fmul t232 4636737291354636288) pr231 t230 rfl rfl ?hA ?hB fdiv rfl ?_; (case hA => first | rfl | exact (un_zero _).symm); (case hB => first | rfl | exact (un_zero _).symm); intro pb243 w22 hb; have n0_ := Aside0.mk (below_step (by repeat (first | (with_reducible first | exact HB.out | apply below_alloc | apply pw_below_drewN | apply below_drew1) | exact HB.out)) hb); clear HB; have HB := n0_; clear n0_; (try clear hb)))
    go_ret
    first | (exact ⟨pb243, by first | rfl | (simp [errW_none, errW_some] <;> rfl) | (simp [*, errW_none, errW_some] <;> rfl), by repeat (first | (with_reducible first | exact HB.out | apply below_alloc | apply pw_below_drewN | apply below_drew1) | exact HB.out)⟩) | (exact ⟨⟨pb243, by first | rfl | (simp [errW_none, errW_some] <;> rfl) | (simp [*, errW_none, errW_some] <;> rfl)⟩, by repeat (first | (with_reducible first | exact HB.out | apply below_alloc | apply pw_below_drewN | apply below_drew1) | exact HB.out)⟩)

end Go.Proofs.Ytaophbkedbphnab.Q
