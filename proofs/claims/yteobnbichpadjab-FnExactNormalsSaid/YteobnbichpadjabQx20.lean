/- Plain Lean functions with the same answers as the Go functions of this seat, and a proof for each that the Go code comes to just these answers; no condition. Written by a program of this session (the kit's printer, turned). -/
import Derived.Test.YteobnbichpadjabQx0
import Derived.Test.YteobnbichpadjabQx1
import Derived.Test.YteobnbichpadjabQx2
import Derived.Test.YteobnbichpadjabQx3
import Derived.Test.YteobnbichpadjabQx5
import Derived.Test.YteobnbichpadjabQx9
import Derived.Test.YteobnbichpadjabQx11
import Derived.Test.YteobnbichpadjabQx17
import Derived.Test.YteobnbichpadjabQx18
import Derived.Test.YteobnbichpadjabQx19
namespace Go.Proofs.Yteobnbichpadjab.Q
open Go.RowKit Go.Proofs.YteobnbichpadjabW.PrintWords Go.Proofs.YteobnbichpadjabW.PrintLast Go.Proofs.YteobnbichpadjabW.PrintMore Go.Proofs.YteobnbichpadjabW.PrintFlt
attribute [local go_sem] cmp_lss cmp_leq cmp_gtr cmp_geq cmp_eql cmp_neq flt_l flt_r fgt_l fgt_r feq_l feq_r fne_l fne_r ord_lt ord_gt ord_eq ord_ne conv_int foi_fold run_store_flt
attribute [local go_sem] max2_int min2_int max_two min_two max_three min_three max_four min_four   -- for this text's walks alone
set_option linter.unusedVariables false
set_option linter.unusedSimpArgs false

/-! ### laws_FnExactNormals: function 8 -/
mutual
def laws_FnExactNormals.j0 : Nat → List (List Int) → List Int → Bool → List (List Int) → List Int → Bool → Bool → Option (Bool)
 | 0, _, _, _, _, _, _, _ => none
 | k + 1, x0, x4, x5, x6, x7, x8, x40 => if x40 = true then (some false) else ((laws_toInt64SS.f k x0).bind fun t183 => ((laws_eqInt64SS.f k x6 t183).bind fun t186 => (if t186 = true then ((laws_markInt64SS.f k x6 1).bind fun bt187 => (if bt187.1 < 0 then (laws_FnExactNormals.j1 k x0 x4 x5 x7 true) else ((laws_eqInt64S.f k x7 x4).bind fun t189 => (if t189 = true then (laws_FnExactNormals.j1 k x0 x4 x5 x7 (x8 != x5)) else (laws_FnExactNormals.j1 k x0 x4 x5 x7 true))))) else (some false))))
def laws_FnExactNormals.j1 : Nat → List (List Int) → List Int → Bool → List Int → Bool → Option (Bool)
 | 0, _, _, _, _, _ => none
 | k + 1, x0, x4, x5, x7, x61 => if x61 = true then (some false) else ((laws_markInt64S.f k x7 1).bind fun bt190 => ((laws_heldInt64S.f k bt190.2 1).bind fun t192 => (if t192 < 0 then (some false) else (if t192 = bt190.1 then ((laws_toInt64SS.f k x0).bind fun t193 => ((impl_Normals.f k t193).bind fun bt196 => ((laws_eqInt64S.f k bt196.1 x4).bind fun t200 => (if t200 = true then (laws_FnExactNormals.j2 k bt190.2 bt190.1 (bt196.2 != x5)) else (laws_FnExactNormals.j2 k bt190.2 bt190.1 true))))) else (some false)))))
def laws_FnExactNormals.j2 : Nat → List Int → Int → Bool → Option (Bool)
 | 0, _, _, _ => none
 | k + 1, x7, x10, x87 => if x87 = true then (some false) else ((laws_heldInt64S.f k x7 1).bind fun t201 => (if t201 < 0 then (some false) else (if t201 = x10 then (some true) else (some false))))
end
def laws_FnExactNormals.f (k : Nat) (l0 : List (List Int)) : Option (Bool) := (laws_szInt64SS.f k l0 1048576).bind fun t167 => (if t167 < 0 then (some true) else ((laws_toInt64SS.f k l0).bind fun t168 => ((spec_Normals.f k t168).bind fun bt171 => ((laws_toInt64SS.f k l0).bind fun t175 => ((impl_Normals.f k t175).bind fun bt178 => ((laws_eqInt64S.f k bt178.1 bt171.1).bind fun t182 => (if t182 = true then (laws_FnExactNormals.j0 k l0 bt171.1 bt171.2 t175 bt178.1 bt178.2 (bt178.2 != bt171.2)) else (laws_FnExactNormals.j0 k l0 bt171.1 bt171.2 t175 bt178.1 bt178.2 true))))))))
theorem laws_FnExactNormals.mono_l : ∀ k, (∀ y0 y1 y2 y3 y4 y5 y6, LeO (laws_FnExactNormals.j0 k y0 y1 y2 y3 y4 y5 y6) (laws_FnExactNormals.j0 (k + 1) y0 y1 y2 y3 y4 y5 y6)) ∧ (∀ y0 y1 y2 y3 y4, LeO (laws_FnExactNormals.j1 k y0 y1 y2 y3 y4) (laws_FnExactNormals.j1 (k + 1) y0 y1 y2 y3 y4)) ∧ (∀ y0 y1 y2, LeO (laws_FnExactNormals.j2 k y0 y1 y2) (laws_FnExactNormals.j2 (k + 1) y0 y1 y2))
 | 0 => ⟨fun _ _ _ _ _ _ _ r h => by simp [laws_FnExactNormals.j0] at h, fun _ _ _ _ _ r h => by simp [laws_FnExactNormals.j1] at h, fun _ _ _ r h => by simp [laws_FnExactNormals.j2] at h⟩
 | k + 1 => by
  obtain ⟨ih0, ih1, ih2⟩ := laws_FnExactNormals.mono_l k
  refine ⟨?_, ?_, ?_⟩
  ·intro y0 y1 y2 y3 y4 y5 y6
   unfold laws_FnExactNormals.j0
   repeat' first
   | (with_reducible exact ih0 _ _ _ _ _ _ _)
   | (with_reducible exact ih1 _ _ _ _ _)
   | (with_reducible exact ih2 _ _ _)
   | (with_reducible exact impl_Normals.mono _ _)
   | (with_reducible exact laws_eqInt64S.mono _ _ _)
   | (with_reducible exact laws_eqInt64SS.mono _ _ _)
   | (with_reducible exact laws_heldInt64S.mono _ _ _)
   | (with_reducible exact laws_markInt64S.mono _ _ _)
   | (with_reducible exact laws_markInt64SS.mono _ _ _)
   | (with_reducible exact laws_szInt64SS.mono _ _ _)
   | (with_reducible exact laws_toInt64SS.mono _ _)
   | (with_reducible exact spec_Normals.mono _ _)
   | (with_reducible exact LeO.refl _)
   | (with_reducible exact LeO.none _)
   | (with_reducible refine LeO.ite ?_ ?_)
   | (with_reducible refine LeO.bind ?_ (fun _ => ?_))
   | exact ih0 _ _ _ _ _ _ _
   | exact ih1 _ _ _ _ _
   | exact ih2 _ _ _
   | exact impl_Normals.mono _ _
   | exact laws_eqInt64S.mono _ _ _
   | exact laws_eqInt64SS.mono _ _ _
   | exact laws_heldInt64S.mono _ _ _
   | exact laws_markInt64S.mono _ _ _
   | exact laws_markInt64SS.mono _ _ _
   | exact laws_szInt64SS.mono _ _ _
   | exact laws_toInt64SS.mono _ _
   | exact spec_Normals.mono _ _
   | exact LeO.none _
   | refine LeO.ite ?_ ?_
   | refine LeO.bind ?_ (fun _ => ?_)
  ·intro y0 y1 y2 y3 y4
   unfold laws_FnExactNormals.j1
   repeat' first
   | (with_reducible exact ih0 _ _ _ _ _ _ _)
   | (with_reducible exact ih1 _ _ _ _ _)
   | (with_reducible exact ih2 _ _ _)
   | (with_reducible exact impl_Normals.mono _ _)
   | (with_reducible exact laws_eqInt64S.mono _ _ _)
   | (with_reducible exact laws_eqInt64SS.mono _ _ _)
   | (with_reducible exact laws_heldInt64S.mono _ _ _)
   | (with_reducible exact laws_markInt64S.mono _ _ _)
   | (with_reducible exact laws_markInt64SS.mono _ _ _)
   | (with_reducible exact laws_szInt64SS.mono _ _ _)
   | (with_reducible exact laws_toInt64SS.mono _ _)
   | (with_reducible exact spec_Normals.mono _ _)
   | (with_reducible exact LeO.refl _)
   | (with_reducible exact LeO.none _)
   | (with_reducible refine LeO.ite ?_ ?_)
   | (with_reducible refine LeO.bind ?_ (fun _ => ?_))
   | exact ih0 _ _ _ _ _ _ _
   | exact ih1 _ _ _ _ _
   | exact ih2 _ _ _
   | exact impl_Normals.mono _ _
   | exact laws_eqInt64S.mono _ _ _
   | exact laws_eqInt64SS.mono _ _ _
   | exact laws_heldInt64S.mono _ _ _
   | exact laws_markInt64S.mono _ _ _
   | exact laws_markInt64SS.mono _ _ _
   | exact laws_szInt64SS.mono _ _ _
   | exact laws_toInt64SS.mono _ _
   | exact spec_Normals.mono _ _
   | exact LeO.none _
   | refine LeO.ite ?_ ?_
   | refine LeO.bind ?_ (fun _ => ?_)
  ·intro y0 y1 y2
   unfold laws_FnExactNormals.j2
   repeat' first
   | (with_reducible exact ih0 _ _ _ _ _ _ _)
   | (with_reducible exact ih1 _ _ _ _ _)
   | (with_reducible exact ih2 _ _ _)
   | (with_reducible exact impl_Normals.mono _ _)
   | (with_reducible exact laws_eqInt64S.mono _ _ _)
   | (with_reducible exact laws_eqInt64SS.mono _ _ _)
   | (with_reducible exact laws_heldInt64S.mono _ _ _)
   | (with_reducible exact laws_markInt64S.mono _ _ _)
   | (with_reducible exact laws_markInt64SS.mono _ _ _)
   | (with_reducible exact laws_szInt64SS.mono _ _ _)
   | (with_reducible exact laws_toInt64SS.mono _ _)
   | (with_reducible exact spec_Normals.mono _ _)
   | (with_reducible exact LeO.refl _)
   | (with_reducible exact LeO.none _)
   | (with_reducible refine LeO.ite ?_ ?_)
   | (with_reducible refine LeO.bind ?_ (fun _ => ?_))
   | exact ih0 _ _ _ _ _ _ _
   | exact ih1 _ _ _ _ _
   | exact ih2 _ _ _
   | exact impl_Normals.mono _ _
   | exact laws_eqInt64S.mono _ _ _
   | exact laws_eqInt64SS.mono _ _ _
   | exact laws_heldInt64S.mono _ _ _
   | exact laws_markInt64S.mono _ _ _
   | exact laws_markInt64SS.mono _ _ _
   | exact laws_szInt64SS.mono _ _ _
   | exact laws_toInt64SS.mono _ _
   | exact spec_Normals.mono _ _
   | exact LeO.none _
   | refine LeO.ite ?_ ?_
   | refine LeO.bind ?_ (fun _ => ?_)
theorem laws_FnExactNormals.mono : ∀ a0 k, LeO (laws_FnExactNormals.f k a0) (laws_FnExactNormals.f (k + 1) a0) := by
 intro a0 k
 obtain ⟨ih0, ih1, ih2⟩ := laws_FnExactNormals.mono_l k
 unfold laws_FnExactNormals.f
 repeat' first
   | (with_reducible exact ih0 _ _ _ _ _ _ _)
   | (with_reducible exact ih1 _ _ _ _ _)
   | (with_reducible exact ih2 _ _ _)
   | (with_reducible exact impl_Normals.mono _ _)
   | (with_reducible exact laws_eqInt64S.mono _ _ _)
   | (with_reducible exact laws_eqInt64SS.mono _ _ _)
   | (with_reducible exact laws_heldInt64S.mono _ _ _)
   | (with_reducible exact laws_markInt64S.mono _ _ _)
   | (with_reducible exact laws_markInt64SS.mono _ _ _)
   | (with_reducible exact laws_szInt64SS.mono _ _ _)
   | (with_reducible exact laws_toInt64SS.mono _ _)
   | (with_reducible exact spec_Normals.mono _ _)
   | (with_reducible exact LeO.refl _)
   | (with_reducible exact LeO.none _)
   | (with_reducible refine LeO.ite ?_ ?_)
   | (with_reducible refine LeO.bind ?_ (fun _ => ?_))
   | exact ih0 _ _ _ _ _ _ _
   | exact ih1 _ _ _ _ _
   | exact ih2 _ _ _
   | exact impl_Normals.mono _ _
   | exact laws_eqInt64S.mono _ _ _
   | exact laws_eqInt64SS.mono _ _ _
   | exact laws_heldInt64S.mono _ _ _
   | exact laws_markInt64S.mono _ _ _
   | exact laws_markInt64SS.mono _ _ _
   | exact laws_szInt64SS.mono _ _ _
   | exact laws_toInt64SS.mono _ _
   | exact spec_Normals.mono _ _
   | exact LeO.none _
   | refine LeO.ite ?_ ?_
   | refine LeO.bind ?_ (fun _ => ?_)
set_option maxHeartbeats 8000000 in
set_option maxRecDepth 100000 in
theorem laws_FnExactNormals.calls (k : Nat) (A0 : Option Addr) (c0 : Nat) (l0 : List (List Int)) (r : Bool) (w : World) (hr0 : Kd.C (Kd.slice 2 (Kd.int .i64)) w A0 l0.length l0) (hc0 : l0.length ≤ c0) (h : laws_FnExactNormals.f k l0 = some r) :
  Calls Try.prog 8 #[.slice A0 l0.length c0] w fun e w' => e = .returned (.bool r) ∧ Below w.heap.size w w' := by
 have HR0 := Aside0.mk hr0
 have HC0 := Aside0.mk hc0
 clear hr0 hc0
 have HB := Aside0.mk (Below.refl w.heap.size w)
 have H : ((laws_szInt64SS.f k l0 1048576).bind fun t167 => (if t167 < 0 then (some true) else ((laws_toInt64SS.f k l0).bind fun t168 => ((spec_Normals.f k t168).bind fun bt171 => ((laws_toInt64SS.f k l0).bind fun t175 => ((impl_Normals.f k t175).bind fun bt178 => ((laws_eqInt64S.f k bt178.1 bt171.1).bind fun t182 => (if t182 = true then (laws_FnExactNormals.j0 k l0 bt171.1 bt171.2 t175 bt178.1 bt178.2 (bt178.2 != bt171.2)) else (laws_FnExactNormals.j0 k l0 bt171.1 bt171.2 t175 bt178.1 bt178.2 true))))))))) = some r := h
 clear h
 replace H := Option.bind_eq_some_iff.mp H
 obtain ⟨t167, A20, H⟩ := H
 replace H : (if t167 < 0 then (some true) else ((laws_toInt64SS.f k l0).bind fun t168 => ((spec_Normals.f k t168).bind fun bt171 => ((laws_toInt64SS.f k l0).bind fun t175 => ((impl_Normals.f k t175).bind fun bt178 => ((laws_eqInt64S.f k bt178.1 bt171.1).bind fun t182 => (if t182 = true then (laws_FnExactNormals.j0 k l0 bt171.1 bt171.2 t175 bt178.1 bt178.2 (bt178.2 != bt171.2)) else (laws_FnExactNormals.j0 k l0 bt171.1 bt171.2 t175 bt178.1 bt178.2 true)))))))) = some r := H
 have A2 := Aside0.mk A20
 clear A20
 by_cases c3 : t167 < 0
 ·rw [if_pos c3] at H
  have c3b0 : decide (t167 < 0) = true := decide_eq_true c3
  clear c3
  obtain rfl := Option.some.inj H
  go_enter Try.func8, Try.ntmps8
  go_wp2_with (first | ((with_reducible refine gate_callee (f := 31) rfl ?_); refine goesL_ (some 16) rfl rfl Try.func31 (by kernel_rfl) rfl #[.slice A0 l0.length c0, .int .i64 1048576] rfl (by (try simp only [List.map_toArray, List.map_cons, List.map_nil]); first | done | rfl | (simp only [List.length_drop, List.length_take]; rfl)) ?_; (with_reducible refine (laws_szInt64SS.calls k _ _ l0 1048576 t167 _ ?side1 ?side2 A2.out).mono ?_); (case side1 => repeat (first | exact HR0.out | (with_reducible refine Kd.C_alloc ?_ _) | (with_reducible refine Kd.C_drewN ?_ _) | (with_reducible refine Kd.C_drew ?_))); (case side2 => exact HC0.out); rintro e w' ⟨rfl, ⟨nd, rfl⟩⟩; refine ⟨_, rfl, ?_⟩))
  go_ret
  exact ⟨by first | rfl | (simp [errW_none, errW_some] <;> rfl) | (simp [*, errW_none, errW_some] <;> rfl), by repeat (first | (with_reducible first | exact HB.out | apply below_alloc | apply pw_below_drewN | apply below_drew1) | exact HB.out)⟩
 ·rw [if_neg c3] at H
  have c3b0 : decide (t167 < 0) = false := decide_eq_false c3
  clear c3
  replace H := Option.bind_eq_some_iff.mp H
  obtain ⟨t168, A40, H⟩ := H
  replace H : ((spec_Normals.f k t168).bind fun bt171 => ((laws_toInt64SS.f k l0).bind fun t175 => ((impl_Normals.f k t175).bind fun bt178 => ((laws_eqInt64S.f k bt178.1 bt171.1).bind fun t182 => (if t182 = true then (laws_FnExactNormals.j0 k l0 bt171.1 bt171.2 t175 bt178.1 bt178.2 (bt178.2 != bt171.2)) else (laws_FnExactNormals.j0 k l0 bt171.1 bt171.2 t175 bt178.1 bt178.2 true)))))) = some r := H
  have A4 := Aside0.mk A40
  clear A40
  replace H := Option.bind_eq_some_iff.mp H
  obtain ⟨⟨t171, t172⟩, A50, H⟩ := H
  replace H : ((laws_toInt64SS.f k l0).bind fun t175 => ((impl_Normals.f k t175).bind fun bt178 => ((laws_eqInt64S.f k bt178.1 t171).bind fun t182 => (if t182 = true then (laws_FnExactNormals.j0 k l0 t171 t172 t175 bt178.1 bt178.2 (bt178.2 != t172)) else (laws_FnExactNormals.j0 k l0 t171 t172 t175 bt178.1 bt178.2 true))))) = some r := H
  have A5 := Aside0.mk A50
  clear A50
  replace H := Option.bind_eq_some_iff.mp H
  obtain ⟨t175, A60, H⟩ := H
  replace H : ((impl_Normals.f k t175).bind fun bt178 => ((laws_eqInt64S.f k bt178.1 t171).bind fun t182 => (if t182 = true then (laws_FnExactNormals.j0 k l0 t171 t172 t175 bt178.1 bt178.2 (bt178.2 != t172)) else (laws_FnExactNormals.j0 k l0 t171 t172 t175 bt178.1 bt178.2 true)))) = some r := H
  have A6 := Aside0.mk A60
  clear A60
  replace H := Option.bind_eq_some_iff.mp H
  obtain ⟨⟨t178, t179⟩, A70, H⟩ := H
  replace H : ((laws_eqInt64S.f k t178 t171).bind fun t182 => (if t182 = true then (laws_FnExactNormals.j0 k l0 t171 t172 t175 t178 t179 (t179 != t172)) else (laws_FnExactNormals.j0 k l0 t171 t172 t175 t178 t179 true))) = some r := H
  have A7 := Aside0.mk A70
  clear A70
  have HC8 := Aside0.mk H
  clear H
  go_enter Try.func8, Try.ntmps8
  go_upto_region 8 with (first | ((with_reducible refine gate_callee (f := 31) rfl ?_); refine goesL_ (some 16) rfl rfl Try.func31 (by kernel_rfl) rfl #[.slice A0 l0.length c0, .int .i64 1048576] rfl (by (try simp only [List.map_toArray, List.map_cons, List.map_nil]); first | done | rfl | (simp only [List.length_drop, List.length_take]; rfl)) ?_; (with_reducible refine (laws_szInt64SS.calls k _ _ l0 1048576 t167 _ ?side1 ?side2 A2.out).mono ?_); (case side1 => repeat (first | exact HR0.out | (with_reducible refine Kd.C_alloc ?_ _) | (with_reducible refine Kd.C_drewN ?_ _) | (with_reducible refine Kd.C_drew ?_))); (case side2 => exact HC0.out); rintro e w' ⟨rfl, ⟨nd, rfl⟩⟩; refine ⟨_, rfl, ?_⟩) | ((with_reducible refine gate_callee (f := 33) rfl ?_); refine goesL_ (some 21) rfl rfl Try.func33 (by kernel_rfl) rfl #[.slice A0 l0.length c0] rfl (by (try simp only [List.map_toArray, List.map_cons, List.map_nil]); first | done | rfl | (simp only [List.length_drop, List.length_take]; rfl)) ?_; (with_reducible refine (laws_toInt64SS.calls k _ _ l0 t168 _ ?side1 ?side2 A4.out).mono ?_); (case side1 => repeat (first | exact HR0.out | (with_reducible refine Kd.C_alloc ?_ _) | (with_reducible refine Kd.C_drewN ?_ _) | (with_reducible refine Kd.C_drew ?_))); (case side2 => exact HC0.out); rintro e w9 ⟨v169, rfl, ho0, hb⟩; refine ⟨_, rfl, ?_⟩; have n0_ := Aside0.mk (Kd.S_lower ho0 (below_size (by repeat (first | (with_reducible first | exact HB.out | apply below_alloc | apply pw_below_drewN | apply below_drew1) | exact HB.out)))); have n1_ := Aside0.mk (below_step (by repeat (first | (with_reducible first | exact HB.out | apply below_alloc | apply pw_below_drewN | apply below_drew1) | exact HB.out)) hb); clear HB; have HO170 := n0_; have HB := n1_; clear n0_ n1_; (try clear hb); (try clear hb2); (try clear hk); (try clear hi); (try clear ho0); obtain ⟨Ao10, co10, eo10⟩ := Kd.S_slice HO170.out; subst eo10) | ((with_reducible refine gate_callee (f := 32) rfl ?_); refine goesL_ (some 22) rfl rfl Try.func32 (by kernel_rfl) rfl #[.slice Ao10 t168.length co10] rfl (by (try simp only [List.map_toArray, List.map_cons, List.map_nil]); first | done | rfl | (simp only [List.length_drop, List.length_take]; rfl)) ?_; (with_reducible refine (spec_Normals.calls k _ _ t168 t171 t172 _ ?side1 ?side2 A5.out).mono ?_); (case side1 => repeat (first | exact (Kd.S_reads' HO170.out).2.2 | (with_reducible refine Kd.C_alloc ?_ _) | (with_reducible refine Kd.C_drewN ?_ _) | (with_reducible refine Kd.C_drew ?_))); (case side2 => exact (Kd.S_reads' HO170.out).2.1); rintro e w11 ⟨v173, rfl, ho0, hb⟩; refine ⟨_, rfl, ?_⟩; have n0_ := Aside0.mk (Kd.S_elder' (by (with_reducible repeat (first | apply Kd.S_alloc | apply Kd.S_drewN | apply Kd.S_drew)); exact HO170.out) (Kd.R_base ho0) hb); have n1_ := Aside0.mk (Kd.R_lower ho0 (below_size (by repeat (first | (with_reducible first | exact HB.out | apply below_alloc | apply pw_below_drewN | apply below_drew1) | exact HB.out)))); have n2_ := Aside0.mk (below_step (by repeat (first | (with_reducible first | exact HB.out | apply below_alloc | apply pw_below_drewN | apply below_drew1) | exact HB.out)) hb); clear HO170; clear HB; have HO170 := n0_; have HO174 := n1_; have HB := n2_; clear n0_ n1_ n2_; (try clear hb); (try clear hb2); (try clear hk); (try clear hi); (try clear ho0)) | ((with_reducible refine gate_callee (f := 33) rfl ?_); refine goesL_ (some 26) rfl rfl Try.func33 (by kernel_rfl) rfl #[.slice A0 l0.length c0] rfl (by (try simp only [List.map_toArray, List.map_cons, List.map_nil]); first | done | rfl | (simp only [List.length_drop, List.length_take]; rfl)) ?_; (with_reducible refine (laws_toInt64SS.calls k _ _ l0 t175 _ ?side1 ?side2 A6.out).mono ?_); (case side1 => repeat (first | exact (Kd.C_below HR0.out HB.out) | (with_reducible refine Kd.C_alloc ?_ _) | (with_reducible refine Kd.C_drewN ?_ _) | (with_reducible refine Kd.C_drew ?_))); (case side2 => exact HC0.out); rintro e w12 ⟨v176, rfl, ho0, hb⟩; refine ⟨_, rfl, ?_⟩; have n0_ := Aside0.mk (Kd.S_elder' (by (with_reducible repeat (first | apply Kd.S_alloc | apply Kd.S_drewN | apply Kd.S_drew)); exact HO170.out) (Kd.S_base ho0) hb); have n1_ := Aside0.mk (Kd.R_below (by (with_reducible repeat (first | apply Kd.R_alloc | apply Kd.R_drewN | apply Kd.R_drew)); exact HO174.out) hb); have n2_ := Aside0.mk (Kd.S_lower (Kd.S_new' (Kd.S_new' ho0 (Kd.S_lt (by (with_reducible repeat (first | apply Kd.S_alloc | apply Kd.S_drewN | apply Kd.S_drew)); exact HO170.out))) (Kd.R_lt (by (with_reducible repeat (first | apply Kd.R_alloc | apply Kd.R_drewN | apply Kd.R_drew)); exact HO174.out))) (below_size (by repeat (first | (with_reducible first | exact HB.out | apply below_alloc | apply pw_below_drewN | apply below_drew1) | exact HB.out)))); have n3_ := Aside0.mk (below_step (by repeat (first | (with_reducible first | exact HB.out | apply below_alloc | apply pw_below_drewN | apply below_drew1) | exact HB.out)) hb); clear HO170; clear HO174; clear HB; have HO170 := n0_; have HO174 := n1_; have HO177 := n2_; have HB := n3_; clear n0_ n1_ n2_ n3_; (try clear hb); (try clear hb2); (try clear hk); (try clear hi); (try clear ho0); obtain ⟨Ao13, co13, eo13⟩ := Kd.S_slice HO177.out; subst eo13) | ((with_reducible refine gate_callee (f := 34) rfl ?_); refine goesL_ (some 29) rfl rfl Try.func34 (by kernel_rfl) rfl #[.slice Ao13 t175.length co13] rfl (by (try simp only [List.map_toArray, List.map_cons, List.map_nil]); first | done | rfl | (simp only [List.length_drop, List.length_take]; rfl)) ?_; (with_reducible refine (impl_Normals.calls k _ _ t175 t178 t179 _ ?side1 ?side2 A7.out).mono ?_); (case side1 => repeat (first | exact (Kd.S_reads' HO177.out).2.2 | (with_reducible refine Kd.C_alloc ?_ _) | (with_reducible refine Kd.C_drewN ?_ _) | (with_reducible refine Kd.C_drew ?_))); (case side2 => exact (Kd.S_reads' HO177.out).2.1); rintro e w14 ⟨v180, rfl, ho0, hb⟩; refine ⟨_, rfl, ?_⟩; have n0_ := Aside0.mk (Kd.S_elder' (by (with_reducible repeat (first | apply Kd.S_alloc | apply Kd.S_drewN | apply Kd.S_drew)); exact HO170.out) (Kd.R_base ho0) hb); have n1_ := Aside0.mk (Kd.R_elder' (by (with_reducible repeat (first | apply Kd.R_alloc | apply Kd.R_drewN | apply Kd.R_drew)); exact HO174.out) (Kd.R_base ho0) hb); have n2_ := Aside0.mk (Kd.S_elder' (by (with_reducible repeat (first | apply Kd.S_alloc | apply Kd.S_drewN | apply Kd.S_drew)); exact HO177.out) (Kd.R_base ho0) hb); have n3_ := Aside0.mk (Kd.R_lower (Kd.R_new' ho0 (Kd.R_lt (by (with_reducible repeat (first | apply Kd.R_alloc | apply Kd.R_drewN | apply Kd.R_drew)); exact HO174.out))) (below_size (by repeat (first | (with_reducible first | exact HB.out | apply below_alloc | apply pw_below_drewN | apply below_drew1) | exact HB.out)))); have n4_ := Aside0.mk (below_step (by repeat (first | (with_reducible first | exact HB.out | apply below_alloc | apply pw_below_drewN | apply below_drew1) | exact HB.out)) hb); clear HO170; clear HO174; clear HO177; clear HB; have HO170 := n0_; have HO174 := n1_; have HO177 := n2_; have HO181 := n3_; have HB := n4_; clear n0_ n1_ n2_ n3_ n4_; (try clear hb); (try clear hb2); (try clear hk); (try clear hi); (try clear ho0)))
  (try simp only [Act.put, sqA, sqZ, sqS])
  go_cut [40] (fun v40 wc => ∃ (kq : Nat) (x40_7 : Bool), v40 = .bool x40_7 ∧ Aside0 (laws_FnExactNormals.j0 kq l0 t171 t172 t175 t178 t179 x40_7 = some r) ∧ Aside0 (kq ≤ k) ∧ Aside0 (Kd.R (Kd.int .i64) 2 wc w.heap.size (fun k_ => some k_ ≠ (v180 : Value).ownBlock) v173 t171) ∧ Aside0 (Kd.S (Kd.slice 2 (Kd.int .i64)) 27 wc w.heap.size (fun k_ => some k_ ≠ (v173 : Value).ownBlock ∧ some k_ ≠ (v180 : Value).ownBlock) (.slice Ao13 t175.length co13) t175) ∧ Aside0 (Kd.R (Kd.int .i64) 2 wc w.heap.size (fun k_ => some k_ ≠ (v173 : Value).ownBlock) v180 t178) ∧ Aside0 (Below w.heap.size w wc))
  case first =>
   have H := HC8.out
   clear HC8
   replace H := Option.bind_eq_some_iff.mp H
   obtain ⟨t182, A150, H⟩ := H
   replace H : (if t182 = true then (laws_FnExactNormals.j0 k l0 t171 t172 t175 t178 t179 (t179 != t172)) else (laws_FnExactNormals.j0 k l0 t171 t172 t175 t178 t179 true)) = some r := H
   have A15 := Aside0.mk A150
   clear A150
   by_cases c16 : t182 = true
   ·subst c16
    have H1 : (laws_FnExactNormals.j0 k l0 t171 t172 t175 t178 t179 (t179 != t172)) = some r := by rw [if_pos rfl] at H; exact H
    clear H
    have H := H1
    clear H1
    have H' := Aside0.mk H
    clear H
    obtain ⟨Ao17, co17, eo17⟩ := Kd.R_slice HO181.out
    subst eo17
    obtain ⟨Ao18, co18, eo18⟩ := Kd.R_slice HO174.out
    subst eo18
    go_wp2_with (first | ((with_reducible refine gate_callee (f := 26) rfl ?_); refine goesL_ (some 34) rfl rfl Try.func26 (by kernel_rfl) rfl #[.slice Ao17 t178.length co17, .slice Ao18 t171.length co18] rfl (by (try simp only [List.map_toArray, List.map_cons, List.map_nil]); first | done | rfl | (simp only [List.length_drop, List.length_take]; rfl)) ?_; (with_reducible refine (laws_eqInt64S.calls k _ _ t178 _ _ t171 true _ ?side1 ?side2 ?side3 ?side4 A15.out).mono ?_); (case side1 => repeat (first | exact (Kd.R_reads' HO181.out).2.2 | (with_reducible refine Kd.C_alloc ?_ _) | (with_reducible refine Kd.C_drewN ?_ _) | (with_reducible refine Kd.C_drew ?_))); (case side2 => exact (Kd.R_reads' HO181.out).2.1); (case side3 => repeat (first | exact (Kd.R_reads' HO174.out).2.2 | (with_reducible refine Kd.C_alloc ?_ _) | (with_reducible refine Kd.C_drewN ?_ _) | (with_reducible refine Kd.C_drew ?_))); (case side4 => exact (Kd.R_reads' HO174.out).2.1); rintro e w' ⟨rfl, ⟨nd, rfl⟩⟩; refine ⟨_, rfl, ?_⟩))
    go_meet
    case rel => exact ⟨_, ((t179 != t172)), (by first | rfl | (simp; done) | (simp [*]; done)), H', ⟨by first | omega | exact Nat.le_refl _⟩, ⟨by (with_reducible repeat (first | apply Kd.R_alloc | apply Kd.R_drewN | apply Kd.R_drew)); exact Kd.R_mono HO174.out (fun _ hk => hk.2)⟩, ⟨by (with_reducible repeat (first | apply Kd.S_alloc | apply Kd.S_drewN | apply Kd.S_drew)); exact Kd.S_mono HO177.out (fun _ hk => ⟨hk.1.2, hk.2⟩)⟩, ⟨by (with_reducible repeat (first | apply Kd.R_alloc | apply Kd.R_drewN | apply Kd.R_drew)); exact Kd.R_mono HO181.out (fun _ hk => hk.2)⟩, ⟨by repeat (first | (with_reducible first | exact HB.out | apply below_alloc | apply pw_below_drewN | apply below_drew1) | exact HB.out)⟩⟩
   ·replace c16 := Bool.eq_false_iff.mpr c16
    subst c16
    have H1 : (laws_FnExactNormals.j0 k l0 t171 t172 t175 t178 t179 true) = some r := by rw [if_neg (show ¬ (false = true) by decide)] at H; exact H
    clear H
    have H := H1
    clear H1
    have H' := Aside0.mk H
    clear H
    obtain ⟨Ao19, co19, eo19⟩ := Kd.R_slice HO181.out
    subst eo19
    obtain ⟨Ao20, co20, eo20⟩ := Kd.R_slice HO174.out
    subst eo20
    go_wp2_with (first | ((with_reducible refine gate_callee (f := 26) rfl ?_); refine goesL_ (some 34) rfl rfl Try.func26 (by kernel_rfl) rfl #[.slice Ao19 t178.length co19, .slice Ao20 t171.length co20] rfl (by (try simp only [List.map_toArray, List.map_cons, List.map_nil]); first | done | rfl | (simp only [List.length_drop, List.length_take]; rfl)) ?_; (with_reducible refine (laws_eqInt64S.calls k _ _ t178 _ _ t171 false _ ?side1 ?side2 ?side3 ?side4 A15.out).mono ?_); (case side1 => repeat (first | exact (Kd.R_reads' HO181.out).2.2 | (with_reducible refine Kd.C_alloc ?_ _) | (with_reducible refine Kd.C_drewN ?_ _) | (with_reducible refine Kd.C_drew ?_))); (case side2 => exact (Kd.R_reads' HO181.out).2.1); (case side3 => repeat (first | exact (Kd.R_reads' HO174.out).2.2 | (with_reducible refine Kd.C_alloc ?_ _) | (with_reducible refine Kd.C_drewN ?_ _) | (with_reducible refine Kd.C_drew ?_))); (case side4 => exact (Kd.R_reads' HO174.out).2.1); rintro e w' ⟨rfl, ⟨nd, rfl⟩⟩; refine ⟨_, rfl, ?_⟩))
    go_meet
    case rel => exact ⟨_, (true), (by first | rfl | (simp; done) | (simp [*]; done)), H', ⟨by first | omega | exact Nat.le_refl _⟩, ⟨by (with_reducible repeat (first | apply Kd.R_alloc | apply Kd.R_drewN | apply Kd.R_drew)); exact Kd.R_mono HO174.out (fun _ hk => hk.2)⟩, ⟨by (with_reducible repeat (first | apply Kd.S_alloc | apply Kd.S_drewN | apply Kd.S_drew)); exact Kd.S_mono HO177.out (fun _ hk => ⟨hk.1.2, hk.2⟩)⟩, ⟨by (with_reducible repeat (first | apply Kd.R_alloc | apply Kd.R_drewN | apply Kd.R_drew)); exact Kd.R_mono HO181.out (fun _ hk => hk.2)⟩, ⟨by repeat (first | (with_reducible first | exact HB.out | apply below_alloc | apply pw_below_drewN | apply below_drew1) | exact HB.out)⟩⟩
  case rest =>
   clear HC8
   try clear c1
   try clear c2
   try clear p2
   try clear c3
   try clear c3b0
   try clear c8
   try clear c16
   obtain ⟨kq, x40_7, rfl, HA, HJ7, HO_4, HO_6, HO_7, HB⟩ := hcut
   cases kq with
   | zero => exact absurd HA.out (by simp [laws_FnExactNormals.j0])
   | succ kj7 =>
    have H := HA.out
    clear HA
    simp only [laws_FnExactNormals.j0] at H
    by_cases c21 : x40_7 = true
    ·subst c21
     have H1 : (some false) = some r := by rw [if_pos rfl] at H; exact H
     clear H
     have H := H1
     clear H1
     obtain rfl := Option.some.inj H
     go_wp2
     go_ret
     exact ⟨by first | rfl | (simp [errW_none, errW_some] <;> rfl) | (simp [*, errW_none, errW_some] <;> rfl), by repeat (first | (with_reducible first | exact HB.out | apply below_alloc | apply pw_below_drewN | apply below_drew1) | exact HB.out)⟩
    ·replace c21 := Bool.eq_false_iff.mpr c21
     subst c21
     have H1 : ((laws_toInt64SS.f kj7 l0).bind fun t183 => ((laws_eqInt64SS.f kj7 t175 t183).bind fun t186 => (if t186 = true then ((laws_markInt64SS.f kj7 t175 1).bind fun bt187 => (if bt187.1 < 0 then (laws_FnExactNormals.j1 kj7 l0 t171 t172 t178 true) else ((laws_eqInt64S.f kj7 t178 t171).bind fun t189 => (if t189 = true then (laws_FnExactNormals.j1 kj7 l0 t171 t172 t178 (t179 != t172)) else (laws_FnExactNormals.j1 kj7 l0 t171 t172 t178 true))))) else (some false)))) = some r := by rw [if_neg (show ¬ (false = true) by decide)] at H; exact H
     clear H
     have H := H1
     clear H1
     replace H := Option.bind_eq_some_iff.mp H
     obtain ⟨t183, A220, H⟩ := H
     replace H : ((laws_eqInt64SS.f kj7 t175 t183).bind fun t186 => (if t186 = true then ((laws_markInt64SS.f kj7 t175 1).bind fun bt187 => (if bt187.1 < 0 then (laws_FnExactNormals.j1 kj7 l0 t171 t172 t178 true) else ((laws_eqInt64S.f kj7 t178 t171).bind fun t189 => (if t189 = true then (laws_FnExactNormals.j1 kj7 l0 t171 t172 t178 (t179 != t172)) else (laws_FnExactNormals.j1 kj7 l0 t171 t172 t178 true))))) else (some false))) = some r := H
     have A22 := Aside0.mk A220
     clear A220
     replace H := Option.bind_eq_some_iff.mp H
     obtain ⟨t186, A230, H⟩ := H
     replace H : (if t186 = true then ((laws_markInt64SS.f kj7 t175 1).bind fun bt187 => (if bt187.1 < 0 then (laws_FnExactNormals.j1 kj7 l0 t171 t172 t178 true) else ((laws_eqInt64S.f kj7 t178 t171).bind fun t189 => (if t189 = true then (laws_FnExactNormals.j1 kj7 l0 t171 t172 t178 (t179 != t172)) else (laws_FnExactNormals.j1 kj7 l0 t171 t172 t178 true))))) else (some false)) = some r := H
     have A23 := Aside0.mk A230
     clear A230
     by_cases c24 : t186 = true
     ·subst c24
      have H1 : ((laws_markInt64SS.f kj7 t175 1).bind fun bt187 => (if bt187.1 < 0 then (laws_FnExactNormals.j1 kj7 l0 t171 t172 t178 true) else ((laws_eqInt64S.f kj7 t178 t171).bind fun t189 => (if t189 = true then (laws_FnExactNormals.j1 kj7 l0 t171 t172 t178 (t179 != t172)) else (laws_FnExactNormals.j1 kj7 l0 t171 t172 t178 true))))) = some r := by rw [if_pos rfl] at H; exact H
      clear H
      have H := H1
      clear H1
      replace H := Option.bind_eq_some_iff.mp H
      obtain ⟨⟨t187, t188⟩, A250, H⟩ := H
      replace H : (if t187 < 0 then (laws_FnExactNormals.j1 kj7 l0 t171 t172 t178 true) else ((laws_eqInt64S.f kj7 t178 t171).bind fun t189 => (if t189 = true then (laws_FnExactNormals.j1 kj7 l0 t171 t172 t178 (t179 != t172)) else (laws_FnExactNormals.j1 kj7 l0 t171 t172 t178 true)))) = some r := H
      have A25 := Aside0.mk A250
      clear A250
      have HC26 := Aside0.mk H
      clear H
      go_upto_region 14 with (first | ((with_reducible refine gate_callee (f := 33) rfl ?_); refine goesL_ (some 43) rfl rfl Try.func33 (by kernel_rfl) rfl #[.slice A0 l0.length c0] rfl (by (try simp only [List.map_toArray, List.map_cons, List.map_nil]); first | done | rfl | (simp only [List.length_drop, List.length_take]; rfl)) ?_; (with_reducible refine (laws_toInt64SS.calls kj7 _ _ l0 t183 _ ?side1 ?side2 A22.out).mono ?_); (case side1 => repeat (first | exact (Kd.C_below HR0.out HB.out) | (with_reducible refine Kd.C_alloc ?_ _) | (with_reducible refine Kd.C_drewN ?_ _) | (with_reducible refine Kd.C_drew ?_))); (case side2 => exact HC0.out); rintro e w27 ⟨v184, rfl, ho0, hb⟩; refine ⟨_, rfl, ?_⟩; have n0_ := Aside0.mk (Kd.R_below (by (with_reducible repeat (first | apply Kd.R_alloc | apply Kd.R_drewN | apply Kd.R_drew)); exact HO_4.out) hb); have n1_ := Aside0.mk (Kd.S_elder' (by (with_reducible repeat (first | apply Kd.S_alloc | apply Kd.S_drewN | apply Kd.S_drew)); exact HO_6.out) (Kd.S_base ho0) hb); have n2_ := Aside0.mk (Kd.R_below (by (with_reducible repeat (first | apply Kd.R_alloc | apply Kd.R_drewN | apply Kd.R_drew)); exact HO_7.out) hb); have n3_ := Aside0.mk (Kd.S_lower (Kd.S_new' (Kd.S_new' (Kd.S_new' ho0 (Kd.R_lt (by (with_reducible repeat (first | apply Kd.R_alloc | apply Kd.R_drewN | apply Kd.R_drew)); exact HO_4.out))) (Kd.S_lt (by (with_reducible repeat (first | apply Kd.S_alloc | apply Kd.S_drewN | apply Kd.S_drew)); exact HO_6.out))) (Kd.R_lt (by (with_reducible repeat (first | apply Kd.R_alloc | apply Kd.R_drewN | apply Kd.R_drew)); exact HO_7.out))) (below_size (by repeat (first | (with_reducible first | exact HB.out | apply below_alloc | apply pw_below_drewN | apply below_drew1) | exact HB.out)))); have n4_ := Aside0.mk (below_step (by repeat (first | (with_reducible first | exact HB.out | apply below_alloc | apply pw_below_drewN | apply below_drew1) | exact HB.out)) hb); clear HO_4; clear HO_6; clear HO_7; clear HB; have HO_4 := n0_; have HO_6 := n1_; have HO_7 := n2_; have HO185 := n3_; have HB := n4_; clear n0_ n1_ n2_ n3_ n4_; (try clear hb); (try clear hb2); (try clear hk); (try clear hi); (try clear ho0); obtain ⟨Ao28, co28, eo28⟩ := Kd.S_slice HO185.out; subst eo28) | ((with_reducible refine gate_callee (f := 35) rfl ?_); refine goesL_ (some 44) rfl rfl Try.func35 (by kernel_rfl) rfl #[.slice Ao13 t175.length co13, .slice Ao28 t183.length co28] rfl (by (try simp only [List.map_toArray, List.map_cons, List.map_nil]); first | done | rfl | (simp only [List.length_drop, List.length_take]; rfl)) ?_; (with_reducible refine (laws_eqInt64SS.calls kj7 _ _ t175 _ _ t183 true _ ?side1 ?side2 ?side3 ?side4 A23.out).mono ?_); (case side1 => repeat (first | exact (Kd.S_reads' HO_6.out).2.2 | (with_reducible refine Kd.C_alloc ?_ _) | (with_reducible refine Kd.C_drewN ?_ _) | (with_reducible refine Kd.C_drew ?_))); (case side2 => exact (Kd.S_reads' HO_6.out).2.1); (case side3 => repeat (first | exact (Kd.S_reads' HO185.out).2.2 | (with_reducible refine Kd.C_alloc ?_ _) | (with_reducible refine Kd.C_drewN ?_ _) | (with_reducible refine Kd.C_drew ?_))); (case side4 => exact (Kd.S_reads' HO185.out).2.1); rintro e w' ⟨rfl, ⟨nd, rfl⟩⟩; refine ⟨_, rfl, ?_⟩) | ((with_reducible refine gate_callee (f := 36) rfl ?_); refine goesL_ (some 48) rfl rfl Try.func36 (by kernel_rfl) rfl #[.slice Ao13 t175.length co13, .int .i64 1] rfl (by (try simp only [List.map_toArray, List.map_cons, List.map_nil]); first | done | rfl | (simp only [List.length_drop, List.length_take]; rfl)) ?_; (with_reducible refine (laws_markInt64SS.calls kj7 (fun k_ => ((some k_ ≠ (v173 : Value).ownBlock ∧ some k_ ≠ (v180 : Value).ownBlock) ∧ some k_ ≠ (.slice Ao28 t183.length co28 : Value).ownBlock)) (.slice Ao13 t175.length co13) t175 1 t187 t188 w _ ?side1 ?side2 A25.out).mono ?_); (case side1 => repeat (first | (with_reducible first | exact HB.out | apply below_alloc | apply pw_below_drewN | apply below_drew1) | exact HB.out)); (case side2 => exact (by (with_reducible repeat (first | apply Kd.S_alloc | apply Kd.S_drewN | apply Kd.S_drew)); exact HO_6.out)); rintro e w29 ⟨rfl, hy0, hb, hkp⟩; refine ⟨_, rfl, ?_⟩; have n0_ := Aside0.mk (Kd.R_mono (ok' := (fun k_ => some k_ ≠ (v180 : Value).ownBlock)) (Kd.R_kept (Kd.R_tight rfl HO_4.out) hkp (fun k_ hk_ hs_ => (hs_.1.1) hk_)) (fun k_ hk_ => ((HO_4.out).1 k_ hk_.symm))); have n1_ := Aside0.mk (Kd.S_mono (ok' := (fun k_ => some k_ ≠ (v173 : Value).ownBlock ∧ some k_ ≠ (v180 : Value).ownBlock)) hy0 (fun k_ hk_ => hk_.elim (fun h_ => ⟨h_.1.1, h_.1.2⟩) (fun h_ => ⟨Kd.fresh' (Kd.R_lt (by (with_reducible repeat (first | apply Kd.R_alloc | apply Kd.R_drewN | apply Kd.R_drew)); exact HO_4.out)) k_ h_, Kd.fresh' (Kd.R_lt (by (with_reducible repeat (first | apply Kd.R_alloc | apply Kd.R_drewN | apply Kd.R_drew)); exact HO_7.out)) k_ h_⟩))); have n2_ := Aside0.mk (Kd.R_mono (ok' := (fun k_ => some k_ ≠ (v173 : Value).ownBlock)) (Kd.R_kept (Kd.R_tight rfl HO_7.out) hkp (fun k_ hk_ hs_ => (hs_.1.2) hk_)) (fun k_ hk_ => ((HO_7.out).1 k_ hk_.symm))); have n3_ := Aside0.mk (hb); clear HO_4; clear HO_6; clear HO_7; clear HB; have HO_4 := n0_; have HO_6 := n1_; have HO_7 := n2_; have HB := n3_; clear n0_ n1_ n2_ n3_; (try clear hb); (try clear hkp); (try clear hy0)))
      (try simp only [Act.put, sqA, sqZ, sqS])
      go_cut [61] (fun v61 wc => ∃ (kq : Nat) (x61_25 : Bool), v61 = .bool x61_25 ∧ Aside0 (laws_FnExactNormals.j1 kq l0 t171 t172 t178 x61_25 = some r) ∧ Aside0 (kq ≤ kj7) ∧ Aside0 (Kd.R (Kd.int .i64) 2 wc w.heap.size (fun k_ => some k_ ≠ (v180 : Value).ownBlock) v173 t171) ∧ Aside0 (Kd.R (Kd.int .i64) 2 wc w.heap.size (fun k_ => some k_ ≠ (v173 : Value).ownBlock) v180 t178) ∧ Aside0 (Below w.heap.size w wc))
      case first =>
       have H := HC26.out
       clear HC26
       by_cases c30 : t187 < 0
       ·rw [if_pos c30] at H
        have c30b0 : decide (t187 < 0) = true := decide_eq_true c30
        clear c30
        (first | rw [c30b0] | (simp only [i64_w, i32_w]; rw [c30b0]) | skip)
        have H' := Aside0.mk H
        clear H
        go_wp2
        go_meet
        case rel => exact ⟨_, (true), (by first | rfl | (simp; done) | (simp [*]; done)), H', ⟨by have := HJ7.out; first | omega | exact Nat.le_refl _⟩, ⟨by (with_reducible repeat (first | apply Kd.R_alloc | apply Kd.R_drewN | apply Kd.R_drew)); exact HO_4.out⟩, ⟨by (with_reducible repeat (first | apply Kd.R_alloc | apply Kd.R_drewN | apply Kd.R_drew)); exact HO_7.out⟩, ⟨by repeat (first | (with_reducible first | exact HB.out | apply below_alloc | apply pw_below_drewN | apply below_drew1) | exact HB.out)⟩⟩
       ·rw [if_neg c30] at H
        have c30b0 : decide (t187 < 0) = false := decide_eq_false c30
        clear c30
        (first | rw [c30b0] | (simp only [i64_w, i32_w]; rw [c30b0]) | skip)
        replace H := Option.bind_eq_some_iff.mp H
        obtain ⟨t189, A310, H⟩ := H
        replace H : (if t189 = true then (laws_FnExactNormals.j1 kj7 l0 t171 t172 t178 (t179 != t172)) else (laws_FnExactNormals.j1 kj7 l0 t171 t172 t178 true)) = some r := H
        have A31 := Aside0.mk A310
        clear A310
        by_cases c32 : t189 = true
        ·subst c32
         have H1 : (laws_FnExactNormals.j1 kj7 l0 t171 t172 t178 (t179 != t172)) = some r := by rw [if_pos rfl] at H; exact H
         clear H
         have H := H1
         clear H1
         have H' := Aside0.mk H
         clear H
         obtain ⟨Ao33, co33, eo33⟩ := Kd.R_slice HO_7.out
         subst eo33
         obtain ⟨Ao34, co34, eo34⟩ := Kd.R_slice HO_4.out
         subst eo34
         go_wp2_with (first | (go_at_call 26; (with_reducible refine (laws_eqInt64S.calls kj7 _ _ t178 _ _ t171 true _ ?side1 ?side2 ?side3 ?side4 A31.out).mono ?_); (case side1 => repeat (first | exact (Kd.R_reads' HO_7.out).2.2 | (with_reducible refine Kd.C_alloc ?_ _) | (with_reducible refine Kd.C_drewN ?_ _) | (with_reducible refine Kd.C_drew ?_))); (case side2 => exact (Kd.R_reads' HO_7.out).2.1); (case side3 => repeat (first | exact (Kd.R_reads' HO_4.out).2.2 | (with_reducible refine Kd.C_alloc ?_ _) | (with_reducible refine Kd.C_drewN ?_ _) | (with_reducible refine Kd.C_drew ?_))); (case side4 => exact (Kd.R_reads' HO_4.out).2.1); rintro e w' ⟨rfl, ⟨nd, rfl⟩⟩))
         go_meet
         case rel => exact ⟨_, ((t179 != t172)), (by first | rfl | (simp; done) | (simp [*]; done)), H', ⟨by have := HJ7.out; first | omega | exact Nat.le_refl _⟩, ⟨by (with_reducible repeat (first | apply Kd.R_alloc | apply Kd.R_drewN | apply Kd.R_drew)); exact HO_4.out⟩, ⟨by (with_reducible repeat (first | apply Kd.R_alloc | apply Kd.R_drewN | apply Kd.R_drew)); exact HO_7.out⟩, ⟨by repeat (first | (with_reducible first | exact HB.out | apply below_alloc | apply pw_below_drewN | apply below_drew1) | exact HB.out)⟩⟩
        ·replace c32 := Bool.eq_false_iff.mpr c32
         subst c32
         have H1 : (laws_FnExactNormals.j1 kj7 l0 t171 t172 t178 true) = some r := by rw [if_neg (show ¬ (false = true) by decide)] at H; exact H
         clear H
         have H := H1
         clear H1
         have H' := Aside0.mk H
         clear H
         obtain ⟨Ao35, co35, eo35⟩ := Kd.R_slice HO_7.out
         subst eo35
         obtain ⟨Ao36, co36, eo36⟩ := Kd.R_slice HO_4.out
         subst eo36
         go_wp2_with (first | (go_at_call 26; (with_reducible refine (laws_eqInt64S.calls kj7 _ _ t178 _ _ t171 false _ ?side1 ?side2 ?side3 ?side4 A31.out).mono ?_); (case side1 => repeat (first | exact (Kd.R_reads' HO_7.out).2.2 | (with_reducible refine Kd.C_alloc ?_ _) | (with_reducible refine Kd.C_drewN ?_ _) | (with_reducible refine Kd.C_drew ?_))); (case side2 => exact (Kd.R_reads' HO_7.out).2.1); (case side3 => repeat (first | exact (Kd.R_reads' HO_4.out).2.2 | (with_reducible refine Kd.C_alloc ?_ _) | (with_reducible refine Kd.C_drewN ?_ _) | (with_reducible refine Kd.C_drew ?_))); (case side4 => exact (Kd.R_reads' HO_4.out).2.1); rintro e w' ⟨rfl, ⟨nd, rfl⟩⟩))
         go_meet
         case rel => exact ⟨_, (true), (by first | rfl | (simp; done) | (simp [*]; done)), H', ⟨by have := HJ7.out; first | omega | exact Nat.le_refl _⟩, ⟨by (with_reducible repeat (first | apply Kd.R_alloc | apply Kd.R_drewN | apply Kd.R_drew)); exact HO_4.out⟩, ⟨by (with_reducible repeat (first | apply Kd.R_alloc | apply Kd.R_drewN | apply Kd.R_drew)); exact HO_7.out⟩, ⟨by repeat (first | (with_reducible first | exact HB.out | apply below_alloc | apply pw_below_drewN | apply below_drew1) | exact HB.out)⟩⟩
      case rest =>
       clear HC26
       try clear c1
       try clear c2
       try clear p2
       try clear c3
       try clear c3b0
       try clear c8
       try clear c16
       try clear c21
       try clear c24
       try clear c26
       try clear c30
       try clear c30b0
       try clear c31
       try clear c32
       try clear c33
       try clear c34
       try clear c35
       try clear c36
       try clear p2
       obtain ⟨kq, x61_25, rfl, HA, HJ25, HO_4, HO_7, HB⟩ := hcut
       cases kq with
       | zero => exact absurd HA.out (by simp [laws_FnExactNormals.j1])
       | succ kj25 =>
        have H := HA.out
        clear HA
        simp only [laws_FnExactNormals.j1] at H
        by_cases c37 : x61_25 = true
        ·subst c37
         have H1 : (some false) = some r := by rw [if_pos rfl] at H; exact H
         clear H
         have H := H1
         clear H1
         obtain rfl := Option.some.inj H
         go_wp2
         go_ret
         exact ⟨by first | rfl | (simp [errW_none, errW_some] <;> rfl) | (simp [*, errW_none, errW_some] <;> rfl), by repeat (first | (with_reducible first | exact HB.out | apply below_alloc | apply pw_below_drewN | apply below_drew1) | exact HB.out)⟩
        ·replace c37 := Bool.eq_false_iff.mpr c37
         subst c37
         have H1 : ((laws_markInt64S.f kj25 t178 1).bind fun bt190 => ((laws_heldInt64S.f kj25 bt190.2 1).bind fun t192 => (if t192 < 0 then (some false) else (if t192 = bt190.1 then ((laws_toInt64SS.f kj25 l0).bind fun t193 => ((impl_Normals.f kj25 t193).bind fun bt196 => ((laws_eqInt64S.f kj25 bt196.1 t171).bind fun t200 => (if t200 = true then (laws_FnExactNormals.j2 kj25 bt190.2 bt190.1 (bt196.2 != t172)) else (laws_FnExactNormals.j2 kj25 bt190.2 bt190.1 true))))) else (some false))))) = some r := by rw [if_neg (show ¬ (false = true) by decide)] at H; exact H
         clear H
         have H := H1
         clear H1
         replace H := Option.bind_eq_some_iff.mp H
         obtain ⟨⟨t190, t191⟩, A380, H⟩ := H
         replace H : ((laws_heldInt64S.f kj25 t191 1).bind fun t192 => (if t192 < 0 then (some false) else (if t192 = t190 then ((laws_toInt64SS.f kj25 l0).bind fun t193 => ((impl_Normals.f kj25 t193).bind fun bt196 => ((laws_eqInt64S.f kj25 bt196.1 t171).bind fun t200 => (if t200 = true then (laws_FnExactNormals.j2 kj25 t191 t190 (bt196.2 != t172)) else (laws_FnExactNormals.j2 kj25 t191 t190 true))))) else (some false)))) = some r := H
         have A38 := Aside0.mk A380
         clear A380
         replace H := Option.bind_eq_some_iff.mp H
         obtain ⟨t192, A390, H⟩ := H
         replace H : (if t192 < 0 then (some false) else (if t192 = t190 then ((laws_toInt64SS.f kj25 l0).bind fun t193 => ((impl_Normals.f kj25 t193).bind fun bt196 => ((laws_eqInt64S.f kj25 bt196.1 t171).bind fun t200 => (if t200 = true then (laws_FnExactNormals.j2 kj25 t191 t190 (bt196.2 != t172)) else (laws_FnExactNormals.j2 kj25 t191 t190 true))))) else (some false))) = some r := H
         have A39 := Aside0.mk A390
         clear A390
         by_cases c40 : t192 < 0
         ·rw [if_pos c40] at H
          have c40b0 : decide (t192 < 0) = true := decide_eq_true c40
          clear c40
          obtain rfl := Option.some.inj H
          obtain ⟨Ao41, co41, eo41⟩ := Kd.R_slice HO_7.out
          subst eo41
          go_wp2_with (first | ((with_reducible refine gate_callee (f := 27) rfl ?_); refine goesL_ (some 64) rfl rfl Try.func27 (by kernel_rfl) rfl #[.slice Ao41 t178.length co41, .int .i64 1] rfl (by (try simp only [List.map_toArray, List.map_cons, List.map_nil]); first | done | rfl | (simp only [List.length_drop, List.length_take]; rfl)) ?_; (with_reducible refine (laws_markInt64S.calls kj25 (fun k_ => some k_ = (.slice Ao41 t178.length co41 : Value).ownBlock) (.slice Ao41 t178.length co41) t178 1 t190 t191 w _ ?side1 ?side2 A38.out).mono ?_); (case side1 => repeat (first | (with_reducible first | exact HB.out | apply below_alloc | apply pw_below_drewN | apply below_drew1) | exact HB.out)); (case side2 => exact Kd.R_tight rfl HO_7.out); rintro e w42 ⟨rfl, hy0, hb, hkp⟩; refine ⟨_, rfl, ?_⟩; have n0_ := Aside0.mk (Kd.R_mono (ok' := fun k_ => some k_ ≠ (.slice Ao41 t178.length co41 : Value).ownBlock) (Kd.R_keptB (HO_4.out) hkp (fun k_ hk_ hs_ => (hk_) hs_)) (fun k_ hk_ => hk_.1)); have n1_ := Aside0.mk (Kd.R_reok rfl hy0 (fun k_ e_ => HO_7.out.1 k_ e_)); have n2_ := Aside0.mk (hb); clear HO_4; clear HO_7; clear HB; have HO_4 := n0_; have HO_7 := n1_; have HB := n2_; clear n0_ n1_ n2_; (try clear hb); (try clear hkp); (try clear hy0)) | ((with_reducible refine gate_callee (f := 28) rfl ?_); refine goesL_ (some 67) rfl rfl Try.func28 (by kernel_rfl) rfl #[.slice Ao41 t191.length co41, .int .i64 1] rfl (by (try simp only [List.map_toArray, List.map_cons, List.map_nil]); first | done | (rw [show t191.length = t178.length from (Kd.R_reads' HO_7.out).1.symm] <;> rfl) | rfl | (simp only [List.length_drop, List.length_take]; rfl)) ?_; (with_reducible refine (laws_heldInt64S.calls kj25 _ _ t191 1 t192 _ ?side1 ?side2 A39.out).mono ?_); (case side1 => repeat (first | exact (Kd.R_reads' HO_7.out).2.2 | (with_reducible refine Kd.C_alloc ?_ _) | (with_reducible refine Kd.C_drewN ?_ _) | (with_reducible refine Kd.C_drew ?_))); (case side2 => rw [show t191.length = t178.length from (Kd.R_reads' HO_7.out).1.symm]; exact (Kd.R_reads' HO_7.out).2.1); rintro e w' ⟨rfl, ⟨nd, rfl⟩⟩; refine ⟨_, rfl, ?_⟩))
          go_ret
          exact ⟨by first | rfl | (simp [errW_none, errW_some] <;> rfl) | (simp [*, errW_none, errW_some] <;> rfl), by repeat (first | (with_reducible first | exact HB.out | apply below_alloc | apply pw_below_drewN | apply below_drew1) | exact HB.out)⟩
         ·rw [if_neg c40] at H
          have c40b0 : decide (t192 < 0) = false := decide_eq_false c40
          clear c40
          by_cases c43 : t192 = t190
          ·rw [if_pos c43] at H
           have c43b0 : (t192 == t190) = true := beq_iff_eq.mpr c43
           have c43b1 : (t192 != t190) = false := bne_eq_false_iff_eq.mpr c43
           clear c43
           replace H := Option.bind_eq_some_iff.mp H
           obtain ⟨t193, A440, H⟩ := H
           replace H : ((impl_Normals.f kj25 t193).bind fun bt196 => ((laws_eqInt64S.f kj25 bt196.1 t171).bind fun t200 => (if t200 = true then (laws_FnExactNormals.j2 kj25 t191 t190 (bt196.2 != t172)) else (laws_FnExactNormals.j2 kj25 t191 t190 true)))) = some r := H
           have A44 := Aside0.mk A440
           clear A440
           replace H := Option.bind_eq_some_iff.mp H
           obtain ⟨⟨t196, t197⟩, A450, H⟩ := H
           replace H : ((laws_eqInt64S.f kj25 t196 t171).bind fun t200 => (if t200 = true then (laws_FnExactNormals.j2 kj25 t191 t190 (t197 != t172)) else (laws_FnExactNormals.j2 kj25 t191 t190 true))) = some r := H
           have A45 := Aside0.mk A450
           clear A450
           have HC46 := Aside0.mk H
           clear H
           obtain ⟨Ao47, co47, eo47⟩ := Kd.R_slice HO_7.out
           subst eo47
           go_upto_region 25 with (first | ((with_reducible refine gate_callee (f := 27) rfl ?_); refine goesL_ (some 64) rfl rfl Try.func27 (by kernel_rfl) rfl #[.slice Ao47 t178.length co47, .int .i64 1] rfl (by (try simp only [List.map_toArray, List.map_cons, List.map_nil]); first | done | rfl | (simp only [List.length_drop, List.length_take]; rfl)) ?_; (with_reducible refine (laws_markInt64S.calls kj25 (fun k_ => some k_ = (.slice Ao47 t178.length co47 : Value).ownBlock) (.slice Ao47 t178.length co47) t178 1 t190 t191 w _ ?side1 ?side2 A38.out).mono ?_); (case side1 => repeat (first | (with_reducible first | exact HB.out | apply below_alloc | apply pw_below_drewN | apply below_drew1) | exact HB.out)); (case side2 => exact Kd.R_tight rfl HO_7.out); rintro e w48 ⟨rfl, hy0, hb, hkp⟩; refine ⟨_, rfl, ?_⟩; have n0_ := Aside0.mk (Kd.R_mono (ok' := fun k_ => some k_ ≠ (.slice Ao47 t178.length co47 : Value).ownBlock) (Kd.R_keptB (HO_4.out) hkp (fun k_ hk_ hs_ => (hk_) hs_)) (fun k_ hk_ => hk_.1)); have n1_ := Aside0.mk (Kd.R_reok rfl hy0 (fun k_ e_ => HO_7.out.1 k_ e_)); have n2_ := Aside0.mk (hb); clear HO_4; clear HO_7; clear HB; have HO_4 := n0_; have HO_7 := n1_; have HB := n2_; clear n0_ n1_ n2_; (try clear hb); (try clear hkp); (try clear hy0)) | ((with_reducible refine gate_callee (f := 28) rfl ?_); refine goesL_ (some 67) rfl rfl Try.func28 (by kernel_rfl) rfl #[.slice Ao47 t191.length co47, .int .i64 1] rfl (by (try simp only [List.map_toArray, List.map_cons, List.map_nil]); first | done | (rw [show t191.length = t178.length from (Kd.R_reads' HO_7.out).1.symm] <;> rfl) | rfl | (simp only [List.length_drop, List.length_take]; rfl)) ?_; (with_reducible refine (laws_heldInt64S.calls kj25 _ _ t191 1 t192 _ ?side1 ?side2 A39.out).mono ?_); (case side1 => repeat (first | exact (Kd.R_reads' HO_7.out).2.2 | (with_reducible refine Kd.C_alloc ?_ _) | (with_reducible refine Kd.C_drewN ?_ _) | (with_reducible refine Kd.C_drew ?_))); (case side2 => rw [show t191.length = t178.length from (Kd.R_reads' HO_7.out).1.symm]; exact (Kd.R_reads' HO_7.out).2.1); rintro e w' ⟨rfl, ⟨nd, rfl⟩⟩; refine ⟨_, rfl, ?_⟩) | ((with_reducible refine gate_callee (f := 33) rfl ?_); refine goesL_ (some 75) rfl rfl Try.func33 (by kernel_rfl) rfl #[.slice A0 l0.length c0] rfl (by (try simp only [List.map_toArray, List.map_cons, List.map_nil]); first | done | rfl | (simp only [List.length_drop, List.length_take]; rfl)) ?_; (with_reducible refine (laws_toInt64SS.calls kj25 _ _ l0 t193 _ ?side1 ?side2 A44.out).mono ?_); (case side1 => repeat (first | exact (Kd.C_below HR0.out (by repeat (first | (with_reducible first | exact HB.out | apply below_alloc | apply pw_below_drewN | apply below_drew1) | exact HB.out))) | (with_reducible refine Kd.C_alloc ?_ _) | (with_reducible refine Kd.C_drewN ?_ _) | (with_reducible refine Kd.C_drew ?_))); (case side2 => exact HC0.out); rintro e w49 ⟨v194, rfl, ho0, hb⟩; refine ⟨_, rfl, ?_⟩; have n0_ := Aside0.mk (Kd.R_below (by (with_reducible repeat (first | apply Kd.R_alloc | apply Kd.R_drewN | apply Kd.R_drew)); exact HO_4.out) hb); have n1_ := Aside0.mk (Kd.R_below (by (with_reducible repeat (first | apply Kd.R_alloc | apply Kd.R_drewN | apply Kd.R_drew)); exact HO_7.out) hb); have n2_ := Aside0.mk (Kd.S_lower (Kd.S_new' (Kd.S_new' ho0 (Kd.R_lt (by (with_reducible repeat (first | apply Kd.R_alloc | apply Kd.R_drewN | apply Kd.R_drew)); exact HO_4.out))) (Kd.R_lt (by (with_reducible repeat (first | apply Kd.R_alloc | apply Kd.R_drewN | apply Kd.R_drew)); exact HO_7.out))) (below_size (by repeat (first | (with_reducible first | exact HB.out | apply below_alloc | apply pw_below_drewN | apply below_drew1) | exact HB.out)))); have n3_ := Aside0.mk (below_step (by repeat (first | (with_reducible first | exact HB.out | apply below_alloc | apply pw_below_drewN | apply below_drew1) | exact HB.out)) hb); clear HO_4; clear HO_7; clear HB; have HO_4 := n0_; have HO_7 := n1_; have HO195 := n2_; have HB := n3_; clear n0_ n1_ n2_ n3_; (try clear hb); (try clear hb2); (try clear hk); (try clear hi); (try clear ho0); obtain ⟨Ao50, co50, eo50⟩ := Kd.S_slice HO195.out; subst eo50) | ((with_reducible refine gate_callee (f := 34) rfl ?_); refine goesL_ (some 76) rfl rfl Try.func34 (by kernel_rfl) rfl #[.slice Ao50 t193.length co50] rfl (by (try simp only [List.map_toArray, List.map_cons, List.map_nil]); first | done | rfl | (simp only [List.length_drop, List.length_take]; rfl)) ?_; (with_reducible refine (impl_Normals.calls kj25 _ _ t193 t196 t197 _ ?side1 ?side2 A45.out).mono ?_); (case side1 => repeat (first | exact (Kd.S_reads' HO195.out).2.2 | (with_reducible refine Kd.C_alloc ?_ _) | (with_reducible refine Kd.C_drewN ?_ _) | (with_reducible refine Kd.C_drew ?_))); (case side2 => exact (Kd.S_reads' HO195.out).2.1); rintro e w51 ⟨v198, rfl, ho0, hb⟩; refine ⟨_, rfl, ?_⟩; have n0_ := Aside0.mk (Kd.R_elder' (by (with_reducible repeat (first | apply Kd.R_alloc | apply Kd.R_drewN | apply Kd.R_drew)); exact HO_4.out) (Kd.R_base ho0) hb); have n1_ := Aside0.mk (Kd.R_elder' (by (with_reducible repeat (first | apply Kd.R_alloc | apply Kd.R_drewN | apply Kd.R_drew)); exact HO_7.out) (Kd.R_base ho0) hb); have n2_ := Aside0.mk (Kd.S_elder' (by (with_reducible repeat (first | apply Kd.S_alloc | apply Kd.S_drewN | apply Kd.S_drew)); exact HO195.out) (Kd.R_base ho0) hb); have n3_ := Aside0.mk (Kd.R_lower (Kd.R_new' (Kd.R_new' ho0 (Kd.R_lt (by (with_reducible repeat (first | apply Kd.R_alloc | apply Kd.R_drewN | apply Kd.R_drew)); exact HO_4.out))) (Kd.R_lt (by (with_reducible repeat (first | apply Kd.R_alloc | apply Kd.R_drewN | apply Kd.R_drew)); exact HO_7.out))) (below_size (by repeat (first | (with_reducible first | exact HB.out | apply below_alloc | apply pw_below_drewN | apply below_drew1) | exact HB.out)))); have n4_ := Aside0.mk (below_step (by repeat (first | (with_reducible first | exact HB.out | apply below_alloc | apply pw_below_drewN | apply below_drew1) | exact HB.out)) hb); clear HO_4; clear HO_7; clear HO195; clear HB; have HO_4 := n0_; have HO_7 := n1_; have HO195 := n2_; have HO199 := n3_; have HB := n4_; clear n0_ n1_ n2_ n3_ n4_; (try clear hb); (try clear hb2); (try clear hk); (try clear hi); (try clear ho0)))
           (try simp only [Act.put, sqA, sqZ, sqS])
           go_cut [87] (fun v87 wc => ∃ (kq : Nat) (x87_45 : Bool), v87 = .bool x87_45 ∧ Aside0 (laws_FnExactNormals.j2 kq t191 t190 x87_45 = some r) ∧ Aside0 (kq ≤ kj25) ∧ Aside0 (Kd.R (Kd.int .i64) 2 wc w.heap.size (fun _ => True) (.slice Ao47 t178.length co47) t191) ∧ Aside0 (Below w.heap.size w wc))
           case first =>
            have H := HC46.out
            clear HC46
            replace H := Option.bind_eq_some_iff.mp H
            obtain ⟨t200, A520, H⟩ := H
            replace H : (if t200 = true then (laws_FnExactNormals.j2 kj25 t191 t190 (t197 != t172)) else (laws_FnExactNormals.j2 kj25 t191 t190 true)) = some r := H
            have A52 := Aside0.mk A520
            clear A520
            by_cases c53 : t200 = true
            ·subst c53
             have H1 : (laws_FnExactNormals.j2 kj25 t191 t190 (t197 != t172)) = some r := by rw [if_pos rfl] at H; exact H
             clear H
             have H := H1
             clear H1
             have H' := Aside0.mk H
             clear H
             obtain ⟨Ao54, co54, eo54⟩ := Kd.R_slice HO199.out
             subst eo54
             obtain ⟨Ao55, co55, eo55⟩ := Kd.R_slice HO_4.out
             subst eo55
             go_wp2_with (first | ((with_reducible refine gate_callee (f := 26) rfl ?_); refine goesL_ (some 81) rfl rfl Try.func26 (by kernel_rfl) rfl #[.slice Ao54 t196.length co54, .slice Ao55 t171.length co55] rfl (by (try simp only [List.map_toArray, List.map_cons, List.map_nil]); first | done | rfl | (simp only [List.length_drop, List.length_take]; rfl)) ?_; (with_reducible refine (laws_eqInt64S.calls kj25 _ _ t196 _ _ t171 true _ ?side1 ?side2 ?side3 ?side4 A52.out).mono ?_); (case side1 => repeat (first | exact (Kd.R_reads' HO199.out).2.2 | (with_reducible refine Kd.C_alloc ?_ _) | (with_reducible refine Kd.C_drewN ?_ _) | (with_reducible refine Kd.C_drew ?_))); (case side2 => exact (Kd.R_reads' HO199.out).2.1); (case side3 => repeat (first | exact (Kd.R_reads' HO_4.out).2.2 | (with_reducible refine Kd.C_alloc ?_ _) | (with_reducible refine Kd.C_drewN ?_ _) | (with_reducible refine Kd.C_drew ?_))); (case side4 => exact (Kd.R_reads' HO_4.out).2.1); rintro e w' ⟨rfl, ⟨nd, rfl⟩⟩; refine ⟨_, rfl, ?_⟩))
             go_meet
             case rel => exact ⟨_, ((t197 != t172)), (by first | rfl | (simp; done) | (simp [*]; done)), H', ⟨by have := HJ7.out; have := HJ25.out; first | omega | exact Nat.le_refl _⟩, ⟨by (with_reducible repeat (first | apply Kd.R_alloc | apply Kd.R_drewN | apply Kd.R_drew)); exact Kd.R_mono HO_7.out (fun _ hk => trivial)⟩, ⟨by repeat (first | (with_reducible first | exact HB.out | apply below_alloc | apply pw_below_drewN | apply below_drew1) | exact HB.out)⟩⟩
            ·replace c53 := Bool.eq_false_iff.mpr c53
             subst c53
             have H1 : (laws_FnExactNormals.j2 kj25 t191 t190 true) = some r := by rw [if_neg (show ¬ (false = true) by decide)] at H; exact H
             clear H
             have H := H1
             clear H1
             have H' := Aside0.mk H
             clear H
             obtain ⟨Ao56, co56, eo56⟩ := Kd.R_slice HO199.out
             subst eo56
             obtain ⟨Ao57, co57, eo57⟩ := Kd.R_slice HO_4.out
             subst eo57
             go_wp2_with (first | ((with_reducible refine gate_callee (f := 26) rfl ?_); refine goesL_ (some 81) rfl rfl Try.func26 (by kernel_rfl) rfl #[.slice Ao56 t196.length co56, .slice Ao57 t171.length co57] rfl (by (try simp only [List.map_toArray, List.map_cons, List.map_nil]); first | done | rfl | (simp only [List.length_drop, List.length_take]; rfl)) ?_; (with_reducible refine (laws_eqInt64S.calls kj25 _ _ t196 _ _ t171 false _ ?side1 ?side2 ?side3 ?side4 A52.out).mono ?_); (case side1 => repeat (first | exact (Kd.R_reads' HO199.out).2.2 | (with_reducible refine Kd.C_alloc ?_ _) | (with_reducible refine Kd.C_drewN ?_ _) | (with_reducible refine Kd.C_drew ?_))); (case side2 => exact (Kd.R_reads' HO199.out).2.1); (case side3 => repeat (first | exact (Kd.R_reads' HO_4.out).2.2 | (with_reducible refine Kd.C_alloc ?_ _) | (with_reducible refine Kd.C_drewN ?_ _) | (with_reducible refine Kd.C_drew ?_))); (case side4 => exact (Kd.R_reads' HO_4.out).2.1); rintro e w' ⟨rfl, ⟨nd, rfl⟩⟩; refine ⟨_, rfl, ?_⟩))
             go_meet
             case rel => exact ⟨_, (true), (by first | rfl | (simp; done) | (simp [*]; done)), H', ⟨by have := HJ7.out; have := HJ25.out; first | omega | exact Nat.le_refl _⟩, ⟨by (with_reducible repeat (first | apply Kd.R_alloc | apply Kd.R_drewN | apply Kd.R_drew)); exact Kd.R_mono HO_7.out (fun _ hk => trivial)⟩, ⟨by repeat (first | (with_reducible first | exact HB.out | apply below_alloc | apply pw_below_drewN | apply below_drew1) | exact HB.out)⟩⟩
           case rest =>
            clear HC46
            try clear c1
            try clear c2
            try clear p2
            try clear c3
            try clear c3b0
            try clear c4
            try clear c5
            try clear c8
            try clear c16
            try clear c21
            try clear c24
            try clear c26
            try clear c27
            try clear c28
            try clear c30
            try clear c30b0
            try clear c31
            try clear c32
            try clear c33
            try clear c34
            try clear c35
            try clear c36
            try clear c37
            try clear c40
            try clear c40b0
            try clear c43
            try clear c43b0
            try clear c43b1
            try clear c53
            try clear p2
            obtain ⟨kq, x87_45, rfl, HA, HJ45, HO_7, HB⟩ := hcut
            have hl7_45 := (Kd.R_reads' HO_7.out).1
            rw [hl7_45] at HO_7
            (try simp only [hl7_45])
            cases kq with
            | zero => exact absurd HA.out (by simp [laws_FnExactNormals.j2])
            | succ kj45 =>
             have H := HA.out
             clear HA
             simp only [laws_FnExactNormals.j2] at H
             by_cases c58 : x87_45 = true
             ·subst c58
              have H1 : (some false) = some r := by rw [if_pos rfl] at H; exact H
              clear H
              have H := H1
              clear H1
              obtain rfl := Option.some.inj H
              go_wp2
              go_ret
              exact ⟨by first | rfl | (simp [errW_none, errW_some] <;> rfl) | (simp [*, errW_none, errW_some] <;> rfl), by repeat (first | (with_reducible first | exact HB.out | apply below_alloc | apply pw_below_drewN | apply below_drew1) | exact HB.out)⟩
             ·replace c58 := Bool.eq_false_iff.mpr c58
              subst c58
              have H1 : ((laws_heldInt64S.f kj45 t191 1).bind fun t201 => (if t201 < 0 then (some false) else (if t201 = t190 then (some true) else (some false)))) = some r := by rw [if_neg (show ¬ (false = true) by decide)] at H; exact H
              clear H
              have H := H1
              clear H1
              replace H := Option.bind_eq_some_iff.mp H
              obtain ⟨t201, A590, H⟩ := H
              replace H : (if t201 < 0 then (some false) else (if t201 = t190 then (some true) else (some false))) = some r := H
              have A59 := Aside0.mk A590
              clear A590
              by_cases c60 : t201 < 0
              ·rw [if_pos c60] at H
               have c60b0 : decide (t201 < 0) = true := decide_eq_true c60
               clear c60
               obtain rfl := Option.some.inj H
               go_wp2_with (first | ((with_reducible refine gate_callee (f := 28) rfl ?_); refine goesL_ (some 90) rfl rfl Try.func28 (by kernel_rfl) rfl #[.slice Ao47 t191.length co47, .int .i64 1] rfl (by (try simp only [List.map_toArray, List.map_cons, List.map_nil]); first | done | rfl | (simp only [List.length_drop, List.length_take]; rfl)) ?_; (with_reducible refine (laws_heldInt64S.calls kj45 _ _ t191 1 t201 _ ?side1 ?side2 A59.out).mono ?_); (case side1 => repeat (first | exact (Kd.R_reads' HO_7.out).2.2 | (with_reducible refine Kd.C_alloc ?_ _) | (with_reducible refine Kd.C_drewN ?_ _) | (with_reducible refine Kd.C_drew ?_))); (case side2 => exact (Kd.R_reads' HO_7.out).2.1); rintro e w' ⟨rfl, ⟨nd, rfl⟩⟩; refine ⟨_, rfl, ?_⟩))
               go_ret
               exact ⟨by first | rfl | (simp [errW_none, errW_some] <;> rfl) | (simp [*, errW_none, errW_some] <;> rfl), by repeat (first | (with_reducible first | exact HB.out | apply below_alloc | apply pw_below_drewN | apply below_drew1) | exact HB.out)⟩
              ·rw [if_neg c60] at H
               have c60b0 : decide (t201 < 0) = false := decide_eq_false c60
               clear c60
               by_cases c61 : t201 = t190
               ·rw [if_pos c61] at H
                have c61b0 : (t201 == t190) = true := beq_iff_eq.mpr c61
                have c61b1 : (t201 != t190) = false := bne_eq_false_iff_eq.mpr c61
                clear c61
                obtain rfl := Option.some.inj H
                go_wp2_with (first | ((with_reducible refine gate_callee (f := 28) rfl ?_); refine goesL_ (some 90) rfl rfl Try.func28 (by kernel_rfl) rfl #[.slice Ao47 t191.length co47, .int .i64 1] rfl (by (try simp only [List.map_toArray, List.map_cons, List.map_nil]); first | done | rfl | (simp only [List.length_drop, List.length_take]; rfl)) ?_; (with_reducible refine (laws_heldInt64S.calls kj45 _ _ t191 1 t201 _ ?side1 ?side2 A59.out).mono ?_); (case side1 => repeat (first | exact (Kd.R_reads' HO_7.out).2.2 | (with_reducible refine Kd.C_alloc ?_ _) | (with_reducible refine Kd.C_drewN ?_ _) | (with_reducible refine Kd.C_drew ?_))); (case side2 => exact (Kd.R_reads' HO_7.out).2.1); rintro e w' ⟨rfl, ⟨nd, rfl⟩⟩; refine ⟨_, rfl, ?_⟩))
                go_ret
                exact ⟨by first | rfl | (simp [errW_none, errW_some] <;> rfl) | (simp [*, errW_none, errW_some] <;> rfl), by repeat (first | (with_reducible first | exact HB.out | apply below_alloc | apply pw_below_drewN | apply below_drew1) | exact HB.out)⟩
               ·rw [if_neg c61] at H
                have c61b0 : (t201 == t190) = false := beq_eq_false_iff_ne.mpr c61
                have c61b1 : (t201 != t190) = true := bne_iff_ne.mpr c61
                obtain rfl := Option.some.inj H
                go_wp2_with (first | ((with_reducible refine gate_callee (f := 28) rfl ?_); refine goesL_ (some 90) rfl rfl Try.func28 (by kernel_rfl) rfl #[.slice Ao47 t191.length co47, .int .i64 1] rfl (by (try simp only [List.map_toArray, List.map_cons, List.map_nil]); first | done | rfl | (simp only [List.length_drop, List.length_take]; rfl)) ?_; (with_reducible refine (laws_heldInt64S.calls kj45 _ _ t191 1 t201 _ ?side1 ?side2 A59.out).mono ?_); (case side1 => repeat (first | exact (Kd.R_reads' HO_7.out).2.2 | (with_reducible refine Kd.C_alloc ?_ _) | (with_reducible refine Kd.C_drewN ?_ _) | (with_reducible refine Kd.C_drew ?_))); (case side2 => exact (Kd.R_reads' HO_7.out).2.1); rintro e w' ⟨rfl, ⟨nd, rfl⟩⟩; refine ⟨_, rfl, ?_⟩))
                go_ret
                exact ⟨by first | rfl | (simp [errW_none, errW_some] <;> rfl) | (simp [*, errW_none, errW_some] <;> rfl), by repeat (first | (with_reducible first | exact HB.out | apply below_alloc | apply pw_below_drewN | apply below_drew1) | exact HB.out)⟩
          ·rw [if_neg c43] at H
           have c43b0 : (t192 == t190) = false := beq_eq_false_iff_ne.mpr c43
           have c43b1 : (t192 != t190) = true := bne_iff_ne.mpr c43
           obtain rfl := Option.some.inj H
           obtain ⟨Ao62, co62, eo62⟩ := Kd.R_slice HO_7.out
           subst eo62
           go_wp2_with (first | ((with_reducible refine gate_callee (f := 27) rfl ?_); refine goesL_ (some 64) rfl rfl Try.func27 (by kernel_rfl) rfl #[.slice Ao62 t178.length co62, .int .i64 1] rfl (by (try simp only [List.map_toArray, List.map_cons, List.map_nil]); first | done | rfl | (simp only [List.length_drop, List.length_take]; rfl)) ?_; (with_reducible refine (laws_markInt64S.calls kj25 (fun k_ => some k_ = (.slice Ao62 t178.length co62 : Value).ownBlock) (.slice Ao62 t178.length co62) t178 1 t190 t191 w _ ?side1 ?side2 A38.out).mono ?_); (case side1 => repeat (first | (with_reducible first | exact HB.out | apply below_alloc | apply pw_below_drewN | apply below_drew1) | exact HB.out)); (case side2 => exact Kd.R_tight rfl HO_7.out); rintro e w63 ⟨rfl, hy0, hb, hkp⟩; refine ⟨_, rfl, ?_⟩; have n0_ := Aside0.mk (Kd.R_mono (ok' := fun k_ => some k_ ≠ (.slice Ao62 t178.length co62 : Value).ownBlock) (Kd.R_keptB (HO_4.out) hkp (fun k_ hk_ hs_ => (hk_) hs_)) (fun k_ hk_ => hk_.1)); have n1_ := Aside0.mk (Kd.R_reok rfl hy0 (fun k_ e_ => HO_7.out.1 k_ e_)); have n2_ := Aside0.mk (hb); clear HO_4; clear HO_7; clear HB; have HO_4 := n0_; have HO_7 := n1_; have HB := n2_; clear n0_ n1_ n2_; (try clear hb); (try clear hkp); (try clear hy0)) | ((with_reducible refine gate_callee (f := 28) rfl ?_); refine goesL_ (some 67) rfl rfl Try.func28 (by kernel_rfl) rfl #[.slice Ao62 t191.length co62, .int .i64 1] rfl (by (try simp only [List.map_toArray, List.map_cons, List.map_nil]); first | done | (rw [show t191.length = t178.length from (Kd.R_reads' HO_7.out).1.symm] <;> rfl) | rfl | (simp only [List.length_drop, List.length_take]; rfl)) ?_; (with_reducible refine (laws_heldInt64S.calls kj25 _ _ t191 1 t192 _ ?side1 ?side2 A39.out).mono ?_); (case side1 => repeat (first | exact (Kd.R_reads' HO_7.out).2.2 | (with_reducible refine Kd.C_alloc ?_ _) | (with_reducible refine Kd.C_drewN ?_ _) | (with_reducible refine Kd.C_drew ?_))); (case side2 => rw [show t191.length = t178.length from (Kd.R_reads' HO_7.out).1.symm]; exact (Kd.R_reads' HO_7.out).2.1); rintro e w' ⟨rfl, ⟨nd, rfl⟩⟩; refine ⟨_, rfl, ?_⟩))
           go_ret
           exact ⟨by first | rfl | (simp [errW_none, errW_some] <;> rfl) | (simp [*, errW_none, errW_some] <;> rfl), by repeat (first | (with_reducible first | exact HB.out | apply below_alloc | apply pw_below_drewN | apply below_drew1) | exact HB.out)⟩
     ·replace c24 := Bool.eq_false_iff.mpr c24
      subst c24
      have H1 : (some false) = some r := by rw [if_neg (show ¬ (false = true) by decide)] at H; exact H
      clear H
      have H := H1
      clear H1
      obtain rfl := Option.some.inj H
      go_wp2_with (first | ((with_reducible refine gate_callee (f := 33) rfl ?_); refine goesL_ (some 43) rfl rfl Try.func33 (by kernel_rfl) rfl #[.slice A0 l0.length c0] rfl (by (try simp only [List.map_toArray, List.map_cons, List.map_nil]); first | done | rfl | (simp only [List.length_drop, List.length_take]; rfl)) ?_; (with_reducible refine (laws_toInt64SS.calls kj7 _ _ l0 t183 _ ?side1 ?side2 A22.out).mono ?_); (case side1 => repeat (first | exact (Kd.C_below HR0.out HB.out) | (with_reducible refine Kd.C_alloc ?_ _) | (with_reducible refine Kd.C_drewN ?_ _) | (with_reducible refine Kd.C_drew ?_))); (case side2 => exact HC0.out); rintro e w64 ⟨v184, rfl, ho0, hb⟩; refine ⟨_, rfl, ?_⟩; have n0_ := Aside0.mk (Kd.R_below (by (with_reducible repeat (first | apply Kd.R_alloc | apply Kd.R_drewN | apply Kd.R_drew)); exact HO_4.out) hb); have n1_ := Aside0.mk (Kd.S_elder' (by (with_reducible repeat (first | apply Kd.S_alloc | apply Kd.S_drewN | apply Kd.S_drew)); exact HO_6.out) (Kd.S_base ho0) hb); have n2_ := Aside0.mk (Kd.R_below (by (with_reducible repeat (first | apply Kd.R_alloc | apply Kd.R_drewN | apply Kd.R_drew)); exact HO_7.out) hb); have n3_ := Aside0.mk (Kd.S_lower (Kd.S_new' (Kd.S_new' (Kd.S_new' ho0 (Kd.R_lt (by (with_reducible repeat (first | apply Kd.R_alloc | apply Kd.R_drewN | apply Kd.R_drew)); exact HO_4.out))) (Kd.S_lt (by (with_reducible repeat (first | apply Kd.S_alloc | apply Kd.S_drewN | apply Kd.S_drew)); exact HO_6.out))) (Kd.R_lt (by (with_reducible repeat (first | apply Kd.R_alloc | apply Kd.R_drewN | apply Kd.R_drew)); exact HO_7.out))) (below_size (by repeat (first | (with_reducible first | exact HB.out | apply below_alloc | apply pw_below_drewN | apply below_drew1) | exact HB.out)))); have n4_ := Aside0.mk (below_step (by repeat (first | (with_reducible first | exact HB.out | apply below_alloc | apply pw_below_drewN | apply below_drew1) | exact HB.out)) hb); clear HO_4; clear HO_6; clear HO_7; clear HB; have HO_4 := n0_; have HO_6 := n1_; have HO_7 := n2_; have HO185 := n3_; have HB := n4_; clear n0_ n1_ n2_ n3_ n4_; (try clear hb); (try clear hb2); (try clear hk); (try clear hi); (try clear ho0); obtain ⟨Ao65, co65, eo65⟩ := Kd.S_slice HO185.out; subst eo65) | ((with_reducible refine gate_callee (f := 35) rfl ?_); refine goesL_ (some 44) rfl rfl Try.func35 (by kernel_rfl) rfl #[.slice Ao13 t175.length co13, .slice Ao65 t183.length co65] rfl (by (try simp only [List.map_toArray, List.map_cons, List.map_nil]); first | done | rfl | (simp only [List.length_drop, List.length_take]; rfl)) ?_; (with_reducible refine (laws_eqInt64SS.calls kj7 _ _ t175 _ _ t183 false _ ?side1 ?side2 ?side3 ?side4 A23.out).mono ?_); (case side1 => repeat (first | exact (Kd.S_reads' HO_6.out).2.2 | (with_reducible refine Kd.C_alloc ?_ _) | (with_reducible refine Kd.C_drewN ?_ _) | (with_reducible refine Kd.C_drew ?_))); (case side2 => exact (Kd.S_reads' HO_6.out).2.1); (case side3 => repeat (first | exact (Kd.S_reads' HO185.out).2.2 | (with_reducible refine Kd.C_alloc ?_ _) | (with_reducible refine Kd.C_drewN ?_ _) | (with_reducible refine Kd.C_drew ?_))); (case side4 => exact (Kd.S_reads' HO185.out).2.1); rintro e w' ⟨rfl, ⟨nd, rfl⟩⟩; refine ⟨_, rfl, ?_⟩))
      go_ret
      exact ⟨by first | rfl | (simp [errW_none, errW_some] <;> rfl) | (simp [*, errW_none, errW_some] <;> rfl), by repeat (first | (with_reducible first | exact HB.out | apply below_alloc | apply pw_below_drewN | apply below_drew1) | exact HB.out)⟩

/-- THE ONE PURE STATEMENT of laws_FnExactNormals: yours. -/
def laws_FnExactNormals.Pure : Prop := ∀ (l0 : List (List Int)), l0.length ≤ 9223372036854775807 → (∀ y1 ∈ l0, y1.length ≤ 9223372036854775807) → ∃ k, laws_FnExactNormals.f k l0 = some true

end Go.Proofs.Yteobnbichpadjab.Q
