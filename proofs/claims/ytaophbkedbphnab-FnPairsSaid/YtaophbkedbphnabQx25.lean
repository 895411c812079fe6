/- Plain Lean functions with the same answers as the Go functions of this seat, and a proof for each that the Go code comes to just these answers; no condition. Written by a program of this session (the kit's printer, turned). -/
import Derived.Test.YtaophbkedbphnabQx0
import Derived.Test.YtaophbkedbphnabQx1
import Derived.Test.YtaophbkedbphnabQx14
import Derived.Test.YtaophbkedbphnabQx15
import Derived.Test.YtaophbkedbphnabQx16
import Derived.Test.YtaophbkedbphnabQx17
import Derived.Test.YtaophbkedbphnabQx18
import Derived.Test.YtaophbkedbphnabQx20
import Derived.Test.YtaophbkedbphnabQx22
import Derived.Test.YtaophbkedbphnabQx23
import Derived.Test.YtaophbkedbphnabQx24
namespace Go.Proofs.Ytaophbkedbphnab.Q
open Go.RowKit Go.Proofs.YtaophbkedbphnabW.PrintWords Go.Proofs.YtaophbkedbphnabW.PrintLast Go.Proofs.YtaophbkedbphnabW.PrintMore Go.Proofs.YtaophbkedbphnabW.PrintFlt
attribute [local go_sem] cmp_lss cmp_leq cmp_gtr cmp_geq cmp_eql cmp_neq flt_l flt_r fgt_l fgt_r feq_l feq_r fne_l fne_r ord_lt ord_gt ord_eq ord_ne conv_int foi_fold run_store_flt
attribute [local go_sem] max2_int min2_int max_two min_two max_three min_three max_four min_four   -- for this text's walks alone
set_option linter.unusedVariables false
set_option linter.unusedSimpArgs false

/-! ### laws_FnPairs: function 4 -/
mutual
def laws_FnPairs.j0 : Nat → Bool → Nat → Nat → Nat → Nat → Nat → Nat → Nat → Nat → Nat → Nat → Nat → Nat → Nat → Nat → Option (Bool)
 | 0, _, _, _, _, _, _, _, _, _, _, _, _, _, _, _ => none
 | k + 1, x65, x261000, x261001, x262000, x262001, x267000, x267001, x272000, x272001, x277000, x277001, x282000, x282001, x287000, x287001 => if x65 = true then (some false) else ((spec_Same.f k x267000 x272000).bind fun t296 => (if t296 = true then ((spec_Same.f k x267001 x272001).bind fun t297 => (if t297 = true then ((spec_Same.f k x277000 x282000).bind fun t298 => (if t298 = true then ((spec_Same.f k x277001 x282001).bind fun t299 => (laws_FnPairs.j1 k (!t299) x261000 x261001 x262000 x262001 x267000 x267001 x287000 x287001)) else (laws_FnPairs.j1 k true x261000 x261001 x262000 x262001 x267000 x267001 x287000 x287001))) else (laws_FnPairs.j1 k true x261000 x261001 x262000 x262001 x267000 x267001 x287000 x287001))) else (laws_FnPairs.j1 k true x261000 x261001 x262000 x262001 x267000 x267001 x287000 x287001)))
def laws_FnPairs.j1 : Nat → Bool → Nat → Nat → Nat → Nat → Nat → Nat → Nat → Nat → Option (Bool)
 | 0, _, _, _, _, _, _, _, _, _ => none
 | k + 1, x95, x261000, x261001, x262000, x262001, x267000, x267001, x287000, x287001 => if x95 = true then (some false) else ((laws_known.f x261000 x261001).bind fun t300 => (if t300 = true then ((laws_known.f x262000 x262001).bind fun t301 => (if t301 = true then ((laws_known.f x287000 x287001).bind fun t302 => (laws_FnPairs.j2 k (!t302) x261000 x261001 x262000 x262001 x267000 x267001)) else (laws_FnPairs.j2 k true x261000 x261001 x262000 x262001 x267000 x267001))) else (laws_FnPairs.j2 k true x261000 x261001 x262000 x262001 x267000 x267001)))
def laws_FnPairs.j2 : Nat → Bool → Nat → Nat → Nat → Nat → Nat → Nat → Option (Bool)
 | 0, _, _, _, _, _, _, _ => none
 | k + 1, x108, x261000, x261001, x262000, x262001, x267000, x267001 => if x108 = true then (some true) else ((impl_ConjPair.f x267000 x267001).bind fun bt303 => ((impl_ConjPair.f x261000 x261001).bind fun bt307 => ((impl_ConjPair.f x262000 x262001).bind fun bt311 => ((impl_MulPair.f bt307.1 bt307.2 bt311.1 bt311.2).bind fun bt315 => ((laws_equal.f bt303.1 bt303.2 bt315.1 bt315.2).bind fun t319 => (some t319))))))
end
def laws_FnPairs.f (k : Nat) (l0 : List Int) : Option (Bool) := (laws_big.f l0).bind fun t251 => (if t251 = true then (some true) else ((spec_DrawMulPair.f k l0).bind fun bt252 => ((impl_MulPair.f bt252.1 bt252.2.1 bt252.2.2.1 bt252.2.2.2).bind fun bt262 => ((impl_MulPair.f bt252.2.2.1 bt252.2.2.2 bt252.1 bt252.2.1).bind fun bt267 => ((impl_AddPair.f bt252.1 bt252.2.1 bt252.2.2.1 bt252.2.2.2).bind fun bt272 => ((impl_AddPair.f bt252.2.2.1 bt252.2.2.2 bt252.1 bt252.2.1).bind fun bt277 => ((spec_MulPair.f bt252.1 bt252.2.1 bt252.2.2.1 bt252.2.2.2).bind fun bt282 => ((spec_AddPair.f bt252.1 bt252.2.1 bt252.2.2.1 bt252.2.2.2).bind fun bt287 => ((spec_Same.f k bt262.1 bt282.1).bind fun t292 => (if t292 = true then ((spec_Same.f k bt262.2 bt282.2).bind fun t293 => (if t293 = true then ((spec_Same.f k bt272.1 bt287.1).bind fun t294 => (if t294 = true then ((spec_Same.f k bt272.2 bt287.2).bind fun t295 => (laws_FnPairs.j0 k (!t295) bt252.1 bt252.2.1 bt252.2.2.1 bt252.2.2.2 bt262.1 bt262.2 bt267.1 bt267.2 bt272.1 bt272.2 bt277.1 bt277.2 bt282.1 bt282.2)) else (laws_FnPairs.j0 k true bt252.1 bt252.2.1 bt252.2.2.1 bt252.2.2.2 bt262.1 bt262.2 bt267.1 bt267.2 bt272.1 bt272.2 bt277.1 bt277.2 bt282.1 bt282.2))) else (laws_FnPairs.j0 k true bt252.1 bt252.2.1 bt252.2.2.1 bt252.2.2.2 bt262.1 bt262.2 bt267.1 bt267.2 bt272.1 bt272.2 bt277.1 bt277.2 bt282.1 bt282.2))) else (laws_FnPairs.j0 k true bt252.1 bt252.2.1 bt252.2.2.1 bt252.2.2.2 bt262.1 bt262.2 bt267.1 bt267.2 bt272.1 bt272.2 bt277.1 bt277.2 bt282.1 bt282.2)))))))))))
theorem laws_FnPairs.mono_l : ∀ k, (∀ y0 y1 y2 y3 y4 y5 y6 y7 y8 y9 y10 y11 y12 y13 y14, LeO (laws_FnPairs.j0 k y0 y1 y2 y3 y4 y5 y6 y7 y8 y9 y10 y11 y12 y13 y14) (laws_FnPairs.j0 (k + 1) y0 y1 y2 y3 y4 y5 y6 y7 y8 y9 y10 y11 y12 y13 y14)) ∧ (∀ y0 y1 y2 y3 y4 y5 y6 y7 y8, LeO (laws_FnPairs.j1 k y0 y1 y2 y3 y4 y5 y6 y7 y8) (laws_FnPairs.j1 (k + 1) y0 y1 y2 y3 y4 y5 y6 y7 y8)) ∧ (∀ y0 y1 y2 y3 y4 y5 y6, LeO (laws_FnPairs.j2 k y0 y1 y2 y3 y4 y5 y6) (laws_FnPairs.j2 (k + 1) y0 y1 y2 y3 y4 y5 y6))
 | 0 => ⟨fun _ _ _ _ _ _ _ _ _ _ _ _ _ _ _ r h => by simp [laws_FnPairs.j0] at h, fun _ _ _ _ _ _ _ _ _ r h => by simp [laws_FnPairs.j1] at h, fun _ _ _ _ _ _ _ r h => by simp [laws_FnPairs.j2] at h⟩
 | k + 1 => by
  obtain ⟨ih0, ih1, ih2⟩ := laws_FnPairs.mono_l k
  refine ⟨?_, ?_, ?_⟩
  ·intro y0 y1 y2 y3 y4 y5 y6 y7 y8 y9 y10 y11 y12 y13 y14
   unfold laws_FnPairs.j0
   repeat' first
   | (with_reducible exact ih0 _ _ _ _ _ _ _ _ _ _ _ _ _ _ _)
   | (with_reducible exact ih1 _ _ _ _ _ _ _ _ _)
   | (with_reducible exact ih2 _ _ _ _ _ _ _)
   | (with_reducible exact spec_DrawMulPair.mono _ _)
   | (with_reducible exact spec_Same.mono _ _ _)
   | (with_reducible exact LeO.refl _)
   | (with_reducible exact LeO.none _)
   | (with_reducible refine LeO.ite ?_ ?_)
   | (with_reducible refine LeO.bind ?_ (fun _ => ?_))
   | exact ih0 _ _ _ _ _ _ _ _ _ _ _ _ _ _ _
   | exact ih1 _ _ _ _ _ _ _ _ _
   | exact ih2 _ _ _ _ _ _ _
   | exact spec_DrawMulPair.mono _ _
   | exact spec_Same.mono _ _ _
   | exact LeO.none _
   | refine LeO.ite ?_ ?_
   | refine LeO.bind ?_ (fun _ => ?_)
  ·intro y0 y1 y2 y3 y4 y5 y6 y7 y8
   unfold laws_FnPairs.j1
   repeat' first
   | (with_reducible exact ih0 _ _ _ _ _ _ _ _ _ _ _ _ _ _ _)
   | (with_reducible exact ih1 _ _ _ _ _ _ _ _ _)
   | (with_reducible exact ih2 _ _ _ _ _ _ _)
   | (with_reducible exact spec_DrawMulPair.mono _ _)
   | (with_reducible exact spec_Same.mono _ _ _)
   | (with_reducible exact LeO.refl _)
   | (with_reducible exact LeO.none _)
   | (with_reducible refine LeO.ite ?_ ?_)
   | (with_reducible refine LeO.bind ?_ (fun _ => ?_))
   | exact ih0 _ _ _ _ _ _ _ _ _ _ _ _ _ _ _
   | exact ih1 _ _ _ _ _ _ _ _ _
   | exact ih2 _ _ _ _ _ _ _
   | exact spec_DrawMulPair.mono _ _
   | exact spec_Same.mono _ _ _
   | exact LeO.none _
   | refine LeO.ite ?_ ?_
   | refine LeO.bind ?_ (fun _ => ?_)
  ·intro y0 y1 y2 y3 y4 y5 y6
   unfold laws_FnPairs.j2
   repeat' first
   | (with_reducible exact ih0 _ _ _ _ _ _ _ _ _ _ _ _ _ _ _)
   | (with_reducible exact ih1 _ _ _ _ _ _ _ _ _)
   | (with_reducible exact ih2 _ _ _ _ _ _ _)
   | (with_reducible exact spec_DrawMulPair.mono _ _)
   | (with_reducible exact spec_Same.mono _ _ _)
   | (with_reducible exact LeO.refl _)
   | (with_reducible exact LeO.none _)
   | (with_reducible refine LeO.ite ?_ ?_)
   | (with_reducible refine LeO.bind ?_ (fun _ => ?_))
   | exact ih0 _ _ _ _ _ _ _ _ _ _ _ _ _ _ _
   | exact ih1 _ _ _ _ _ _ _ _ _
   | exact ih2 _ _ _ _ _ _ _
   | exact spec_DrawMulPair.mono _ _
   | exact spec_Same.mono _ _ _
   | exact LeO.none _
   | refine LeO.ite ?_ ?_
   | refine LeO.bind ?_ (fun _ => ?_)
theorem laws_FnPairs.mono : ∀ a0 k, LeO (laws_FnPairs.f k a0) (laws_FnPairs.f (k + 1) a0) := by
 intro a0 k
 obtain ⟨ih0, ih1, ih2⟩ := laws_FnPairs.mono_l k
 unfold laws_FnPairs.f
 repeat' first
   | (with_reducible exact ih0 _ _ _ _ _ _ _ _ _ _ _ _ _ _ _)
   | (with_reducible exact ih1 _ _ _ _ _ _ _ _ _)
   | (with_reducible exact ih2 _ _ _ _ _ _ _)
   | (with_reducible exact spec_DrawMulPair.mono _ _)
   | (with_reducible exact spec_Same.mono _ _ _)
   | (with_reducible exact LeO.refl _)
   | (with_reducible exact LeO.none _)
   | (with_reducible refine LeO.ite ?_ ?_)
   | (with_reducible refine LeO.bind ?_ (fun _ => ?_))
   | exact ih0 _ _ _ _ _ _ _ _ _ _ _ _ _ _ _
   | exact ih1 _ _ _ _ _ _ _ _ _
   | exact ih2 _ _ _ _ _ _ _
   | exact spec_DrawMulPair.mono _ _
   | exact spec_Same.mono _ _ _
   | exact LeO.none _
   | refine LeO.ite ?_ ?_
   | refine LeO.bind ?_ (fun _ => ?_)
def laws_FnPairs.T16 : Bool × List (List Nat × List Nat) := (true, [([], []), ([0], [0]), ([], []), ([2, 1], [2]), ([], []), ([4, 3], [4]), ([3, 5, 5], [3, 5]), ([1, 6, 6], [1, 6]), ([7, 7, 0, 1, 2, 3, 4, 5, 6, 7], [7])])
def laws_FnPairs.B16 : List Nat := [0, 1, 0, 7, 0, 31, 63, 127, 255]
theorem laws_FnPairs.tab16 : rtab .any (opsOf Try.f4 16) = laws_FnPairs.T16 := by kernel_rfl
theorem laws_FnPairs.bits16 : waitsOk laws_FnPairs.T16.2 laws_FnPairs.B16 = true := by kernel_rfl
set_option maxHeartbeats 8000000 in
set_option maxRecDepth 100000 in
theorem laws_FnPairs.calls (k : Nat) (A0 : Option Addr) (c0 : Nat) (l0 : List Int) (r : Bool) (w : World) (hr0 : Kd.C (Kd.int .u8) w A0 l0.length l0) (hc0 : l0.length ≤ c0) (h : laws_FnPairs.f k l0 = some r) :
  Calls Try.prog 4 #[.slice A0 l0.length c0] w fun e w' => e = .returned (.bool r) ∧ Below w.heap.size w w' := by
 have hu36 := Try.underlying36
 have HR0 := Aside0.mk hr0
 have HC0 := Aside0.mk hc0
 clear hr0 hc0
 have HB := Aside0.mk (Below.refl w.heap.size w)
 have H : ((laws_big.f l0).bind fun t251 => (if t251 = true then (some true) else ((spec_DrawMulPair.f k l0).bind fun bt252 => ((impl_MulPair.f bt252.1 bt252.2.1 bt252.2.2.1 bt252.2.2.2).bind fun bt262 => ((impl_MulPair.f bt252.2.2.1 bt252.2.2.2 bt252.1 bt252.2.1).bind fun bt267 => ((impl_AddPair.f bt252.1 bt252.2.1 bt252.2.2.1 bt252.2.2.2).bind fun bt272 => ((impl_AddPair.f bt252.2.2.1 bt252.2.2.2 bt252.1 bt252.2.1).bind fun bt277 => ((spec_MulPair.f bt252.1 bt252.2.1 bt252.2.2.1 bt252.2.2.2).bind fun bt282 => ((spec_AddPair.f bt252.1 bt252.2.1 bt252.2.2.1 bt252.2.2.2).bind fun bt287 => ((spec_Same.f k bt262.1 bt282.1).bind fun t292 => (if t292 = true then ((spec_Same.f k bt262.2 bt282.2).bind fun t293 => (if t293 = true then ((spec_Same.f k bt272.1 bt287.1).bind fun t294 => (if t294 = true then ((spec_Same.f k bt272.2 bt287.2).bind fun t295 => (laws_FnPairs.j0 k (!t295) bt252.1 bt252.2.1 bt252.2.2.1 bt252.2.2.2 bt262.1 bt262.2 bt267.1 bt267.2 bt272.1 bt272.2 bt277.1 bt277.2 bt282.1 bt282.2)) else (laws_FnPairs.j0 k true bt252.1 bt252.2.1 bt252.2.2.1 bt252.2.2.2 bt262.1 bt262.2 bt267.1 bt267.2 bt272.1 bt272.2 bt277.1 bt277.2 bt282.1 bt282.2))) else (laws_FnPairs.j0 k true bt252.1 bt252.2.1 bt252.2.2.1 bt252.2.2.2 bt262.1 bt262.2 bt267.1 bt267.2 bt272.1 bt272.2 bt277.1 bt277.2 bt282.1 bt282.2))) else (laws_FnPairs.j0 k true bt252.1 bt252.2.1 bt252.2.2.1 bt252.2.2.2 bt262.1 bt262.2 bt267.1 bt267.2 bt272.1 bt272.2 bt277.1 bt277.2 bt282.1 bt282.2)))))))))))) = some r := h
 clear h
 replace H := Option.bind_eq_some_iff.mp H
 obtain ⟨t251, A20, H⟩ := H
 replace H : (if t251 = true then (some true) else ((spec_DrawMulPair.f k l0).bind fun bt252 => ((impl_MulPair.f bt252.1 bt252.2.1 bt252.2.2.1 bt252.2.2.2).bind fun bt262 => ((impl_MulPair.f bt252.2.2.1 bt252.2.2.2 bt252.1 bt252.2.1).bind fun bt267 => ((impl_AddPair.f bt252.1 bt252.2.1 bt252.2.2.1 bt252.2.2.2).bind fun bt272 => ((impl_AddPair.f bt252.2.2.1 bt252.2.2.2 bt252.1 bt252.2.1).bind fun bt277 => ((spec_MulPair.f bt252.1 bt252.2.1 bt252.2.2.1 bt252.2.2.2).bind fun bt282 => ((spec_AddPair.f bt252.1 bt252.2.1 bt252.2.2.1 bt252.2.2.2).bind fun bt287 => ((spec_Same.f k bt262.1 bt282.1).bind fun t292 => (if t292 = true then ((spec_Same.f k bt262.2 bt282.2).bind fun t293 => (if t293 = true then ((spec_Same.f k bt272.1 bt287.1).bind fun t294 => (if t294 = true then ((spec_Same.f k bt272.2 bt287.2).bind fun t295 => (laws_FnPairs.j0 k (!t295) bt252.1 bt252.2.1 bt252.2.2.1 bt252.2.2.2 bt262.1 bt262.2 bt267.1 bt267.2 bt272.1 bt272.2 bt277.1 bt277.2 bt282.1 bt282.2)) else (laws_FnPairs.j0 k true bt252.1 bt252.2.1 bt252.2.2.1 bt252.2.2.2 bt262.1 bt262.2 bt267.1 bt267.2 bt272.1 bt272.2 bt277.1 bt277.2 bt282.1 bt282.2))) else (laws_FnPairs.j0 k true bt252.1 bt252.2.1 bt252.2.2.1 bt252.2.2.2 bt262.1 bt262.2 bt267.1 bt267.2 bt272.1 bt272.2 bt277.1 bt277.2 bt282.1 bt282.2))) else (laws_FnPairs.j0 k true bt252.1 bt252.2.1 bt252.2.2.1 bt252.2.2.2 bt262.1 bt262.2 bt267.1 bt267.2 bt272.1 bt272.2 bt277.1 bt277.2 bt282.1 bt282.2))))))))))) = some r := H
 have A2 := Aside0.mk A20
 clear A20
 by_cases c3 : t251 = true
 ·subst c3
  have H1 : (some true) = some r := by rw [if_pos rfl] at H; exact H
  clear H
  have H := H1
  clear H1
  obtain rfl := Option.some.inj H
  go_enter Try.func4, Try.ntmps4
  go_wp2_with (first | ((with_reducible refine gate_callee (f := 15) rfl ?_); refine goesL_ (some 12) rfl rfl Try.func15 (by kernel_rfl) rfl #[.slice A0 l0.length c0] rfl (by (try simp only [List.map_toArray, List.map_cons, List.map_nil]); first | done | rfl | (simp only [List.length_drop, List.length_take]; rfl)) ?_; (with_reducible refine (laws_big.calls _ _ l0 true _ ?side1 ?side2 A2.out).mono ?_); (case side1 => repeat (first | exact HR0.out | (with_reducible refine Kd.C_alloc ?_ _) | (with_reducible refine Kd.C_drewN ?_ _) | (with_reducible refine Kd.C_drew ?_))); (case side2 => exact HC0.out); rintro e w' ⟨rfl, ⟨nd, rfl⟩⟩; refine ⟨_, rfl, ?_⟩))
  go_ret
  exact ⟨by first | rfl | (simp [errW_none, errW_some] <;> rfl) | (simp [*, errW_none, errW_some] <;> rfl), by repeat (first | (with_reducible first | exact HB.out | apply below_alloc | apply pw_below_drewN | apply below_drew1) | exact HB.out)⟩
 ·replace c3 := Bool.eq_false_iff.mpr c3
  subst c3
  have H1 : ((spec_DrawMulPair.f k l0).bind fun bt252 => ((impl_MulPair.f bt252.1 bt252.2.1 bt252.2.2.1 bt252.2.2.2).bind fun bt262 => ((impl_MulPair.f bt252.2.2.1 bt252.2.2.2 bt252.1 bt252.2.1).bind fun bt267 => ((impl_AddPair.f bt252.1 bt252.2.1 bt252.2.2.1 bt252.2.2.2).bind fun bt272 => ((impl_AddPair.f bt252.2.2.1 bt252.2.2.2 bt252.1 bt252.2.1).bind fun bt277 => ((spec_MulPair.f bt252.1 bt252.2.1 bt252.2.2.1 bt252.2.2.2).bind fun bt282 => ((spec_AddPair.f bt252.1 bt252.2.1 bt252.2.2.1 bt252.2.2.2).bind fun bt287 => ((spec_Same.f k bt262.1 bt282.1).bind fun t292 => (if t292 = true then ((spec_Same.f k bt262.2 bt282.2).bind fun t293 => (if t293 = true then ((spec_Same.f k bt272.1 bt287.1).bind fun t294 => (if t294 = true then ((spec_Same.f k bt272.2 bt287.2).bind fun t295 => (laws_FnPairs.j0 k (!t295) bt252.1 bt252.2.1 bt252.2.2.1 bt252.2.2.2 bt262.1 bt262.2 bt267.1 bt267.2 bt272.1 bt272.2 bt277.1 bt277.2 bt282.1 bt282.2)) else (laws_FnPairs.j0 k true bt252.1 bt252.2.1 bt252.2.2.1 bt252.2.2.2 bt262.1 bt262.2 bt267.1 bt267.2 bt272.1 bt272.2 bt277.1 bt277.2 bt282.1 bt282.2))) else (laws_FnPairs.j0 k true bt252.1 bt252.2.1 bt252.2.2.1 bt252.2.2.2 bt262.1 bt262.2 bt267.1 bt267.2 bt272.1 bt272.2 bt277.1 bt277.2 bt282.1 bt282.2))) else (laws_FnPairs.j0 k true bt252.1 bt252.2.1 bt252.2.2.1 bt252.2.2.2 bt262.1 bt262.2 bt267.1 bt267.2 bt272.1 bt272.2 bt277.1 bt277.2 bt282.1 bt282.2)))))))))) = some r := by rw [if_neg (show ¬ (false = true) by decide)] at H; exact H
  clear H
  have H := H1
  clear H1
  replace H := Option.bind_eq_some_iff.mp H
  obtain ⟨⟨t252, t254, t256, t258⟩, A40, H⟩ := H
  replace H : ((impl_MulPair.f t252 t254 t256 t258).bind fun bt262 => ((impl_MulPair.f t256 t258 t252 t254).bind fun bt267 => ((impl_AddPair.f t252 t254 t256 t258).bind fun bt272 => ((impl_AddPair.f t256 t258 t252 t254).bind fun bt277 => ((spec_MulPair.f t252 t254 t256 t258).bind fun bt282 => ((spec_AddPair.f t252 t254 t256 t258).bind fun bt287 => ((spec_Same.f k bt262.1 bt282.1).bind fun t292 => (if t292 = true then ((spec_Same.f k bt262.2 bt282.2).bind fun t293 => (if t293 = true then ((spec_Same.f k bt272.1 bt287.1).bind fun t294 => (if t294 = true then ((spec_Same.f k bt272.2 bt287.2).bind fun t295 => (laws_FnPairs.j0 k (!t295) t252 t254 t256 t258 bt262.1 bt262.2 bt267.1 bt267.2 bt272.1 bt272.2 bt277.1 bt277.2 bt282.1 bt282.2)) else (laws_FnPairs.j0 k true t252 t254 t256 t258 bt262.1 bt262.2 bt267.1 bt267.2 bt272.1 bt272.2 bt277.1 bt277.2 bt282.1 bt282.2))) else (laws_FnPairs.j0 k true t252 t254 t256 t258 bt262.1 bt262.2 bt267.1 bt267.2 bt272.1 bt272.2 bt277.1 bt277.2 bt282.1 bt282.2))) else (laws_FnPairs.j0 k true t252 t254 t256 t258 bt262.1 bt262.2 bt267.1 bt267.2 bt272.1 bt272.2 bt277.1 bt277.2 bt282.1 bt282.2))))))))) = some r := H
  have A4 := Aside0.mk A40
  clear A40
  replace H := Option.bind_eq_some_iff.mp H
  obtain ⟨⟨t262, t264⟩, A50, H⟩ := H
  replace H : ((impl_MulPair.f t256 t258 t252 t254).bind fun bt267 => ((impl_AddPair.f t252 t254 t256 t258).bind fun bt272 => ((impl_AddPair.f t256 t258 t252 t254).bind fun bt277 => ((spec_MulPair.f t252 t254 t256 t258).bind fun bt282 => ((spec_AddPair.f t252 t254 t256 t258).bind fun bt287 => ((spec_Same.f k t262 bt282.1).bind fun t292 => (if t292 = true then ((spec_Same.f k t264 bt282.2).bind fun t293 => (if t293 = true then ((spec_Same.f k bt272.1 bt287.1).bind fun t294 => (if t294 = true then ((spec_Same.f k bt272.2 bt287.2).bind fun t295 => (laws_FnPairs.j0 k (!t295) t252 t254 t256 t258 t262 t264 bt267.1 bt267.2 bt272.1 bt272.2 bt277.1 bt277.2 bt282.1 bt282.2)) else (laws_FnPairs.j0 k true t252 t254 t256 t258 t262 t264 bt267.1 bt267.2 bt272.1 bt272.2 bt277.1 bt277.2 bt282.1 bt282.2))) else (laws_FnPairs.j0 k true t252 t254 t256 t258 t262 t264 bt267.1 bt267.2 bt272.1 bt272.2 bt277.1 bt277.2 bt282.1 bt282.2))) else (laws_FnPairs.j0 k true t252 t254 t256 t258 t262 t264 bt267.1 bt267.2 bt272.1 bt272.2 bt277.1 bt277.2 bt282.1 bt282.2)))))))) = some r := H
  have A5 := Aside0.mk A50
  clear A50
  replace H := Option.bind_eq_some_iff.mp H
  obtain ⟨⟨t267, t269⟩, A60, H⟩ := H
  replace H : ((impl_AddPair.f t252 t254 t256 t258).bind fun bt272 => ((impl_AddPair.f t256 t258 t252 t254).bind fun bt277 => ((spec_MulPair.f t252 t254 t256 t258).bind fun bt282 => ((spec_AddPair.f t252 t254 t256 t258).bind fun bt287 => ((spec_Same.f k t262 bt282.1).bind fun t292 => (if t292 = true then ((spec_Same.f k t264 bt282.2).bind fun t293 => (if t293 = true then ((spec_Same.f k bt272.1 bt287.1).bind fun t294 => (if t294 = true then ((spec_Same.f k bt272.2 bt287.2).bind fun t295 => (laws_FnPairs.j0 k (!t295) t252 t254 t256 t258 t262 t264 t267 t269 bt272.1 bt272.2 bt277.1 bt277.2 bt282.1 bt282.2)) else (laws_FnPairs.j0 k true t252 t254 t256 t258 t262 t264 t267 t269 bt272.1 bt272.2 bt277.1 bt277.2 bt282.1 bt282.2))) else (laws_FnPairs.j0 k true t252 t254 t256 t258 t262 t264 t267 t269 bt272.1 bt272.2 bt277.1 bt277.2 bt282.1 bt282.2))) else (laws_FnPairs.j0 k true t252 t254 t256 t258 t262 t264 t267 t269 bt272.1 bt272.2 bt277.1 bt277.2 bt282.1 bt282.2))))))) = some r := H
  have A6 := Aside0.mk A60
  clear A60
  replace H := Option.bind_eq_some_iff.mp H
  obtain ⟨⟨t272, t274⟩, A70, H⟩ := H
  replace H : ((impl_AddPair.f t256 t258 t252 t254).bind fun bt277 => ((spec_MulPair.f t252 t254 t256 t258).bind fun bt282 => ((spec_AddPair.f t252 t254 t256 t258).bind fun bt287 => ((spec_Same.f k t262 bt282.1).bind fun t292 => (if t292 = true then ((spec_Same.f k t264 bt282.2).bind fun t293 => (if t293 = true then ((spec_Same.f k t272 bt287.1).bind fun t294 => (if t294 = true then ((spec_Same.f k t274 bt287.2).bind fun t295 => (laws_FnPairs.j0 k (!t295) t252 t254 t256 t258 t262 t264 t267 t269 t272 t274 bt277.1 bt277.2 bt282.1 bt282.2)) else (laws_FnPairs.j0 k true t252 t254 t256 t258 t262 t264 t267 t269 t272 t274 bt277.1 bt277.2 bt282.1 bt282.2))) else (laws_FnPairs.j0 k true t252 t254 t256 t258 t262 t264 t267 t269 t272 t274 bt277.1 bt277.2 bt282.1 bt282.2))) else (laws_FnPairs.j0 k true t252 t254 t256 t258 t262 t264 t267 t269 t272 t274 bt277.1 bt277.2 bt282.1 bt282.2)))))) = some r := H
  have A7 := Aside0.mk A70
  clear A70
  replace H := Option.bind_eq_some_iff.mp H
  obtain ⟨⟨t277, t279⟩, A80, H⟩ := H
  replace H : ((spec_MulPair.f t252 t254 t256 t258).bind fun bt282 => ((spec_AddPair.f t252 t254 t256 t258).bind fun bt287 => ((spec_Same.f k t262 bt282.1).bind fun t292 => (if t292 = true then ((spec_Same.f k t264 bt282.2).bind fun t293 => (if t293 = true then ((spec_Same.f k t272 bt287.1).bind fun t294 => (if t294 = true then ((spec_Same.f k t274 bt287.2).bind fun t295 => (laws_FnPairs.j0 k (!t295) t252 t254 t256 t258 t262 t264 t267 t269 t272 t274 t277 t279 bt282.1 bt282.2)) else (laws_FnPairs.j0 k true t252 t254 t256 t258 t262 t264 t267 t269 t272 t274 t277 t279 bt282.1 bt282.2))) else (laws_FnPairs.j0 k true t252 t254 t256 t258 t262 t264 t267 t269 t272 t274 t277 t279 bt282.1 bt282.2))) else (laws_FnPairs.j0 k true t252 t254 t256 t258 t262 t264 t267 t269 t272 t274 t277 t279 bt282.1 bt282.2))))) = some r := H
  have A8 := Aside0.mk A80
  clear A80
  replace H := Option.bind_eq_some_iff.mp H
  obtain ⟨⟨t282, t284⟩, A90, H⟩ := H
  replace H : ((spec_AddPair.f t252 t254 t256 t258).bind fun bt287 => ((spec_Same.f k t262 t282).bind fun t292 => (if t292 = true then ((spec_Same.f k t264 t284).bind fun t293 => (if t293 = true then ((spec_Same.f k t272 bt287.1).bind fun t294 => (if t294 = true then ((spec_Same.f k t274 bt287.2).bind fun t295 => (laws_FnPairs.j0 k (!t295) t252 t254 t256 t258 t262 t264 t267 t269 t272 t274 t277 t279 t282 t284)) else (laws_FnPairs.j0 k true t252 t254 t256 t258 t262 t264 t267 t269 t272 t274 t277 t279 t282 t284))) else (laws_FnPairs.j0 k true t252 t254 t256 t258 t262 t264 t267 t269 t272 t274 t277 t279 t282 t284))) else (laws_FnPairs.j0 k true t252 t254 t256 t258 t262 t264 t267 t269 t272 t274 t277 t279 t282 t284)))) = some r := H
  have A9 := Aside0.mk A90
  clear A90
  replace H := Option.bind_eq_some_iff.mp H
  obtain ⟨⟨t287, t289⟩, A100, H⟩ := H
  replace H : ((spec_Same.f k t262 t282).bind fun t292 => (if t292 = true then ((spec_Same.f k t264 t284).bind fun t293 => (if t293 = true then ((spec_Same.f k t272 t287).bind fun t294 => (if t294 = true then ((spec_Same.f k t274 t289).bind fun t295 => (laws_FnPairs.j0 k (!t295) t252 t254 t256 t258 t262 t264 t267 t269 t272 t274 t277 t279 t282 t284)) else (laws_FnPairs.j0 k true t252 t254 t256 t258 t262 t264 t267 t269 t272 t274 t277 t279 t282 t284))) else (laws_FnPairs.j0 k true t252 t254 t256 t258 t262 t264 t267 t269 t272 t274 t277 t279 t282 t284))) else (laws_FnPairs.j0 k true t252 t254 t256 t258 t262 t264 t267 t269 t272 t274 t277 t279 t282 t284))) = some r := H
  have A10 := Aside0.mk A100
  clear A100
  have HC11 := Aside0.mk H
  clear H
  go_enter Try.func4, Try.ntmps4
  go_upto_region 10 with (first | ((with_reducible refine gate_callee (f := 15) rfl ?_); refine goesL_ (some 12) rfl rfl Try.func15 (by kernel_rfl) rfl #[.slice A0 l0.length c0] rfl (by (try simp only [List.map_toArray, List.map_cons, List.map_nil]); first | done | rfl | (simp only [List.length_drop, List.length_take]; rfl)) ?_; (with_reducible refine (laws_big.calls _ _ l0 false _ ?side1 ?side2 A2.out).mono ?_); (case side1 => repeat (first | exact HR0.out | (with_reducible refine Kd.C_alloc ?_ _) | (with_reducible refine Kd.C_drewN ?_ _) | (with_reducible refine Kd.C_drew ?_))); (case side2 => exact HC0.out); rintro e w' ⟨rfl, ⟨nd, rfl⟩⟩; refine ⟨_, rfl, ?_⟩) | ((with_reducible refine gate_callee (f := 16) rfl ?_); refine goesL_ (some 15) rfl rfl Try.func16 (by kernel_rfl) rfl #[.slice A0 l0.length c0] rfl (by (try simp only [List.map_toArray, List.map_cons, List.map_nil]); first | done | rfl | (simp only [List.length_drop, List.length_take]; rfl)) ?_; (with_reducible refine (spec_DrawMulPair.calls k _ _ l0 t252 t254 t256 t258 _ ?side1 ?side2 A4.out).mono ?_); (case side1 => repeat (first | exact HR0.out | (with_reducible refine Kd.C_alloc ?_ _) | (with_reducible refine Kd.C_drewN ?_ _) | (with_reducible refine Kd.C_drew ?_))); (case side2 => exact HC0.out); rintro e w12 ⟨pr253, pr255, pr257, pr259, rfl, hb⟩; refine ⟨_, rfl, ?_⟩; have n0_ := Aside0.mk (below_step (by repeat (first | (with_reducible first | exact HB.out | apply below_alloc | apply pw_below_drewN | apply below_drew1) | exact HB.out)) hb); clear HB; have HB := n0_; clear n0_; (try clear hb); (try clear hb2); (try clear hk); (try clear hi)) | ((with_reducible refine gate_dst (N := 3) rfl ?_); refine box_event ?hg (N := 3) ?hd (cs := #[.float .f64 0, .float .f64 0]) (t := 36) ?hr ?_; (case hd => rfl); (case hg => rfl); (case hr => first | (go_simp; done) | (go_simp; rfl)); intro gb260 hg w13 hbox hb; have n0_ := Aside0.mk (below_step (by repeat (first | (with_reducible first | exact HB.out | apply below_alloc | apply pw_below_drewN | apply below_drew1) | exact HB.out)) hb); have n1_ := Aside0.mk (hbox); have n2_ := Aside0.mk ((by rw [hg]; exact (below_size (by repeat (first | (with_reducible first | exact HB.out | apply below_alloc | apply pw_below_drewN | apply below_drew1) | exact HB.out))) : w.heap.size ≤ gb260)); have n3_ := Aside0.mk ((by rw [hg]; exact (below_size (by repeat (first | (with_reducible first | exact HB.out | apply below_alloc | apply pw_below_drewN | apply below_drew1) | exact HB.out))) : w.heap.size ≤ gb260)); clear HB; have HB := n0_; have BK260 := n1_; have GW260 := n2_; have GE260 := n3_; clear n0_ n1_ n2_ n3_; clear hb hbox hg) | ((with_reducible refine gate_dst (N := 4) rfl ?_); refine box_event ?hg (N := 4) ?hd (cs := #[.float .f64 0, .float .f64 0]) (t := 36) ?hr ?_; (case hd => rfl); (case hg => rfl); (case hr => first | (go_simp; done) | (go_simp; rfl)); intro gb261 hg w14 hbox hb; have n0_ := Aside0.mk (blk_below (g := gb260) (o := .cells #[.float .f64 0, .float .f64 0] 36 (0, 0)) (by (with_reducible repeat (first | refine blk_drewN ?_ _ | refine blk_drew ?_ | refine blk_alloc ?_ _)); exact BK260.out) hb); have n1_ := Aside0.mk (below_step (by repeat (first | (with_reducible first | exact HB.out | apply below_alloc | apply pw_below_drewN | apply below_drew1 | refine below_set ?_ GE260.out) | exact HB.out)) hb); have n2_ := Aside0.mk (hbox); have n3_ := Aside0.mk ((by rw [hg]; exact (below_size (by repeat (first | (with_reducible first | exact HB.out | apply below_alloc | apply pw_below_drewN | apply below_drew1 | refine below_set ?_ GE260.out) | exact HB.out))) : w.heap.size ≤ gb261)); have n4_ := Aside0.mk ((by rw [hg]; exact (below_size (by repeat (first | (with_reducible first | exact HB.out | apply below_alloc | apply pw_below_drewN | apply below_drew1 | refine below_set ?_ GE260.out) | exact HB.out))) : w.heap.size ≤ gb261)); have n5_ := Aside0.mk ((by rw [hg]; exact Nat.ne_of_lt (blk_lt (g := gb260) (o := .cells #[.float .f64 0, .float .f64 0] 36 (0, 0)) (by (with_reducible repeat (first | refine blk_drewN ?_ _ | refine blk_drew ?_ | refine blk_alloc ?_ _)); exact BK260.out)) : gb260 ≠ gb261)); have n6_ := Aside0.mk ((by rw [hg]; exact Nat.ne_of_gt (blk_lt (g := gb260) (o := .cells #[.float .f64 0, .float .f64 0] 36 (0, 0)) (by (with_reducible repeat (first | refine blk_drewN ?_ _ | refine blk_drew ?_ | refine blk_alloc ?_ _)); exact BK260.out)) : gb261 ≠ gb260)); clear BK260; clear HB; have BK260 := n0_; have HB := n1_; have BK261 := n2_; have GW261 := n3_; have GE261 := n4_; have NB260_261 := n5_; have NB261_260 := n6_; clear n0_ n1_ n2_ n3_ n4_ n5_ n6_; clear hb hbox hg; have hnb15 := NB260_261.out; have hnc15 := NB261_260.out; have hcz16_0 : w14.cell? ⟨gb260, 0, none⟩ = some (.float .f64 0) := (blk_cell BK260.out 0).trans rfl; have hcz16_1 : w14.cell? ⟨gb260, 1, none⟩ = some (.float .f64 0) := (blk_cell BK260.out 1).trans rfl; have hfz16_0 := blk_frozen BK260.out 0; have hfz16_1 := blk_frozen BK260.out 1; have hcz17_0 : w14.cell? ⟨gb261, 0, none⟩ = some (.float .f64 0) := (blk_cell BK261.out 0).trans rfl; have hcz17_1 : w14.cell? ⟨gb261, 1, none⟩ = some (.float .f64 0) := (blk_cell BK261.out 1).trans rfl; have hfz17_0 := blk_frozen BK261.out 0; have hfz17_1 := blk_frozen BK261.out 1) | ((with_reducible refine gate_callee (f := 17) rfl ?_); refine goesL_ (some 20) rfl rfl Try.func17 (by kernel_rfl) rfl #[.agg #[.float .f64 (un pr253 t252), .float .f64 (un pr255 t254)], .agg #[.float .f64 (un pr257 t256), .float .f64 (un pr259 t258)]] rfl (by (try simp only [List.map_toArray, List.map_cons, List.map_nil]); first | done | rfl | (simp only [List.length_drop, List.length_take]; rfl)) ?_; (with_reducible refine (impl_MulPair.calls pr253 t252 pr255 t254 pr257 t256 pr259 t258 t262 t264 _ A5.out).mono ?_); rintro e w18 ⟨pr263, pr265, rfl, hb⟩; refine ⟨_, rfl, ?_⟩; have n0_ := Aside0.mk (blk_below (g := gb260) (o := .cells #[.float .f64 (un pr253 t252), .float .f64 (un pr255 t254)] 36 (0, 0)) (by (with_reducible repeat (first | refine blk_drewN ?_ _ | refine blk_drew ?_ | refine blk_alloc ?_ _)); refine blk_far ?_ NB260_261.out _; (with_reducible repeat (first | refine blk_drewN ?_ _ | refine blk_drew ?_ | refine blk_alloc ?_ _)); refine blk_far ?_ NB260_261.out _; (with_reducible repeat (first | refine blk_drewN ?_ _ | refine blk_drew ?_ | refine blk_alloc ?_ _)); refine blk_put (cs := #[.float .f64 (un pr253 t252), .float .f64 0]) ?_ 1 _ rfl; (with_reducible repeat (first | refine blk_drewN ?_ _ | refine blk_drew ?_ | refine blk_alloc ?_ _)); refine blk_put (cs := #[.float .f64 0, .float .f64 0]) ?_ 0 _ rfl; (with_reducible repeat (first | refine blk_drewN ?_ _ | refine blk_drew ?_ | refine blk_alloc ?_ _)); exact BK260.out) hb); have n1_ := Aside0.mk (blk_below (g := gb261) (o := .cells #[.float .f64 (un pr257 t256), .float .f64 (un pr259 t258)] 36 (0, 0)) (by (with_reducible repeat (first | refine blk_drewN ?_ _ | refine blk_drew ?_ | refine blk_alloc ?_ _)); refine blk_put (cs := #[.float .f64 (un pr257 t256), .float .f64 0]) ?_ 1 _ rfl; (with_reducible repeat (first | refine blk_drewN ?_ _ | refine blk_drew ?_ | refine blk_alloc ?_ _)); refine blk_put (cs := #[.float .f64 0, .float .f64 0]) ?_ 0 _ rfl; (with_reducible repeat (first | refine blk_drewN ?_ _ | refine blk_drew ?_ | refine blk_alloc ?_ _)); refine blk_far ?_ NB261_260.out _; (with_reducible repeat (first | refine blk_drewN ?_ _ | refine blk_drew ?_ | refine blk_alloc ?_ _)); refine blk_far ?_ NB261_260.out _; (with_reducible repeat (first | refine blk_drewN ?_ _ | refine blk_drew ?_ | refine blk_alloc ?_ _)); exact BK261.out) hb); have n2_ := Aside0.mk (below_step (by repeat (first | (with_reducible first | exact HB.out | apply below_alloc | apply pw_below_drewN | apply below_drew1 | refine below_set ?_ GE260.out | refine below_set ?_ GE261.out) | exact HB.out)) hb); clear BK260; clear BK261; clear HB; have BK260 := n0_; have BK261 := n1_; have HB := n2_; clear n0_ n1_ n2_; (try clear hb); (try clear hb2); (try clear hk); (try clear hi)) | ((with_reducible refine gate_dst (N := 5) rfl ?_); refine box_event ?hg (N := 5) ?hd (cs := #[.float .f64 0, .float .f64 0]) (t := 36) ?hr ?_; (case hd => rfl); (case hg => rfl); (case hr => first | (go_simp; done) | (go_simp; rfl)); intro gb266 hg w19 hbox hb; have n0_ := Aside0.mk (blk_below (g := gb260) (o := .cells #[.float .f64 (un pr253 t252), .float .f64 (un pr255 t254)] 36 (0, 0)) (by (with_reducible repeat (first | refine blk_drewN ?_ _ | refine blk_drew ?_ | refine blk_alloc ?_ _)); exact BK260.out) hb); have n1_ := Aside0.mk (blk_below (g := gb261) (o := .cells #[.float .f64 (un pr257 t256), .float .f64 (un pr259 t258)] 36 (0, 0)) (by (with_reducible repeat (first | refine blk_drewN ?_ _ | refine blk_drew ?_ | refine blk_alloc ?_ _)); exact BK261.out) hb); have n2_ := Aside0.mk (below_step (by repeat (first | (with_reducible first | exact HB.out | apply below_alloc | apply pw_below_drewN | apply below_drew1 | refine below_set ?_ GE260.out | refine below_set ?_ GE261.out) | exact HB.out)) hb); have n3_ := Aside0.mk (hbox); have n4_ := Aside0.mk ((by rw [hg]; exact (below_size (by repeat (first | (with_reducible first | exact HB.out | apply below_alloc | apply pw_below_drewN | apply below_drew1 | refine below_set ?_ GE260.out | refine below_set ?_ GE261.out) | exact HB.out))) : w.heap.size ≤ gb266)); have n5_ := Aside0.mk ((by rw [hg]; exact (below_size (by repeat (first | (with_reducible first | exact HB.out | apply below_alloc | apply pw_below_drewN | apply below_drew1 | refine below_set ?_ GE260.out | refine below_set ?_ GE261.out) | exact HB.out))) : w.heap.size ≤ gb266)); have n6_ := Aside0.mk ((by rw [hg]; exact Nat.ne_of_lt (blk_lt (g := gb260) (o := .cells #[.float .f64 (un pr253 t252), .float .f64 (un pr255 t254)] 36 (0, 0)) (by (with_reducible repeat (first | refine blk_drewN ?_ _ | refine blk_drew ?_ | refine blk_alloc ?_ _)); exact BK260.out)) : gb260 ≠ gb266)); have n7_ := Aside0.mk ((by rw [hg]; exact Nat.ne_of_gt (blk_lt (g := gb260) (o := .cells #[.float .f64 (un pr253 t252), .float .f64 (un pr255 t254)] 36 (0, 0)) (by (with_reducible repeat (first | refine blk_drewN ?_ _ | refine blk_drew ?_ | refine blk_alloc ?_ _)); exact BK260.out)) : gb266 ≠ gb260)); have n8_ := Aside0.mk ((by rw [hg]; exact Nat.ne_of_lt (blk_lt (g := gb261) (o := .cells #[.float .f64 (un pr257 t256), .float .f64 (un pr259 t258)] 36 (0, 0)) (by (with_reducible repeat (first | refine blk_drewN ?_ _ | refine blk_drew ?_ | refine blk_alloc ?_ _)); exact BK261.out)) : gb261 ≠ gb266)); have n9_ := Aside0.mk ((by rw [hg]; exact Nat.ne_of_gt (blk_lt (g := gb261) (o := .cells #[.float .f64 (un pr257 t256), .float .f64 (un pr259 t258)] 36 (0, 0)) (by (with_reducible repeat (first | refine blk_drewN ?_ _ | refine blk_drew ?_ | refine blk_alloc ?_ _)); exact BK261.out)) : gb266 ≠ gb261)); clear BK260; clear BK261; clear HB; have BK260 := n0_; have BK261 := n1_; have HB := n2_; have BK266 := n3_; have GW266 := n4_; have GE266 := n5_; have NB260_266 := n6_; have NB266_260 := n7_; have NB261_266 := n8_; have NB266_261 := n9_; clear n0_ n1_ n2_ n3_ n4_ n5_ n6_ n7_ n8_ n9_; clear hb hbox hg; have hnb20 := NB266_260.out; have hnc20 := NB260_266.out; have hnb21 := NB266_261.out; have hnc21 := NB261_266.out; have hcz22_0 : w19.cell? ⟨gb266, 0, none⟩ = some (.float .f64 0) := (blk_cell BK266.out 0).trans rfl; have hcz22_1 : w19.cell? ⟨gb266, 1, none⟩ = some (.float .f64 0) := (blk_cell BK266.out 1).trans rfl; have hfz22_0 := blk_frozen BK266.out 0; have hfz22_1 := blk_frozen BK266.out 1; have hcz23_0 : w19.cell? ⟨gb261, 0, none⟩ = some (.float .f64 (un pr257 t256)) := (blk_cell BK261.out 0).trans rfl; have hcz23_1 : w19.cell? ⟨gb261, 1, none⟩ = some (.float .f64 (un pr259 t258)) := (blk_cell BK261.out 1).trans rfl; have hfz23_0 := blk_frozen BK261.out 0; have hfz23_1 := blk_frozen BK261.out 1; have hcz24_0 : w19.cell? ⟨gb260, 0, none⟩ = some (.float .f64 (un pr253 t252)) := (blk_cell BK260.out 0).trans rfl; have hcz24_1 : w19.cell? ⟨gb260, 1, none⟩ = some (.float .f64 (un pr255 t254)) := (blk_cell BK260.out 1).trans rfl; have hfz24_0 := blk_frozen BK260.out 0; have hfz24_1 := blk_frozen BK260.out 1) | ((with_reducible refine gate_callee (f := 17) rfl ?_); refine goesL_ (some 23) rfl rfl Try.func17 (by kernel_rfl) rfl #[.agg #[.float .f64 (un pr257 t256), .float .f64 (un pr259 t258)], .agg #[.float .f64 (un pr253 t252), .float .f64 (un pr255 t254)]] rfl (by (try simp only [List.map_toArray, List.map_cons, List.map_nil]); first | done | rfl | (simp only [List.length_drop, List.length_take]; rfl)) ?_; (with_reducible refine (impl_MulPair.calls pr257 t256 pr259 t258 pr253 t252 pr255 t254 t267 t269 _ A6.out).mono ?_); rintro e w25 ⟨pr268, pr270, rfl, hb⟩; refine ⟨_, rfl, ?_⟩; have n0_ := Aside0.mk (blk_below (g := gb260) (o := .cells #[.float .f64 (un pr253 t252), .float .f64 (un pr255 t254)] 36 (0, 0)) (by (with_reducible repeat (first | refine blk_drewN ?_ _ | refine blk_drew ?_ | refine blk_alloc ?_ _)); refine blk_far ?_ NB260_266.out _; (with_reducible repeat (first | refine blk_drewN ?_ _ | refine blk_drew ?_ | refine blk_alloc ?_ _)); refine blk_far ?_ NB260_266.out _; (with_reducible repeat (first | refine blk_drewN ?_ _ | refine blk_drew ?_ | refine blk_alloc ?_ _)); exact BK260.out) hb); have n1_ := Aside0.mk (blk_below (g := gb261) (o := .cells #[.float .f64 (un pr257 t256), .float .f64 (un pr259 t258)] 36 (0, 0)) (by (with_reducible repeat (first | refine blk_drewN ?_ _ | refine blk_drew ?_ | refine blk_alloc ?_ _)); refine blk_far ?_ NB261_266.out _; (with_reducible repeat (first | refine blk_drewN ?_ _ | refine blk_drew ?_ | refine blk_alloc ?_ _)); refine blk_far ?_ NB261_266.out _; (with_reducible repeat (first | refine blk_drewN ?_ _ | refine blk_drew ?_ | refine blk_alloc ?_ _)); exact BK261.out) hb); have n2_ := Aside0.mk (blk_below (g := gb266) (o := .cells #[.float .f64 (un pr263 t262), .float .f64 (un pr265 t264)] 36 (0, 0)) (by (with_reducible repeat (first | refine blk_drewN ?_ _ | refine blk_drew ?_ | refine blk_alloc ?_ _)); refine blk_put (cs := #[.float .f64 (un pr263 t262), .float .f64 0]) ?_ 1 _ rfl; (with_reducible repeat (first | refine blk_drewN ?_ _ | refine blk_drew ?_ | refine blk_alloc ?_ _)); refine blk_put (cs := #[.float .f64 0, .float .f64 0]) ?_ 0 _ rfl; (with_reducible repeat (first | refine blk_drewN ?_ _ | refine blk_drew ?_ | refine blk_alloc ?_ _)); exact BK266.out) hb); have n3_ := Aside0.mk (below_step (by repeat (first | (with_reducible first | exact HB.out | apply below_alloc | apply pw_below_drewN | apply below_drew1 | refine below_set ?_ GE260.out | refine below_set ?_ GE261.out | refine below_set ?_ GE266.out) | exact HB.out)) hb); clear BK260; clear BK261; clear BK266; clear HB; have BK260 := n0_; have BK261 := n1_; have BK266 := n2_; have HB := n3_; clear n0_ n1_ n2_ n3_; (try clear hb); (try clear hb2); (try clear hk); (try clear hi)) | ((with_reducible refine gate_dst (N := 6) rfl ?_); refine box_event ?hg (N := 6) ?hd (cs := #[.float .f64 0, .float .f64 0]) (t := 36) ?hr ?_; (case hd => rfl); (case hg => rfl); (case hr => first | (go_simp; done) | (go_simp; rfl)); intro gb271 hg w26 hbox hb; have n0_ := Aside0.mk (blk_below (g := gb260) (o := .cells #[.float .f64 (un pr253 t252), .float .f64 (un pr255 t254)] 36 (0, 0)) (by (with_reducible repeat (first | refine blk_drewN ?_ _ | refine blk_drew ?_ | refine blk_alloc ?_ _)); exact BK260.out) hb); have n1_ := Aside0.mk (blk_below (g := gb261) (o := .cells #[.float .f64 (un pr257 t256), .float .f64 (un pr259 t258)] 36 (0, 0)) (by (with_reducible repeat (first | refine blk_drewN ?_ _ | refine blk_drew ?_ | refine blk_alloc ?_ _)); exact BK261.out) hb); have n2_ := Aside0.mk (blk_below (g := gb266) (o := .cells #[.float .f64 (un pr263 t262), .float .f64 (un pr265 t264)] 36 (0, 0)) (by (with_reducible repeat (first | refine blk_drewN ?_ _ | refine blk_drew ?_ | refine blk_alloc ?_ _)); exact BK266.out) hb); have n3_ := Aside0.mk (below_step (by repeat (first | (with_reducible first | exact HB.out | apply below_alloc | apply pw_below_drewN | apply below_drew1 | refine below_set ?_ GE260.out | refine below_set ?_ GE261.out | refine below_set ?_ GE266.out) | exact HB.out)) hb); have n4_ := Aside0.mk (hbox); have n5_ := Aside0.mk ((by rw [hg]; exact (below_size (by repeat (first | (with_reducible first | exact HB.out | apply below_alloc | apply pw_below_drewN | apply below_drew1 | refine below_set ?_ GE260.out | refine below_set ?_ GE261.out | refine below_set ?_ GE266.out) | exact HB.out))) : w.heap.size ≤ gb271)); have n6_ := Aside0.mk ((by rw [hg]; exact (below_size (by repeat (first | (with_reducible first | exact HB.out | apply below_alloc | apply pw_below_drewN | apply below_drew1 | refine below_set ?_ GE260.out | refine below_set ?_ GE261.out | refine below_set ?_ GE266.out) | exact HB.out))) : w.heap.size ≤ gb271)); have n7_ := Aside0.mk ((by rw [hg]; exact Nat.ne_of_lt (blk_lt (g := gb260) (o := .cells #[.float .f64 (un pr253 t252), .float .f64 (un pr255 t254)] 36 (0, 0)) (by (with_reducible repeat (first | refine blk_drewN ?_ _ | refine blk_drew ?_ | refine blk_alloc ?_ _)); exact BK260.out)) : gb260 ≠ gb271)); have n8_ := Aside0.mk ((by rw [hg]; exact Nat.ne_of_gt (blk_lt (g := gb260) (o := .cells #[.float .f64 (un pr253 t252), .float .f64 (un pr255 t254)] 36 (0, 0)) (by (with_reducible repeat (first | refine blk_drewN ?_ _ | refine blk_drew ?_ | refine blk_alloc ?_ _)); exact BK260.out)) : gb271 ≠ gb260)); have n9_ := Aside0.mk ((by rw [hg]; exact Nat.ne_of_lt (blk_lt (g := gb261) (o := .cells #[.float .f64 (un pr257 t256), .float .f64 (un pr259 t258)] 36 (0, 0)) (by (with_reducible repeat (first | refine blk_drewN ?_ _ | refine blk_drew ?_ | refine blk_alloc ?_ _)); exact BK261.out)) : gb261 ≠ gb271)); have n10_ := Aside0.mk ((by rw [hg]; exact Nat.ne_of_gt (blk_lt (g := gb261) (o := .cells #[.float .f64 (un pr257 t256), .float .f64 (un pr259 t258)] 36 (0, 0)) (by (with_reducible repeat (first | refine blk_drewN ?_ _ | refine blk_drew ?_ | refine blk_alloc ?_ _)); exact BK261.out)) : gb271 ≠ gb261)); have n11_ := Aside0.mk ((by rw [hg]; exact Nat.ne_of_lt (blk_lt (g := gb266) (o := .cells #[.float .f64 (un pr263 t262), .float .f64 (un pr265 t264)] 36 (0, 0)) (by (with_reducible repeat (first | refine blk_drewN ?_ _ | refine blk_drew ?_ | refine blk_alloc ?_ _)); exact BK266.out)) : gb266 ≠ gb271)); have n12_ := Aside0.mk ((by rw [hg]; exact Nat.ne_of_gt (blk_lt (g := gb266) (o := .cells #[.float .f64 (un pr263 t262), .float .f64 (un pr265 t264)] 36 (0, 0)) (by (with_reducible repeat (first | refine blk_drewN ?_ _ | refine blk_drew ?_ | refine blk_alloc ?_ _)); exact BK266.out)) : gb271 ≠ gb266)); clear BK260; clear BK261; clear BK266; clear HB; have BK260 := n0_; have BK261 := n1_; have BK266 := n2_; have HB := n3_; have BK271 := n4_; have GW271 := n5_; have GE271 := n6_; have NB260_271 := n7_; have NB271_260 := n8_; have NB261_271 := n9_; have NB271_261 := n10_; have NB266_271 := n11_; have NB271_266 := n12_; clear n0_ n1_ n2_ n3_ n4_ n5_ n6_ n7_ n8_ n9_ n10_ n11_ n12_; clear hb hbox hg; have hnb27 := NB271_260.out; have hnc27 := NB260_271.out; have hnb28 := NB271_261.out; have hnc28 := NB261_271.out; have hnb29 := NB271_266.out; have hnc29 := NB266_271.out; have hcz30_0 : w26.cell? ⟨gb271, 0, none⟩ = some (.float .f64 0) := (blk_cell BK271.out 0).trans rfl; have hcz30_1 : w26.cell? ⟨gb271, 1, none⟩ = some (.float .f64 0) := (blk_cell BK271.out 1).trans rfl; have hfz30_0 := blk_frozen BK271.out 0; have hfz30_1 := blk_frozen BK271.out 1; have hcz31_0 : w26.cell? ⟨gb260, 0, none⟩ = some (.float .f64 (un pr253 t252)) := (blk_cell BK260.out 0).trans rfl; have hcz31_1 : w26.cell? ⟨gb260, 1, none⟩ = some (.float .f64 (un pr255 t254)) := (blk_cell BK260.out 1).trans rfl; have hfz31_0 := blk_frozen BK260.out 0; have hfz31_1 := blk_frozen BK260.out 1; have hcz32_0 : w26.cell? ⟨gb261, 0, none⟩ = some (.float .f64 (un pr257 t256)) := (blk_cell BK261.out 0).trans rfl; have hcz32_1 : w26.cell? ⟨gb261, 1, none⟩ = some (.float .f64 (un pr259 t258)) := (blk_cell BK261.out 1).trans rfl; have hfz32_0 := blk_frozen BK261.out 0; have hfz32_1 := blk_frozen BK261.out 1) | ((with_reducible refine gate_callee (f := 18) rfl ?_); refine goesL_ (some 26) rfl rfl Try.func18 (by kernel_rfl) rfl #[.agg #[.float .f64 (un pr253 t252), .float .f64 (un pr255 t254)], .agg #[.float .f64 (un pr257 t256), .float .f64 (un pr259 t258)]] rfl (by (try simp only [List.map_toArray, List.map_cons, List.map_nil]); first | done | rfl | (simp only [List.length_drop, List.length_take]; rfl)) ?_; (with_reducible refine (impl_AddPair.calls pr253 t252 pr255 t254 pr257 t256 pr259 t258 t272 t274 _ A7.out).mono ?_); rintro e w33 ⟨pr273, pr275, rfl, hb⟩; refine ⟨_, rfl, ?_⟩; have n0_ := Aside0.mk (blk_below (g := gb260) (o := .cells #[.float .f64 (un pr253 t252), .float .f64 (un pr255 t254)] 36 (0, 0)) (by (with_reducible repeat (first | refine blk_drewN ?_ _ | refine blk_drew ?_ | refine blk_alloc ?_ _)); refine blk_far ?_ NB260_271.out _; (with_reducible repeat (first | refine blk_drewN ?_ _ | refine blk_drew ?_ | refine blk_alloc ?_ _)); refine blk_far ?_ NB260_271.out _; (with_reducible repeat (first | refine blk_drewN ?_ _ | refine blk_drew ?_ | refine blk_alloc ?_ _)); exact BK260.out) hb); have n1_ := Aside0.mk (blk_below (g := gb261) (o := .cells #[.float .f64 (un pr257 t256), .float .f64 (un pr259 t258)] 36 (0, 0)) (by (with_reducible repeat (first | refine blk_drewN ?_ _ | refine blk_drew ?_ | refine blk_alloc ?_ _)); refine blk_far ?_ NB261_271.out _; (with_reducible repeat (first | refine blk_drewN ?_ _ | refine blk_drew ?_ | refine blk_alloc ?_ _)); refine blk_far ?_ NB261_271.out _; (with_reducible repeat (first | refine blk_drewN ?_ _ | refine blk_drew ?_ | refine blk_alloc ?_ _)); exact BK261.out) hb); have n2_ := Aside0.mk (blk_below (g := gb266) (o := .cells #[.float .f64 (un pr263 t262), .float .f64 (un pr265 t264)] 36 (0, 0)) (by (with_reducible repeat (first | refine blk_drewN ?_ _ | refine blk_drew ?_ | refine blk_alloc ?_ _)); refine blk_far ?_ NB266_271.out _; (with_reducible repeat (first | refine blk_drewN ?_ _ | refine blk_drew ?_ | refine blk_alloc ?_ _)); refine blk_far ?_ NB266_271.out _; (with_reducible repeat (first | refine blk_drewN ?_ _ | refine blk_drew ?_ | refine blk_alloc ?_ _)); exact BK266.out) hb); have n3_ := Aside0.mk (blk_below (g := gb271) (o := .cells #[.float .f64 (un pr268 t267), .float .f64 (un pr270 t269)] 36 (0, 0)) (by (with_reducible repeat (first | refine blk_drewN ?_ _ | refine blk_drew ?_ | refine blk_alloc ?_ _)); refine blk_put (cs := #[.float .f64 (un pr268 t267), .float .f64 0]) ?_ 1 _ rfl; (with_reducible repeat (first | refine blk_drewN ?_ _ | refine blk_drew ?_ | refine blk_alloc ?_ _)); refine blk_put (cs := #[.float .f64 0, .float .f64 0]) ?_ 0 _ rfl; (with_reducible repeat (first | refine blk_drewN ?_ _ | refine blk_drew ?_ | refine blk_alloc ?_ _)); exact BK271.out) hb); have n4_ := Aside0.mk (below_step (by repeat (first | (with_reducible first | exact HB.out | apply below_alloc | apply pw_below_drewN | apply below_drew1 | refine below_set ?_ GE260.out | refine below_set ?_ GE261.out | refine below_set ?_ GE266.out | refine below_set ?_ GE271.out) | exact HB.out)) hb); clear BK260; clear BK261; clear BK266; clear BK271; clear HB; have BK260 := n0_; have BK261 := n1_; have BK266 := n2_; have BK271 := n3_; have HB := n4_; clear n0_ n1_ n2_ n3_ n4_; (try clear hb); (try clear hb2); (try clear hk); (try clear hi)) | ((with_reducible refine gate_dst (N := 7) rfl ?_); refine box_event ?hg (N := 7) ?hd (cs := #[.float .f64 0, .float .f64 0]) (t := 36) ?hr ?_; (case hd => rfl); (case hg => rfl); (case hr => first | (go_simp; done) | (go_simp; rfl)); intro gb276 hg w34 hbox hb; have n0_ := Aside0.mk (blk_below (g := gb260) (o := .cells #[.float .f64 (un pr253 t252), .float .f64 (un pr255 t254)] 36 (0, 0)) (by (with_reducible repeat (first | refine blk_drewN ?_ _ | refine blk_drew ?_ | refine blk_alloc ?_ _)); exact BK260.out) hb); have n1_ := Aside0.mk (blk_below (g := gb261) (o := .cells #[.float .f64 (un pr257 t256), .float .f64 (un pr259 t258)] 36 (0, 0)) (by (with_reducible repeat (first | refine blk_drewN ?_ _ | refine blk_drew ?_ | refine blk_alloc ?_ _)); exact BK261.out) hb); have n2_ := Aside0.mk (blk_below (g := gb266) (o := .cells #[.float .f64 (un pr263 t262), .float .f64 (un pr265 t264)] 36 (0, 0)) (by (with_reducible repeat (first | refine blk_drewN ?_ _ | refine blk_drew ?_ | refine blk_alloc ?_ _)); exact BK266.out) hb); have n3_ := Aside0.mk (blk_below (g := gb271) (o := .cells #[.float .f64 (un pr268 t267), .float .f64 (un pr270 t269)] 36 (0, 0)) (by (with_reducible repeat (first | refine blk_drewN ?_ _ | refine blk_drew ?_ | refine blk_alloc ?_ _)); exact BK271.out) hb); have n4_ := Aside0.mk (below_step (by repeat (first | (with_reducible first | exact HB.out | apply below_alloc | apply pw_below_drewN | apply below_drew1 | refine below_set ?_ GE260.out | refine below_set ?_ GE261.out | refine below_set ?_ GE266.out | refine below_set ?_ GE271.out) | exact HB.out)) hb); have n5_ := Aside0.mk (hbox); have n6_ := Aside0.mk ((by rw [hg]; exact (below_size (by repeat (first | (with_reducible first | exact HB.out | apply below_alloc | apply pw_below_drewN | apply below_drew1 | refine below_set ?_ GE260.out | refine below_set ?_ GE261.out | refine below_set ?_ GE266.out | refine below_set ?_ GE271.out) | exact HB.out))) : w.heap.size ≤ gb276)); have n7_ := Aside0.mk ((by rw [hg]; exact (below_size (by repeat (first | (with_reducible first | exact HB.out | apply below_alloc | apply pw_below_drewN | apply below_drew1 | refine below_set ?_ GE260.out | refine below_set ?_ GE261.out | refine below_set ?_ GE266.out | refine below_set ?_ GE271.out) | exact HB.out))) : w.heap.size ≤ gb276)); have n8_ := Aside0.mk ((by rw [hg]; exact Nat.ne_of_lt (blk_lt (g := gb260) (o := .cells #[.float .f64 (un pr253 t252), .float .f64 (un pr255 t254)] 36 (0, 0)) (by (with_reducible repeat (first | refine blk_drewN ?_ _ | refine blk_drew ?_ | refine blk_alloc ?_ _)); exact BK260.out)) : gb260 ≠ gb276)); have n9_ := Aside0.mk ((by rw [hg]; exact Nat.ne_of_gt (blk_lt (g := gb260) (o := .cells #[.float .f64 (un pr253 t252), .float .f64 (un pr255 t254)] 36 (0, 0)) (by (with_reducible repeat (first | refine blk_drewN ?_ _ | refine blk_drew ?_ | refine blk_alloc ?_ _)); exact BK260.out)) : gb276 ≠ gb260)); have n10_ := Aside0.mk ((by rw [hg]; exact Nat.ne_of_lt (blk_lt (g := gb261) (o := .cells #[.float .f64 (un pr257 t256), .float .f64 (un pr259 t258)] 36 (0, 0)) (by (with_reducible repeat (first | refine blk_drewN ?_ _ | refine blk_drew ?_ | refine blk_alloc ?_ _)); exact BK261.out)) : gb261 ≠ gb276)); have n11_ := Aside0.mk ((by rw [hg]; exact Nat.ne_of_gt (blk_lt (g := gb261) (o := .cells #[.float .f64 (un pr257 t256), .float .f64 (un pr259 t258)] 36 (0, 0)) (by (with_reducible repeat (first | refine blk_drewN ?_ _ | refine blk_drew ?_ | refine blk_alloc ?_ _)); exact BK261.out)) : gb276 ≠ gb261)); have n12_ := Aside0.mk ((by rw [hg]; exact Nat.ne_of_lt (blk_lt (g := gb266) (o := .cells #[.float .f64 (un pr263 t262), .float .f64 (un pr265 t264)] 36 (0, 0)) (by (with_reducible repeat (first | refine blk_drewN ?_ _ | refine blk_drew ?_ | refine blk_alloc ?_ _)); exact BK266.out)) : gb266 ≠ gb276)); have n13_ := Aside0.mk ((by rw [hg]; exact Nat.ne_of_gt (blk_lt (g := gb266) (o := .cells #[.float .f64 (un pr263 t262), .float .f64 (un pr265 t264)] 36 (0, 0)) (by (with_reducible repeat (first | refine blk_drewN ?_ _ | refine blk_drew ?_ | refine blk_alloc ?_ _)); exact BK266.out)) : gb276 ≠ gb266)); have n14_ := Aside0.mk ((by rw [hg]; exact Nat.ne_of_lt (blk_lt (g := gb271) (o := .cells #[.float .f64 (un pr268 t267), .float .f64 (un pr270 t269)] 36 (0, 0)) (by (with_reducible repeat (first | refine blk_drewN ?_ _ | refine blk_drew ?_ | refine blk_alloc ?_ _)); exact BK271.out)) : gb271 ≠ gb276)); have n15_ := Aside0.mk ((by rw [hg]; exact Nat.ne_of_gt (blk_lt (g := gb271) (o := .cells #[.float .f64 (un pr268 t267), .float .f64 (un pr270 t269)] 36 (0, 0)) (by (with_reducible repeat (first | refine blk_drewN ?_ _ | refine blk_drew ?_ | refine blk_alloc ?_ _)); exact BK271.out)) : gb276 ≠ gb271)); clear BK260; clear BK261; clear BK266; clear BK271; clear HB; have BK260 := n0_; have BK261 := n1_; have BK266 := n2_; have BK271 := n3_; have HB := n4_; have BK276 := n5_; have GW276 := n6_; have GE276 := n7_; have NB260_276 := n8_; have NB276_260 := n9_; have NB261_276 := n10_; have NB276_261 := n11_; have NB266_276 := n12_; have NB276_266 := n13_; have NB271_276 := n14_; have NB276_271 := n15_; clear n0_ n1_ n2_ n3_ n4_ n5_ n6_ n7_ n8_ n9_ n10_ n11_ n12_ n13_ n14_ n15_; clear hb hbox hg; have hnb35 := NB276_260.out; have hnc35 := NB260_276.out; have hnb36 := NB276_261.out; have hnc36 := NB261_276.out; have hnb37 := NB276_266.out; have hnc37 := NB266_276.out; have hnb38 := NB276_271.out; have hnc38 := NB271_276.out; have hcz39_0 : w34.cell? ⟨gb276, 0, none⟩ = some (.float .f64 0) := (blk_cell BK276.out 0).trans rfl; have hcz39_1 : w34.cell? ⟨gb276, 1, none⟩ = some (.float .f64 0) := (blk_cell BK276.out 1).trans rfl; have hfz39_0 := blk_frozen BK276.out 0; have hfz39_1 := blk_frozen BK276.out 1; have hcz40_0 : w34.cell? ⟨gb261, 0, none⟩ = some (.float .f64 (un pr257 t256)) := (blk_cell BK261.out 0).trans rfl; have hcz40_1 : w34.cell? ⟨gb261, 1, none⟩ = some (.float .f64 (un pr259 t258)) := (blk_cell BK261.out 1).trans rfl; have hfz40_0 := blk_frozen BK261.out 0; have hfz40_1 := blk_frozen BK261.out 1; have hcz41_0 : w34.cell? ⟨gb260, 0, none⟩ = some (.float .f64 (un pr253 t252)) := (blk_cell BK260.out 0).trans rfl; have hcz41_1 : w34.cell? ⟨gb260, 1, none⟩ = some (.float .f64 (un pr255 t254)) := (blk_cell BK260.out 1).trans rfl; have hfz41_0 := blk_frozen BK260.out 0; have hfz41_1 := blk_frozen BK260.out 1) | ((with_reducible refine gate_callee (f := 18) rfl ?_); refine goesL_ (some 29) rfl rfl Try.func18 (by kernel_rfl) rfl #[.agg #[.float .f64 (un pr257 t256), .float .f64 (un pr259 t258)], .agg #[.float .f64 (un pr253 t252), .float .f64 (un pr255 t254)]] rfl (by (try simp only [List.map_toArray, List.map_cons, List.map_nil]); first | done | rfl | (simp only [List.length_drop, List.length_take]; rfl)) ?_; (with_reducible refine (impl_AddPair.calls pr257 t256 pr259 t258 pr253 t252 pr255 t254 t277 t279 _ A8.out).mono ?_); rintro e w42 ⟨pr278, pr280, rfl, hb⟩; refine ⟨_, rfl, ?_⟩; have n0_ := Aside0.mk (blk_below (g := gb260) (o := .cells #[.float .f64 (un pr253 t252), .float .f64 (un pr255 t254)] 36 (0, 0)) (by (with_reducible repeat (first | refine blk_drewN ?_ _ | refine blk_drew ?_ | refine blk_alloc ?_ _)); refine blk_far ?_ NB260_276.out _; (with_reducible repeat (first | refine blk_drewN ?_ _ | refine blk_drew ?_ | refine blk_alloc ?_ _)); refine blk_far ?_ NB260_276.out _; (with_reducible repeat (first | refine blk_drewN ?_ _ | refine blk_drew ?_ | refine blk_alloc ?_ _)); exact BK260.out) hb); have n1_ := Aside0.mk (blk_below (g := gb261) (o := .cells #[.float .f64 (un pr257 t256), .float .f64 (un pr259 t258)] 36 (0, 0)) (by (with_reducible repeat (first | refine blk_drewN ?_ _ | refine blk_drew ?_ | refine blk_alloc ?_ _)); refine blk_far ?_ NB261_276.out _; (with_reducible repeat (first | refine blk_drewN ?_ _ | refine blk_drew ?_ | refine blk_alloc ?_ _)); refine blk_far ?_ NB261_276.out _; (with_reducible repeat (first | refine blk_drewN ?_ _ | refine blk_drew ?_ | refine blk_alloc ?_ _)); exact BK261.out) hb); have n2_ := Aside0.mk (blk_below (g := gb266) (o := .cells #[.float .f64 (un pr263 t262), .float .f64 (un pr265 t264)] 36 (0, 0)) (by (with_reducible repeat (first | refine blk_drewN ?_ _ | refine blk_drew ?_ | refine blk_alloc ?_ _)); refine blk_far ?_ NB266_276.out _; (with_reducible repeat (first | refine blk_drewN ?_ _ | refine blk_drew ?_ | refine blk_alloc ?_ _)); refine blk_far ?_ NB266_276.out _; (with_reducible repeat (first | refine blk_drewN ?_ _ | refine blk_drew ?_ | refine blk_alloc ?_ _)); exact BK266.out) hb); have n3_ := Aside0.mk (blk_below (g := gb271) (o := .cells #[.float .f64 (un pr268 t267), .float .f64 (un pr270 t269)] 36 (0, 0)) (by (with_reducible repeat (first | refine blk_drewN ?_ _ | refine blk_drew ?_ | refine blk_alloc ?_ _)); refine blk_far ?_ NB271_276.out _; (with_reducible repeat (first | refine blk_drewN ?_ _ | refine blk_drew ?_ | refine blk_alloc ?_ _)); refine blk_far ?_ NB271_276.out _; (with_reducible repeat (first | refine blk_drewN ?_ _ | refine blk_drew ?_ | refine blk_alloc ?_ _)); exact BK271.out) hb); have n4_ := Aside0.mk (blk_below (g := gb276) (o := .cells #[.float .f64 (un pr273 t272), .float .f64 (un pr275 t274)] 36 (0, 0)) (by (with_reducible repeat (first | refine blk_drewN ?_ _ | refine blk_drew ?_ | refine blk_alloc ?_ _)); refine blk_put (cs := #[.float .f64 (un pr273 t272), .float .f64 0]) ?_ 1 _ rfl; (with_reducible repeat (first | refine blk_drewN ?_ _ | refine blk_drew ?_ | refine blk_alloc ?_ _)); refine blk_put (cs := #[.float .f64 0, .float .f64 0]) ?_ 0 _ rfl; (with_reducible repeat (first | refine blk_drewN ?_ _ | refine blk_drew ?_ | refine blk_alloc ?_ _)); exact BK276.out) hb); have n5_ := Aside0.mk (below_step (by repeat (first | (with_reducible first | exact HB.out | apply below_alloc | apply pw_below_drewN | apply below_drew1 | refine below_set ?_ GE260.out | refine below_set ?_ GE261.out | refine below_set ?_ GE266.out | refine below_set ?_ GE271.out | refine below_set ?_ GE276.out) | exact HB.out)) hb); clear BK260; clear BK261; clear BK266; clear BK271; clear BK276; clear HB; have BK260 := n0_; have BK261 := n1_; have BK266 := n2_; have BK271 := n3_; have BK276 := n4_; have HB := n5_; clear n0_ n1_ n2_ n3_ n4_ n5_; (try clear hb); (try clear hb2); (try clear hk); (try clear hi)) | ((with_reducible refine gate_dst (N := 8) rfl ?_); refine box_event ?hg (N := 8) ?hd (cs := #[.float .f64 0, .float .f64 0]) (t := 36) ?hr ?_; (case hd => rfl); (case hg => rfl); (case hr => first | (go_simp; done) | (go_simp; rfl)); intro gb281 hg w43 hbox hb; have n0_ := Aside0.mk (blk_below (g := gb260) (o := .cells #[.float .f64 (un pr253 t252), .float .f64 (un pr255 t254)] 36 (0, 0)) (by (with_reducible repeat (first | refine blk_drewN ?_ _ | refine blk_drew ?_ | refine blk_alloc ?_ _)); exact BK260.out) hb); have n1_ := Aside0.mk (blk_below (g := gb261) (o := .cells #[.float .f64 (un pr257 t256), .float .f64 (un pr259 t258)] 36 (0, 0)) (by (with_reducible repeat (first | refine blk_drewN ?_ _ | refine blk_drew ?_ | refine blk_alloc ?_ _)); exact BK261.out) hb); have n2_ := Aside0.mk (blk_below (g := gb266) (o := .cells #[.float .f64 (un pr263 t262), .float .f64 (un pr265 t264)] 36 (0, 0)) (by (with_reducible repeat (first | refine blk_drewN ?_ _ | refine blk_drew ?_ | refine blk_alloc ?_ _)); exact BK266.out) hb); have n3_ := Aside0.mk (blk_below (g := gb271) (o := .cells #[.float .f64 (un pr268 t267), .float .f64 (un pr270 t269)] 36 (0, 0)) (by (with_reducible repeat (first | refine blk_drewN ?_ _ | refine blk_drew ?_ | refine blk_alloc ?_ _)); exact BK271.out) hb); have n4_ := Aside0.mk (blk_below (g := gb276) (o := .cells #[.float .f64 (un pr273 t272), .float .f64 (un pr275 t274)] 36 (0, 0)) (by (with_reducible repeat (first | refine blk_drewN ?_ _ | refine blk_drew ?_ | refine blk_alloc ?_ _)); exact BK276.out) hb); have n5_ := Aside0.mk (below_step (by repeat (first | (with_reducible first | exact HB.out | apply below_alloc | apply pw_below_drewN | apply below_drew1 | refine below_set ?_ GE260.out | refine below_set ?_ GE261.out | refine below_set ?_ GE266.out | refine below_set ?_ GE271.out | refine below_set ?_ GE276.out) | exact HB.out)) hb); have n6_ := Aside0.mk (hbox); have n7_ := Aside0.mk ((by rw [hg]; exact (below_size (by repeat (first | (with_reducible first | exact HB.out | apply below_alloc | apply pw_below_drewN | apply below_drew1 | refine below_set ?_ GE260.out | refine below_set ?_ GE261.out | refine below_set ?_ GE266.out | refine below_set ?_ GE271.out | refine below_set ?_ GE276.out) | exact HB.out))) : w.heap.size ≤ gb281)); have n8_ := Aside0.mk ((by rw [hg]; exact (below_size (by repeat (first | (with_reducible first | exact HB.out | apply below_alloc | apply pw_below_drewN | apply below_drew1 | refine below_set ?_ GE260.out | refine below_set ?_ GE261.out | refine below_set ?_ GE266.out | refine below_set ?_ GE271.out | refine below_set ?_ GE276.out) | exact HB.out))) : w.heap.size ≤ gb281)); have n9_ := Aside0.mk ((by rw [hg]; exact Nat.ne_of_lt (blk_lt (g := gb260) (o := .cells #[.float .f64 (un pr253 t252), .float .f64 (un pr255 t254)] 36 (0, 0)) (by (with_reducible repeat (first | refine blk_drewN ?_ _ | refine blk_drew ?_ | refine blk_alloc ?_ _)); exact BK260.out)) : gb260 ≠ gb281)); have n10_ := Aside0.mk ((by rw [hg]; exact Nat.ne_of_gt (blk_lt (g := gb260) (o := .cells #[.float .f64 (un pr253 t252), .float .f64 (un pr255 t254)] 36 (0, 0)) (by (with_reducible repeat (first | refine blk_drewN ?_ _ | refine blk_drew ?_ | refine blk_alloc ?_ _)); exact BK260.out)) : gb281 ≠ gb260)); have n11_ := Aside0.mk ((by rw [hg]; exact Nat.ne_of_lt (blk_lt (g := gb261) (o := .cells #[.float .f64 (un pr257 t256), .float .f64 (un pr259 t258)] 36 (0, 0)) (by (with_reducible repeat (first | refine blk_drewN ?_ _ | refine blk_drew ?_ | refine blk_alloc ?_ _)); exact BK261.out)) : gb261 ≠ gb281)); have n12_ := Aside0.mk ((by rw [hg]; exact Nat.ne_of_gt (blk_lt (g := gb261) (o := .cells #[.float .f64 (un pr257 t256), .float .f64 (un pr259 t258)] 36 (0, 0)) (by (with_reducible repeat (first | refine blk_drewN ?_ _ | refine blk_drew ?_ | refine blk_alloc ?_ _)); exact BK261.out)) : gb281 ≠ gb261)); have n13_ := Aside0.mk ((by rw [hg]; exact Nat.ne_of_lt (blk_lt (g := gb266) (o := .cells #[.float .f64 (un pr263 t262), .float .f64 (un pr265 t264)] 36 (0, 0)) (by (with_reducible repeat (first | refine blk_drewN ?_ _ | refine blk_drew ?_ | refine blk_alloc ?_ _)); exact BK266.out)) : gb266 ≠ gb281)); have n14_ := Aside0.mk ((by rw [hg]; exact Nat.ne_of_gt (blk_lt (g := gb266) (o := .cells #[.float .f64 (un pr263 t262), .float .f64 (un pr265 t264)] 36 (0, 0)) (by (with_reducible repeat (first | refine blk_drewN ?_ _ | refine blk_drew ?_ | refine blk_alloc ?_ _)); exact BK266.out)) : gb281 ≠ gb266)); have n15_ := Aside0.mk ((by rw [hg]; exact Nat.ne_of_lt (blk_lt (g := gb271) (o := .cells #[.float .f64 (un pr268 t267), .float .f64 (un pr270 t269)] 36 (0, 0)) (by (with_reducible repeat (first | refine blk_drewN ?_ _ | refine blk_drew ?_ | refine blk_alloc ?_ _)); exact BK271.out)) : gb271 ≠ gb281)); have n16_ := Aside0.mk ((by rw [hg]; exact Nat.ne_of_gt (blk_lt (g := gb271) (o := .cells #[.float .f64 (un pr268 t267), .float .f64 (un pr270 t269)] 36 (0, 0)) (by (with_reducible repeat (first | refine blk_drewN ?_ _ | refine blk_drew ?_ | refine blk_alloc ?_ _)); exact BK271.out)) : gb281 ≠ gb271)); have n17_ := Aside0.mk ((by rw [hg]; exact Nat.ne_of_lt (blk_lt (g := gb276) (o := .cells #[.float .f64 (un pr273 t272), .float .f64 (un pr275 t274)] 36 (0, 0)) (by (with_reducible repeat (first | refine blk_drewN ?_ _ | refine blk_drew ?_ | refine blk_alloc ?_ _)); exact BK276.out)) : gb276 ≠ gb281)); have n18_ := Aside0.mk ((by rw [hg]; exact Nat.ne_of_gt (blk_lt (g := gb276) (o := .cells #[.float .f64 (un pr273 t272), .float .f64 (un pr275 t274)] 36 (0, 0)) (by (with_reducible repeat (first | refine blk_drewN ?_ _ | refine blk_drew ?_ | refine blk_alloc ?_ _)); exact BK276.out)) : gb281 ≠ gb276)); clear BK260; clear BK261; clear BK266; clear BK271; clear BK276; clear HB; have BK260 := n0_; have BK261 := n1_; have BK266 := n2_; have BK271 := n3_; have BK276 := n4_; have HB := n5_; have BK281 := n6_; have GW281 := n7_; have GE281 := n8_; have NB260_281 := n9_; have NB281_260 := n10_; have NB261_281 := n11_; have NB281_261 := n12_; have NB266_281 := n13_; have NB281_266 := n14_; have NB271_281 := n15_; have NB281_271 := n16_; have NB276_281 := n17_; have NB281_276 := n18_; clear n0_ n1_ n2_ n3_ n4_ n5_ n6_ n7_ n8_ n9_ n10_ n11_ n12_ n13_ n14_ n15_ n16_ n17_ n18_; clear hb hbox hg; have hnb44 := NB281_260.out; have hnc44 := NB260_281.out; have hnb45 := NB281_261.out; have hnc45 := NB261_281.out; have hnb46 := NB281_266.out; have hnc46 := NB266_281.out; have hnb47 := NB281_271.out; have hnc47 := NB271_281.out; have hnb48 := NB281_276.out; have hnc48 := NB276_281.out; have hcz49_0 : w43.cell? ⟨gb281, 0, none⟩ = some (.float .f64 0) := (blk_cell BK281.out 0).trans rfl; have hcz49_1 : w43.cell? ⟨gb281, 1, none⟩ = some (.float .f64 0) := (blk_cell BK281.out 1).trans rfl; have hfz49_0 := blk_frozen BK281.out 0; have hfz49_1 := blk_frozen BK281.out 1; have hcz50_0 : w43.cell? ⟨gb260, 0, none⟩ = some (.float .f64 (un pr253 t252)) := (blk_cell BK260.out 0).trans rfl; have hcz50_1 : w43.cell? ⟨gb260, 1, none⟩ = some (.float .f64 (un pr255 t254)) := (blk_cell BK260.out 1).trans rfl; have hfz50_0 := blk_frozen BK260.out 0; have hfz50_1 := blk_frozen BK260.out 1; have hcz51_0 : w43.cell? ⟨gb261, 0, none⟩ = some (.float .f64 (un pr257 t256)) := (blk_cell BK261.out 0).trans rfl; have hcz51_1 : w43.cell? ⟨gb261, 1, none⟩ = some (.float .f64 (un pr259 t258)) := (blk_cell BK261.out 1).trans rfl; have hfz51_0 := blk_frozen BK261.out 0; have hfz51_1 := blk_frozen BK261.out 1) | ((with_reducible refine gate_callee (f := 19) rfl ?_); refine goesL_ (some 32) rfl rfl Try.func19 (by kernel_rfl) rfl #[.agg #[.float .f64 (un pr253 t252), .float .f64 (un pr255 t254)], .agg #[.float .f64 (un pr257 t256), .float .f64 (un pr259 t258)]] rfl (by (try simp only [List.map_toArray, List.map_cons, List.map_nil]); first | done | rfl | (simp only [List.length_drop, List.length_take]; rfl)) ?_; (with_reducible refine (spec_MulPair.calls pr253 t252 pr255 t254 pr257 t256 pr259 t258 t282 t284 _ A9.out).mono ?_); rintro e w52 ⟨pr283, pr285, rfl, hb⟩; refine ⟨_, rfl, ?_⟩; have n0_ := Aside0.mk (blk_below (g := gb260) (o := .cells #[.float .f64 (un pr253 t252), .float .f64 (un pr255 t254)] 36 (0, 0)) (by (with_reducible repeat (first | refine blk_drewN ?_ _ | refine blk_drew ?_ | refine blk_alloc ?_ _)); refine blk_far ?_ NB260_281.out _; (with_reducible repeat (first | refine blk_drewN ?_ _ | refine blk_drew ?_ | refine blk_alloc ?_ _)); refine blk_far ?_ NB260_281.out _; (with_reducible repeat (first | refine blk_drewN ?_ _ | refine blk_drew ?_ | refine blk_alloc ?_ _)); exact BK260.out) hb); have n1_ := Aside0.mk (blk_below (g := gb261) (o := .cells #[.float .f64 (un pr257 t256), .float .f64 (un pr259 t258)] 36 (0, 0)) (by (with_reducible repeat (first | refine blk_drewN ?_ _ | refine blk_drew ?_ | refine blk_alloc ?_ _)); refine blk_far ?_ NB261_281.out _; (with_reducible repeat (first | refine blk_drewN ?_ _ | refine blk_drew ?_ | refine blk_alloc ?_ _)); refine blk_far ?_ NB261_281.out _; (with_reducible repeat (first | refine blk_drewN ?_ _ | refine blk_drew ?_ | refine blk_alloc ?_ _)); exact BK261.out) hb); have n2_ := Aside0.mk (blk_below (g := gb266) (o := .cells #[.float .f64 (un pr263 t262), .float .f64 (un pr265 t264)] 36 (0, 0)) (by (with_reducible repeat (first | refine blk_drewN ?_ _ | refine blk_drew ?_ | refine blk_alloc ?_ _)); refine blk_far ?_ NB266_281.out _; (with_reducible repeat (first | refine blk_drewN ?_ _ | refine blk_drew ?_ | refine blk_alloc ?_ _)); refine blk_far ?_ NB266_281.out _; (with_reducible repeat (first | refine blk_drewN ?_ _ | refine blk_drew ?_ | refine blk_alloc ?_ _)); exact BK266.out) hb); have n3_ := Aside0.mk (blk_below (g := gb271) (o := .cells #[.float .f64 (un pr268 t267), .float .f64 (un pr270 t269)] 36 (0, 0)) (by (with_reducible repeat (first | refine blk_drewN ?_ _ | refine blk_drew ?_ | refine blk_alloc ?_ _)); refine blk_far ?_ NB271_281.out _; (with_reducible repeat (first | refine blk_drewN ?_ _ | refine blk_drew ?_ | refine blk_alloc ?_ _)); refine blk_far ?_ NB271_281.out _; (with_reducible repeat (first | refine blk_drewN ?_ _ | refine blk_drew ?_ | refine blk_alloc ?_ _)); exact BK271.out) hb); have n4_ := Aside0.mk (blk_below (g := gb276) (o := .cells #[.float .f64 (un pr273 t272), .float .f64 (un pr275 t274)] 36 (0, 0)) (by (with_reducible repeat (first | refine blk_drewN ?_ _ | refine blk_drew ?_ | refine blk_alloc ?_ _)); refine blk_far ?_ NB276_281.out _; (with_reducible repeat (first | refine blk_drewN ?_ _ | refine blk_drew ?_ | refine blk_alloc ?_ _)); refine blk_far ?_ NB276_281.out _; (with_reducible repeat (first | refine blk_drewN ?_ _ | refine blk_drew ?_ | refine blk_alloc ?_ _)); exact BK276.out) hb); have n5_ := Aside0.mk (blk_below (g := gb281) (o := .cells #[.float .f64 (un pr278 t277), .float .f64 (un pr280 t279)] 36 (0, 0)) (by (with_reducible repeat (first | refine blk_drewN ?_ _ | refine blk_drew ?_ | refine blk_alloc ?_ _)); refine blk_put (cs := #[.float .f64 (un pr278 t277), .float .f64 0]) ?_ 1 _ rfl; (with_reducible repeat (first | refine blk_drewN ?_ _ | refine blk_drew ?_ | refine blk_alloc ?_ _)); refine blk_put (cs := #[.float .f64 0, .float .f64 0]) ?_ 0 _ rfl; (with_reducible repeat (first | refine blk_drewN ?_ _ | refine blk_drew ?_ | refine blk_alloc ?_ _)); exact BK281.out) hb); have n6_ := Aside0.mk (below_step (by repeat (first | (with_reducible first | exact HB.out | apply below_alloc | apply pw_below_drewN | apply below_drew1 | refine below_set ?_ GE260.out | refine below_set ?_ GE261.out | refine below_set ?_ GE266.out | refine below_set ?_ GE271.out | refine below_set ?_ GE276.out | refine below_set ?_ GE281.out) | exact HB.out)) hb); clear BK260; clear BK261; clear BK266; clear BK271; clear BK276; clear BK281; clear HB; have BK260 := n0_; have BK261 := n1_; have BK266 := n2_; have BK271 := n3_; have BK276 := n4_; have BK281 := n5_; have HB := n6_; clear n0_ n1_ n2_ n3_ n4_ n5_ n6_; (try clear hb); (try clear hb2); (try clear hk); (try clear hi)) | ((with_reducible refine gate_dst (N := 9) rfl ?_); refine box_event ?hg (N := 9) ?hd (cs := #[.float .f64 0, .float .f64 0]) (t := 36) ?hr ?_; (case hd => rfl); (case hg => rfl); (case hr => first | (go_simp; done) | (go_simp; rfl)); intro gb286 hg w53 hbox hb; have n0_ := Aside0.mk (blk_below (g := gb260) (o := .cells #[.float .f64 (un pr253 t252), .float .f64 (un pr255 t254)] 36 (0, 0)) (by (with_reducible repeat (first | refine blk_drewN ?_ _ | refine blk_drew ?_ | refine blk_alloc ?_ _)); exact BK260.out) hb); have n1_ := Aside0.mk (blk_below (g := gb261) (o := .cells #[.float .f64 (un pr257 t256), .float .f64 (un pr259 t258)] 36 (0, 0)) (by (with_reducible repeat (first | refine blk_drewN ?_ _ | refine blk_drew ?_ | refine blk_alloc ?_ _)); exact BK261.out) hb); have n2_ := Aside0.mk (blk_below (g := gb266) (o := .cells #[.float .f64 (un pr263 t262), .float .f64 (un pr265 t264)] 36 (0, 0)) (by (with_reducible repeat (first | refine blk_drewN ?_ _ | refine blk_drew ?_ | refine blk_alloc ?_ _)); exact BK266.out) hb); have n3_ := Aside0.mk (blk_below (g := gb271) (o := .cells #[.float .f64 (un pr268 t267), .float .f64 (un pr270 t269)] 36 (0, 0)) (by (with_reducible repeat (first | refine blk_drewN ?_ _ | refine blk_drew ?_ | refine blk_alloc ?_ _)); exact BK271.out) hb); have n4_ := Aside0.mk (blk_below (g := gb276) (o := .cells #[.float .f64 (un pr273 t272), .float .f64 (un pr275 t274)] 36 (0, 0)) (by (with_reducible repeat (first | refine blk_drewN ?_ _ | refine blk_drew ?_ | refine blk_alloc ?_ _)); exact BK276.out) hb); have n5_ := Aside0.mk (blk_below (g := gb281) (o := .cells #[.float .f64 (un pr278 t277), .float .f64 (un pr280 t279)] 36 (0, 0)) (by (with_reducible repeat (first | refine blk_drewN ?_ _ | refine blk_drew ?_ | refine blk_alloc ?_ _)); exact BK281.out) hb); have n6_ := Aside0.mk (below_step (by repeat (first | (with_reducible first | exact HB.out | apply below_alloc | apply pw_below_drewN | apply below_drew1 | refine below_set ?_ GE260.out | refine below_set ?_ GE261.out | refine below_set ?_ GE266.out | refine below_set ?_ GE271.out | refine below_set ?_ GE276.out | refine below_set ?_ GE281.out) | exact HB.out)) hb); have n7_ := Aside0.mk (hbox); have n8_ := Aside0.mk ((by rw [hg]; exact (below_size (by repeat (first | (with_reducible first | exact HB.out | apply below_alloc | apply pw_below_drewN | apply below_drew1 | refine below_set ?_ GE260.out | refine below_set ?_ GE261.out | refine below_set ?_ GE266.out | refine below_set ?_ GE271.out | refine below_set ?_ GE276.out | refine below_set ?_ GE281.out) | exact HB.out))) : w.heap.size ≤ gb286)); have n9_ := Aside0.mk ((by rw [hg]; exact (below_size (by repeat (first | (with_reducible first | exact HB.out | apply below_alloc | apply pw_below_drewN | apply below_drew1 | refine below_set ?_ GE260.out | refine below_set ?_ GE261.out | refine below_set ?_ GE266.out | refine below_set ?_ GE271.out | refine below_set ?_ GE276.out | refine below_set ?_ GE281.out) | exact HB.out))) : w.heap.size ≤ gb286)); have n10_ := Aside0.mk ((by rw [hg]; exact Nat.ne_of_lt (blk_lt (g := gb260) (o := .cells #[.float .f64 (un pr253 t252), .float .f64 (un pr255 t254)] 36 (0, 0)) (by (with_reducible repeat (first | refine blk_drewN ?_ _ | refine blk_drew ?_ | refine blk_alloc ?_ _)); exact BK260.out)) : gb260 ≠ gb286)); have n11_ := Aside0.mk ((by rw [hg]; exact Nat.ne_of_gt (blk_lt (g := gb260) (o := .cells #[.float .f64 (un pr253 t252), .float .f64 (un pr255 t254)] 36 (0, 0)) (by (with_reducible repeat (first | refine blk_drewN ?_ _ | refine blk_drew ?_ | refine blk_alloc ?_ _)); exact BK260.out)) : gb286 ≠ gb260)); have n12_ := Aside0.mk ((by rw [hg]; exact Nat.ne_of_lt (blk_lt (g := gb261) (o := .cells #[.float .f64 (un pr257 t256), .float .f64 (un pr259 t258)] 36 (0, 0)) (by (with_reducible repeat (first | refine blk_drewN ?_ _ | refine blk_drew ?_ | refine blk_alloc ?_ _)); exact BK261.out)) : gb261 ≠ gb286)); have n13_ := Aside0.mk ((by rw [hg]; exact Nat.ne_of_gt (blk_lt (g := gb261) (o := .cells #[.float .f64 (un pr257 t256), .float .f64 (un pr259 t258)] 36 (0, 0)) (by (with_reducible repeat (first | refine blk_drewN ?_ _ | refine blk_drew ?_ | refine blk_alloc ?_ _)); exact BK261.out)) : gb286 ≠ gb261)); have n14_ := Aside0.mk ((by rw [hg]; exact Nat.ne_of_lt (blk_lt (g := gb266) (o := .cells #[.float .f64 (un pr263 t262), .float .f64 (un pr265 t264)] 36 (0, 0)) (by (with_reducible repeat (first | refine blk_drewN ?_ _ | refine blk_drew ?_ | refine blk_alloc ?_ _)); exact BK266.out)) : gb266 ≠ gb286)); have n15_ := Aside0.mk ((by rw [hg]; exact Nat.ne_of_gt (blk_lt (g := gb266) (o := .cells #[.float .f64 (un pr263 t262), .float .f64 (un pr265 t264)] 36 (0, 0)) (by (with_reducible repeat (first | refine blk_drewN ?_ _ | refine blk_drew ?_ | refine blk_alloc ?_ _)); exact BK266.out)) : gb286 ≠ gb266)); have n16_ := Aside0.mk ((by rw [hg]; exact Nat.ne_of_lt (blk_lt (g := gb271) (o := .cells #[.float .f64 (un pr268 t267), .float .f64 (un pr270 t269)] 36 (0, 0)) (by (with_reducible repeat (first | refine blk_drewN ?_ _ | refine blk_drew ?_ | refine blk_alloc ?_ _)); exact BK271.out)) : gb271 ≠ gb286)); have n17_ := Aside0.mk ((by rw [hg]; exact Nat.ne_of_gt (blk_lt (g := gb271) (o := .cells #[.float .f64 (un pr268 t267), .float .f64 (un pr270 t269)] 36 (0, 0)) (by (with_reducible repeat (first | refine blk_drewN ?_ _ | refine blk_drew ?_ | refine blk_alloc ?_ _)); exact BK271.out)) : gb286 ≠ gb271)); have n18_ := Aside0.mk ((by rw [hg]; exact Nat.ne_of_lt (blk_lt (g := gb276) (o := .cells #[.float .f64 (un pr273 t272), .float .f64 (un pr275 t274)] 36 (0, 0)) (by (with_reducible repeat (first | refine blk_drewN ?_ _ | refine blk_drew ?_ | refine blk_alloc ?_ _)); exact BK276.out)) : gb276 ≠ gb286)); have n19_ := Aside0.mk ((by rw [hg]; exact Nat.ne_of_gt (blk_lt (g := gb276) (o := .cells #[.float .f64 (un pr273 t272), .float .f64 (un pr275 t274)] 36 (0, 0)) (by (with_reducible repeat (first | refine blk_drewN ?_ _ | refine blk_drew ?_ | refine blk_alloc ?_ _)); exact BK276.out)) : gb286 ≠ gb276)); have n20_ := Aside0.mk ((by rw [hg]; exact Nat.ne_of_lt (blk_lt (g := gb281) (o := .cells #[.float .f64 (un pr278 t277), .float .f64 (un pr280 t279)] 36 (0, 0)) (by (with_reducible repeat (first | refine blk_drewN ?_ _ | refine blk_drew ?_ | refine blk_alloc ?_ _)); exact BK281.out)) : gb281 ≠ gb286)); have n21_ := Aside0.mk ((by rw [hg]; exact Nat.ne_of_gt (blk_lt (g := gb281) (o := .cells #[.float .f64 (un pr278 t277), .float .f64 (un pr280 t279)] 36 (0, 0)) (by (with_reducible repeat (first | refine blk_drewN ?_ _ | refine blk_drew ?_ | refine blk_alloc ?_ _)); exact BK281.out)) : gb286 ≠ gb281)); clear BK260; clear BK261; clear BK266; clear BK271; clear BK276; clear BK281; clear HB; have BK260 := n0_; have BK261 := n1_; have BK266 := n2_; have BK271 := n3_; have BK276 := n4_; have BK281 := n5_; have HB := n6_; have BK286 := n7_; have GW286 := n8_; have GE286 := n9_; have NB260_286 := n10_; have NB286_260 := n11_; have NB261_286 := n12_; have NB286_261 := n13_; have NB266_286 := n14_; have NB286_266 := n15_; have NB271_286 := n16_; have NB286_271 := n17_; have NB276_286 := n18_; have NB286_276 := n19_; have NB281_286 := n20_; have NB286_281 := n21_; clear n0_ n1_ n2_ n3_ n4_ n5_ n6_ n7_ n8_ n9_ n10_ n11_ n12_ n13_ n14_ n15_ n16_ n17_ n18_ n19_ n20_ n21_; clear hb hbox hg; have hnb54 := NB286_260.out; have hnc54 := NB260_286.out; have hnb55 := NB286_261.out; have hnc55 := NB261_286.out; have hnb56 := NB286_266.out; have hnc56 := NB266_286.out; have hnb57 := NB286_271.out; have hnc57 := NB271_286.out; have hnb58 := NB286_276.out; have hnc58 := NB276_286.out; have hnb59 := NB286_281.out; have hnc59 := NB281_286.out; have hcz60_0 : w53.cell? ⟨gb286, 0, none⟩ = some (.float .f64 0) := (blk_cell BK286.out 0).trans rfl; have hcz60_1 : w53.cell? ⟨gb286, 1, none⟩ = some (.float .f64 0) := (blk_cell BK286.out 1).trans rfl; have hfz60_0 := blk_frozen BK286.out 0; have hfz60_1 := blk_frozen BK286.out 1; have hcz61_0 : w53.cell? ⟨gb260, 0, none⟩ = some (.float .f64 (un pr253 t252)) := (blk_cell BK260.out 0).trans rfl; have hcz61_1 : w53.cell? ⟨gb260, 1, none⟩ = some (.float .f64 (un pr255 t254)) := (blk_cell BK260.out 1).trans rfl; have hfz61_0 := blk_frozen BK260.out 0; have hfz61_1 := blk_frozen BK260.out 1; have hcz62_0 : w53.cell? ⟨gb261, 0, none⟩ = some (.float .f64 (un pr257 t256)) := (blk_cell BK261.out 0).trans rfl; have hcz62_1 : w53.cell? ⟨gb261, 1, none⟩ = some (.float .f64 (un pr259 t258)) := (blk_cell BK261.out 1).trans rfl; have hfz62_0 := blk_frozen BK261.out 0; have hfz62_1 := blk_frozen BK261.out 1) | ((with_reducible refine gate_callee (f := 20) rfl ?_); refine goesL_ (some 35) rfl rfl Try.func20 (by kernel_rfl) rfl #[.agg #[.float .f64 (un pr253 t252), .float .f64 (un pr255 t254)], .agg #[.float .f64 (un pr257 t256), .float .f64 (un pr259 t258)]] rfl (by (try simp only [List.map_toArray, List.map_cons, List.map_nil]); first | done | rfl | (simp only [List.length_drop, List.length_take]; rfl)) ?_; (with_reducible refine (spec_AddPair.calls pr253 t252 pr255 t254 pr257 t256 pr259 t258 t287 t289 _ A10.out).mono ?_); rintro e w63 ⟨pr288, pr290, rfl, hb⟩; refine ⟨_, rfl, ?_⟩; have n0_ := Aside0.mk (blk_below (g := gb260) (o := .cells #[.float .f64 (un pr253 t252), .float .f64 (un pr255 t254)] 36 (0, 0)) (by (with_reducible repeat (first | refine blk_drewN ?_ _ | refine blk_drew ?_ | refine blk_alloc ?_ _)); refine blk_far ?_ NB260_286.out _; (with_reducible repeat (first | refine blk_drewN ?_ _ | refine blk_drew ?_ | refine blk_alloc ?_ _)); refine blk_far ?_ NB260_286.out _; (with_reducible repeat (first | refine blk_drewN ?_ _ | refine blk_drew ?_ | refine blk_alloc ?_ _)); exact BK260.out) hb); have n1_ := Aside0.mk (blk_below (g := gb261) (o := .cells #[.float .f64 (un pr257 t256), .float .f64 (un pr259 t258)] 36 (0, 0)) (by (with_reducible repeat (first | refine blk_drewN ?_ _ | refine blk_drew ?_ | refine blk_alloc ?_ _)); refine blk_far ?_ NB261_286.out _; (with_reducible repeat (first | refine blk_drewN ?_ _ | refine blk_drew ?_ | refine blk_alloc ?_ _)); refine blk_far ?_ NB261_286.out _; (with_reducible repeat (first | refine blk_drewN ?_ _ | refine blk_drew ?_ | refine blk_alloc ?_ _)); exact BK261.out) hb); have n2_ := Aside0.mk (blk_below (g := gb266) (o := .cells #[.float .f64 (un pr263 t262), .float .f64 (un pr265 t264)] 36 (0, 0)) (by (with_reducible repeat (first | refine blk_drewN ?_ _ | refine blk_drew ?_ | refine blk_alloc ?_ _)); refine blk_far ?_ NB266_286.out _; (with_reducible repeat (first | refine blk_drewN ?_ _ | refine blk_drew ?_ | refine blk_alloc ?_ _)); refine blk_far ?_ NB266_286.out _; (with_reducible repeat (first | refine blk_drewN ?_ _ | refine blk_drew ?_ | refine blk_alloc ?_ _)); exact BK266.out) hb); have n3_ := Aside0.mk (blk_below (g := gb271) (o := .cells #[.float .f64 (un pr268 t267), .float .f64 (un pr270 t269)] 36 (0, 0)) (by (with_reducible repeat (first | refine blk_drewN ?_ _ | refine blk_drew ?_ | refine blk_alloc ?_ _)); refine blk_far ?_ NB271_286.out _; (with_reducible repeat (first | refine blk_drewN ?_ _ | refine blk_drew ?_ | refine blk_alloc ?_ _)); refine blk_far ?_ NB271_286.out _; (with_reducible repeat (first | refine blk_drewN ?_ _ | refine blk_drew ?_ | refine blk_alloc ?_ _)); exact BK271.out) hb); have n4_ := Aside0.mk (blk_below (g := gb276) (o := .cells #[.float .f64 (un pr273 t272), .float .f64 (un pr275 t274)] 36 (0, 0)) (by (with_reducible repeat (first | refine blk_drewN ?_ _ | refine blk_drew ?_ | refine blk_alloc ?_ _)); refine blk_far ?_ NB276_286.out _; (with_reducible repeat (first | refine blk_drewN ?_ _ | refine blk_drew ?_ | refine blk_alloc ?_ _)); refine blk_far ?_ NB276_286.out _; (with_reducible repeat (first | refine blk_drewN ?_ _ | refine blk_drew ?_ | refine blk_alloc ?_ _)); exact BK276.out) hb); have n5_ := Aside0.mk (blk_below (g := gb281) (o := .cells #[.float .f64 (un pr278 t277), .float .f64 (un pr280 t279)] 36 (0, 0)) (by (with_reducible repeat (first | refine blk_drewN ?_ _ | refine blk_drew ?_ | refine blk_alloc ?_ _)); refine blk_far ?_ NB281_286.out _; (with_reducible repeat (first | refine blk_drewN ?_ _ | refine blk_drew ?_ | refine blk_alloc ?_ _)); refine blk_far ?_ NB281_286.out _; (with_reducible repeat (first | refine blk_drewN ?_ _ | refine blk_drew ?_ | refine blk_alloc ?_ _)); exact BK281.out) hb); have n6_ := Aside0.mk (blk_below (g := gb286) (o := .cells #[.float .f64 (un pr283 t282), .float .f64 (un pr285 t284)] 36 (0, 0)) (by (with_reducible repeat (first | refine blk_drewN ?_ _ | refine blk_drew ?_ | refine blk_alloc ?_ _)); refine blk_put (cs := #[.float .f64 (un pr283 t282), .float .f64 0]) ?_ 1 _ rfl; (with_reducible repeat (first | refine blk_drewN ?_ _ | refine blk_drew ?_ | refine blk_alloc ?_ _)); refine blk_put (cs := #[.float .f64 0, .float .f64 0]) ?_ 0 _ rfl; (with_reducible repeat (first | refine blk_drewN ?_ _ | refine blk_drew ?_ | refine blk_alloc ?_ _)); exact BK286.out) hb); have n7_ := Aside0.mk (below_step (by repeat (first | (with_reducible first | exact HB.out | apply below_alloc | apply pw_below_drewN | apply below_drew1 | refine below_set ?_ GE260.out | refine below_set ?_ GE261.out | refine below_set ?_ GE266.out | refine below_set ?_ GE271.out | refine below_set ?_ GE276.out | refine below_set ?_ GE281.out | refine below_set ?_ GE286.out) | exact HB.out)) hb); clear BK260; clear BK261; clear BK266; clear BK271; clear BK276; clear BK281; clear BK286; clear HB; have BK260 := n0_; have BK261 := n1_; have BK266 := n2_; have BK271 := n3_; have BK276 := n4_; have BK281 := n5_; have BK286 := n6_; have HB := n7_; clear n0_ n1_ n2_ n3_ n4_ n5_ n6_ n7_; (try clear hb); (try clear hb2); (try clear hk); (try clear hi)) | ((with_reducible refine gate_dst (N := 10) rfl ?_); refine box_event ?hg (N := 10) ?hd (cs := #[.float .f64 0, .float .f64 0]) (t := 36) ?hr ?_; (case hd => rfl); (case hg => rfl); (case hr => first | (go_simp; done) | (go_simp; rfl)); intro gb291 hg w64 hbox hb; have n0_ := Aside0.mk (blk_below (g := gb260) (o := .cells #[.float .f64 (un pr253 t252), .float .f64 (un pr255 t254)] 36 (0, 0)) (by (with_reducible repeat (first | refine blk_drewN ?_ _ | refine blk_drew ?_ | refine blk_alloc ?_ _)); exact BK260.out) hb); have n1_ := Aside0.mk (blk_below (g := gb261) (o := .cells #[.float .f64 (un pr257 t256), .float .f64 (un pr259 t258)] 36 (0, 0)) (by (with_reducible repeat (first | refine blk_drewN ?_ _ | refine blk_drew ?_ | refine blk_alloc ?_ _)); exact BK261.out) hb); have n2_ := Aside0.mk (blk_below (g := gb266) (o := .cells #[.float .f64 (un pr263 t262), .float .f64 (un pr265 t264)] 36 (0, 0)) (by (with_reducible repeat (first | refine blk_drewN ?_ _ | refine blk_drew ?_ | refine blk_alloc ?_ _)); exact BK266.out) hb); have n3_ := Aside0.mk (blk_below (g := gb271) (o := .cells #[.float .f64 (un pr268 t267), .float .f64 (un pr270 t269)] 36 (0, 0)) (by (with_reducible repeat (first | refine blk_drewN ?_ _ | refine blk_drew ?_ | refine blk_alloc ?_ _)); exact BK271.out) hb); have n4_ := Aside0.mk (blk_below (g := gb276) (o := .cells #[.float .f64 (un pr273 t272), .float .f64 (un pr275 t274)] 36 (0, 0)) (by (with_reducible repeat (first | refine blk_drewN ?_ _ | refine blk_drew ?_ | refine blk_alloc ?_ _)); exact BK276.out) hb); have n5_ := Aside0.mk (blk_below (g := gb281) (o := .cells #[.float .f64 (un pr278 t277), .float .f64 (un pr280 t279)] 36 (0, 0)) (by (with_reducible repeat (first | refine blk_drewN ?_ _ | refine blk_drew ?_ | refine blk_alloc ?_ _)); exact BK281.out) hb); have n6_ := Aside0.mk (blk_below (g := gb286) (o := .cells #[.float .f64 (un pr283 t282), .float .f64 (un pr285 t284)] 36 (0, 0)) (by (with_reducible repeat (first | refine blk_drewN ?_ _ | refine blk_drew ?_ | refine blk_alloc ?_ _)); exact BK286.out) hb); have n7_ := Aside0.mk (below_step (by repeat (first | (with_reducible first | exact HB.out | apply below_alloc | apply pw_below_drewN | apply below_drew1 | refine below_set ?_ GE260.out | refine below_set ?_ GE261.out | refine below_set ?_ GE266.out | refine below_set ?_ GE271.out | refine below_set ?_ GE276.out | refine below_set ?_ GE281.out | refine below_set ?_ GE286.out) | exact HB.out)) hb); have n8_ := Aside0.mk (hbox); have n9_ := Aside0.mk ((by rw [hg]; exact (below_size (by repeat (first | (with_reducible first | exact HB.out | apply below_alloc | apply pw_below_drewN | apply below_drew1 | refine below_set ?_ GE260.out | refine below_set ?_ GE261.out | refine below_set ?_ GE266.out | refine below_set ?_ GE271.out | refine below_set ?_ GE276.out | refine below_set ?_ GE281.out | refine below_set ?_ GE286.out) | exact HB.out))) : w.heap.size ≤ gb291)); have n10_ := Aside0.mk ((by rw [hg]; exact (below_size (by repeat (first | (with_reducible first | exact HB.out | apply below_alloc | apply pw_below_drewN | apply below_drew1 | refine below_set ?_ GE260.out | refine below_set ?_ GE261.out | refine below_set ?_ GE266.out | refine below_set ?_ GE271.out | refine below_set ?_ GE276.out | refine below_set ?_ GE281.out | refine below_set ?_ GE286.out) | exact HB.out))) : w.heap.size ≤ gb291)); have n11_ := Aside0.mk ((by rw [hg]; exact Nat.ne_of_lt (blk_lt (g := gb260) (o := .cells #[.float .f64 (un pr253 t252), .float .f64 (un pr255 t254)] 36 (0, 0)) (by (with_reducible repeat (first | refine blk_drewN ?_ _ | refine blk_drew ?_ | refine blk_alloc ?_ _)); exact BK260.out)) : gb260 ≠ gb291)); have n12_ := Aside0.mk ((by rw [hg]; exact Nat.ne_of_gt (blk_lt (g := gb260) (o := .cells #[.float .f64 (un pr253 t252), .float .f64 (un pr255 t254)] 36 (0, 0)) (by (with_reducible repeat (first | refine blk_drewN ?_ _ | refine blk_drew ?_ | refine blk_alloc ?_ _)); exact BK260.out)) : gb291 ≠ gb260)); have n13_ := Aside0.mk ((by rw [hg]; exact Nat.ne_of_lt (blk_lt (g := gb261) (o := .cells #[.float .f64 (un pr257 t256), .float .f64 (un pr259 t258)] 36 (0, 0)) (by (with_reducible repeat (first | refine blk_drewN ?_ _ | refine blk_drew ?_ | refine blk_alloc ?_ _)); exact BK261.out)) : gb261 ≠ gb291)); have n14_ := Aside0.mk ((by rw [hg]; exact Nat.ne_of_gt (blk_lt (g := gb261) (o := .cells #[.float .f64 (un pr257 t256), .float .f64 (un pr259 t258)] 36 (0, 0)) (by (with_reducible repeat (first | refine blk_drewN ?_ _ | refine blk_drew ?_ | refine blk_alloc ?_ _)); exact BK261.out)) : gb291 ≠ gb261)); have n15_ := Aside0.mk ((by rw [hg]; exact Nat.ne_of_lt (blk_lt (g := gb266) (o := .cells #[.float .f64 (un pr263 t262), .float .f64 (un pr265 t264)] 36 (0, 0)) (by (with_reducible repeat (first | refine blk_drewN ?_ _ | refine blk_drew ?_ | refine blk_alloc ?_ _)); exact BK266.out)) : gb266 ≠ gb291)); have n16_ := Aside0.mk ((by rw [hg]; exact Nat.ne_of_gt (blk_lt (g := gb266) (o := .cells #[.float .f64 (un pr263 t262), .float .f64 (un pr265 t264)] 36 (0, 0)) (by (with_reducible repeat (first | refine blk_drewN ?_ _ | refine blk_drew ?_ | refine blk_alloc ?_ _)); exact BK266.out)) : gb291 ≠ gb266)); have n17_ := Aside0.mk ((by rw [hg]; exact Nat.ne_of_lt (blk_lt (g := gb271) (o := .cells #[.float .f64 (un pr268 t267), .float .f64 (un pr270 t269)] 36 (0, 0)) (by (with_reducible repeat (first | refine blk_drewN ?_ _ | refine blk_drew ?_ | refine blk_alloc ?_ _)); exact BK271.out)) : gb271 ≠ gb291)); have n18_ := Aside0.mk ((by rw [hg]; exact Nat.ne_of_gt (blk_lt (g := gb271) (o := .cells #[.float .f64 (un pr268 t267), .float .f64 (un pr270 t269)] 36 (0, 0)) (by (with_reducible repeat (first | refine blk_drewN ?_ _ | refine blk_drew ?_ | refine blk_alloc ?_ _)); exact BK271.out)) : gb291 ≠ gb271)); have n19_ := Aside0.mk ((by rw [hg]; exact Nat.ne_of_lt (blk_lt (g := gb276) (o := .cells #[.float .f64 (un pr273 t272), .float .f64 (un pr275 t274)] 36 (0, 0)) (by (with_reducible repeat (first | refine blk_drewN ?_ _ | refine blk_drew ?_ | refine blk_alloc ?_ _)); exact BK276.out)) : gb276 ≠ gb291)); have n20_ := Aside0.mk ((by rw [hg]; exact Nat.ne_of_gt (blk_lt (g := gb276) (o := .cells #[.float .f64 (un pr273 t272), .float .f64 (un pr275 t274)] 36 (0, 0)) (by (with_reducible repeat (first | refine blk_drewN ?_ _ | refine blk_drew ?_ | refine blk_alloc ?_ _)); exact BK276.out)) : gb291 ≠ gb276)); have n21_ := Aside0.mk ((by rw [hg]; exact Nat.ne_of_lt (blk_lt (g := gb281) (o := .cells #[.float .f64 (un pr278 t277), .float .f64 (un pr280 t279)] 36 (0, 0)) (by (with_reducible repeat (first | refine blk_drewN ?_ _ | refine blk_drew ?_ | refine blk_alloc ?_ _)); exact BK281.out)) : gb281 ≠ gb291)); have n22_ := Aside0.mk ((by rw [hg]; exact Nat.ne_of_gt (blk_lt (g := gb281) (o := .cells #[.float .f64 (un pr278 t277), .float .f64 (un pr280 t279)] 36 (0, 0)) (by (with_reducible repeat (first | refine blk_drewN ?_ _ | refine blk_drew ?_ | refine blk_alloc ?_ _)); exact BK281.out)) : gb291 ≠ gb281)); have n23_ := Aside0.mk ((by rw [hg]; exact Nat.ne_of_lt (blk_lt (g := gb286) (o := .cells #[.float .f64 (un pr283 t282), .float .f64 (un pr285 t284)] 36 (0, 0)) (by (with_reducible repeat (first | refine blk_drewN ?_ _ | refine blk_drew ?_ | refine blk_alloc ?_ _)); exact BK286.out)) : gb286 ≠ gb291)); have n24_ := Aside0.mk ((by rw [hg]; exact Nat.ne_of_gt (blk_lt (g := gb286) (o := .cells #[.float .f64 (un pr283 t282), .float .f64 (un pr285 t284)] 36 (0, 0)) (by (with_reducible repeat (first | refine blk_drewN ?_ _ | refine blk_drew ?_ | refine blk_alloc ?_ _)); exact BK286.out)) : gb291 ≠ gb286)); clear BK260; clear BK261; clear BK266; clear BK271; clear BK276; clear BK281; clear BK286; clear HB; have BK260 := n0_; have BK261 := n1_; have BK266 := n2_; have BK271 := n3_; have BK276 := n4_; have BK281 := n5_; have BK286 := n6_; have HB := n7_; have BK291 := n8_; have GW291 := n9_; have GE291 := n10_; have NB260_291 := n11_; have NB291_260 := n12_; have NB261_291 := n13_; have NB291_261 := n14_; have NB266_291 := n15_; have NB291_266 := n16_; have NB271_291 := n17_; have NB291_271 := n18_; have NB276_291 := n19_; have NB291_276 := n20_; have NB281_291 := n21_; have NB291_281 := n22_; have NB286_291 := n23_; have NB291_286 := n24_; clear n0_ n1_ n2_ n3_ n4_ n5_ n6_ n7_ n8_ n9_ n10_ n11_ n12_ n13_ n14_ n15_ n16_ n17_ n18_ n19_ n20_ n21_ n22_ n23_ n24_; clear hb hbox hg; have hnb65 := NB291_260.out; have hnc65 := NB260_291.out; have hnb66 := NB291_261.out; have hnc66 := NB261_291.out; have hnb67 := NB291_266.out; have hnc67 := NB266_291.out; have hnb68 := NB291_271.out; have hnc68 := NB271_291.out; have hnb69 := NB291_276.out; have hnc69 := NB276_291.out; have hnb70 := NB291_281.out; have hnc70 := NB281_291.out; have hnb71 := NB291_286.out; have hnc71 := NB286_291.out; have hcz72_0 : w64.cell? ⟨gb291, 0, none⟩ = some (.float .f64 0) := (blk_cell BK291.out 0).trans rfl; have hcz72_1 : w64.cell? ⟨gb291, 1, none⟩ = some (.float .f64 0) := (blk_cell BK291.out 1).trans rfl; have hfz72_0 := blk_frozen BK291.out 0; have hfz72_1 := blk_frozen BK291.out 1))
  (try simp only [Act.put, sqA, sqZ, sqS])
  go_cut [65] (fun v65 wc => ∃ (kq : Nat) (x65_10 : Bool), v65 = .bool x65_10 ∧ Aside0 (laws_FnPairs.j0 kq x65_10 t252 t254 t256 t258 t262 t264 t267 t269 t272 t274 t277 t279 t282 t284 = some r) ∧ Aside0 (kq ≤ k) ∧ Aside0 (wc.heap[gb260]? = some (.cells #[.float .f64 (un pr253 t252), .float .f64 (un pr255 t254)] 36 (0, 0))) ∧ Aside0 (wc.heap[gb261]? = some (.cells #[.float .f64 (un pr257 t256), .float .f64 (un pr259 t258)] 36 (0, 0))) ∧ Aside0 (wc.heap[gb266]? = some (.cells #[.float .f64 (un pr263 t262), .float .f64 (un pr265 t264)] 36 (0, 0))) ∧ Aside0 (wc.heap[gb271]? = some (.cells #[.float .f64 (un pr268 t267), .float .f64 (un pr270 t269)] 36 (0, 0))) ∧ Aside0 (wc.heap[gb276]? = some (.cells #[.float .f64 (un pr273 t272), .float .f64 (un pr275 t274)] 36 (0, 0))) ∧ Aside0 (wc.heap[gb281]? = some (.cells #[.float .f64 (un pr278 t277), .float .f64 (un pr280 t279)] 36 (0, 0))) ∧ Aside0 (wc.heap[gb286]? = some (.cells #[.float .f64 (un pr283 t282), .float .f64 (un pr285 t284)] 36 (0, 0))) ∧ Aside0 (wc.heap[gb291]? = some (.cells #[.float .f64 (un pr288 t287), .float .f64 (un pr290 t289)] 36 (0, 0))) ∧ Aside0 (Below w.heap.size w wc))
  case first =>
   have H := HC11.out
   clear HC11
   replace H := Option.bind_eq_some_iff.mp H
   obtain ⟨t292, A730, H⟩ := H
   replace H : (if t292 = true then ((spec_Same.f k t264 t284).bind fun t293 => (if t293 = true then ((spec_Same.f k t272 t287).bind fun t294 => (if t294 = true then ((spec_Same.f k t274 t289).bind fun t295 => (laws_FnPairs.j0 k (!t295) t252 t254 t256 t258 t262 t264 t267 t269 t272 t274 t277 t279 t282 t284)) else (laws_FnPairs.j0 k true t252 t254 t256 t258 t262 t264 t267 t269 t272 t274 t277 t279 t282 t284))) else (laws_FnPairs.j0 k true t252 t254 t256 t258 t262 t264 t267 t269 t272 t274 t277 t279 t282 t284))) else (laws_FnPairs.j0 k true t252 t254 t256 t258 t262 t264 t267 t269 t272 t274 t277 t279 t282 t284)) = some r := H
   have A73 := Aside0.mk A730
   clear A730
   by_cases c74 : t292 = true
   ·subst c74
    have H1 : ((spec_Same.f k t264 t284).bind fun t293 => (if t293 = true then ((spec_Same.f k t272 t287).bind fun t294 => (if t294 = true then ((spec_Same.f k t274 t289).bind fun t295 => (laws_FnPairs.j0 k (!t295) t252 t254 t256 t258 t262 t264 t267 t269 t272 t274 t277 t279 t282 t284)) else (laws_FnPairs.j0 k true t252 t254 t256 t258 t262 t264 t267 t269 t272 t274 t277 t279 t282 t284))) else (laws_FnPairs.j0 k true t252 t254 t256 t258 t262 t264 t267 t269 t272 t274 t277 t279 t282 t284))) = some r := by rw [if_pos rfl] at H; exact H
    clear H
    have H := H1
    clear H1
    replace H := Option.bind_eq_some_iff.mp H
    obtain ⟨t293, A750, H⟩ := H
    replace H : (if t293 = true then ((spec_Same.f k t272 t287).bind fun t294 => (if t294 = true then ((spec_Same.f k t274 t289).bind fun t295 => (laws_FnPairs.j0 k (!t295) t252 t254 t256 t258 t262 t264 t267 t269 t272 t274 t277 t279 t282 t284)) else (laws_FnPairs.j0 k true t252 t254 t256 t258 t262 t264 t267 t269 t272 t274 t277 t279 t282 t284))) else (laws_FnPairs.j0 k true t252 t254 t256 t258 t262 t264 t267 t269 t272 t274 t277 t279 t282 t284)) = some r := H
    have A75 := Aside0.mk A750
    clear A750
    by_cases c76 : t293 = true
    ·subst c76
     have H1 : ((spec_Same.f k t272 t287).bind fun t294 => (if t294 = true then ((spec_Same.f k t274 t289).bind fun t295 => (laws_FnPairs.j0 k (!t295) t252 t254 t256 t258 t262 t264 t267 t269 t272 t274 t277 t279 t282 t284)) else (laws_FnPairs.j0 k true t252 t254 t256 t258 t262 t264 t267 t269 t272 t274 t277 t279 t282 t284))) = some r := by rw [if_pos rfl] at H; exact H
     clear H
     have H := H1
     clear H1
     replace H := Option.bind_eq_some_iff.mp H
     obtain ⟨t294, A770, H⟩ := H
     replace H : (if t294 = true then ((spec_Same.f k t274 t289).bind fun t295 => (laws_FnPairs.j0 k (!t295) t252 t254 t256 t258 t262 t264 t267 t269 t272 t274 t277 t279 t282 t284)) else (laws_FnPairs.j0 k true t252 t254 t256 t258 t262 t264 t267 t269 t272 t274 t277 t279 t282 t284)) = some r := H
     have A77 := Aside0.mk A770
     clear A770
     by_cases c78 : t294 = true
     ·subst c78
      have H1 : ((spec_Same.f k t274 t289).bind fun t295 => (laws_FnPairs.j0 k (!t295) t252 t254 t256 t258 t262 t264 t267 t269 t272 t274 t277 t279 t282 t284)) = some r := by rw [if_pos rfl] at H; exact H
      clear H
      have H := H1
      clear H1
      replace H := Option.bind_eq_some_iff.mp H
      obtain ⟨t295, A790, H⟩ := H
      replace H : (laws_FnPairs.j0 k (!t295) t252 t254 t256 t258 t262 t264 t267 t269 t272 t274 t277 t279 t282 t284) = some r := H
      have A79 := Aside0.mk A790
      clear A790
      have H' := Aside0.mk H
      clear H
      have hnb80 := NB266_260.out
      have hnc80 := NB260_266.out
      have hnb81 := NB266_261.out
      have hnc81 := NB261_266.out
      have hnb82 := NB266_271.out
      have hnc82 := NB271_266.out
      have hnb83 := NB266_276.out
      have hnc83 := NB276_266.out
      have hnb84 := NB266_281.out
      have hnc84 := NB281_266.out
      have hnb85 := NB266_286.out
      have hnc85 := NB286_266.out
      have hnb86 := NB266_291.out
      have hnc86 := NB291_266.out
      have hcz87_0 : w64.cell? ⟨gb266, 0, none⟩ = some (.float .f64 (un pr263 t262)) := (blk_cell BK266.out 0).trans rfl
      have hcz87_1 : w64.cell? ⟨gb266, 1, none⟩ = some (.float .f64 (un pr265 t264)) := (blk_cell BK266.out 1).trans rfl
      have hfz87_0 := blk_frozen BK266.out 0
      have hfz87_1 := blk_frozen BK266.out 1
      have hnb88 := NB286_260.out
      have hnc88 := NB260_286.out
      have hnb89 := NB286_261.out
      have hnc89 := NB261_286.out
      have hnb90 := NB286_271.out
      have hnc90 := NB271_286.out
      have hnb91 := NB286_276.out
      have hnc91 := NB276_286.out
      have hnb92 := NB286_281.out
      have hnc92 := NB281_286.out
      have hnb93 := NB286_291.out
      have hnc93 := NB291_286.out
      have hcz94_0 : w64.cell? ⟨gb286, 0, none⟩ = some (.float .f64 (un pr283 t282)) := (blk_cell BK286.out 0).trans rfl
      have hcz94_1 : w64.cell? ⟨gb286, 1, none⟩ = some (.float .f64 (un pr285 t284)) := (blk_cell BK286.out 1).trans rfl
      have hfz94_0 := blk_frozen BK286.out 0
      have hfz94_1 := blk_frozen BK286.out 1
      go_wp2_with (first | ((with_reducible refine gate_callee (f := 21) rfl ?_); refine goesL_ (some 40) rfl rfl Try.func21 (by kernel_rfl) rfl #[.float .f64 (un pr263 t262), .float .f64 (un pr283 t282)] rfl (by (try simp only [List.map_toArray, List.map_cons, List.map_nil]); first | done | rfl | (simp only [List.length_drop, List.length_take]; rfl)) ?_; (with_reducible refine (spec_Same.calls k pr263 t262 pr283 t282 true _ A73.out).mono ?_); rintro e w' ⟨rfl, ⟨nd, rfl⟩⟩; refine ⟨_, rfl, ?_⟩) | (go_at_call 21; (with_reducible refine (spec_Same.calls k pr265 t264 pr285 t284 true _ A75.out).mono ?_); rintro e w' ⟨rfl, ⟨nd, rfl⟩⟩; have hnb95 := NB276_260.out; have hnc95 := NB260_276.out; have hnb96 := NB276_261.out; have hnc96 := NB261_276.out; have hnb97 := NB276_271.out; have hnc97 := NB271_276.out; have hnb98 := NB276_281.out; have hnc98 := NB281_276.out; have hnb99 := NB276_291.out; have hnc99 := NB291_276.out; have hcz100_0 : w64.cell? ⟨gb276, 0, none⟩ = some (.float .f64 (un pr273 t272)) := (blk_cell BK276.out 0).trans rfl; have hcz100_1 : w64.cell? ⟨gb276, 1, none⟩ = some (.float .f64 (un pr275 t274)) := (blk_cell BK276.out 1).trans rfl; have hfz100_0 := blk_frozen BK276.out 0; have hfz100_1 := blk_frozen BK276.out 1; have hnb101 := NB291_260.out; have hnc101 := NB260_291.out; have hnb102 := NB291_261.out; have hnc102 := NB261_291.out; have hnb103 := NB291_271.out; have hnc103 := NB271_291.out; have hnb104 := NB291_281.out; have hnc104 := NB281_291.out; have hcz105_0 : w64.cell? ⟨gb291, 0, none⟩ = some (.float .f64 0) := (blk_cell BK291.out 0).trans rfl; have hcz105_1 : w64.cell? ⟨gb291, 1, none⟩ = some (.float .f64 0) := (blk_cell BK291.out 1).trans rfl; have hfz105_0 := blk_frozen BK291.out 0; have hfz105_1 := blk_frozen BK291.out 1) | (go_at_call 21; (with_reducible refine (spec_Same.calls k pr273 t272 pr288 t287 true _ A77.out).mono ?_); rintro e w' ⟨rfl, ⟨nd, rfl⟩⟩) | (go_at_call 21; (with_reducible refine (spec_Same.calls k pr275 t274 pr290 t289 t295 _ A79.out).mono ?_); rintro e w' ⟨rfl, ⟨nd, rfl⟩⟩))
      go_meet
      case rel => exact ⟨_, (!t295), (by first | rfl | (simp; done) | (simp [*]; done)), H', ⟨by first | omega | exact Nat.le_refl _⟩, ⟨by (with_reducible repeat (first | refine blk_drewN ?_ _ | refine blk_drew ?_ | refine blk_alloc ?_ _)); refine blk_far ?_ NB260_291.out _; (with_reducible repeat (first | refine blk_drewN ?_ _ | refine blk_drew ?_ | refine blk_alloc ?_ _)); refine blk_far ?_ NB260_291.out _; (with_reducible repeat (first | refine blk_drewN ?_ _ | refine blk_drew ?_ | refine blk_alloc ?_ _)); exact BK260.out⟩, ⟨by (with_reducible repeat (first | refine blk_drewN ?_ _ | refine blk_drew ?_ | refine blk_alloc ?_ _)); refine blk_far ?_ NB261_291.out _; (with_reducible repeat (first | refine blk_drewN ?_ _ | refine blk_drew ?_ | refine blk_alloc ?_ _)); refine blk_far ?_ NB261_291.out _; (with_reducible repeat (first | refine blk_drewN ?_ _ | refine blk_drew ?_ | refine blk_alloc ?_ _)); exact BK261.out⟩, ⟨by (with_reducible repeat (first | refine blk_drewN ?_ _ | refine blk_drew ?_ | refine blk_alloc ?_ _)); refine blk_far ?_ NB266_291.out _; (with_reducible repeat (first | refine blk_drewN ?_ _ | refine blk_drew ?_ | refine blk_alloc ?_ _)); refine blk_far ?_ NB266_291.out _; (with_reducible repeat (first | refine blk_drewN ?_ _ | refine blk_drew ?_ | refine blk_alloc ?_ _)); exact BK266.out⟩, ⟨by (with_reducible repeat (first | refine blk_drewN ?_ _ | refine blk_drew ?_ | refine blk_alloc ?_ _)); refine blk_far ?_ NB271_291.out _; (with_reducible repeat (first | refine blk_drewN ?_ _ | refine blk_drew ?_ | refine blk_alloc ?_ _)); refine blk_far ?_ NB271_291.out _; (with_reducible repeat (first | refine blk_drewN ?_ _ | refine blk_drew ?_ | refine blk_alloc ?_ _)); exact BK271.out⟩, ⟨by (with_reducible repeat (first | refine blk_drewN ?_ _ | refine blk_drew ?_ | refine blk_alloc ?_ _)); refine blk_far ?_ NB276_291.out _; (with_reducible repeat (first | refine blk_drewN ?_ _ | refine blk_drew ?_ | refine blk_alloc ?_ _)); refine blk_far ?_ NB276_291.out _; (with_reducible repeat (first | refine blk_drewN ?_ _ | refine blk_drew ?_ | refine blk_alloc ?_ _)); exact BK276.out⟩, ⟨by (with_reducible repeat (first | refine blk_drewN ?_ _ | refine blk_drew ?_ | refine blk_alloc ?_ _)); refine blk_far ?_ NB281_291.out _; (with_reducible repeat (first | refine blk_drewN ?_ _ | refine blk_drew ?_ | refine blk_alloc ?_ _)); refine blk_far ?_ NB281_291.out _; (with_reducible repeat (first | refine blk_drewN ?_ _ | refine blk_drew ?_ | refine blk_alloc ?_ _)); exact BK281.out⟩, ⟨by (with_reducible repeat (first | refine blk_drewN ?_ _ | refine blk_drew ?_ | refine blk_alloc ?_ _)); refine blk_far ?_ NB286_291.out _; (with_reducible repeat (first | refine blk_drewN ?_ _ | refine blk_drew ?_ | refine blk_alloc ?_ _)); refine blk_far ?_ NB286_291.out _; (with_reducible repeat (first | refine blk_drewN ?_ _ | refine blk_drew ?_ | refine blk_alloc ?_ _)); exact BK286.out⟩, ⟨by (with_reducible repeat (first | refine blk_drewN ?_ _ | refine blk_drew ?_ | refine blk_alloc ?_ _)); refine blk_put (cs := #[.float .f64 (un pr288 t287), .float .f64 0]) ?_ 1 _ rfl; (with_reducible repeat (first | refine blk_drewN ?_ _ | refine blk_drew ?_ | refine blk_alloc ?_ _)); refine blk_put (cs := #[.float .f64 0, .float .f64 0]) ?_ 0 _ rfl; (with_reducible repeat (first | refine blk_drewN ?_ _ | refine blk_drew ?_ | refine blk_alloc ?_ _)); exact BK291.out⟩, ⟨by repeat (first | (with_reducible first | exact HB.out | apply below_alloc | apply pw_below_drewN | apply below_drew1 | refine below_set ?_ GE260.out | refine below_set ?_ GE261.out | refine below_set ?_ GE266.out | refine below_set ?_ GE271.out | refine below_set ?_ GE276.out | refine below_set ?_ GE281.out | refine below_set ?_ GE286.out | refine below_set ?_ GE291.out) | exact HB.out)⟩⟩
     ·replace c78 := Bool.eq_false_iff.mpr c78
      subst c78
      have H1 : (laws_FnPairs.j0 k true t252 t254 t256 t258 t262 t264 t267 t269 t272 t274 t277 t279 t282 t284) = some r := by rw [if_neg (show ¬ (false = true) by decide)] at H; exact H
      clear H
      have H := H1
      clear H1
      have H' := Aside0.mk H
      clear H
      have hnb106 := NB266_260.out
      have hnc106 := NB260_266.out
      have hnb107 := NB266_261.out
      have hnc107 := NB261_266.out
      have hnb108 := NB266_271.out
      have hnc108 := NB271_266.out
      have hnb109 := NB266_276.out
      have hnc109 := NB276_266.out
      have hnb110 := NB266_281.out
      have hnc110 := NB281_266.out
      have hnb111 := NB266_286.out
      have hnc111 := NB286_266.out
      have hnb112 := NB266_291.out
      have hnc112 := NB291_266.out
      have hcz113_0 : w64.cell? ⟨gb266, 0, none⟩ = some (.float .f64 (un pr263 t262)) := (blk_cell BK266.out 0).trans rfl
      have hcz113_1 : w64.cell? ⟨gb266, 1, none⟩ = some (.float .f64 (un pr265 t264)) := (blk_cell BK266.out 1).trans rfl
      have hfz113_0 := blk_frozen BK266.out 0
      have hfz113_1 := blk_frozen BK266.out 1
      have hnb114 := NB286_260.out
      have hnc114 := NB260_286.out
      have hnb115 := NB286_261.out
      have hnc115 := NB261_286.out
      have hnb116 := NB286_271.out
      have hnc116 := NB271_286.out
      have hnb117 := NB286_276.out
      have hnc117 := NB276_286.out
      have hnb118 := NB286_281.out
      have hnc118 := NB281_286.out
      have hnb119 := NB286_291.out
      have hnc119 := NB291_286.out
      have hcz120_0 : w64.cell? ⟨gb286, 0, none⟩ = some (.float .f64 (un pr283 t282)) := (blk_cell BK286.out 0).trans rfl
      have hcz120_1 : w64.cell? ⟨gb286, 1, none⟩ = some (.float .f64 (un pr285 t284)) := (blk_cell BK286.out 1).trans rfl
      have hfz120_0 := blk_frozen BK286.out 0
      have hfz120_1 := blk_frozen BK286.out 1
      go_wp2_with (first | ((with_reducible refine gate_callee (f := 21) rfl ?_); refine goesL_ (some 40) rfl rfl Try.func21 (by kernel_rfl) rfl #[.float .f64 (un pr263 t262), .float .f64 (un pr283 t282)] rfl (by (try simp only [List.map_toArray, List.map_cons, List.map_nil]); first | done | rfl | (simp only [List.length_drop, List.length_take]; rfl)) ?_; (with_reducible refine (spec_Same.calls k pr263 t262 pr283 t282 true _ A73.out).mono ?_); rintro e w' ⟨rfl, ⟨nd, rfl⟩⟩; refine ⟨_, rfl, ?_⟩) | (go_at_call 21; (with_reducible refine (spec_Same.calls k pr265 t264 pr285 t284 true _ A75.out).mono ?_); rintro e w' ⟨rfl, ⟨nd, rfl⟩⟩; have hnb121 := NB276_260.out; have hnc121 := NB260_276.out; have hnb122 := NB276_261.out; have hnc122 := NB261_276.out; have hnb123 := NB276_271.out; have hnc123 := NB271_276.out; have hnb124 := NB276_281.out; have hnc124 := NB281_276.out; have hnb125 := NB276_291.out; have hnc125 := NB291_276.out; have hcz126_0 : w64.cell? ⟨gb276, 0, none⟩ = some (.float .f64 (un pr273 t272)) := (blk_cell BK276.out 0).trans rfl; have hcz126_1 : w64.cell? ⟨gb276, 1, none⟩ = some (.float .f64 (un pr275 t274)) := (blk_cell BK276.out 1).trans rfl; have hfz126_0 := blk_frozen BK276.out 0; have hfz126_1 := blk_frozen BK276.out 1; have hnb127 := NB291_260.out; have hnc127 := NB260_291.out; have hnb128 := NB291_261.out; have hnc128 := NB261_291.out; have hnb129 := NB291_271.out; have hnc129 := NB271_291.out; have hnb130 := NB291_281.out; have hnc130 := NB281_291.out; have hcz131_0 : w64.cell? ⟨gb291, 0, none⟩ = some (.float .f64 0) := (blk_cell BK291.out 0).trans rfl; have hcz131_1 : w64.cell? ⟨gb291, 1, none⟩ = some (.float .f64 0) := (blk_cell BK291.out 1).trans rfl; have hfz131_0 := blk_frozen BK291.out 0; have hfz131_1 := blk_frozen BK291.out 1) | (go_at_call 21; (with_reducible refine (spec_Same.calls k pr273 t272 pr288 t287 false _ A77.out).mono ?_); rintro e w' ⟨rfl, ⟨nd, rfl⟩⟩))
      go_meet
      case rel => exact ⟨_, (true), (by first | rfl | (simp; done) | (simp [*]; done)), H', ⟨by first | omega | exact Nat.le_refl _⟩, ⟨by (with_reducible repeat (first | refine blk_drewN ?_ _ | refine blk_drew ?_ | refine blk_alloc ?_ _)); refine blk_far ?_ NB260_291.out _; (with_reducible repeat (first | refine blk_drewN ?_ _ | refine blk_drew ?_ | refine blk_alloc ?_ _)); refine blk_far ?_ NB260_291.out _; (with_reducible repeat (first | refine blk_drewN ?_ _ | refine blk_drew ?_ | refine blk_alloc ?_ _)); exact BK260.out⟩, ⟨by (with_reducible repeat (first | refine blk_drewN ?_ _ | refine blk_drew ?_ | refine blk_alloc ?_ _)); refine blk_far ?_ NB261_291.out _; (with_reducible repeat (first | refine blk_drewN ?_ _ | refine blk_drew ?_ | refine blk_alloc ?_ _)); refine blk_far ?_ NB261_291.out _; (with_reducible repeat (first | refine blk_drewN ?_ _ | refine blk_drew ?_ | refine blk_alloc ?_ _)); exact BK261.out⟩, ⟨by (with_reducible repeat (first | refine blk_drewN ?_ _ | refine blk_drew ?_ | refine blk_alloc ?_ _)); refine blk_far ?_ NB266_291.out _; (with_reducible repeat (first | refine blk_drewN ?_ _ | refine blk_drew ?_ | refine blk_alloc ?_ _)); refine blk_far ?_ NB266_291.out _; (with_reducible repeat (first | refine blk_drewN ?_ _ | refine blk_drew ?_ | refine blk_alloc ?_ _)); exact BK266.out⟩, ⟨by (with_reducible repeat (first | refine blk_drewN ?_ _ | refine blk_drew ?_ | refine blk_alloc ?_ _)); refine blk_far ?_ NB271_291.out _; (with_reducible repeat (first | refine blk_drewN ?_ _ | refine blk_drew ?_ | refine blk_alloc ?_ _)); refine blk_far ?_ NB271_291.out _; (with_reducible repeat (first | refine blk_drewN ?_ _ | refine blk_drew ?_ | refine blk_alloc ?_ _)); exact BK271.out⟩, ⟨by (with_reducible repeat (first | refine blk_drewN ?_ _ | refine blk_drew ?_ | refine blk_alloc ?_ _)); refine blk_far ?_ NB276_291.out _; (with_reducible repeat (first | refine blk_drewN ?_ _ | refine blk_drew ?_ | refine blk_alloc ?_ _)); refine blk_far ?_ NB276_291.out _; (with_reducible repeat (first | refine blk_drewN ?_ _ | refine blk_drew ?_ | refine blk_alloc ?_ _)); exact BK276.out⟩, ⟨by (with_reducible repeat (first | refine blk_drewN ?_ _ | refine blk_drew ?_ | refine blk_alloc ?_ _)); refine blk_far ?_ NB281_291.out _; (with_reducible repeat (first | refine blk_drewN ?_ _ | refine blk_drew ?_ | refine blk_alloc ?_ _)); refine blk_far ?_ NB281_291.out _; (with_reducible repeat (first | refine blk_drewN ?_ _ | refine blk_drew ?_ | refine blk_alloc ?_ _)); exact BK281.out⟩, ⟨by (with_reducible repeat (first | refine blk_drewN ?_ _ | refine blk_drew ?_ | refine blk_alloc ?_ _)); refine blk_far ?_ NB286_291.out _; (with_reducible repeat (first | refine blk_drewN ?_ _ | refine blk_drew ?_ | refine blk_alloc ?_ _)); refine blk_far ?_ NB286_291.out _; (with_reducible repeat (first | refine blk_drewN ?_ _ | refine blk_drew ?_ | refine blk_alloc ?_ _)); exact BK286.out⟩, ⟨by (with_reducible repeat (first | refine blk_drewN ?_ _ | refine blk_drew ?_ | refine blk_alloc ?_ _)); refine blk_put (cs := #[.float .f64 (un pr288 t287), .float .f64 0]) ?_ 1 _ rfl; (with_reducible repeat (first | refine blk_drewN ?_ _ | refine blk_drew ?_ | refine blk_alloc ?_ _)); refine blk_put (cs := #[.float .f64 0, .float .f64 0]) ?_ 0 _ rfl; (with_reducible repeat (first | refine blk_drewN ?_ _ | refine blk_drew ?_ | refine blk_alloc ?_ _)); exact BK291.out⟩, ⟨by repeat (first | (with_reducible first | exact HB.out | apply below_alloc | apply pw_below_drewN | apply below_drew1 | refine below_set ?_ GE260.out | refine below_set ?_ GE261.out | refine below_set ?_ GE266.out | refine below_set ?_ GE271.out | refine below_set ?_ GE276.out | refine below_set ?_ GE281.out | refine below_set ?_ GE286.out | refine below_set ?_ GE291.out) | exact HB.out)⟩⟩
    ·replace c76 := Bool.eq_false_iff.mpr c76
     subst c76
     have H1 : (laws_FnPairs.j0 k true t252 t254 t256 t258 t262 t264 t267 t269 t272 t274 t277 t279 t282 t284) = some r := by rw [if_neg (show ¬ (false = true) by decide)] at H; exact H
     clear H
     have H := H1
     clear H1
     have H' := Aside0.mk H
     clear H
     have hnb132 := NB266_260.out
     have hnc132 := NB260_266.out
     have hnb133 := NB266_261.out
     have hnc133 := NB261_266.out
     have hnb134 := NB266_271.out
     have hnc134 := NB271_266.out
     have hnb135 := NB266_276.out
     have hnc135 := NB276_266.out
     have hnb136 := NB266_281.out
     have hnc136 := NB281_266.out
     have hnb137 := NB266_286.out
     have hnc137 := NB286_266.out
     have hnb138 := NB266_291.out
     have hnc138 := NB291_266.out
     have hcz139_0 : w64.cell? ⟨gb266, 0, none⟩ = some (.float .f64 (un pr263 t262)) := (blk_cell BK266.out 0).trans rfl
     have hcz139_1 : w64.cell? ⟨gb266, 1, none⟩ = some (.float .f64 (un pr265 t264)) := (blk_cell BK266.out 1).trans rfl
     have hfz139_0 := blk_frozen BK266.out 0
     have hfz139_1 := blk_frozen BK266.out 1
     have hnb140 := NB286_260.out
     have hnc140 := NB260_286.out
     have hnb141 := NB286_261.out
     have hnc141 := NB261_286.out
     have hnb142 := NB286_271.out
     have hnc142 := NB271_286.out
     have hnb143 := NB286_276.out
     have hnc143 := NB276_286.out
     have hnb144 := NB286_281.out
     have hnc144 := NB281_286.out
     have hnb145 := NB286_291.out
     have hnc145 := NB291_286.out
     have hcz146_0 : w64.cell? ⟨gb286, 0, none⟩ = some (.float .f64 (un pr283 t282)) := (blk_cell BK286.out 0).trans rfl
     have hcz146_1 : w64.cell? ⟨gb286, 1, none⟩ = some (.float .f64 (un pr285 t284)) := (blk_cell BK286.out 1).trans rfl
     have hfz146_0 := blk_frozen BK286.out 0
     have hfz146_1 := blk_frozen BK286.out 1
     go_wp2_with (first | ((with_reducible refine gate_callee (f := 21) rfl ?_); refine goesL_ (some 40) rfl rfl Try.func21 (by kernel_rfl) rfl #[.float .f64 (un pr263 t262), .float .f64 (un pr283 t282)] rfl (by (try simp only [List.map_toArray, List.map_cons, List.map_nil]); first | done | rfl | (simp only [List.length_drop, List.length_take]; rfl)) ?_; (with_reducible refine (spec_Same.calls k pr263 t262 pr283 t282 true _ A73.out).mono ?_); rintro e w' ⟨rfl, ⟨nd, rfl⟩⟩; refine ⟨_, rfl, ?_⟩) | (go_at_call 21; (with_reducible refine (spec_Same.calls k pr265 t264 pr285 t284 false _ A75.out).mono ?_); rintro e w' ⟨rfl, ⟨nd, rfl⟩⟩))
     go_meet
     case rel => exact ⟨_, (true), (by first | rfl | (simp; done) | (simp [*]; done)), H', ⟨by first | omega | exact Nat.le_refl _⟩, ⟨by (with_reducible repeat (first | refine blk_drewN ?_ _ | refine blk_drew ?_ | refine blk_alloc ?_ _)); refine blk_far ?_ NB260_291.out _; (with_reducible repeat (first | refine blk_drewN ?_ _ | refine blk_drew ?_ | refine blk_alloc ?_ _)); refine blk_far ?_ NB260_291.out _; (with_reducible repeat (first | refine blk_drewN ?_ _ | refine blk_drew ?_ | refine blk_alloc ?_ _)); exact BK260.out⟩, ⟨by (with_reducible repeat (first | refine blk_drewN ?_ _ | refine blk_drew ?_ | refine blk_alloc ?_ _)); refine blk_far ?_ NB261_291.out _; (with_reducible repeat (first | refine blk_drewN ?_ _ | refine blk_drew ?_ | refine blk_alloc ?_ _)); refine blk_far ?_ NB261_291.out _; (with_reducible repeat (first | refine blk_drewN ?_ _ | refine blk_drew ?_ | refine blk_alloc ?_ _)); exact BK261.out⟩, ⟨by (with_reducible repeat (first | refine blk_drewN ?_ _ | refine blk_drew ?_ | refine blk_alloc ?_ _)); refine blk_far ?_ NB266_291.out _; (with_reducible repeat (first | refine blk_drewN ?_ _ | refine blk_drew ?_ | refine blk_alloc ?_ _)); refine blk_far ?_ NB266_291.out _; (with_reducible repeat (first | refine blk_drewN ?_ _ | refine blk_drew ?_ | refine blk_alloc ?_ _)); exact BK266.out⟩, ⟨by (with_reducible repeat (first | refine blk_drewN ?_ _ | refine blk_drew ?_ | refine blk_alloc ?_ _)); refine blk_far ?_ NB271_291.out _; (with_reducible repeat (first | refine blk_drewN ?_ _ | refine blk_drew ?_ | refine blk_alloc ?_ _)); refine blk_far ?_ NB271_291.out _; (with_reducible repeat (first | refine blk_drewN ?_ _ | refine blk_drew ?_ | refine blk_alloc ?_ _)); exact BK271.out⟩, ⟨by (with_reducible repeat (first | refine blk_drewN ?_ _ | refine blk_drew ?_ | refine blk_alloc ?_ _)); refine blk_far ?_ NB276_291.out _; (with_reducible repeat (first | refine blk_drewN ?_ _ | refine blk_drew ?_ | refine blk_alloc ?_ _)); refine blk_far ?_ NB276_291.out _; (with_reducible repeat (first | refine blk_drewN ?_ _ | refine blk_drew ?_ | refine blk_alloc ?_ _)); exact BK276.out⟩, ⟨by (with_reducible repeat (first | refine blk_drewN ?_ _ | refine blk_drew ?_ | refine blk_alloc ?_ _)); refine blk_far ?_ NB281_291.out _; (with_reducible repeat (first | refine blk_drewN ?_ _ | refine blk_drew ?_ | refine blk_alloc ?_ _)); refine blk_far ?_ NB281_291.out _; (with_reducible repeat (first | refine blk_drewN ?_ _ | refine blk_drew ?_ | refine blk_alloc ?_ _)); exact BK281.out⟩, ⟨by (with_reducible repeat (first | refine blk_drewN ?_ _ | refine blk_drew ?_ | refine blk_alloc ?_ _)); refine blk_far ?_ NB286_291.out _; (with_reducible repeat (first | refine blk_drewN ?_ _ | refine blk_drew ?_ | refine blk_alloc ?_ _)); refine blk_far ?_ NB286_291.out _; (with_reducible repeat (first | refine blk_drewN ?_ _ | refine blk_drew ?_ | refine blk_alloc ?_ _)); exact BK286.out⟩, ⟨by (with_reducible repeat (first | refine blk_drewN ?_ _ | refine blk_drew ?_ | refine blk_alloc ?_ _)); refine blk_put (cs := #[.float .f64 (un pr288 t287), .float .f64 0]) ?_ 1 _ rfl; (with_reducible repeat (first | refine blk_drewN ?_ _ | refine blk_drew ?_ | refine blk_alloc ?_ _)); refine blk_put (cs := #[.float .f64 0, .float .f64 0]) ?_ 0 _ rfl; (with_reducible repeat (first | refine blk_drewN ?_ _ | refine blk_drew ?_ | refine blk_alloc ?_ _)); exact BK291.out⟩, ⟨by repeat (first | (with_reducible first | exact HB.out | apply below_alloc | apply pw_below_drewN | apply below_drew1 | refine below_set ?_ GE260.out | refine below_set ?_ GE261.out | refine below_set ?_ GE266.out | refine below_set ?_ GE271.out | refine below_set ?_ GE276.out | refine below_set ?_ GE281.out | refine below_set ?_ GE286.out | refine below_set ?_ GE291.out) | exact HB.out)⟩⟩
   ·replace c74 := Bool.eq_false_iff.mpr c74
    subst c74
    have H1 : (laws_FnPairs.j0 k true t252 t254 t256 t258 t262 t264 t267 t269 t272 t274 t277 t279 t282 t284) = some r := by rw [if_neg (show ¬ (false = true) by decide)] at H; exact H
    clear H
    have H := H1
    clear H1
    have H' := Aside0.mk H
    clear H
    have hnb147 := NB266_260.out
    have hnc147 := NB260_266.out
    have hnb148 := NB266_261.out
    have hnc148 := NB261_266.out
    have hnb149 := NB266_271.out
    have hnc149 := NB271_266.out
    have hnb150 := NB266_276.out
    have hnc150 := NB276_266.out
    have hnb151 := NB266_281.out
    have hnc151 := NB281_266.out
    have hnb152 := NB266_286.out
    have hnc152 := NB286_266.out
    have hnb153 := NB266_291.out
    have hnc153 := NB291_266.out
    have hcz154_0 : w64.cell? ⟨gb266, 0, none⟩ = some (.float .f64 (un pr263 t262)) := (blk_cell BK266.out 0).trans rfl
    have hcz154_1 : w64.cell? ⟨gb266, 1, none⟩ = some (.float .f64 (un pr265 t264)) := (blk_cell BK266.out 1).trans rfl
    have hfz154_0 := blk_frozen BK266.out 0
    have hfz154_1 := blk_frozen BK266.out 1
    have hnb155 := NB286_260.out
    have hnc155 := NB260_286.out
    have hnb156 := NB286_261.out
    have hnc156 := NB261_286.out
    have hnb157 := NB286_271.out
    have hnc157 := NB271_286.out
    have hnb158 := NB286_276.out
    have hnc158 := NB276_286.out
    have hnb159 := NB286_281.out
    have hnc159 := NB281_286.out
    have hnb160 := NB286_291.out
    have hnc160 := NB291_286.out
    have hcz161_0 : w64.cell? ⟨gb286, 0, none⟩ = some (.float .f64 (un pr283 t282)) := (blk_cell BK286.out 0).trans rfl
    have hcz161_1 : w64.cell? ⟨gb286, 1, none⟩ = some (.float .f64 (un pr285 t284)) := (blk_cell BK286.out 1).trans rfl
    have hfz161_0 := blk_frozen BK286.out 0
    have hfz161_1 := blk_frozen BK286.out 1
    go_wp2_with (first | ((with_reducible refine gate_callee (f := 21) rfl ?_); refine goesL_ (some 40) rfl rfl Try.func21 (by kernel_rfl) rfl #[.float .f64 (un pr263 t262), .float .f64 (un pr283 t282)] rfl (by (try simp only [List.map_toArray, List.map_cons, List.map_nil]); first | done | rfl | (simp only [List.length_drop, List.length_take]; rfl)) ?_; (with_reducible refine (spec_Same.calls k pr263 t262 pr283 t282 false _ A73.out).mono ?_); rintro e w' ⟨rfl, ⟨nd, rfl⟩⟩; refine ⟨_, rfl, ?_⟩))
    go_meet
    case rel => exact ⟨_, (true), (by first | rfl | (simp; done) | (simp [*]; done)), H', ⟨by first | omega | exact Nat.le_refl _⟩, ⟨by (with_reducible repeat (first | refine blk_drewN ?_ _ | refine blk_drew ?_ | refine blk_alloc ?_ _)); refine blk_far ?_ NB260_291.out _; (with_reducible repeat (first | refine blk_drewN ?_ _ | refine blk_drew ?_ | refine blk_alloc ?_ _)); refine blk_far ?_ NB260_291.out _; (with_reducible repeat (first | refine blk_drewN ?_ _ | refine blk_drew ?_ | refine blk_alloc ?_ _)); exact BK260.out⟩, ⟨by (with_reducible repeat (first | refine blk_drewN ?_ _ | refine blk_drew ?_ | refine blk_alloc ?_ _)); refine blk_far ?_ NB261_291.out _; (with_reducible repeat (first | refine blk_drewN ?_ _ | refine blk_drew ?_ | refine blk_alloc ?_ _)); refine blk_far ?_ NB261_291.out _; (with_reducible repeat (first | refine blk_drewN ?_ _ | refine blk_drew ?_ | refine blk_alloc ?_ _)); exact BK261.out⟩, ⟨by (with_reducible repeat (first | refine blk_drewN ?_ _ | refine blk_drew ?_ | refine blk_alloc ?_ _)); refine blk_far ?_ NB266_291.out _; (with_reducible repeat (first | refine blk_drewN ?_ _ | refine blk_drew ?_ | refine blk_alloc ?_ _)); refine blk_far ?_ NB266_291.out _; (with_reducible repeat (first | refine blk_drewN ?_ _ | refine blk_drew ?_ | refine blk_alloc ?_ _)); exact BK266.out⟩, ⟨by (with_reducible repeat (first | refine blk_drewN ?_ _ | refine blk_drew ?_ | refine blk_alloc ?_ _)); refine blk_far ?_ NB271_291.out _; (with_reducible repeat (first | refine blk_drewN ?_ _ | refine blk_drew ?_ | refine blk_alloc ?_ _)); refine blk_far ?_ NB271_291.out _; (with_reducible repeat (first | refine blk_drewN ?_ _ | refine blk_drew ?_ | refine blk_alloc ?_ _)); exact BK271.out⟩, ⟨by (with_reducible repeat (first | refine blk_drewN ?_ _ | refine blk_drew ?_ | refine blk_alloc ?_ _)); refine blk_far ?_ NB276_291.out _; (with_reducible repeat (first | refine blk_drewN ?_ _ | refine blk_drew ?_ | refine blk_alloc ?_ _)); refine blk_far ?_ NB276_291.out _; (with_reducible repeat (first | refine blk_drewN ?_ _ | refine blk_drew ?_ | refine blk_alloc ?_ _)); exact BK276.out⟩, ⟨by (with_reducible repeat (first | refine blk_drewN ?_ _ | refine blk_drew ?_ | refine blk_alloc ?_ _)); refine blk_far ?_ NB281_291.out _; (with_reducible repeat (first | refine blk_drewN ?_ _ | refine blk_drew ?_ | refine blk_alloc ?_ _)); refine blk_far ?_ NB281_291.out _; (with_reducible repeat (first | refine blk_drewN ?_ _ | refine blk_drew ?_ | refine blk_alloc ?_ _)); exact BK281.out⟩, ⟨by (with_reducible repeat (first | refine blk_drewN ?_ _ | refine blk_drew ?_ | refine blk_alloc ?_ _)); refine blk_far ?_ NB286_291.out _; (with_reducible repeat (first | refine blk_drewN ?_ _ | refine blk_drew ?_ | refine blk_alloc ?_ _)); refine blk_far ?_ NB286_291.out _; (with_reducible repeat (first | refine blk_drewN ?_ _ | refine blk_drew ?_ | refine blk_alloc ?_ _)); exact BK286.out⟩, ⟨by (with_reducible repeat (first | refine blk_drewN ?_ _ | refine blk_drew ?_ | refine blk_alloc ?_ _)); refine blk_put (cs := #[.float .f64 (un pr288 t287), .float .f64 0]) ?_ 1 _ rfl; (with_reducible repeat (first | refine blk_drewN ?_ _ | refine blk_drew ?_ | refine blk_alloc ?_ _)); refine blk_put (cs := #[.float .f64 0, .float .f64 0]) ?_ 0 _ rfl; (with_reducible repeat (first | refine blk_drewN ?_ _ | refine blk_drew ?_ | refine blk_alloc ?_ _)); exact BK291.out⟩, ⟨by repeat (first | (with_reducible first | exact HB.out | apply below_alloc | apply pw_below_drewN | apply below_drew1 | refine below_set ?_ GE260.out | refine below_set ?_ GE261.out | refine below_set ?_ GE266.out | refine below_set ?_ GE271.out | refine below_set ?_ GE276.out | refine below_set ?_ GE281.out | refine below_set ?_ GE286.out | refine below_set ?_ GE291.out) | exact HB.out)⟩⟩
  case rest =>
   clear HC11
   try clear c1
   try clear c2
   try clear p2
   try clear c3
   try clear c4
   try clear c5
   try clear c6
   try clear c7
   try clear c8
   try clear c9
   try clear c10
   try clear c11
   try clear c12
   try clear c13
   try clear c14
   try clear c15
   try clear c16
   try clear c17
   try clear c18
   try clear c19
   try clear c20
   try clear c21
   try clear c27
   try clear c28
   try clear c29
   try clear c35
   try clear c36
   try clear c37
   try clear c38
   try clear c44
   try clear c45
   try clear c46
   try clear c47
   try clear c48
   try clear c54
   try clear c55
   try clear c56
   try clear c57
   try clear c58
   try clear c59
   try clear c65
   try clear c66
   try clear c67
   try clear c68
   try clear c69
   try clear c70
   try clear c71
   try clear c74
   try clear c76
   try clear c78
   try clear c80
   try clear c81
   try clear c82
   try clear c83
   try clear c84
   try clear c85
   try clear c86
   try clear c88
   try clear c89
   try clear c90
   try clear c91
   try clear c92
   try clear c93
   try clear c95
   try clear c96
   try clear c97
   try clear c98
   try clear c99
   try clear c101
   try clear c102
   try clear c103
   try clear c104
   try clear c106
   try clear c107
   try clear c108
   try clear c109
   try clear c110
   try clear c111
   try clear c112
   try clear c114
   try clear c115
   try clear c116
   try clear c117
   try clear c118
   try clear c119
   try clear c121
   try clear c122
   try clear c123
   try clear c124
   try clear c125
   try clear c127
   try clear c128
   try clear c129
   try clear c130
   try clear c132
   try clear c133
   try clear c134
   try clear c135
   try clear c136
   try clear c137
   try clear c138
   try clear c140
   try clear c141
   try clear c142
   try clear c143
   try clear c144
   try clear c145
   try clear c147
   try clear c148
   try clear c149
   try clear c150
   try clear c151
   try clear c152
   try clear c153
   try clear c155
   try clear c156
   try clear c157
   try clear c158
   try clear c159
   try clear c160
   try clear hcz100_0
   try clear hcz100_1
   try clear hcz105_0
   try clear hcz105_1
   try clear hcz113_0
   try clear hcz113_1
   try clear hcz120_0
   try clear hcz120_1
   try clear hcz126_0
   try clear hcz126_1
   try clear hcz131_0
   try clear hcz131_1
   try clear hcz139_0
   try clear hcz139_1
   try clear hcz146_0
   try clear hcz146_1
   try clear hcz154_0
   try clear hcz154_1
   try clear hcz161_0
   try clear hcz161_1
   try clear hcz16_0
   try clear hcz16_1
   try clear hcz17_0
   try clear hcz17_1
   try clear hcz22_0
   try clear hcz22_1
   try clear hcz23_0
   try clear hcz23_1
   try clear hcz24_0
   try clear hcz24_1
   try clear hcz30_0
   try clear hcz30_1
   try clear hcz31_0
   try clear hcz31_1
   try clear hcz32_0
   try clear hcz32_1
   try clear hcz39_0
   try clear hcz39_1
   try clear hcz40_0
   try clear hcz40_1
   try clear hcz41_0
   try clear hcz41_1
   try clear hcz49_0
   try clear hcz49_1
   try clear hcz50_0
   try clear hcz50_1
   try clear hcz51_0
   try clear hcz51_1
   try clear hcz60_0
   try clear hcz60_1
   try clear hcz61_0
   try clear hcz61_1
   try clear hcz62_0
   try clear hcz62_1
   try clear hcz72_0
   try clear hcz72_1
   try clear hcz87_0
   try clear hcz87_1
   try clear hcz94_0
   try clear hcz94_1
   try clear hfz100_0
   try clear hfz100_1
   try clear hfz105_0
   try clear hfz105_1
   try clear hfz113_0
   try clear hfz113_1
   try clear hfz120_0
   try clear hfz120_1
   try clear hfz126_0
   try clear hfz126_1
   try clear hfz131_0
   try clear hfz131_1
   try clear hfz139_0
   try clear hfz139_1
   try clear hfz146_0
   try clear hfz146_1
   try clear hfz154_0
   try clear hfz154_1
   try clear hfz161_0
   try clear hfz161_1
   try clear hfz16_0
   try clear hfz16_1
   try clear hfz17_0
   try clear hfz17_1
   try clear hfz22_0
   try clear hfz22_1
   try clear hfz23_0
   try clear hfz23_1
   try clear hfz24_0
   try clear hfz24_1
   try clear hfz30_0
   try clear hfz30_1
   try clear hfz31_0
   try clear hfz31_1
   try clear hfz32_0
   try clear hfz32_1
   try clear hfz39_0
   try clear hfz39_1
   try clear hfz40_0
   try clear hfz40_1
   try clear hfz41_0
   try clear hfz41_1
   try clear hfz49_0
   try clear hfz49_1
   try clear hfz50_0
   try clear hfz50_1
   try clear hfz51_0
   try clear hfz51_1
   try clear hfz60_0
   try clear hfz60_1
   try clear hfz61_0
   try clear hfz61_1
   try clear hfz62_0
   try clear hfz62_1
   try clear hfz72_0
   try clear hfz72_1
   try clear hfz87_0
   try clear hfz87_1
   try clear hfz94_0
   try clear hfz94_1
   obtain ⟨kq, x65_10, rfl, HA, HJ10, BK260, BK261, BK266, BK271, BK276, BK281, BK286, BK291, HB⟩ := hcut
   cases kq with
   | zero => exact absurd HA.out (by simp [laws_FnPairs.j0])
   | succ kj10 =>
    have H := HA.out
    clear HA
    simp only [laws_FnPairs.j0] at H
    by_cases c162 : x65_10 = true
    ·subst c162
     have H1 : (some false) = some r := by rw [if_pos rfl] at H; exact H
     clear H
     have H := H1
     clear H1
     obtain rfl := Option.some.inj H
     go_wp2
     go_ret
     exact ⟨by first | rfl | (simp [errW_none, errW_some] <;> rfl) | (simp [*, errW_none, errW_some] <;> rfl), by repeat (first | (with_reducible first | exact HB.out | apply below_alloc | apply pw_below_drewN | apply below_drew1 | refine below_set ?_ GE260.out | refine below_set ?_ GE261.out | refine below_set ?_ GE266.out | refine below_set ?_ GE271.out | refine below_set ?_ GE276.out | refine below_set ?_ GE281.out | refine below_set ?_ GE286.out | refine below_set ?_ GE291.out) | exact HB.out)⟩
    ·replace c162 := Bool.eq_false_iff.mpr c162
     subst c162
     have H1 : ((spec_Same.f kj10 t262 t267).bind fun t296 => (if t296 = true then ((spec_Same.f kj10 t264 t269).bind fun t297 => (if t297 = true then ((spec_Same.f kj10 t272 t277).bind fun t298 => (if t298 = true then ((spec_Same.f kj10 t274 t279).bind fun t299 => (laws_FnPairs.j1 kj10 (!t299) t252 t254 t256 t258 t262 t264 t282 t284)) else (laws_FnPairs.j1 kj10 true t252 t254 t256 t258 t262 t264 t282 t284))) else (laws_FnPairs.j1 kj10 true t252 t254 t256 t258 t262 t264 t282 t284))) else (laws_FnPairs.j1 kj10 true t252 t254 t256 t258 t262 t264 t282 t284))) = some r := by rw [if_neg (show ¬ (false = true) by decide)] at H; exact H
     clear H
     have H := H1
     clear H1
     have HC163 := Aside0.mk H
     clear H
     go_upto_region 12 with (fail)
     go_cut [95] (fun v95 wc => ∃ (kq : Nat) (x95_162 : Bool), v95 = .bool x95_162 ∧ Aside0 (laws_FnPairs.j1 kq x95_162 t252 t254 t256 t258 t262 t264 t282 t284 = some r) ∧ Aside0 (kq ≤ kj10) ∧ Aside0 (wc.heap[gb260]? = some (.cells #[.float .f64 (un pr253 t252), .float .f64 (un pr255 t254)] 36 (0, 0))) ∧ Aside0 (wc.heap[gb261]? = some (.cells #[.float .f64 (un pr257 t256), .float .f64 (un pr259 t258)] 36 (0, 0))) ∧ Aside0 (wc.heap[gb266]? = some (.cells #[.float .f64 (un pr263 t262), .float .f64 (un pr265 t264)] 36 (0, 0))) ∧ Aside0 (wc.heap[gb271]? = some (.cells #[.float .f64 (un pr268 t267), .float .f64 (un pr270 t269)] 36 (0, 0))) ∧ Aside0 (wc.heap[gb276]? = some (.cells #[.float .f64 (un pr273 t272), .float .f64 (un pr275 t274)] 36 (0, 0))) ∧ Aside0 (wc.heap[gb281]? = some (.cells #[.float .f64 (un pr278 t277), .float .f64 (un pr280 t279)] 36 (0, 0))) ∧ Aside0 (wc.heap[gb286]? = some (.cells #[.float .f64 (un pr283 t282), .float .f64 (un pr285 t284)] 36 (0, 0))) ∧ Aside0 (wc.heap[gb291]? = some (.cells #[.float .f64 (un pr288 t287), .float .f64 (un pr290 t289)] 36 (0, 0))) ∧ Aside0 (Below w.heap.size w wc))
     case first =>
      have H := HC163.out
      clear HC163
      replace H := Option.bind_eq_some_iff.mp H
      obtain ⟨t296, A1640, H⟩ := H
      replace H : (if t296 = true then ((spec_Same.f kj10 t264 t269).bind fun t297 => (if t297 = true then ((spec_Same.f kj10 t272 t277).bind fun t298 => (if t298 = true then ((spec_Same.f kj10 t274 t279).bind fun t299 => (laws_FnPairs.j1 kj10 (!t299) t252 t254 t256 t258 t262 t264 t282 t284)) else (laws_FnPairs.j1 kj10 true t252 t254 t256 t258 t262 t264 t282 t284))) else (laws_FnPairs.j1 kj10 true t252 t254 t256 t258 t262 t264 t282 t284))) else (laws_FnPairs.j1 kj10 true t252 t254 t256 t258 t262 t264 t282 t284)) = some r := H
      have A164 := Aside0.mk A1640
      clear A1640
      by_cases c165 : t296 = true
      ·subst c165
       have H1 : ((spec_Same.f kj10 t264 t269).bind fun t297 => (if t297 = true then ((spec_Same.f kj10 t272 t277).bind fun t298 => (if t298 = true then ((spec_Same.f kj10 t274 t279).bind fun t299 => (laws_FnPairs.j1 kj10 (!t299) t252 t254 t256 t258 t262 t264 t282 t284)) else (laws_FnPairs.j1 kj10 true t252 t254 t256 t258 t262 t264 t282 t284))) else (laws_FnPairs.j1 kj10 true t252 t254 t256 t258 t262 t264 t282 t284))) = some r := by rw [if_pos rfl] at H; exact H
       clear H
       have H := H1
       clear H1
       replace H := Option.bind_eq_some_iff.mp H
       obtain ⟨t297, A1660, H⟩ := H
       replace H : (if t297 = true then ((spec_Same.f kj10 t272 t277).bind fun t298 => (if t298 = true then ((spec_Same.f kj10 t274 t279).bind fun t299 => (laws_FnPairs.j1 kj10 (!t299) t252 t254 t256 t258 t262 t264 t282 t284)) else (laws_FnPairs.j1 kj10 true t252 t254 t256 t258 t262 t264 t282 t284))) else (laws_FnPairs.j1 kj10 true t252 t254 t256 t258 t262 t264 t282 t284)) = some r := H
       have A166 := Aside0.mk A1660
       clear A1660
       by_cases c167 : t297 = true
       ·subst c167
        have H1 : ((spec_Same.f kj10 t272 t277).bind fun t298 => (if t298 = true then ((spec_Same.f kj10 t274 t279).bind fun t299 => (laws_FnPairs.j1 kj10 (!t299) t252 t254 t256 t258 t262 t264 t282 t284)) else (laws_FnPairs.j1 kj10 true t252 t254 t256 t258 t262 t264 t282 t284))) = some r := by rw [if_pos rfl] at H; exact H
        clear H
        have H := H1
        clear H1
        replace H := Option.bind_eq_some_iff.mp H
        obtain ⟨t298, A1680, H⟩ := H
        replace H : (if t298 = true then ((spec_Same.f kj10 t274 t279).bind fun t299 => (laws_FnPairs.j1 kj10 (!t299) t252 t254 t256 t258 t262 t264 t282 t284)) else (laws_FnPairs.j1 kj10 true t252 t254 t256 t258 t262 t264 t282 t284)) = some r := H
        have A168 := Aside0.mk A1680
        clear A1680
        by_cases c169 : t298 = true
        ·subst c169
         have H1 : ((spec_Same.f kj10 t274 t279).bind fun t299 => (laws_FnPairs.j1 kj10 (!t299) t252 t254 t256 t258 t262 t264 t282 t284)) = some r := by rw [if_pos rfl] at H; exact H
         clear H
         have H := H1
         clear H1
         replace H := Option.bind_eq_some_iff.mp H
         obtain ⟨t299, A1700, H⟩ := H
         replace H : (laws_FnPairs.j1 kj10 (!t299) t252 t254 t256 t258 t262 t264 t282 t284) = some r := H
         have A170 := Aside0.mk A1700
         clear A1700
         have H' := Aside0.mk H
         clear H
         have hnb171 := NB266_260.out
         have hnc171 := NB260_266.out
         have hnb172 := NB266_261.out
         have hnc172 := NB261_266.out
         have hnb173 := NB266_271.out
         have hnc173 := NB271_266.out
         have hnb174 := NB266_276.out
         have hnc174 := NB276_266.out
         have hnb175 := NB266_281.out
         have hnc175 := NB281_266.out
         have hnb176 := NB266_286.out
         have hnc176 := NB286_266.out
         have hnb177 := NB266_291.out
         have hnc177 := NB291_266.out
         have hcz178_0 : wc.cell? ⟨gb266, 0, none⟩ = some (.float .f64 (un pr263 t262)) := (blk_cell BK266.out 0).trans rfl
         have hcz178_1 : wc.cell? ⟨gb266, 1, none⟩ = some (.float .f64 (un pr265 t264)) := (blk_cell BK266.out 1).trans rfl
         have hfz178_0 := blk_frozen BK266.out 0
         have hfz178_1 := blk_frozen BK266.out 1
         have hnb179 := NB271_260.out
         have hnc179 := NB260_271.out
         have hnb180 := NB271_261.out
         have hnc180 := NB261_271.out
         have hnb181 := NB271_276.out
         have hnc181 := NB276_271.out
         have hnb182 := NB271_281.out
         have hnc182 := NB281_271.out
         have hnb183 := NB271_286.out
         have hnc183 := NB286_271.out
         have hnb184 := NB271_291.out
         have hnc184 := NB291_271.out
         have hcz185_0 : wc.cell? ⟨gb271, 0, none⟩ = some (.float .f64 (un pr268 t267)) := (blk_cell BK271.out 0).trans rfl
         have hcz185_1 : wc.cell? ⟨gb271, 1, none⟩ = some (.float .f64 (un pr270 t269)) := (blk_cell BK271.out 1).trans rfl
         have hfz185_0 := blk_frozen BK271.out 0
         have hfz185_1 := blk_frozen BK271.out 1
         go_wp2_with (first | ((with_reducible refine gate_callee (f := 21) rfl ?_); refine goesL_ (some 70) rfl rfl Try.func21 (by kernel_rfl) rfl #[.float .f64 (un pr263 t262), .float .f64 (un pr268 t267)] rfl (by (try simp only [List.map_toArray, List.map_cons, List.map_nil]); first | done | rfl | (simp only [List.length_drop, List.length_take]; rfl)) ?_; (with_reducible refine (spec_Same.calls kj10 pr263 t262 pr268 t267 true _ A164.out).mono ?_); rintro e w' ⟨rfl, ⟨nd, rfl⟩⟩; refine ⟨_, rfl, ?_⟩) | (go_at_call 21; (with_reducible refine (spec_Same.calls kj10 pr265 t264 pr270 t269 true _ A166.out).mono ?_); rintro e w' ⟨rfl, ⟨nd, rfl⟩⟩; have hnb186 := NB276_260.out; have hnc186 := NB260_276.out; have hnb187 := NB276_261.out; have hnc187 := NB261_276.out; have hnb188 := NB276_281.out; have hnc188 := NB281_276.out; have hnb189 := NB276_286.out; have hnc189 := NB286_276.out; have hnb190 := NB276_291.out; have hnc190 := NB291_276.out; have hcz191_0 : wc.cell? ⟨gb276, 0, none⟩ = some (.float .f64 (un pr273 t272)) := (blk_cell BK276.out 0).trans rfl; have hcz191_1 : wc.cell? ⟨gb276, 1, none⟩ = some (.float .f64 (un pr275 t274)) := (blk_cell BK276.out 1).trans rfl; have hfz191_0 := blk_frozen BK276.out 0; have hfz191_1 := blk_frozen BK276.out 1; have hnb192 := NB281_260.out; have hnc192 := NB260_281.out; have hnb193 := NB281_261.out; have hnc193 := NB261_281.out; have hnb194 := NB281_286.out; have hnc194 := NB286_281.out; have hnb195 := NB281_291.out; have hnc195 := NB291_281.out; have hcz196_0 : wc.cell? ⟨gb281, 0, none⟩ = some (.float .f64 (un pr278 t277)) := (blk_cell BK281.out 0).trans rfl; have hcz196_1 : wc.cell? ⟨gb281, 1, none⟩ = some (.float .f64 (un pr280 t279)) := (blk_cell BK281.out 1).trans rfl; have hfz196_0 := blk_frozen BK281.out 0; have hfz196_1 := blk_frozen BK281.out 1) | (go_at_call 21; (with_reducible refine (spec_Same.calls kj10 pr273 t272 pr278 t277 true _ A168.out).mono ?_); rintro e w' ⟨rfl, ⟨nd, rfl⟩⟩) | (go_at_call 21; (with_reducible refine (spec_Same.calls kj10 pr275 t274 pr280 t279 t299 _ A170.out).mono ?_); rintro e w' ⟨rfl, ⟨nd, rfl⟩⟩))
         go_meet
         case rel => exact ⟨_, (!t299), (by first | rfl | (simp; done) | (simp [*]; done)), H', ⟨by have := HJ10.out; first | omega | exact Nat.le_refl _⟩, ⟨by (with_reducible repeat (first | refine blk_drewN ?_ _ | refine blk_drew ?_ | refine blk_alloc ?_ _)); exact BK260.out⟩, ⟨by (with_reducible repeat (first | refine blk_drewN ?_ _ | refine blk_drew ?_ | refine blk_alloc ?_ _)); exact BK261.out⟩, ⟨by (with_reducible repeat (first | refine blk_drewN ?_ _ | refine blk_drew ?_ | refine blk_alloc ?_ _)); exact BK266.out⟩, ⟨by (with_reducible repeat (first | refine blk_drewN ?_ _ | refine blk_drew ?_ | refine blk_alloc ?_ _)); exact BK271.out⟩, ⟨by (with_reducible repeat (first | refine blk_drewN ?_ _ | refine blk_drew ?_ | refine blk_alloc ?_ _)); exact BK276.out⟩, ⟨by (with_reducible repeat (first | refine blk_drewN ?_ _ | refine blk_drew ?_ | refine blk_alloc ?_ _)); exact BK281.out⟩, ⟨by (with_reducible repeat (first | refine blk_drewN ?_ _ | refine blk_drew ?_ | refine blk_alloc ?_ _)); exact BK286.out⟩, ⟨by (with_reducible repeat (first | refine blk_drewN ?_ _ | refine blk_drew ?_ | refine blk_alloc ?_ _)); exact BK291.out⟩, ⟨by repeat (first | (with_reducible first | exact HB.out | apply below_alloc | apply pw_below_drewN | apply below_drew1 | refine below_set ?_ GE260.out | refine below_set ?_ GE261.out | refine below_set ?_ GE266.out | refine below_set ?_ GE271.out | refine below_set ?_ GE276.out | refine below_set ?_ GE281.out | refine below_set ?_ GE286.out | refine below_set ?_ GE291.out) | exact HB.out)⟩⟩
        ·replace c169 := Bool.eq_false_iff.mpr c169
         subst c169
         have H1 : (laws_FnPairs.j1 kj10 true t252 t254 t256 t258 t262 t264 t282 t284) = some r := by rw [if_neg (show ¬ (false = true) by decide)] at H; exact H
         clear H
         have H := H1
         clear H1
         have H' := Aside0.mk H
         clear H
         have hnb197 := NB266_260.out
         have hnc197 := NB260_266.out
         have hnb198 := NB266_261.out
         have hnc198 := NB261_266.out
         have hnb199 := NB266_271.out
         have hnc199 := NB271_266.out
         have hnb200 := NB266_276.out
         have hnc200 := NB276_266.out
         have hnb201 := NB266_281.out
         have hnc201 := NB281_266.out
         have hnb202 := NB266_286.out
         have hnc202 := NB286_266.out
         have hnb203 := NB266_291.out
         have hnc203 := NB291_266.out
         have hcz204_0 : wc.cell? ⟨gb266, 0, none⟩ = some (.float .f64 (un pr263 t262)) := (blk_cell BK266.out 0).trans rfl
         have hcz204_1 : wc.cell? ⟨gb266, 1, none⟩ = some (.float .f64 (un pr265 t264)) := (blk_cell BK266.out 1).trans rfl
         have hfz204_0 := blk_frozen BK266.out 0
         have hfz204_1 := blk_frozen BK266.out 1
         have hnb205 := NB271_260.out
         have hnc205 := NB260_271.out
         have hnb206 := NB271_261.out
         have hnc206 := NB261_271.out
         have hnb207 := NB271_276.out
         have hnc207 := NB276_271.out
         have hnb208 := NB271_281.out
         have hnc208 := NB281_271.out
         have hnb209 := NB271_286.out
         have hnc209 := NB286_271.out
         have hnb210 := NB271_291.out
         have hnc210 := NB291_271.out
         have hcz211_0 : wc.cell? ⟨gb271, 0, none⟩ = some (.float .f64 (un pr268 t267)) := (blk_cell BK271.out 0).trans rfl
         have hcz211_1 : wc.cell? ⟨gb271, 1, none⟩ = some (.float .f64 (un pr270 t269)) := (blk_cell BK271.out 1).trans rfl
         have hfz211_0 := blk_frozen BK271.out 0
         have hfz211_1 := blk_frozen BK271.out 1
         go_wp2_with (first | ((with_reducible refine gate_callee (f := 21) rfl ?_); refine goesL_ (some 70) rfl rfl Try.func21 (by kernel_rfl) rfl #[.float .f64 (un pr263 t262), .float .f64 (un pr268 t267)] rfl (by (try simp only [List.map_toArray, List.map_cons, List.map_nil]); first | done | rfl | (simp only [List.length_drop, List.length_take]; rfl)) ?_; (with_reducible refine (spec_Same.calls kj10 pr263 t262 pr268 t267 true _ A164.out).mono ?_); rintro e w' ⟨rfl, ⟨nd, rfl⟩⟩; refine ⟨_, rfl, ?_⟩) | (go_at_call 21; (with_reducible refine (spec_Same.calls kj10 pr265 t264 pr270 t269 true _ A166.out).mono ?_); rintro e w' ⟨rfl, ⟨nd, rfl⟩⟩; have hnb212 := NB276_260.out; have hnc212 := NB260_276.out; have hnb213 := NB276_261.out; have hnc213 := NB261_276.out; have hnb214 := NB276_281.out; have hnc214 := NB281_276.out; have hnb215 := NB276_286.out; have hnc215 := NB286_276.out; have hnb216 := NB276_291.out; have hnc216 := NB291_276.out; have hcz217_0 : wc.cell? ⟨gb276, 0, none⟩ = some (.float .f64 (un pr273 t272)) := (blk_cell BK276.out 0).trans rfl; have hcz217_1 : wc.cell? ⟨gb276, 1, none⟩ = some (.float .f64 (un pr275 t274)) := (blk_cell BK276.out 1).trans rfl; have hfz217_0 := blk_frozen BK276.out 0; have hfz217_1 := blk_frozen BK276.out 1; have hnb218 := NB281_260.out; have hnc218 := NB260_281.out; have hnb219 := NB281_261.out; have hnc219 := NB261_281.out; have hnb220 := NB281_286.out; have hnc220 := NB286_281.out; have hnb221 := NB281_291.out; have hnc221 := NB291_281.out; have hcz222_0 : wc.cell? ⟨gb281, 0, none⟩ = some (.float .f64 (un pr278 t277)) := (blk_cell BK281.out 0).trans rfl; have hcz222_1 : wc.cell? ⟨gb281, 1, none⟩ = some (.float .f64 (un pr280 t279)) := (blk_cell BK281.out 1).trans rfl; have hfz222_0 := blk_frozen BK281.out 0; have hfz222_1 := blk_frozen BK281.out 1) | (go_at_call 21; (with_reducible refine (spec_Same.calls kj10 pr273 t272 pr278 t277 false _ A168.out).mono ?_); rintro e w' ⟨rfl, ⟨nd, rfl⟩⟩))
         go_meet
         case rel => exact ⟨_, (true), (by first | rfl | (simp; done) | (simp [*]; done)), H', ⟨by have := HJ10.out; first | omega | exact Nat.le_refl _⟩, ⟨by (with_reducible repeat (first | refine blk_drewN ?_ _ | refine blk_drew ?_ | refine blk_alloc ?_ _)); exact BK260.out⟩, ⟨by (with_reducible repeat (first | refine blk_drewN ?_ _ | refine blk_drew ?_ | refine blk_alloc ?_ _)); exact BK261.out⟩, ⟨by (with_reducible repeat (first | refine blk_drewN ?_ _ | refine blk_drew ?_ | refine blk_alloc ?_ _)); exact BK266.out⟩, ⟨by (with_reducible repeat (first | refine blk_drewN ?_ _ | refine blk_drew ?_ | refine blk_alloc ?_ _)); exact BK271.out⟩, ⟨by (with_reducible repeat (first | refine blk_drewN ?_ _ | refine blk_drew ?_ | refine blk_alloc ?_ _)); exact BK276.out⟩, ⟨by (with_reducible repeat (first | refine blk_drewN ?_ _ | refine blk_drew ?_ | refine blk_alloc ?_ _)); exact BK281.out⟩, ⟨by (with_reducible repeat (first | refine blk_drewN ?_ _ | refine blk_drew ?_ | refine blk_alloc ?_ _)); exact BK286.out⟩, ⟨by (with_reducible repeat (first | refine blk_drewN ?_ _ | refine blk_drew ?_ | refine blk_alloc ?_ _)); exact BK291.out⟩, ⟨by repeat (first | (with_reducible first | exact HB.out | apply below_alloc | apply pw_below_drewN | apply below_drew1 | refine below_set ?_ GE260.out | refine below_set ?_ GE261.out | refine below_set ?_ GE266.out | refine below_set ?_ GE271.out | refine below_set ?_ GE276.out | refine below_set ?_ GE281.out | refine below_set ?_ GE286.out | refine below_set ?_ GE291.out) | exact HB.out)⟩⟩
       ·replace c167 := Bool.eq_false_iff.mpr c167
        subst c167
        have H1 : (laws_FnPairs.j1 kj10 true t252 t254 t256 t258 t262 t264 t282 t284) = some r := by rw [if_neg (show ¬ (false = true) by decide)] at H; exact H
        clear H
        have H := H1
        clear H1
        have H' := Aside0.mk H
        clear H
        have hnb223 := NB266_260.out
        have hnc223 := NB260_266.out
        have hnb224 := NB266_261.out
        have hnc224 := NB261_266.out
        have hnb225 := NB266_271.out
        have hnc225 := NB271_266.out
        have hnb226 := NB266_276.out
        have hnc226 := NB276_266.out
        have hnb227 := NB266_281.out
        have hnc227 := NB281_266.out
        have hnb228 := NB266_286.out
        have hnc228 := NB286_266.out
        have hnb229 := NB266_291.out
        have hnc229 := NB291_266.out
        have hcz230_0 : wc.cell? ⟨gb266, 0, none⟩ = some (.float .f64 (un pr263 t262)) := (blk_cell BK266.out 0).trans rfl
        have hcz230_1 : wc.cell? ⟨gb266, 1, none⟩ = some (.float .f64 (un pr265 t264)) := (blk_cell BK266.out 1).trans rfl
        have hfz230_0 := blk_frozen BK266.out 0
        have hfz230_1 := blk_frozen BK266.out 1
        have hnb231 := NB271_260.out
        have hnc231 := NB260_271.out
        have hnb232 := NB271_261.out
        have hnc232 := NB261_271.out
        have hnb233 := NB271_276.out
        have hnc233 := NB276_271.out
        have hnb234 := NB271_281.out
        have hnc234 := NB281_271.out
        have hnb235 := NB271_286.out
        have hnc235 := NB286_271.out
        have hnb236 := NB271_291.out
        have hnc236 := NB291_271.out
        have hcz237_0 : wc.cell? ⟨gb271, 0, none⟩ = some (.float .f64 (un pr268 t267)) := (blk_cell BK271.out 0).trans rfl
        have hcz237_1 : wc.cell? ⟨gb271, 1, none⟩ = some (.float .f64 (un pr270 t269)) := (blk_cell BK271.out 1).trans rfl
        have hfz237_0 := blk_frozen BK271.out 0
        have hfz237_1 := blk_frozen BK271.out 1
        go_wp2_with (first | ((with_reducible refine gate_callee (f := 21) rfl ?_); refine goesL_ (some 70) rfl rfl Try.func21 (by kernel_rfl) rfl #[.float .f64 (un pr263 t262), .float .f64 (un pr268 t267)] rfl (by (try simp only [List.map_toArray, List.map_cons, List.map_nil]); first | done | rfl | (simp only [List.length_drop, List.length_take]; rfl)) ?_; (with_reducible refine (spec_Same.calls kj10 pr263 t262 pr268 t267 true _ A164.out).mono ?_); rintro e w' ⟨rfl, ⟨nd, rfl⟩⟩; refine ⟨_, rfl, ?_⟩) | (go_at_call 21; (with_reducible refine (spec_Same.calls kj10 pr265 t264 pr270 t269 false _ A166.out).mono ?_); rintro e w' ⟨rfl, ⟨nd, rfl⟩⟩))
        go_meet
        case rel => exact ⟨_, (true), (by first | rfl | (simp; done) | (simp [*]; done)), H', ⟨by have := HJ10.out; first | omega | exact Nat.le_refl _⟩, ⟨by (with_reducible repeat (first | refine blk_drewN ?_ _ | refine blk_drew ?_ | refine blk_alloc ?_ _)); exact BK260.out⟩, ⟨by (with_reducible repeat (first | refine blk_drewN ?_ _ | refine blk_drew ?_ | refine blk_alloc ?_ _)); exact BK261.out⟩, ⟨by (with_reducible repeat (first | refine blk_drewN ?_ _ | refine blk_drew ?_ | refine blk_alloc ?_ _)); exact BK266.out⟩, ⟨by (with_reducible repeat (first | refine blk_drewN ?_ _ | refine blk_drew ?_ | refine blk_alloc ?_ _)); exact BK271.out⟩, ⟨by (with_reducible repeat (first | refine blk_drewN ?_ _ | refine blk_drew ?_ | refine blk_alloc ?_ _)); exact BK276.out⟩, ⟨by (with_reducible repeat (first | refine blk_drewN ?_ _ | refine blk_drew ?_ | refine blk_alloc ?_ _)); exact BK281.out⟩, ⟨by (with_reducible repeat (first | refine blk_drewN ?_ _ | refine blk_drew ?_ | refine blk_alloc ?_ _)); exact BK286.out⟩, ⟨by (with_reducible repeat (first | refine blk_drewN ?_ _ | refine blk_drew ?_ | refine blk_alloc ?_ _)); exact BK291.out⟩, ⟨by repeat (first | (with_reducible first | exact HB.out | apply below_alloc | apply pw_below_drewN | apply below_drew1 | refine below_set ?_ GE260.out | refine below_set ?_ GE261.out | refine below_set ?_ GE266.out | refine below_set ?_ GE271.out | refine below_set ?_ GE276.out | refine below_set ?_ GE281.out | refine below_set ?_ GE286.out | refine below_set ?_ GE291.out) | exact HB.out)⟩⟩
      ·replace c165 := Bool.eq_false_iff.mpr c165
       subst c165
       have H1 : (laws_FnPairs.j1 kj10 true t252 t254 t256 t258 t262 t264 t282 t284) = some r := by rw [if_neg (show ¬ (false = true) by decide)] at H; exact H
       clear H
       have H := H1
       clear H1
       have H' := Aside0.mk H
       clear H
       have hnb238 := NB266_260.out
       have hnc238 := NB260_266.out
       have hnb239 := NB266_261.out
       have hnc239 := NB261_266.out
       have hnb240 := NB266_271.out
       have hnc240 := NB271_266.out
       have hnb241 := NB266_276.out
       have hnc241 := NB276_266.out
       have hnb242 := NB266_281.out
       have hnc242 := NB281_266.out
       have hnb243 := NB266_286.out
       have hnc243 := NB286_266.out
       have hnb244 := NB266_291.out
       have hnc244 := NB291_266.out
       have hcz245_0 : wc.cell? ⟨gb266, 0, none⟩ = some (.float .f64 (un pr263 t262)) := (blk_cell BK266.out 0).trans rfl
       have hcz245_1 : wc.cell? ⟨gb266, 1, none⟩ = some (.float .f64 (un pr265 t264)) := (blk_cell BK266.out 1).trans rfl
       have hfz245_0 := blk_frozen BK266.out 0
       have hfz245_1 := blk_frozen BK266.out 1
       have hnb246 := NB271_260.out
       have hnc246 := NB260_271.out
       have hnb247 := NB271_261.out
       have hnc247 := NB261_271.out
       have hnb248 := NB271_276.out
       have hnc248 := NB276_271.out
       have hnb249 := NB271_281.out
       have hnc249 := NB281_271.out
       have hnb250 := NB271_286.out
       have hnc250 := NB286_271.out
       have hnb251 := NB271_291.out
       have hnc251 := NB291_271.out
       have hcz252_0 : wc.cell? ⟨gb271, 0, none⟩ = some (.float .f64 (un pr268 t267)) := (blk_cell BK271.out 0).trans rfl
       have hcz252_1 : wc.cell? ⟨gb271, 1, none⟩ = some (.float .f64 (un pr270 t269)) := (blk_cell BK271.out 1).trans rfl
       have hfz252_0 := blk_frozen BK271.out 0
       have hfz252_1 := blk_frozen BK271.out 1
       go_wp2_with (first | ((with_reducible refine gate_callee (f := 21) rfl ?_); refine goesL_ (some 70) rfl rfl Try.func21 (by kernel_rfl) rfl #[.float .f64 (un pr263 t262), .float .f64 (un pr268 t267)] rfl (by (try simp only [List.map_toArray, List.map_cons, List.map_nil]); first | done | rfl | (simp only [List.length_drop, List.length_take]; rfl)) ?_; (with_reducible refine (spec_Same.calls kj10 pr263 t262 pr268 t267 false _ A164.out).mono ?_); rintro e w' ⟨rfl, ⟨nd, rfl⟩⟩; refine ⟨_, rfl, ?_⟩))
       go_meet
       case rel => exact ⟨_, (true), (by first | rfl | (simp; done) | (simp [*]; done)), H', ⟨by have := HJ10.out; first | omega | exact Nat.le_refl _⟩, ⟨by (with_reducible repeat (first | refine blk_drewN ?_ _ | refine blk_drew ?_ | refine blk_alloc ?_ _)); exact BK260.out⟩, ⟨by (with_reducible repeat (first | refine blk_drewN ?_ _ | refine blk_drew ?_ | refine blk_alloc ?_ _)); exact BK261.out⟩, ⟨by (with_reducible repeat (first | refine blk_drewN ?_ _ | refine blk_drew ?_ | refine blk_alloc ?_ _)); exact BK266.out⟩, ⟨by (with_reducible repeat (first | refine blk_drewN ?_ _ | refine blk_drew ?_ | refine blk_alloc ?_ _)); exact BK271.out⟩, ⟨by (with_reducible repeat (first | refine blk_drewN ?_ _ | refine blk_drew ?_ | refine blk_alloc ?_ _)); exact BK276.out⟩, ⟨by (with_reducible repeat (first | refine blk_drewN ?_ _ | refine blk_drew ?_ | refine blk_alloc ?_ _)); exact BK281.out⟩, ⟨by (with_reducible repeat (first | refine blk_drewN ?_ _ | refine blk_drew ?_ | refine blk_alloc ?_ _)); exact BK286.out⟩, ⟨by (with_reducible repeat (first | refine blk_drewN ?_ _ | refine blk_drew ?_ | refine blk_alloc ?_ _)); exact BK291.out⟩, ⟨by repeat (first | (with_reducible first | exact HB.out | apply below_alloc | apply pw_below_drewN | apply below_drew1 | refine below_set ?_ GE260.out | refine below_set ?_ GE261.out | refine below_set ?_ GE266.out | refine below_set ?_ GE271.out | refine below_set ?_ GE276.out | refine below_set ?_ GE281.out | refine below_set ?_ GE286.out | refine below_set ?_ GE291.out) | exact HB.out)⟩⟩
     case rest =>
      clear HC163
      try clear c1
      try clear c2
      try clear p2
      try clear c3
      try clear c4
      try clear c5
      try clear c6
      try clear c7
      try clear c8
      try clear c9
      try clear c10
      try clear c11
      try clear c12
      try clear c13
      try clear c14
      try clear c15
      try clear c16
      try clear c17
      try clear c18
      try clear c19
      try clear c20
      try clear c21
      try clear c22
      try clear c23
      try clear c24
      try clear c25
      try clear c27
      try clear c28
      try clear c29
      try clear c35
      try clear c36
      try clear c37
      try clear c38
      try clear c44
      try clear c45
      try clear c46
      try clear c47
      try clear c48
      try clear c54
      try clear c55
      try clear c56
      try clear c57
      try clear c58
      try clear c59
      try clear c65
      try clear c66
      try clear c67
      try clear c68
      try clear c69
      try clear c70
      try clear c71
      try clear c74
      try clear c76
      try clear c78
      try clear c80
      try clear c81
      try clear c82
      try clear c83
      try clear c84
      try clear c85
      try clear c86
      try clear c88
      try clear c89
      try clear c90
      try clear c91
      try clear c92
      try clear c93
      try clear c95
      try clear c96
      try clear c97
      try clear c98
      try clear c99
      try clear c101
      try clear c102
      try clear c103
      try clear c104
      try clear c106
      try clear c107
      try clear c108
      try clear c109
      try clear c110
      try clear c111
      try clear c112
      try clear c114
      try clear c115
      try clear c116
      try clear c117
      try clear c118
      try clear c119
      try clear c121
      try clear c122
      try clear c123
      try clear c124
      try clear c125
      try clear c127
      try clear c128
      try clear c129
      try clear c130
      try clear c132
      try clear c133
      try clear c134
      try clear c135
      try clear c136
      try clear c137
      try clear c138
      try clear c140
      try clear c141
      try clear c142
      try clear c143
      try clear c144
      try clear c145
      try clear c147
      try clear c148
      try clear c149
      try clear c150
      try clear c151
      try clear c152
      try clear c153
      try clear c155
      try clear c156
      try clear c157
      try clear c158
      try clear c159
      try clear c160
      try clear c162
      try clear c165
      try clear c167
      try clear c169
      try clear c171
      try clear c172
      try clear c173
      try clear c174
      try clear c175
      try clear c176
      try clear c177
      try clear c179
      try clear c180
      try clear c181
      try clear c182
      try clear c183
      try clear c184
      try clear c186
      try clear c187
      try clear c188
      try clear c189
      try clear c190
      try clear c192
      try clear c193
      try clear c194
      try clear c195
      try clear c197
      try clear c198
      try clear c199
      try clear c200
      try clear c201
      try clear c202
      try clear c203
      try clear c205
      try clear c206
      try clear c207
      try clear c208
      try clear c209
      try clear c210
      try clear c212
      try clear c213
      try clear c214
      try clear c215
      try clear c216
      try clear c218
      try clear c219
      try clear c220
      try clear c221
      try clear c223
      try clear c224
      try clear c225
      try clear c226
      try clear c227
      try clear c228
      try clear c229
      try clear c231
      try clear c232
      try clear c233
      try clear c234
      try clear c235
      try clear c236
      try clear c238
      try clear c239
      try clear c240
      try clear c241
      try clear c242
      try clear c243
      try clear c244
      try clear c246
      try clear c247
      try clear c248
      try clear c249
      try clear c250
      try clear c251
      try clear hcz100_0
      try clear hcz100_1
      try clear hcz105_0
      try clear hcz105_1
      try clear hcz113_0
      try clear hcz113_1
      try clear hcz120_0
      try clear hcz120_1
      try clear hcz126_0
      try clear hcz126_1
      try clear hcz131_0
      try clear hcz131_1
      try clear hcz139_0
      try clear hcz139_1
      try clear hcz146_0
      try clear hcz146_1
      try clear hcz154_0
      try clear hcz154_1
      try clear hcz161_0
      try clear hcz161_1
      try clear hcz16_0
      try clear hcz16_1
      try clear hcz178_0
      try clear hcz178_1
      try clear hcz17_0
      try clear hcz17_1
      try clear hcz185_0
      try clear hcz185_1
      try clear hcz191_0
      try clear hcz191_1
      try clear hcz196_0
      try clear hcz196_1
      try clear hcz204_0
      try clear hcz204_1
      try clear hcz211_0
      try clear hcz211_1
      try clear hcz217_0
      try clear hcz217_1
      try clear hcz222_0
      try clear hcz222_1
      try clear hcz22_0
      try clear hcz22_1
      try clear hcz230_0
      try clear hcz230_1
      try clear hcz237_0
      try clear hcz237_1
      try clear hcz23_0
      try clear hcz23_1
      try clear hcz245_0
      try clear hcz245_1
      try clear hcz24_0
      try clear hcz24_1
      try clear hcz252_0
      try clear hcz252_1
      try clear hcz30_0
      try clear hcz30_1
      try clear hcz31_0
      try clear hcz31_1
      try clear hcz32_0
      try clear hcz32_1
      try clear hcz39_0
      try clear hcz39_1
      try clear hcz40_0
      try clear hcz40_1
      try clear hcz41_0
      try clear hcz41_1
      try clear hcz49_0
      try clear hcz49_1
      try clear hcz50_0
      try clear hcz50_1
      try clear hcz51_0
      try clear hcz51_1
      try clear hcz60_0
      try clear hcz60_1
      try clear hcz61_0
      try clear hcz61_1
      try clear hcz62_0
      try clear hcz62_1
      try clear hcz72_0
      try clear hcz72_1
      try clear hcz87_0
      try clear hcz87_1
      try clear hcz94_0
      try clear hcz94_1
      try clear hfz100_0
      try clear hfz100_1
      try clear hfz105_0
      try clear hfz105_1
      try clear hfz113_0
      try clear hfz113_1
      try clear hfz120_0
      try clear hfz120_1
      try clear hfz126_0
      try clear hfz126_1
      try clear hfz131_0
      try clear hfz131_1
      try clear hfz139_0
      try clear hfz139_1
      try clear hfz146_0
      try clear hfz146_1
      try clear hfz154_0
      try clear hfz154_1
      try clear hfz161_0
      try clear hfz161_1
      try clear hfz16_0
      try clear hfz16_1
      try clear hfz178_0
      try clear hfz178_1
      try clear hfz17_0
      try clear hfz17_1
      try clear hfz185_0
      try clear hfz185_1
      try clear hfz191_0
      try clear hfz191_1
      try clear hfz196_0
      try clear hfz196_1
      try clear hfz204_0
      try clear hfz204_1
      try clear hfz211_0
      try clear hfz211_1
      try clear hfz217_0
      try clear hfz217_1
      try clear hfz222_0
      try clear hfz222_1
      try clear hfz22_0
      try clear hfz22_1
      try clear hfz230_0
      try clear hfz230_1
      try clear hfz237_0
      try clear hfz237_1
      try clear hfz23_0
      try clear hfz23_1
      try clear hfz245_0
      try clear hfz245_1
      try clear hfz24_0
      try clear hfz24_1
      try clear hfz252_0
      try clear hfz252_1
      try clear hfz30_0
      try clear hfz30_1
      try clear hfz31_0
      try clear hfz31_1
      try clear hfz32_0
      try clear hfz32_1
      try clear hfz39_0
      try clear hfz39_1
      try clear hfz40_0
      try clear hfz40_1
      try clear hfz41_0
      try clear hfz41_1
      try clear hfz49_0
      try clear hfz49_1
      try clear hfz50_0
      try clear hfz50_1
      try clear hfz51_0
      try clear hfz51_1
      try clear hfz60_0
      try clear hfz60_1
      try clear hfz61_0
      try clear hfz61_1
      try clear hfz62_0
      try clear hfz62_1
      try clear hfz72_0
      try clear hfz72_1
      try clear hfz87_0
      try clear hfz87_1
      try clear hfz94_0
      try clear hfz94_1
      try clear p2
      obtain ⟨kq, x95_162, rfl, HA, HJ162, BK260, BK261, BK266, BK271, BK276, BK281, BK286, BK291, HB⟩ := hcut
      cases kq with
      | zero => exact absurd HA.out (by simp [laws_FnPairs.j1])
      | succ kj162 =>
       have H := HA.out
       clear HA
       simp only [laws_FnPairs.j1] at H
       by_cases c253 : x95_162 = true
       ·subst c253
        have H1 : (some false) = some r := by rw [if_pos rfl] at H; exact H
        clear H
        have H := H1
        clear H1
        obtain rfl := Option.some.inj H
        go_wp2
        go_ret
        exact ⟨by first | rfl | (simp [errW_none, errW_some] <;> rfl) | (simp [*, errW_none, errW_some] <;> rfl), by repeat (first | (with_reducible first | exact HB.out | apply below_alloc | apply pw_below_drewN | apply below_drew1 | refine below_set ?_ GE260.out | refine below_set ?_ GE261.out | refine below_set ?_ GE266.out | refine below_set ?_ GE271.out | refine below_set ?_ GE276.out | refine below_set ?_ GE281.out | refine below_set ?_ GE286.out | refine below_set ?_ GE291.out) | exact HB.out)⟩
       ·replace c253 := Bool.eq_false_iff.mpr c253
        subst c253
        have H1 : ((laws_known.f t252 t254).bind fun t300 => (if t300 = true then ((laws_known.f t256 t258).bind fun t301 => (if t301 = true then ((laws_known.f t282 t284).bind fun t302 => (laws_FnPairs.j2 kj162 (!t302) t252 t254 t256 t258 t262 t264)) else (laws_FnPairs.j2 kj162 true t252 t254 t256 t258 t262 t264))) else (laws_FnPairs.j2 kj162 true t252 t254 t256 t258 t262 t264))) = some r := by rw [if_neg (show ¬ (false = true) by decide)] at H; exact H
        clear H
        have H := H1
        clear H1
        have HC254 := Aside0.mk H
        clear H
        go_upto_region 14 with (fail)
        go_cut [108] (fun v108 wc => ∃ (kq : Nat) (x108_253 : Bool), v108 = .bool x108_253 ∧ Aside0 (laws_FnPairs.j2 kq x108_253 t252 t254 t256 t258 t262 t264 = some r) ∧ Aside0 (kq ≤ kj162) ∧ Aside0 (wc.heap[gb260]? = some (.cells #[.float .f64 (un pr253 t252), .float .f64 (un pr255 t254)] 36 (0, 0))) ∧ Aside0 (wc.heap[gb261]? = some (.cells #[.float .f64 (un pr257 t256), .float .f64 (un pr259 t258)] 36 (0, 0))) ∧ Aside0 (wc.heap[gb266]? = some (.cells #[.float .f64 (un pr263 t262), .float .f64 (un pr265 t264)] 36 (0, 0))) ∧ Aside0 (wc.heap[gb271]? = some (.cells #[.float .f64 (un pr268 t267), .float .f64 (un pr270 t269)] 36 (0, 0))) ∧ Aside0 (wc.heap[gb276]? = some (.cells #[.float .f64 (un pr273 t272), .float .f64 (un pr275 t274)] 36 (0, 0))) ∧ Aside0 (wc.heap[gb281]? = some (.cells #[.float .f64 (un pr278 t277), .float .f64 (un pr280 t279)] 36 (0, 0))) ∧ Aside0 (wc.heap[gb286]? = some (.cells #[.float .f64 (un pr283 t282), .float .f64 (un pr285 t284)] 36 (0, 0))) ∧ Aside0 (wc.heap[gb291]? = some (.cells #[.float .f64 (un pr288 t287), .float .f64 (un pr290 t289)] 36 (0, 0))) ∧ Aside0 (Below w.heap.size w wc))
        case first =>
         have H := HC254.out
         clear HC254
         replace H := Option.bind_eq_some_iff.mp H
         obtain ⟨t300, A2550, H⟩ := H
         replace H : (if t300 = true then ((laws_known.f t256 t258).bind fun t301 => (if t301 = true then ((laws_known.f t282 t284).bind fun t302 => (laws_FnPairs.j2 kj162 (!t302) t252 t254 t256 t258 t262 t264)) else (laws_FnPairs.j2 kj162 true t252 t254 t256 t258 t262 t264))) else (laws_FnPairs.j2 kj162 true t252 t254 t256 t258 t262 t264)) = some r := H
         have A255 := Aside0.mk A2550
         clear A2550
         by_cases c256 : t300 = true
         ·subst c256
          have H1 : ((laws_known.f t256 t258).bind fun t301 => (if t301 = true then ((laws_known.f t282 t284).bind fun t302 => (laws_FnPairs.j2 kj162 (!t302) t252 t254 t256 t258 t262 t264)) else (laws_FnPairs.j2 kj162 true t252 t254 t256 t258 t262 t264))) = some r := by rw [if_pos rfl] at H; exact H
          clear H
          have H := H1
          clear H1
          replace H := Option.bind_eq_some_iff.mp H
          obtain ⟨t301, A2570, H⟩ := H
          replace H : (if t301 = true then ((laws_known.f t282 t284).bind fun t302 => (laws_FnPairs.j2 kj162 (!t302) t252 t254 t256 t258 t262 t264)) else (laws_FnPairs.j2 kj162 true t252 t254 t256 t258 t262 t264)) = some r := H
          have A257 := Aside0.mk A2570
          clear A2570
          by_cases c258 : t301 = true
          ·subst c258
           have H1 : ((laws_known.f t282 t284).bind fun t302 => (laws_FnPairs.j2 kj162 (!t302) t252 t254 t256 t258 t262 t264)) = some r := by rw [if_pos rfl] at H; exact H
           clear H
           have H := H1
           clear H1
           replace H := Option.bind_eq_some_iff.mp H
           obtain ⟨t302, A2590, H⟩ := H
           replace H : (laws_FnPairs.j2 kj162 (!t302) t252 t254 t256 t258 t262 t264) = some r := H
           have A259 := Aside0.mk A2590
           clear A2590
           have H' := Aside0.mk H
           clear H
           have hnb260 := NB260_261.out
           have hnc260 := NB261_260.out
           have hnb261 := NB260_266.out
           have hnc261 := NB266_260.out
           have hnb262 := NB260_271.out
           have hnc262 := NB271_260.out
           have hnb263 := NB260_276.out
           have hnc263 := NB276_260.out
           have hnb264 := NB260_281.out
           have hnc264 := NB281_260.out
           have hnb265 := NB260_286.out
           have hnc265 := NB286_260.out
           have hnb266 := NB260_291.out
           have hnc266 := NB291_260.out
           have hcz267_0 : wc.cell? ⟨gb260, 0, none⟩ = some (.float .f64 (un pr253 t252)) := (blk_cell BK260.out 0).trans rfl
           have hcz267_1 : wc.cell? ⟨gb260, 1, none⟩ = some (.float .f64 (un pr255 t254)) := (blk_cell BK260.out 1).trans rfl
           have hfz267_0 := blk_frozen BK260.out 0
           have hfz267_1 := blk_frozen BK260.out 1
           go_wp2_with (first | ((with_reducible refine gate_callee (f := 22) rfl ?_); refine goesL_ (some 97) rfl rfl Try.func22 (by kernel_rfl) rfl #[.agg #[.float .f64 (un pr253 t252), .float .f64 (un pr255 t254)]] rfl (by (try simp only [List.map_toArray, List.map_cons, List.map_nil]); first | done | rfl | (simp only [List.length_drop, List.length_take]; rfl)) ?_; (with_reducible refine (laws_known.calls pr253 t252 pr255 t254 true _ A255.out).mono ?_); rintro e w268 ⟨rfl, hb⟩; refine ⟨_, rfl, ?_⟩; have n0_ := Aside0.mk (blk_below (g := gb260) (o := .cells #[.float .f64 (un pr253 t252), .float .f64 (un pr255 t254)] 36 (0, 0)) (by (with_reducible repeat (first | refine blk_drewN ?_ _ | refine blk_drew ?_ | refine blk_alloc ?_ _)); exact BK260.out) hb); have n1_ := Aside0.mk (blk_below (g := gb261) (o := .cells #[.float .f64 (un pr257 t256), .float .f64 (un pr259 t258)] 36 (0, 0)) (by (with_reducible repeat (first | refine blk_drewN ?_ _ | refine blk_drew ?_ | refine blk_alloc ?_ _)); exact BK261.out) hb); have n2_ := Aside0.mk (blk_below (g := gb266) (o := .cells #[.float .f64 (un pr263 t262), .float .f64 (un pr265 t264)] 36 (0, 0)) (by (with_reducible repeat (first | refine blk_drewN ?_ _ | refine blk_drew ?_ | refine blk_alloc ?_ _)); exact BK266.out) hb); have n3_ := Aside0.mk (blk_below (g := gb271) (o := .cells #[.float .f64 (un pr268 t267), .float .f64 (un pr270 t269)] 36 (0, 0)) (by (with_reducible repeat (first | refine blk_drewN ?_ _ | refine blk_drew ?_ | refine blk_alloc ?_ _)); exact BK271.out) hb); have n4_ := Aside0.mk (blk_below (g := gb276) (o := .cells #[.float .f64 (un pr273 t272), .float .f64 (un pr275 t274)] 36 (0, 0)) (by (with_reducible repeat (first | refine blk_drewN ?_ _ | refine blk_drew ?_ | refine blk_alloc ?_ _)); exact BK276.out) hb); have n5_ := Aside0.mk (blk_below (g := gb281) (o := .cells #[.float .f64 (un pr278 t277), .float .f64 (un pr280 t279)] 36 (0, 0)) (by (with_reducible repeat (first | refine blk_drewN ?_ _ | refine blk_drew ?_ | refine blk_alloc ?_ _)); exact BK281.out) hb); have n6_ := Aside0.mk (blk_below (g := gb286) (o := .cells #[.float .f64 (un pr283 t282), .float .f64 (un pr285 t284)] 36 (0, 0)) (by (with_reducible repeat (first | refine blk_drewN ?_ _ | refine blk_drew ?_ | refine blk_alloc ?_ _)); exact BK286.out) hb); have n7_ := Aside0.mk (blk_below (g := gb291) (o := .cells #[.float .f64 (un pr288 t287), .float .f64 (un pr290 t289)] 36 (0, 0)) (by (with_reducible repeat (first | refine blk_drewN ?_ _ | refine blk_drew ?_ | refine blk_alloc ?_ _)); exact BK291.out) hb); have n8_ := Aside0.mk (below_step (by repeat (first | (with_reducible first | exact HB.out | apply below_alloc | apply pw_below_drewN | apply below_drew1 | refine below_set ?_ GE260.out | refine below_set ?_ GE261.out | refine below_set ?_ GE266.out | refine below_set ?_ GE271.out | refine below_set ?_ GE276.out | refine below_set ?_ GE281.out | refine below_set ?_ GE286.out | refine below_set ?_ GE291.out) | exact HB.out)) hb); clear BK260; clear BK261; clear BK266; clear BK271; clear BK276; clear BK281; clear BK286; clear BK291; clear HB; have BK260 := n0_; have BK261 := n1_; have BK266 := n2_; have BK271 := n3_; have BK276 := n4_; have BK281 := n5_; have BK286 := n6_; have BK291 := n7_; have HB := n8_; clear n0_ n1_ n2_ n3_ n4_ n5_ n6_ n7_ n8_; (try clear hb); (try clear hb2); (try clear hk); (try clear hi); have hnb269 := NB261_266.out; have hnc269 := NB266_261.out; have hnb270 := NB261_271.out; have hnc270 := NB271_261.out; have hnb271 := NB261_276.out; have hnc271 := NB276_261.out; have hnb272 := NB261_281.out; have hnc272 := NB281_261.out; have hnb273 := NB261_286.out; have hnc273 := NB286_261.out; have hnb274 := NB261_291.out; have hnc274 := NB291_261.out; have hcz275_0 : w268.cell? ⟨gb261, 0, none⟩ = some (.float .f64 (un pr257 t256)) := (blk_cell BK261.out 0).trans rfl; have hcz275_1 : w268.cell? ⟨gb261, 1, none⟩ = some (.float .f64 (un pr259 t258)) := (blk_cell BK261.out 1).trans rfl; have hfz275_0 := blk_frozen BK261.out 0; have hfz275_1 := blk_frozen BK261.out 1) | (go_at_call 22; (with_reducible refine (laws_known.calls pr257 t256 pr259 t258 true _ A257.out).mono ?_); rintro e w276 ⟨rfl, hb⟩; have n0_ := Aside0.mk (blk_below (g := gb260) (o := .cells #[.float .f64 (un pr253 t252), .float .f64 (un pr255 t254)] 36 (0, 0)) (by (with_reducible repeat (first | refine blk_drewN ?_ _ | refine blk_drew ?_ | refine blk_alloc ?_ _)); exact BK260.out) hb); have n1_ := Aside0.mk (blk_below (g := gb261) (o := .cells #[.float .f64 (un pr257 t256), .float .f64 (un pr259 t258)] 36 (0, 0)) (by (with_reducible repeat (first | refine blk_drewN ?_ _ | refine blk_drew ?_ | refine blk_alloc ?_ _)); exact BK261.out) hb); have n2_ := Aside0.mk (blk_below (g := gb266) (o := .cells #[.float .f64 (un pr263 t262), .float .f64 (un pr265 t264)] 36 (0, 0)) (by (with_reducible repeat (first | refine blk_drewN ?_ _ | refine blk_drew ?_ | refine blk_alloc ?_ _)); exact BK266.out) hb); have n3_ := Aside0.mk (blk_below (g := gb271) (o := .cells #[.float .f64 (un pr268 t267), .float .f64 (un pr270 t269)] 36 (0, 0)) (by (with_reducible repeat (first | refine blk_drewN ?_ _ | refine blk_drew ?_ | refine blk_alloc ?_ _)); exact BK271.out) hb); have n4_ := Aside0.mk (blk_below (g := gb276) (o := .cells #[.float .f64 (un pr273 t272), .float .f64 (un pr275 t274)] 36 (0, 0)) (by (with_reducible repeat (first | refine blk_drewN ?_ _ | refine blk_drew ?_ | refine blk_alloc ?_ _)); exact BK276.out) hb); have n5_ := Aside0.mk (blk_below (g := gb281) (o := .cells #[.float .f64 (un pr278 t277), .float .f64 (un pr280 t279)] 36 (0, 0)) (by (with_reducible repeat (first | refine blk_drewN ?_ _ | refine blk_drew ?_ | refine blk_alloc ?_ _)); exact BK281.out) hb); have n6_ := Aside0.mk (blk_below (g := gb286) (o := .cells #[.float .f64 (un pr283 t282), .float .f64 (un pr285 t284)] 36 (0, 0)) (by (with_reducible repeat (first | refine blk_drewN ?_ _ | refine blk_drew ?_ | refine blk_alloc ?_ _)); exact BK286.out) hb); have n7_ := Aside0.mk (blk_below (g := gb291) (o := .cells #[.float .f64 (un pr288 t287), .float .f64 (un pr290 t289)] 36 (0, 0)) (by (with_reducible repeat (first | refine blk_drewN ?_ _ | refine blk_drew ?_ | refine blk_alloc ?_ _)); exact BK291.out) hb); have n8_ := Aside0.mk (below_step (by repeat (first | (with_reducible first | exact HB.out | apply below_alloc | apply pw_below_drewN | apply below_drew1 | refine below_set ?_ GE260.out | refine below_set ?_ GE261.out | refine below_set ?_ GE266.out | refine below_set ?_ GE271.out | refine below_set ?_ GE276.out | refine below_set ?_ GE281.out | refine below_set ?_ GE286.out | refine below_set ?_ GE291.out) | exact HB.out)) hb); clear BK260; clear BK261; clear BK266; clear BK271; clear BK276; clear BK281; clear BK286; clear BK291; clear HB; have BK260 := n0_; have BK261 := n1_; have BK266 := n2_; have BK271 := n3_; have BK276 := n4_; have BK281 := n5_; have BK286 := n6_; have BK291 := n7_; have HB := n8_; clear n0_ n1_ n2_ n3_ n4_ n5_ n6_ n7_ n8_; (try clear hb); (try clear hb2); (try clear hk); (try clear hi); have hnb277 := NB286_266.out; have hnc277 := NB266_286.out; have hnb278 := NB286_271.out; have hnc278 := NB271_286.out; have hnb279 := NB286_276.out; have hnc279 := NB276_286.out; have hnb280 := NB286_281.out; have hnc280 := NB281_286.out; have hnb281 := NB286_291.out; have hnc281 := NB291_286.out; have hcz282_0 : w276.cell? ⟨gb286, 0, none⟩ = some (.float .f64 (un pr283 t282)) := (blk_cell BK286.out 0).trans rfl; have hcz282_1 : w276.cell? ⟨gb286, 1, none⟩ = some (.float .f64 (un pr285 t284)) := (blk_cell BK286.out 1).trans rfl; have hfz282_0 := blk_frozen BK286.out 0; have hfz282_1 := blk_frozen BK286.out 1) | (go_at_call 22; (with_reducible refine (laws_known.calls pr283 t282 pr285 t284 t302 _ A259.out).mono ?_); rintro e w283 ⟨rfl, hb⟩; have n0_ := Aside0.mk (blk_below (g := gb260) (o := .cells #[.float .f64 (un pr253 t252), .float .f64 (un pr255 t254)] 36 (0, 0)) (by (with_reducible repeat (first | refine blk_drewN ?_ _ | refine blk_drew ?_ | refine blk_alloc ?_ _)); exact BK260.out) hb); have n1_ := Aside0.mk (blk_below (g := gb261) (o := .cells #[.float .f64 (un pr257 t256), .float .f64 (un pr259 t258)] 36 (0, 0)) (by (with_reducible repeat (first | refine blk_drewN ?_ _ | refine blk_drew ?_ | refine blk_alloc ?_ _)); exact BK261.out) hb); have n2_ := Aside0.mk (blk_below (g := gb266) (o := .cells #[.float .f64 (un pr263 t262), .float .f64 (un pr265 t264)] 36 (0, 0)) (by (with_reducible repeat (first | refine blk_drewN ?_ _ | refine blk_drew ?_ | refine blk_alloc ?_ _)); exact BK266.out) hb); have n3_ := Aside0.mk (blk_below (g := gb271) (o := .cells #[.float .f64 (un pr268 t267), .float .f64 (un pr270 t269)] 36 (0, 0)) (by (with_reducible repeat (first | refine blk_drewN ?_ _ | refine blk_drew ?_ | refine blk_alloc ?_ _)); exact BK271.out) hb); have n4_ := Aside0.mk (blk_below (g := gb276) (o := .cells #[.float .f64 (un pr273 t272), .float .f64 (un pr275 t274)] 36 (0, 0)) (by (with_reducible repeat (first | refine blk_drewN ?_ _ | refine blk_drew ?_ | refine blk_alloc ?_ _)); exact BK276.out) hb); have n5_ := Aside0.mk (blk_below (g := gb281) (o := .cells #[.float .f64 (un pr278 t277), .float .f64 (un pr280 t279)] 36 (0, 0)) (by (with_reducible repeat (first | refine blk_drewN ?_ _ | refine blk_drew ?_ | refine blk_alloc ?_ _)); exact BK281.out) hb); have n6_ := Aside0.mk (blk_below (g := gb286) (o := .cells #[.float .f64 (un pr283 t282), .float .f64 (un pr285 t284)] 36 (0, 0)) (by (with_reducible repeat (first | refine blk_drewN ?_ _ | refine blk_drew ?_ | refine blk_alloc ?_ _)); exact BK286.out) hb); have n7_ := Aside0.mk (blk_below (g := gb291) (o := .cells #[.float .f64 (un pr288 t287), .float .f64 (un pr290 t289)] 36 (0, 0)) (by (with_reducible repeat (first | refine blk_drewN ?_ _ | refine blk_drew ?_ | refine blk_alloc ?_ _)); exact BK291.out) hb); have n8_ := Aside0.mk (below_step (by repeat (first | (with_reducible first | exact HB.out | apply below_alloc | apply pw_below_drewN | apply below_drew1 | refine below_set ?_ GE260.out | refine below_set ?_ GE261.out | refine below_set ?_ GE266.out | refine below_set ?_ GE271.out | refine below_set ?_ GE276.out | refine below_set ?_ GE281.out | refine below_set ?_ GE286.out | refine below_set ?_ GE291.out) | exact HB.out)) hb); clear BK260; clear BK261; clear BK266; clear BK271; clear BK276; clear BK281; clear BK286; clear BK291; clear HB; have BK260 := n0_; have BK261 := n1_; have BK266 := n2_; have BK271 := n3_; have BK276 := n4_; have BK281 := n5_; have BK286 := n6_; have BK291 := n7_; have HB := n8_; clear n0_ n1_ n2_ n3_ n4_ n5_ n6_ n7_ n8_; (try clear hb); (try clear hb2); (try clear hk); (try clear hi)))
           go_meet
           case rel => exact ⟨_, (!t302), (by first | rfl | (simp; done) | (simp [*]; done)), H', ⟨by have := HJ10.out; have := HJ162.out; first | omega | exact Nat.le_refl _⟩, ⟨by (with_reducible repeat (first | refine blk_drewN ?_ _ | refine blk_drew ?_ | refine blk_alloc ?_ _)); exact BK260.out⟩, ⟨by (with_reducible repeat (first | refine blk_drewN ?_ _ | refine blk_drew ?_ | refine blk_alloc ?_ _)); exact BK261.out⟩, ⟨by (with_reducible repeat (first | refine blk_drewN ?_ _ | refine blk_drew ?_ | refine blk_alloc ?_ _)); exact BK266.out⟩, ⟨by (with_reducible repeat (first | refine blk_drewN ?_ _ | refine blk_drew ?_ | refine blk_alloc ?_ _)); exact BK271.out⟩, ⟨by (with_reducible repeat (first | refine blk_drewN ?_ _ | refine blk_drew ?_ | refine blk_alloc ?_ _)); exact BK276.out⟩, ⟨by (with_reducible repeat (first | refine blk_drewN ?_ _ | refine blk_drew ?_ | refine blk_alloc ?_ _)); exact BK281.out⟩, ⟨by (with_reducible repeat (first | refine blk_drewN ?_ _ | refine blk_drew ?_ | refine blk_alloc ?_ _)); exact BK286.out⟩, ⟨by (with_reducible repeat (first | refine blk_drewN ?_ _ | refine blk_drew ?_ | refine blk_alloc ?_ _)); exact BK291.out⟩, ⟨by repeat (first | (with_reducible first | exact HB.out | apply below_alloc | apply pw_below_drewN | apply below_drew1 | refine below_set ?_ GE260.out | refine below_set ?_ GE261.out | refine below_set ?_ GE266.out | refine below_set ?_ GE271.out | refine below_set ?_ GE276.out | refine below_set ?_ GE281.out | refine below_set ?_ GE286.out | refine below_set ?_ GE291.out) | exact HB.out)⟩⟩
          ·replace c258 := Bool.eq_false_iff.mpr c258
           subst c258
           have H1 : (laws_FnPairs.j2 kj162 true t252 t254 t256 t258 t262 t264) = some r := by rw [if_neg (show ¬ (false = true) by decide)] at H; exact H
           clear H
           have H := H1
           clear H1
           have H' := Aside0.mk H
           clear H
           have hnb284 := NB260_261.out
           have hnc284 := NB261_260.out
           have hnb285 := NB260_266.out
           have hnc285 := NB266_260.out
           have hnb286 := NB260_271.out
           have hnc286 := NB271_260.out
           have hnb287 := NB260_276.out
           have hnc287 := NB276_260.out
           have hnb288 := NB260_281.out
           have hnc288 := NB281_260.out
           have hnb289 := NB260_286.out
           have hnc289 := NB286_260.out
           have hnb290 := NB260_291.out
           have hnc290 := NB291_260.out
           have hcz291_0 : wc.cell? ⟨gb260, 0, none⟩ = some (.float .f64 (un pr253 t252)) := (blk_cell BK260.out 0).trans rfl
           have hcz291_1 : wc.cell? ⟨gb260, 1, none⟩ = some (.float .f64 (un pr255 t254)) := (blk_cell BK260.out 1).trans rfl
           have hfz291_0 := blk_frozen BK260.out 0
           have hfz291_1 := blk_frozen BK260.out 1
           go_wp2_with (first | ((with_reducible refine gate_callee (f := 22) rfl ?_); refine goesL_ (some 97) rfl rfl Try.func22 (by kernel_rfl) rfl #[.agg #[.float .f64 (un pr253 t252), .float .f64 (un pr255 t254)]] rfl (by (try simp only [List.map_toArray, List.map_cons, List.map_nil]); first | done | rfl | (simp only [List.length_drop, List.length_take]; rfl)) ?_; (with_reducible refine (laws_known.calls pr253 t252 pr255 t254 true _ A255.out).mono ?_); rintro e w292 ⟨rfl, hb⟩; refine ⟨_, rfl, ?_⟩; have n0_ := Aside0.mk (blk_below (g := gb260) (o := .cells #[.float .f64 (un pr253 t252), .float .f64 (un pr255 t254)] 36 (0, 0)) (by (with_reducible repeat (first | refine blk_drewN ?_ _ | refine blk_drew ?_ | refine blk_alloc ?_ _)); exact BK260.out) hb); have n1_ := Aside0.mk (blk_below (g := gb261) (o := .cells #[.float .f64 (un pr257 t256), .float .f64 (un pr259 t258)] 36 (0, 0)) (by (with_reducible repeat (first | refine blk_drewN ?_ _ | refine blk_drew ?_ | refine blk_alloc ?_ _)); exact BK261.out) hb); have n2_ := Aside0.mk (blk_below (g := gb266) (o := .cells #[.float .f64 (un pr263 t262), .float .f64 (un pr265 t264)] 36 (0, 0)) (by (with_reducible repeat (first | refine blk_drewN ?_ _ | refine blk_drew ?_ | refine blk_alloc ?_ _)); exact BK266.out) hb); have n3_ := Aside0.mk (blk_below (g := gb271) (o := .cells #[.float .f64 (un pr268 t267), .float .f64 (un pr270 t269)] 36 (0, 0)) (by (with_reducible repeat (first | refine blk_drewN ?_ _ | refine blk_drew ?_ | refine blk_alloc ?_ _)); exact BK271.out) hb); have n4_ := Aside0.mk (blk_below (g := gb276) (o := .cells #[.float .f64 (un pr273 t272), .float .f64 (un pr275 t274)] 36 (0, 0)) (by (with_reducible repeat (first | refine blk_drewN ?_ _ | refine blk_drew ?_ | refine blk_alloc ?_ _)); exact BK276.out) hb); have n5_ := Aside0.mk (blk_below (g := gb281) (o := .cells #[.float .f64 (un pr278 t277), .float .f64 (un pr280 t279)] 36 (0, 0)) (by (with_reducible repeat (first | refine blk_drewN ?_ _ | refine blk_drew ?_ | refine blk_alloc ?_ _)); exact BK281.out) hb); have n6_ := Aside0.mk (blk_below (g := gb286) (o := .cells #[.float .f64 (un pr283 t282), .float .f64 (un pr285 t284)] 36 (0, 0)) (by (with_reducible repeat (first | refine blk_drewN ?_ _ | refine blk_drew ?_ | refine blk_alloc ?_ _)); exact BK286.out) hb); have n7_ := Aside0.mk (blk_below (g := gb291) (o := .cells #[.float .f64 (un pr288 t287), .float .f64 (un pr290 t289)] 36 (0, 0)) (by (with_reducible repeat (first | refine blk_drewN ?_ _ | refine blk_drew ?_ | refine blk_alloc ?_ _)); exact BK291.out) hb); have n8_ := Aside0.mk (below_step (by repeat (first | (with_reducible first | exact HB.out | apply below_alloc | apply pw_below_drewN | apply below_drew1 | refine below_set ?_ GE260.out | refine below_set ?_ GE261.out | refine below_set ?_ GE266.out | refine below_set ?_ GE271.out | refine below_set ?_ GE276.out | refine below_set ?_ GE281.out | refine below_set ?_ GE286.out | refine below_set ?_ GE291.out) | exact HB.out)) hb); clear BK260; clear BK261; clear BK266; clear BK271; clear BK276; clear BK281; clear BK286; clear BK291; clear HB; have BK260 := n0_; have BK261 := n1_; have BK266 := n2_; have BK271 := n3_; have BK276 := n4_; have BK281 := n5_; have BK286 := n6_; have BK291 := n7_; have HB := n8_; clear n0_ n1_ n2_ n3_ n4_ n5_ n6_ n7_ n8_; (try clear hb); (try clear hb2); (try clear hk); (try clear hi); have hnb293 := NB261_266.out; have hnc293 := NB266_261.out; have hnb294 := NB261_271.out; have hnc294 := NB271_261.out; have hnb295 := NB261_276.out; have hnc295 := NB276_261.out; have hnb296 := NB261_281.out; have hnc296 := NB281_261.out; have hnb297 := NB261_286.out; have hnc297 := NB286_261.out; have hnb298 := NB261_291.out; have hnc298 := NB291_261.out; have hcz299_0 : w292.cell? ⟨gb261, 0, none⟩ = some (.float .f64 (un pr257 t256)) := (blk_cell BK261.out 0).trans rfl; have hcz299_1 : w292.cell? ⟨gb261, 1, none⟩ = some (.float .f64 (un pr259 t258)) := (blk_cell BK261.out 1).trans rfl; have hfz299_0 := blk_frozen BK261.out 0; have hfz299_1 := blk_frozen BK261.out 1) | (go_at_call 22; (with_reducible refine (laws_known.calls pr257 t256 pr259 t258 false _ A257.out).mono ?_); rintro e w300 ⟨rfl, hb⟩; have n0_ := Aside0.mk (blk_below (g := gb260) (o := .cells #[.float .f64 (un pr253 t252), .float .f64 (un pr255 t254)] 36 (0, 0)) (by (with_reducible repeat (first | refine blk_drewN ?_ _ | refine blk_drew ?_ | refine blk_alloc ?_ _)); exact BK260.out) hb); have n1_ := Aside0.mk (blk_below (g := gb261) (o := .cells #[.float .f64 (un pr257 t256), .float .f64 (un pr259 t258)] 36 (0, 0)) (by (with_reducible repeat (first | refine blk_drewN ?_ _ | refine blk_drew ?_ | refine blk_alloc ?_ _)); exact BK261.out) hb); have n2_ := Aside0.mk (blk_below (g := gb266) (o := .cells #[.float .f64 (un pr263 t262), .float .f64 (un pr265 t264)] 36 (0, 0)) (by (with_reducible repeat (first | refine blk_drewN ?_ _ | refine blk_drew ?_ | refine blk_alloc ?_ _)); exact BK266.out) hb); have n3_ := Aside0.mk (blk_below (g := gb271) (o := .cells #[.float .f64 (un pr268 t267), .float .f64 (un pr270 t269)] 36 (0, 0)) (by (with_reducible repeat (first | refine blk_drewN ?_ _ | refine blk_drew ?_ | refine blk_alloc ?_ _)); exact BK271.out) hb); have n4_ := Aside0.mk (blk_below (g := gb276) (o := .cells #[.float .f64 (un pr273 t272), .float .f64 (un pr275 t274)] 36 (0, 0)) (by (with_reducible repeat (first | refine blk_drewN ?_ _ | refine blk_drew ?_ | refine blk_alloc ?_ _)); exact BK276.out) hb); have n5_ := Aside0.mk (blk_below (g := gb281) (o := .cells #[.float .f64 (un pr278 t277), .float .f64 (un pr280 t279)] 36 (0, 0)) (by (with_reducible repeat (first | refine blk_drewN ?_ _ | refine blk_drew ?_ | refine blk_alloc ?_ _)); exact BK281.out) hb); have n6_ := Aside0.mk (blk_below (g := gb286) (o := .cells #[.float .f64 (un pr283 t282), .float .f64 (un pr285 t284)] 36 (0, 0)) (by (with_reducible repeat (first | refine blk_drewN ?_ _ | refine blk_drew ?_ | refine blk_alloc ?_ _)); exact BK286.out) hb); have n7_ := Aside0.mk (blk_below (g := gb291) (o := .cells #[.float .f64 (un pr288 t287), .float .f64 (un pr290 t289)] 36 (0, 0)) (by (with_reducible repeat (first | refine blk_drewN ?_ _ | refine blk_drew ?_ | refine blk_alloc ?_ _)); exact BK291.out) hb); have n8_ := Aside0.mk (below_step (by repeat (first | (with_reducible first | exact HB.out | apply below_alloc | apply pw_below_drewN | apply below_drew1 | refine below_set ?_ GE260.out | refine below_set ?_ GE261.out | refine below_set ?_ GE266.out | refine below_set ?_ GE271.out | refine below_set ?_ GE276.out | refine below_set ?_ GE281.out | refine below_set ?_ GE286.out | refine below_set ?_ GE291.out) | exact HB.out)) hb); clear BK260; clear BK261; clear BK266; clear BK271; clear BK276; clear BK281; clear BK286; clear BK291; clear HB; have BK260 := n0_; have BK261 := n1_; have BK266 := n2_; have BK271 := n3_; have BK276 := n4_; have BK281 := n5_; have BK286 := n6_; have BK291 := n7_; have HB := n8_; clear n0_ n1_ n2_ n3_ n4_ n5_ n6_ n7_ n8_; (try clear hb); (try clear hb2); (try clear hk); (try clear hi)))
           go_meet
           case rel => exact ⟨_, (true), (by first | rfl | (simp; done) | (simp [*]; done)), H', ⟨by have := HJ10.out; have := HJ162.out; first | omega | exact Nat.le_refl _⟩, ⟨by (with_reducible repeat (first | refine blk_drewN ?_ _ | refine blk_drew ?_ | refine blk_alloc ?_ _)); exact BK260.out⟩, ⟨by (with_reducible repeat (first | refine blk_drewN ?_ _ | refine blk_drew ?_ | refine blk_alloc ?_ _)); exact BK261.out⟩, ⟨by (with_reducible repeat (first | refine blk_drewN ?_ _ | refine blk_drew ?_ | refine blk_alloc ?_ _)); exact BK266.out⟩, ⟨by (with_reducible repeat (first | refine blk_drewN ?_ _ | refine blk_drew ?_ | refine blk_alloc ?_ _)); exact BK271.out⟩, ⟨by (with_reducible repeat (first | refine blk_drewN ?_ _ | refine blk_drew ?_ | refine blk_alloc ?_ _)); exact BK276.out⟩, ⟨by (with_reducible repeat (first | refine blk_drewN ?_ _ | refine blk_drew ?_ | refine blk_alloc ?_ _)); exact BK281.out⟩, ⟨by (with_reducible repeat (first | refine blk_drewN ?_ _ | refine blk_drew ?_ | refine blk_alloc ?_ _)); exact BK286.out⟩, ⟨by (with_reducible repeat (first | refine blk_drewN ?_ _ | refine blk_drew ?_ | refine blk_alloc ?_ _)); exact BK291.out⟩, ⟨by repeat (first | (with_reducible first | exact HB.out | apply below_alloc | apply pw_below_drewN | apply below_drew1 | refine below_set ?_ GE260.out | refine below_set ?_ GE261.out | refine below_set ?_ GE266.out | refine below_set ?_ GE271.out | refine below_set ?_ GE276.out | refine below_set ?_ GE281.out | refine below_set ?_ GE286.out | refine below_set ?_ GE291.out) | exact HB.out)⟩⟩
         ·replace c256 := Bool.eq_false_iff.mpr c256
          subst c256
          have H1 : (laws_FnPairs.j2 kj162 true t252 t254 t256 t258 t262 t264) = some r := by rw [if_neg (show ¬ (false = true) by decide)] at H; exact H
          clear H
          have H := H1
          clear H1
          have H' := Aside0.mk H
          clear H
          have hnb301 := NB260_261.out
          have hnc301 := NB261_260.out
          have hnb302 := NB260_266.out
          have hnc302 := NB266_260.out
          have hnb303 := NB260_271.out
          have hnc303 := NB271_260.out
          have hnb304 := NB260_276.out
          have hnc304 := NB276_260.out
          have hnb305 := NB260_281.out
          have hnc305 := NB281_260.out
          have hnb306 := NB260_286.out
          have hnc306 := NB286_260.out
          have hnb307 := NB260_291.out
          have hnc307 := NB291_260.out
          have hcz308_0 : wc.cell? ⟨gb260, 0, none⟩ = some (.float .f64 (un pr253 t252)) := (blk_cell BK260.out 0).trans rfl
          have hcz308_1 : wc.cell? ⟨gb260, 1, none⟩ = some (.float .f64 (un pr255 t254)) := (blk_cell BK260.out 1).trans rfl
          have hfz308_0 := blk_frozen BK260.out 0
          have hfz308_1 := blk_frozen BK260.out 1
          go_wp2_with (first | ((with_reducible refine gate_callee (f := 22) rfl ?_); refine goesL_ (some 97) rfl rfl Try.func22 (by kernel_rfl) rfl #[.agg #[.float .f64 (un pr253 t252), .float .f64 (un pr255 t254)]] rfl (by (try simp only [List.map_toArray, List.map_cons, List.map_nil]); first | done | rfl | (simp only [List.length_drop, List.length_take]; rfl)) ?_; (with_reducible refine (laws_known.calls pr253 t252 pr255 t254 false _ A255.out).mono ?_); rintro e w309 ⟨rfl, hb⟩; refine ⟨_, rfl, ?_⟩; have n0_ := Aside0.mk (blk_below (g := gb260) (o := .cells #[.float .f64 (un pr253 t252), .float .f64 (un pr255 t254)] 36 (0, 0)) (by (with_reducible repeat (first | refine blk_drewN ?_ _ | refine blk_drew ?_ | refine blk_alloc ?_ _)); exact BK260.out) hb); have n1_ := Aside0.mk (blk_below (g := gb261) (o := .cells #[.float .f64 (un pr257 t256), .float .f64 (un pr259 t258)] 36 (0, 0)) (by (with_reducible repeat (first | refine blk_drewN ?_ _ | refine blk_drew ?_ | refine blk_alloc ?_ _)); exact BK261.out) hb); have n2_ := Aside0.mk (blk_below (g := gb266) (o := .cells #[.float .f64 (un pr263 t262), .float .f64 (un pr265 t264)] 36 (0, 0)) (by (with_reducible repeat (first | refine blk_drewN ?_ _ | refine blk_drew ?_ | refine blk_alloc ?_ _)); exact BK266.out) hb); have n3_ := Aside0.mk (blk_below (g := gb271) (o := .cells #[.float .f64 (un pr268 t267), .float .f64 (un pr270 t269)] 36 (0, 0)) (by (with_reducible repeat (first | refine blk_drewN ?_ _ | refine blk_drew ?_ | refine blk_alloc ?_ _)); exact BK271.out) hb); have n4_ := Aside0.mk (blk_below (g := gb276) (o := .cells #[.float .f64 (un pr273 t272), .float .f64 (un pr275 t274)] 36 (0, 0)) (by (with_reducible repeat (first | refine blk_drewN ?_ _ | refine blk_drew ?_ | refine blk_alloc ?_ _)); exact BK276.out) hb); have n5_ := Aside0.mk (blk_below (g := gb281) (o := .cells #[.float .f64 (un pr278 t277), .float .f64 (un pr280 t279)] 36 (0, 0)) (by (with_reducible repeat (first | refine blk_drewN ?_ _ | refine blk_drew ?_ | refine blk_alloc ?_ _)); exact BK281.out) hb); have n6_ := Aside0.mk (blk_below (g := gb286) (o := .cells #[.float .f64 (un pr283 t282), .float .f64 (un pr285 t284)] 36 (0, 0)) (by (with_reducible repeat (first | refine blk_drewN ?_ _ | refine blk_drew ?_ | refine blk_alloc ?_ _)); exact BK286.out) hb); have n7_ := Aside0.mk (blk_below (g := gb291) (o := .cells #[.float .f64 (un pr288 t287), .float .f64 (un pr290 t289)] 36 (0, 0)) (by (with_reducible repeat (first | refine blk_drewN ?_ _ | refine blk_drew ?_ | refine blk_alloc ?_ _)); exact BK291.out) hb); have n8_ := Aside0.mk (below_step (by repeat (first | (with_reducible first | exact HB.out | apply below_alloc | apply pw_below_drewN | apply below_drew1 | refine below_set ?_ GE260.out | refine below_set ?_ GE261.out | refine below_set ?_ GE266.out | refine below_set ?_ GE271.out | refine below_set ?_ GE276.out | refine below_set ?_ GE281.out | refine below_set ?_ GE286.out | refine below_set ?_ GE291.out) | exact HB.out)) hb); clear BK260; clear BK261; clear BK266; clear BK271; clear BK276; clear BK281; clear BK286; clear BK291; clear HB; have BK260 := n0_; have BK261 := n1_; have BK266 := n2_; have BK271 := n3_; have BK276 := n4_; have BK281 := n5_; have BK286 := n6_; have BK291 := n7_; have HB := n8_; clear n0_ n1_ n2_ n3_ n4_ n5_ n6_ n7_ n8_; (try clear hb); (try clear hb2); (try clear hk); (try clear hi)))
          go_meet
          case rel => exact ⟨_, (true), (by first | rfl | (simp; done) | (simp [*]; done)), H', ⟨by have := HJ10.out; have := HJ162.out; first | omega | exact Nat.le_refl _⟩, ⟨by (with_reducible repeat (first | refine blk_drewN ?_ _ | refine blk_drew ?_ | refine blk_alloc ?_ _)); exact BK260.out⟩, ⟨by (with_reducible repeat (first | refine blk_drewN ?_ _ | refine blk_drew ?_ | refine blk_alloc ?_ _)); exact BK261.out⟩, ⟨by (with_reducible repeat (first | refine blk_drewN ?_ _ | refine blk_drew ?_ | refine blk_alloc ?_ _)); exact BK266.out⟩, ⟨by (with_reducible repeat (first | refine blk_drewN ?_ _ | refine blk_drew ?_ | refine blk_alloc ?_ _)); exact BK271.out⟩, ⟨by (with_reducible repeat (first | refine blk_drewN ?_ _ | refine blk_drew ?_ | refine blk_alloc ?_ _)); exact BK276.out⟩, ⟨by (with_reducible repeat (first | refine blk_drewN ?_ _ | refine blk_drew ?_ | refine blk_alloc ?_ _)); exact BK281.out⟩, ⟨by (with_reducible repeat (first | refine blk_drewN ?_ _ | refine blk_drew ?_ | refine blk_alloc ?_ _)); exact BK286.out⟩, ⟨by (with_reducible repeat (first | refine blk_drewN ?_ _ | refine blk_drew ?_ | refine blk_alloc ?_ _)); exact BK291.out⟩, ⟨by repeat (first | (with_reducible first | exact HB.out | apply below_alloc | apply pw_below_drewN | apply below_drew1 | refine below_set ?_ GE260.out | refine below_set ?_ GE261.out | refine below_set ?_ GE266.out | refine below_set ?_ GE271.out | refine below_set ?_ GE276.out | refine below_set ?_ GE281.out | refine below_set ?_ GE286.out | refine below_set ?_ GE291.out) | exact HB.out)⟩⟩
        case rest =>
         clear HC254
         try clear c1
         try clear c2
         try clear p2
         try clear c3
         try clear c4
         try clear c5
         try clear c6
         try clear c7
         try clear c8
         try clear c9
         try clear c10
         try clear c11
         try clear c12
         try clear c13
         try clear c14
         try clear c15
         try clear c16
         try clear c17
         try clear c18
         try clear c19
         try clear c20
         try clear c21
         try clear c22
         try clear c23
         try clear c24
         try clear c25
         try clear c26
         try clear c27
         try clear c28
         try clear c29
         try clear c30
         try clear c35
         try clear c36
         try clear c37
         try clear c38
         try clear c44
         try clear c45
         try clear c46
         try clear c47
         try clear c48
         try clear c54
         try clear c55
         try clear c56
         try clear c57
         try clear c58
         try clear c59
         try clear c65
         try clear c66
         try clear c67
         try clear c68
         try clear c69
         try clear c70
         try clear c71
         try clear c74
         try clear c76
         try clear c78
         try clear c80
         try clear c81
         try clear c82
         try clear c83
         try clear c84
         try clear c85
         try clear c86
         try clear c88
         try clear c89
         try clear c90
         try clear c91
         try clear c92
         try clear c93
         try clear c95
         try clear c96
         try clear c97
         try clear c98
         try clear c99
         try clear c101
         try clear c102
         try clear c103
         try clear c104
         try clear c106
         try clear c107
         try clear c108
         try clear c109
         try clear c110
         try clear c111
         try clear c112
         try clear c114
         try clear c115
         try clear c116
         try clear c117
         try clear c118
         try clear c119
         try clear c121
         try clear c122
         try clear c123
         try clear c124
         try clear c125
         try clear c127
         try clear c128
         try clear c129
         try clear c130
         try clear c132
         try clear c133
         try clear c134
         try clear c135
         try clear c136
         try clear c137
         try clear c138
         try clear c140
         try clear c141
         try clear c142
         try clear c143
         try clear c144
         try clear c145
         try clear c147
         try clear c148
         try clear c149
         try clear c150
         try clear c151
         try clear c152
         try clear c153
         try clear c155
         try clear c156
         try clear c157
         try clear c158
         try clear c159
         try clear c160
         try clear c162
         try clear c165
         try clear c167
         try clear c169
         try clear c171
         try clear c172
         try clear c173
         try clear c174
         try clear c175
         try clear c176
         try clear c177
         try clear c179
         try clear c180
         try clear c181
         try clear c182
         try clear c183
         try clear c184
         try clear c186
         try clear c187
         try clear c188
         try clear c189
         try clear c190
         try clear c192
         try clear c193
         try clear c194
         try clear c195
         try clear c197
         try clear c198
         try clear c199
         try clear c200
         try clear c201
         try clear c202
         try clear c203
         try clear c205
         try clear c206
         try clear c207
         try clear c208
         try clear c209
         try clear c210
         try clear c212
         try clear c213
         try clear c214
         try clear c215
         try clear c216
         try clear c218
         try clear c219
         try clear c220
         try clear c221
         try clear c223
         try clear c224
         try clear c225
         try clear c226
         try clear c227
         try clear c228
         try clear c229
         try clear c231
         try clear c232
         try clear c233
         try clear c234
         try clear c235
         try clear c236
         try clear c238
         try clear c239
         try clear c240
         try clear c241
         try clear c242
         try clear c243
         try clear c244
         try clear c246
         try clear c247
         try clear c248
         try clear c249
         try clear c250
         try clear c251
         try clear c253
         try clear c256
         try clear c258
         try clear c260
         try clear c261
         try clear c262
         try clear c263
         try clear c264
         try clear c265
         try clear c266
         try clear c269
         try clear c270
         try clear c271
         try clear c272
         try clear c273
         try clear c274
         try clear c277
         try clear c278
         try clear c279
         try clear c280
         try clear c281
         try clear c284
         try clear c285
         try clear c286
         try clear c287
         try clear c288
         try clear c289
         try clear c290
         try clear c293
         try clear c294
         try clear c295
         try clear c296
         try clear c297
         try clear c298
         try clear c301
         try clear c302
         try clear c303
         try clear c304
         try clear c305
         try clear c306
         try clear c307
         try clear hcz100_0
         try clear hcz100_1
         try clear hcz105_0
         try clear hcz105_1
         try clear hcz113_0
         try clear hcz113_1
         try clear hcz120_0
         try clear hcz120_1
         try clear hcz126_0
         try clear hcz126_1
         try clear hcz131_0
         try clear hcz131_1
         try clear hcz139_0
         try clear hcz139_1
         try clear hcz146_0
         try clear hcz146_1
         try clear hcz154_0
         try clear hcz154_1
         try clear hcz161_0
         try clear hcz161_1
         try clear hcz16_0
         try clear hcz16_1
         try clear hcz178_0
         try clear hcz178_1
         try clear hcz17_0
         try clear hcz17_1
         try clear hcz185_0
         try clear hcz185_1
         try clear hcz191_0
         try clear hcz191_1
         try clear hcz196_0
         try clear hcz196_1
         try clear hcz204_0
         try clear hcz204_1
         try clear hcz211_0
         try clear hcz211_1
         try clear hcz217_0
         try clear hcz217_1
         try clear hcz222_0
         try clear hcz222_1
         try clear hcz22_0
         try clear hcz22_1
         try clear hcz230_0
         try clear hcz230_1
         try clear hcz237_0
         try clear hcz237_1
         try clear hcz23_0
         try clear hcz23_1
         try clear hcz245_0
         try clear hcz245_1
         try clear hcz24_0
         try clear hcz24_1
         try clear hcz252_0
         try clear hcz252_1
         try clear hcz267_0
         try clear hcz267_1
         try clear hcz275_0
         try clear hcz275_1
         try clear hcz282_0
         try clear hcz282_1
         try clear hcz291_0
         try clear hcz291_1
         try clear hcz299_0
         try clear hcz299_1
         try clear hcz308_0
         try clear hcz308_1
         try clear hcz30_0
         try clear hcz30_1
         try clear hcz31_0
         try clear hcz31_1
         try clear hcz32_0
         try clear hcz32_1
         try clear hcz39_0
         try clear hcz39_1
         try clear hcz40_0
         try clear hcz40_1
         try clear hcz41_0
         try clear hcz41_1
         try clear hcz49_0
         try clear hcz49_1
         try clear hcz50_0
         try clear hcz50_1
         try clear hcz51_0
         try clear hcz51_1
         try clear hcz60_0
         try clear hcz60_1
         try clear hcz61_0
         try clear hcz61_1
         try clear hcz62_0
         try clear hcz62_1
         try clear hcz72_0
         try clear hcz72_1
         try clear hcz87_0
         try clear hcz87_1
         try clear hcz94_0
         try clear hcz94_1
         try clear hfz100_0
         try clear hfz100_1
         try clear hfz105_0
         try clear hfz105_1
         try clear hfz113_0
         try clear hfz113_1
         try clear hfz120_0
         try clear hfz120_1
         try clear hfz126_0
         try clear hfz126_1
         try clear hfz131_0
         try clear hfz131_1
         try clear hfz139_0
         try clear hfz139_1
         try clear hfz146_0
         try clear hfz146_1
         try clear hfz154_0
         try clear hfz154_1
         try clear hfz161_0
         try clear hfz161_1
         try clear hfz16_0
         try clear hfz16_1
         try clear hfz178_0
         try clear hfz178_1
         try clear hfz17_0
         try clear hfz17_1
         try clear hfz185_0
         try clear hfz185_1
         try clear hfz191_0
         try clear hfz191_1
         try clear hfz196_0
         try clear hfz196_1
         try clear hfz204_0
         try clear hfz204_1
         try clear hfz211_0
         try clear hfz211_1
         try clear hfz217_0
         try clear hfz217_1
         try clear hfz222_0
         try clear hfz222_1
         try clear hfz22_0
         try clear hfz22_1
         try clear hfz230_0
         try clear hfz230_1
         try clear hfz237_0
         try clear hfz237_1
         try clear hfz23_0
         try clear hfz23_1
         try clear hfz245_0
         try clear hfz245_1
         try clear hfz24_0
         try clear hfz24_1
         try clear hfz252_0
         try clear hfz252_1
         try clear hfz267_0
         try clear hfz267_1
         try clear hfz275_0
         try clear hfz275_1
         try clear hfz282_0
         try clear hfz282_1
         try clear hfz291_0
         try clear hfz291_1
         try clear hfz299_0
         try clear hfz299_1
         try clear hfz308_0
         try clear hfz308_1
         try clear hfz30_0
         try clear hfz30_1
         try clear hfz31_0
         try clear hfz31_1
         try clear hfz32_0
         try clear hfz32_1
         try clear hfz39_0
         try clear hfz39_1
         try clear hfz40_0
         try clear hfz40_1
         try clear hfz41_0
         try clear hfz41_1
         try clear hfz49_0
         try clear hfz49_1
         try clear hfz50_0
         try clear hfz50_1
         try clear hfz51_0
         try clear hfz51_1
         try clear hfz60_0
         try clear hfz60_1
         try clear hfz61_0
         try clear hfz61_1
         try clear hfz62_0
         try clear hfz62_1
         try clear hfz72_0
         try clear hfz72_1
         try clear hfz87_0
         try clear hfz87_1
         try clear hfz94_0
         try clear hfz94_1
         try clear p2
         obtain ⟨kq, x108_253, rfl, HA, HJ253, BK260, BK261, BK266, BK271, BK276, BK281, BK286, BK291, HB⟩ := hcut
         cases kq with
         | zero => exact absurd HA.out (by simp [laws_FnPairs.j2])
         | succ kj253 =>
          have H := HA.out
          clear HA
          simp only [laws_FnPairs.j2] at H
          by_cases c310 : x108_253 = true
          ·subst c310
           have H1 : (some true) = some r := by rw [if_pos rfl] at H; exact H
           clear H
           have H := H1
           clear H1
           obtain rfl := Option.some.inj H
           go_wp2
           go_ret
           exact ⟨by first | rfl | (simp [errW_none, errW_some] <;> rfl) | (simp [*, errW_none, errW_some] <;> rfl), by repeat (first | (with_reducible first | exact HB.out | apply below_alloc | apply pw_below_drewN | apply below_drew1 | refine below_set ?_ GE260.out | refine below_set ?_ GE261.out | refine below_set ?_ GE266.out | refine below_set ?_ GE271.out | refine below_set ?_ GE276.out | refine below_set ?_ GE281.out | refine below_set ?_ GE286.out | refine below_set ?_ GE291.out) | exact HB.out)⟩
          ·replace c310 := Bool.eq_false_iff.mpr c310
           subst c310
           have H1 : ((impl_ConjPair.f t262 t264).bind fun bt303 => ((impl_ConjPair.f t252 t254).bind fun bt307 => ((impl_ConjPair.f t256 t258).bind fun bt311 => ((impl_MulPair.f bt307.1 bt307.2 bt311.1 bt311.2).bind fun bt315 => ((laws_equal.f bt303.1 bt303.2 bt315.1 bt315.2).bind fun t319 => (some t319)))))) = some r := by rw [if_neg (show ¬ (false = true) by decide)] at H; exact H
           clear H
           have H := H1
           clear H1
           replace H := Option.bind_eq_some_iff.mp H
           obtain ⟨⟨t303, t305⟩, A3110, H⟩ := H
           replace H : ((impl_ConjPair.f t252 t254).bind fun bt307 => ((impl_ConjPair.f t256 t258).bind fun bt311 => ((impl_MulPair.f bt307.1 bt307.2 bt311.1 bt311.2).bind fun bt315 => ((laws_equal.f t303 t305 bt315.1 bt315.2).bind fun t319 => (some t319))))) = some r := H
           have A311 := Aside0.mk A3110
           clear A3110
           replace H := Option.bind_eq_some_iff.mp H
           obtain ⟨⟨t307, t309⟩, A3120, H⟩ := H
           replace H : ((impl_ConjPair.f t256 t258).bind fun bt311 => ((impl_MulPair.f t307 t309 bt311.1 bt311.2).bind fun bt315 => ((laws_equal.f t303 t305 bt315.1 bt315.2).bind fun t319 => (some t319)))) = some r := H
           have A312 := Aside0.mk A3120
           clear A3120
           replace H := Option.bind_eq_some_iff.mp H
           obtain ⟨⟨t311, t313⟩, A3130, H⟩ := H
           replace H : ((impl_MulPair.f t307 t309 t311 t313).bind fun bt315 => ((laws_equal.f t303 t305 bt315.1 bt315.2).bind fun t319 => (some t319))) = some r := H
           have A313 := Aside0.mk A3130
           clear A3130
           replace H := Option.bind_eq_some_iff.mp H
           obtain ⟨⟨t315, t317⟩, A3140, H⟩ := H
           replace H : ((laws_equal.f t303 t305 t315 t317).bind fun t319 => (some t319)) = some r := H
           have A314 := Aside0.mk A3140
           clear A3140
           replace H := Option.bind_eq_some_iff.mp H
           obtain ⟨t319, A3150, H⟩ := H
           replace H : (some t319) = some r := H
           have A315 := Aside0.mk A3150
           clear A3150
           obtain rfl := Option.some.inj H
           try go_wp2
           have n0_ := Aside0.mk (blk_drew BK260.out)
           have n1_ := Aside0.mk (blk_drew BK261.out)
           have n2_ := Aside0.mk (blk_drew BK266.out)
           have n3_ := Aside0.mk (blk_drew BK271.out)
           have n4_ := Aside0.mk (blk_drew BK276.out)
           have n5_ := Aside0.mk (blk_drew BK281.out)
           have n6_ := Aside0.mk (blk_drew BK286.out)
           have n7_ := Aside0.mk (blk_drew BK291.out)
           have n8_ := Aside0.mk (below_drew1 HB.out)
           clear BK260
           clear BK261
           clear BK266
           clear BK271
           clear BK276
           clear BK281
           clear BK286
           clear BK291
           clear HB
           have BK260 := n0_
           have BK261 := n1_
           have BK266 := n2_
           have BK271 := n3_
           have BK276 := n4_
           have BK281 := n5_
           have BK286 := n6_
           have BK291 := n7_
           have HB := n8_
           clear n0_ n1_ n2_ n3_ n4_ n5_ n6_ n7_ n8_
           refine start_ (n := 9) (S := fun w' => w'.cell? ⟨gb266, 0, none⟩ = some (.float .f64 (un pr263 t262)) ∧ w'.cell? ⟨gb266, 1, none⟩ = some (.float .f64 (un pr265 t264)) ∧ w'.cell? ⟨gb260, 0, none⟩ = some (.float .f64 (un pr253 t252)) ∧ w'.cell? ⟨gb260, 1, none⟩ = some (.float .f64 (un pr255 t254)) ∧ w'.cell? ⟨gb261, 0, none⟩ = some (.float .f64 (un pr257 t256)) ∧ w'.cell? ⟨gb261, 1, none⟩ = some (.float .f64 (un pr259 t258))) (ds := []) #[false, false, false, false, false, false, false, false, false] (by kernel_rfl) rfl rfl ⟨(blk_cell BK266.out 0).trans rfl, (blk_cell BK266.out 1).trans rfl, (blk_cell BK260.out 0).trans rfl, (blk_cell BK260.out 1).trans rfl, (blk_cell BK261.out 0).trans rfl, (blk_cell BK261.out 1).trans rfl⟩ (fun hHeld => ?_); refine with_tabW laws_FnPairs.tab16 laws_FnPairs.bits16 (fun HT_ HW_ => ?_)
           generalize wc.drew = w316 at BK260 BK261 BK266 BK271 BK276 BK281 BK286 BK291 HB hHeld ⊢
           refine take_ (i := 0) (N := some 109) (v := ?_) (a' := ?_) #[true, false, false, false, false, false, false, false, false] rfl rfl (take_ofW HT_.out HW_.out (by kernel_rfl)) (fun _ _ _ h => h) (Or.inl ⟨by rfl, ?_⟩) hHeld ?_ ?_
           rotate_left
           ·rintro w' ⟨s0, s1, s2, s3, s4, s5⟩
            go_simp
            with_reducible rfl
           rotate_left
           ·simp only [Act.put, sqA, sqZ, sqS, i64_w, i32_w]
            rfl
           refine take_ (i := 2) (N := some 111) (v := ?_) (a' := ?_) #[true, false, true, false, false, false, false, false, false] rfl rfl (take_ofW HT_.out HW_.out (by kernel_rfl)) (fun _ _ _ h => h) (Or.inl ⟨by rfl, ?_⟩) hHeld ?_ ?_
           rotate_left
           ·rintro w' ⟨s0, s1, s2, s3, s4, s5⟩
            go_simp
            with_reducible rfl
           rotate_left
           ·simp only [Act.put, sqA, sqZ, sqS, i64_w, i32_w]
            rfl
           refine take_ (i := 4) (N := some 113) (v := ?_) (a' := ?_) #[true, false, true, false, true, false, false, false, false] rfl rfl (take_ofW HT_.out HW_.out (by kernel_rfl)) (fun _ _ _ h => h) (Or.inl ⟨by rfl, ?_⟩) hHeld ?_ ?_
           rotate_left
           ·rintro w' ⟨s0, s1, s2, s3, s4, s5⟩
            go_simp
            with_reducible rfl
           rotate_left
           ·simp only [Act.put, sqA, sqZ, sqS, i64_w, i32_w]
            rfl
           refine one_ (i := 1) (N := some 110) #[true, true, true, false, true, false, false, false, false] rfl rfl (one_of HT_.out (by kernel_rfl)) (by decide) (fun K hK => ?_)
           refine goes_ Try.func24 (by kernel_rfl) rfl #[.agg #[.float .f64 (un pr263 t262), .float .f64 (un pr265 t264)]] (by rfl) rfl rfl (by (try simp only [List.map_toArray, List.map_cons, List.map_nil]); first | done | rfl | (simp only [List.length_drop, List.length_take]; rfl)) ?_
           with_reducible refine (impl_ConjPair.calls pr263 t262 pr265 t264 t303 t305 _ A311.out).mono ?_
           rintro e w317 ⟨pr304, pr306, rfl, hb⟩
           refine ⟨_, rfl, ?_⟩
           have n0_ := Aside0.mk (blk_below (g := gb260) (o := .cells #[.float .f64 (un pr253 t252), .float .f64 (un pr255 t254)] 36 (0, 0)) (by (with_reducible repeat (first | refine blk_drewN ?_ _ | refine blk_drew ?_ | refine blk_alloc ?_ _)); exact BK260.out) hb)
           have n1_ := Aside0.mk (blk_below (g := gb261) (o := .cells #[.float .f64 (un pr257 t256), .float .f64 (un pr259 t258)] 36 (0, 0)) (by (with_reducible repeat (first | refine blk_drewN ?_ _ | refine blk_drew ?_ | refine blk_alloc ?_ _)); exact BK261.out) hb)
           have n2_ := Aside0.mk (blk_below (g := gb266) (o := .cells #[.float .f64 (un pr263 t262), .float .f64 (un pr265 t264)] 36 (0, 0)) (by (with_reducible repeat (first | refine blk_drewN ?_ _ | refine blk_drew ?_ | refine blk_alloc ?_ _)); exact BK266.out) hb)
           have n3_ := Aside0.mk (blk_below (g := gb271) (o := .cells #[.float .f64 (un pr268 t267), .float .f64 (un pr270 t269)] 36 (0, 0)) (by (with_reducible repeat (first | refine blk_drewN ?_ _ | refine blk_drew ?_ | refine blk_alloc ?_ _)); exact BK271.out) hb)
           have n4_ := Aside0.mk (blk_below (g := gb276) (o := .cells #[.float .f64 (un pr273 t272), .float .f64 (un pr275 t274)] 36 (0, 0)) (by (with_reducible repeat (first | refine blk_drewN ?_ _ | refine blk_drew ?_ | refine blk_alloc ?_ _)); exact BK276.out) hb)
           have n5_ := Aside0.mk (blk_below (g := gb281) (o := .cells #[.float .f64 (un pr278 t277), .float .f64 (un pr280 t279)] 36 (0, 0)) (by (with_reducible repeat (first | refine blk_drewN ?_ _ | refine blk_drew ?_ | refine blk_alloc ?_ _)); exact BK281.out) hb)
           have n6_ := Aside0.mk (blk_below (g := gb286) (o := .cells #[.float .f64 (un pr283 t282), .float .f64 (un pr285 t284)] 36 (0, 0)) (by (with_reducible repeat (first | refine blk_drewN ?_ _ | refine blk_drew ?_ | refine blk_alloc ?_ _)); exact BK286.out) hb)
           have n7_ := Aside0.mk (blk_below (g := gb291) (o := .cells #[.float .f64 (un pr288 t287), .float .f64 (un pr290 t289)] 36 (0, 0)) (by (with_reducible repeat (first | refine blk_drewN ?_ _ | refine blk_drew ?_ | refine blk_alloc ?_ _)); exact BK291.out) hb)
           have n8_ := Aside0.mk (below_step (by repeat (first | (with_reducible first | exact HB.out | apply below_alloc | apply pw_below_drewN | apply below_drew1 | refine below_set ?_ GE260.out | refine below_set ?_ GE261.out | refine below_set ?_ GE266.out | refine below_set ?_ GE271.out | refine below_set ?_ GE276.out | refine below_set ?_ GE281.out | refine below_set ?_ GE286.out | refine below_set ?_ GE291.out) | exact HB.out)) hb)
           clear BK260
           clear BK261
           clear BK266
           clear BK271
           clear BK276
           clear BK281
           clear BK286
           clear BK291
           clear HB
           have BK260 := n0_
           have BK261 := n1_
           have BK266 := n2_
           have BK271 := n3_
           have BK276 := n4_
           have BK281 := n5_
           have BK286 := n6_
           have BK291 := n7_
           have HB := n8_
           clear n0_ n1_ n2_ n3_ n4_ n5_ n6_ n7_ n8_
           (try clear hb)
           (try clear hb2)
           (try clear hk)
           (try clear hi)
           refine hK.out _ _ ⟨(blk_cell BK266.out 0).trans rfl, (blk_cell BK266.out 1).trans rfl, (blk_cell BK260.out 0).trans rfl, (blk_cell BK260.out 1).trans rfl, (blk_cell BK261.out 0).trans rfl, (blk_cell BK261.out 1).trans rfl⟩ (fun hHeld => ?_)
           clear hK K
           refine norm_ (a' := ?_) ?_ ?_
           rotate_left
           ·show Act.put _ (some 110) _ = _
            simp only [Act.put, sqA, sqZ, sqS, i64_w, i32_w]
            rfl
           refine one_ (i := 3) (N := some 112) #[true, true, true, true, true, false, false, false, false] rfl rfl (one_of HT_.out (by kernel_rfl)) (by decide) (fun K hK => ?_)
           refine goes_ Try.func24 (by kernel_rfl) rfl #[.agg #[.float .f64 (un pr253 t252), .float .f64 (un pr255 t254)]] (by rfl) rfl rfl (by (try simp only [List.map_toArray, List.map_cons, List.map_nil]); first | done | rfl | (simp only [List.length_drop, List.length_take]; rfl)) ?_
           with_reducible refine (impl_ConjPair.calls pr253 t252 pr255 t254 t307 t309 _ A312.out).mono ?_
           rintro e w318 ⟨pr308, pr310, rfl, hb⟩
           refine ⟨_, rfl, ?_⟩
           have n0_ := Aside0.mk (blk_below (g := gb260) (o := .cells #[.float .f64 (un pr253 t252), .float .f64 (un pr255 t254)] 36 (0, 0)) (by (with_reducible repeat (first | refine blk_drewN ?_ _ | refine blk_drew ?_ | refine blk_alloc ?_ _)); exact BK260.out) hb)
           have n1_ := Aside0.mk (blk_below (g := gb261) (o := .cells #[.float .f64 (un pr257 t256), .float .f64 (un pr259 t258)] 36 (0, 0)) (by (with_reducible repeat (first | refine blk_drewN ?_ _ | refine blk_drew ?_ | refine blk_alloc ?_ _)); exact BK261.out) hb)
           have n2_ := Aside0.mk (blk_below (g := gb266) (o := .cells #[.float .f64 (un pr263 t262), .float .f64 (un pr265 t264)] 36 (0, 0)) (by (with_reducible repeat (first | refine blk_drewN ?_ _ | refine blk_drew ?_ | refine blk_alloc ?_ _)); exact BK266.out) hb)
           have n3_ := Aside0.mk (blk_below (g := gb271) (o := .cells #[.float .f64 (un pr268 t267), .float .f64 (un pr270 t269)] 36 (0, 0)) (by (with_reducible repeat (first | refine blk_drewN ?_ _ | refine blk_drew ?_ | refine blk_alloc ?_ _)); exact BK271.out) hb)
           have n4_ := Aside0.mk (blk_below (g := gb276) (o := .cells #[.float .f64 (un pr273 t272), .float .f64 (un pr275 t274)] 36 (0, 0)) (by (with_reducible repeat (first | refine blk_drewN ?_ _ | refine blk_drew ?_ | refine blk_alloc ?_ _)); exact BK276.out) hb)
           have n5_ := Aside0.mk (blk_below (g := gb281) (o := .cells #[.float .f64 (un pr278 t277), .float .f64 (un pr280 t279)] 36 (0, 0)) (by (with_reducible repeat (first | refine blk_drewN ?_ _ | refine blk_drew ?_ | refine blk_alloc ?_ _)); exact BK281.out) hb)
           have n6_ := Aside0.mk (blk_below (g := gb286) (o := .cells #[.float .f64 (un pr283 t282), .float .f64 (un pr285 t284)] 36 (0, 0)) (by (with_reducible repeat (first | refine blk_drewN ?_ _ | refine blk_drew ?_ | refine blk_alloc ?_ _)); exact BK286.out) hb)
           have n7_ := Aside0.mk (blk_below (g := gb291) (o := .cells #[.float .f64 (un pr288 t287), .float .f64 (un pr290 t289)] 36 (0, 0)) (by (with_reducible repeat (first | refine blk_drewN ?_ _ | refine blk_drew ?_ | refine blk_alloc ?_ _)); exact BK291.out) hb)
           have n8_ := Aside0.mk (below_step (by repeat (first | (with_reducible first | exact HB.out | apply below_alloc | apply pw_below_drewN | apply below_drew1 | refine below_set ?_ GE260.out | refine below_set ?_ GE261.out | refine below_set ?_ GE266.out | refine below_set ?_ GE271.out | refine below_set ?_ GE276.out | refine below_set ?_ GE281.out | refine below_set ?_ GE286.out | refine below_set ?_ GE291.out) | exact HB.out)) hb)
           clear BK260
           clear BK261
           clear BK266
           clear BK271
           clear BK276
           clear BK281
           clear BK286
           clear BK291
           clear HB
           have BK260 := n0_
           have BK261 := n1_
           have BK266 := n2_
           have BK271 := n3_
           have BK276 := n4_
           have BK281 := n5_
           have BK286 := n6_
           have BK291 := n7_
           have HB := n8_
           clear n0_ n1_ n2_ n3_ n4_ n5_ n6_ n7_ n8_
           (try clear hb)
           (try clear hb2)
           (try clear hk)
           (try clear hi)
           refine hK.out _ _ ⟨(blk_cell BK266.out 0).trans rfl, (blk_cell BK266.out 1).trans rfl, (blk_cell BK260.out 0).trans rfl, (blk_cell BK260.out 1).trans rfl, (blk_cell BK261.out 0).trans rfl, (blk_cell BK261.out 1).trans rfl⟩ (fun hHeld => ?_)
           clear hK K
           refine norm_ (a' := ?_) ?_ ?_
           rotate_left
           ·show Act.put _ (some 112) _ = _
            simp only [Act.put, sqA, sqZ, sqS, i64_w, i32_w]
            rfl
           refine one_ (i := 5) (N := some 114) #[true, true, true, true, true, true, false, false, false] rfl rfl (one_of HT_.out (by kernel_rfl)) (by decide) (fun K hK => ?_)
           refine goes_ Try.func24 (by kernel_rfl) rfl #[.agg #[.float .f64 (un pr257 t256), .float .f64 (un pr259 t258)]] (by rfl) rfl rfl (by (try simp only [List.map_toArray, List.map_cons, List.map_nil]); first | done | rfl | (simp only [List.length_drop, List.length_take]; rfl)) ?_
           with_reducible refine (impl_ConjPair.calls pr257 t256 pr259 t258 t311 t313 _ A313.out).mono ?_
           rintro e w319 ⟨pr312, pr314, rfl, hb⟩
           refine ⟨_, rfl, ?_⟩
           have n0_ := Aside0.mk (blk_below (g := gb260) (o := .cells #[.float .f64 (un pr253 t252), .float .f64 (un pr255 t254)] 36 (0, 0)) (by (with_reducible repeat (first | refine blk_drewN ?_ _ | refine blk_drew ?_ | refine blk_alloc ?_ _)); exact BK260.out) hb)
           have n1_ := Aside0.mk (blk_below (g := gb261) (o := .cells #[.float .f64 (un pr257 t256), .float .f64 (un pr259 t258)] 36 (0, 0)) (by (with_reducible repeat (first | refine blk_drewN ?_ _ | refine blk_drew ?_ | refine blk_alloc ?_ _)); exact BK261.out) hb)
           have n2_ := Aside0.mk (blk_below (g := gb266) (o := .cells #[.float .f64 (un pr263 t262), .float .f64 (un pr265 t264)] 36 (0, 0)) (by (with_reducible repeat (first | refine blk_drewN ?_ _ | refine blk_drew ?_ | refine blk_alloc ?_ _)); exact BK266.out) hb)
           have n3_ := Aside0.mk (blk_below (g := gb271) (o := .cells #[.float .f64 (un pr268 t267), .float .f64 (un pr270 t269)] 36 (0, 0)) (by (with_reducible repeat (first | refine blk_drewN ?_ _ | refine blk_drew ?_ | refine blk_alloc ?_ _)); exact BK271.out) hb)
           have n4_ := Aside0.mk (blk_below (g := gb276) (o := .cells #[.float .f64 (un pr273 t272), .float .f64 (un pr275 t274)] 36 (0, 0)) (by (with_reducible repeat (first | refine blk_drewN ?_ _ | refine blk_drew ?_ | refine blk_alloc ?_ _)); exact BK276.out) hb)
           have n5_ := Aside0.mk (blk_below (g := gb281) (o := .cells #[.float .f64 (un pr278 t277), .float .f64 (un pr280 t279)] 36 (0, 0)) (by (with_reducible repeat (first | refine blk_drewN ?_ _ | refine blk_drew ?_ | refine blk_alloc ?_ _)); exact BK281.out) hb)
           have n6_ := Aside0.mk (blk_below (g := gb286) (o := .cells #[.float .f64 (un pr283 t282), .float .f64 (un pr285 t284)] 36 (0, 0)) (by (with_reducible repeat (first | refine blk_drewN ?_ _ | refine blk_drew ?_ | refine blk_alloc ?_ _)); exact BK286.out) hb)
           have n7_ := Aside0.mk (blk_below (g := gb291) (o := .cells #[.float .f64 (un pr288 t287), .float .f64 (un pr290 t289)] 36 (0, 0)) (by (with_reducible repeat (first | refine blk_drewN ?_ _ | refine blk_drew ?_ | refine blk_alloc ?_ _)); exact BK291.out) hb)
           have n8_ := Aside0.mk (below_step (by repeat (first | (with_reducible first | exact HB.out | apply below_alloc | apply pw_below_drewN | apply below_drew1 | refine below_set ?_ GE260.out | refine below_set ?_ GE261.out | refine below_set ?_ GE266.out | refine below_set ?_ GE271.out | refine below_set ?_ GE276.out | refine below_set ?_ GE281.out | refine below_set ?_ GE286.out | refine below_set ?_ GE291.out) | exact HB.out)) hb)
           clear BK260
           clear BK261
           clear BK266
           clear BK271
           clear BK276
           clear BK281
           clear BK286
           clear BK291
           clear HB
           have BK260 := n0_
           have BK261 := n1_
           have BK266 := n2_
           have BK271 := n3_
           have BK276 := n4_
           have BK281 := n5_
           have BK286 := n6_
           have BK291 := n7_
           have HB := n8_
           clear n0_ n1_ n2_ n3_ n4_ n5_ n6_ n7_ n8_
           (try clear hb)
           (try clear hb2)
           (try clear hk)
           (try clear hi)
           refine hK.out _ _ ⟨(blk_cell BK266.out 0).trans rfl, (blk_cell BK266.out 1).trans rfl, (blk_cell BK260.out 0).trans rfl, (blk_cell BK260.out 1).trans rfl, (blk_cell BK261.out 0).trans rfl, (blk_cell BK261.out 1).trans rfl⟩ (fun hHeld => ?_)
           clear hK K
           refine norm_ (a' := ?_) ?_ ?_
           rotate_left
           ·show Act.put _ (some 114) _ = _
            simp only [Act.put, sqA, sqZ, sqS, i64_w, i32_w]
            rfl
           refine one_ (i := 6) (N := some 115) #[true, true, true, true, true, true, true, false, false] rfl rfl (one_of HT_.out (by kernel_rfl)) (by decide) (fun K hK => ?_)
           refine goes_ Try.func17 (by kernel_rfl) rfl #[.agg #[.float .f64 (un pr308 t307), .float .f64 (un pr310 t309)], .agg #[.float .f64 (un pr312 t311), .float .f64 (un pr314 t313)]] (by rfl) rfl rfl (by (try simp only [List.map_toArray, List.map_cons, List.map_nil]); first | done | rfl | (simp only [List.length_drop, List.length_take]; rfl)) ?_
           with_reducible refine (impl_MulPair.calls pr308 t307 pr310 t309 pr312 t311 pr314 t313 t315 t317 _ A314.out).mono ?_
           rintro e w320 ⟨pr316, pr318, rfl, hb⟩
           refine ⟨_, rfl, ?_⟩
           have n0_ := Aside0.mk (blk_below (g := gb260) (o := .cells #[.float .f64 (un pr253 t252), .float .f64 (un pr255 t254)] 36 (0, 0)) (by (with_reducible repeat (first | refine blk_drewN ?_ _ | refine blk_drew ?_ | refine blk_alloc ?_ _)); exact BK260.out) hb)
           have n1_ := Aside0.mk (blk_below (g := gb261) (o := .cells #[.float .f64 (un pr257 t256), .float .f64 (un pr259 t258)] 36 (0, 0)) (by (with_reducible repeat (first | refine blk_drewN ?_ _ | refine blk_drew ?_ | refine blk_alloc ?_ _)); exact BK261.out) hb)
           have n2_ := Aside0.mk (blk_below (g := gb266) (o := .cells #[.float .f64 (un pr263 t262), .float .f64 (un pr265 t264)] 36 (0, 0)) (by (with_reducible repeat (first | refine blk_drewN ?_ _ | refine blk_drew ?_ | refine blk_alloc ?_ _)); exact BK266.out) hb)
           have n3_ := Aside0.mk (blk_below (g := gb271) (o := .cells #[.float .f64 (un pr268 t267), .float .f64 (un pr270 t269)] 36 (0, 0)) (by (with_reducible repeat (first | refine blk_drewN ?_ _ | refine blk_drew ?_ | refine blk_alloc ?_ _)); exact BK271.out) hb)
           have n4_ := Aside0.mk (blk_below (g := gb276) (o := .cells #[.float .f64 (un pr273 t272), .float .f64 (un pr275 t274)] 36 (0, 0)) (by (with_reducible repeat (first | refine blk_drewN ?_ _ | refine blk_drew ?_ | refine blk_alloc ?_ _)); exact BK276.out) hb)
           have n5_ := Aside0.mk (blk_below (g := gb281) (o := .cells #[.float .f64 (un pr278 t277), .float .f64 (un pr280 t279)] 36 (0, 0)) (by (with_reducible repeat (first | refine blk_drewN ?_ _ | refine blk_drew ?_ | refine blk_alloc ?_ _)); exact BK281.out) hb)
           have n6_ := Aside0.mk (blk_below (g := gb286) (o := .cells #[.float .f64 (un pr283 t282), .float .f64 (un pr285 t284)] 36 (0, 0)) (by (with_reducible repeat (first | refine blk_drewN ?_ _ | refine blk_drew ?_ | refine blk_alloc ?_ _)); exact BK286.out) hb)
           have n7_ := Aside0.mk (blk_below (g := gb291) (o := .cells #[.float .f64 (un pr288 t287), .float .f64 (un pr290 t289)] 36 (0, 0)) (by (with_reducible repeat (first | refine blk_drewN ?_ _ | refine blk_drew ?_ | refine blk_alloc ?_ _)); exact BK291.out) hb)
           have n8_ := Aside0.mk (below_step (by repeat (first | (with_reducible first | exact HB.out | apply below_alloc | apply pw_below_drewN | apply below_drew1 | refine below_set ?_ GE260.out | refine below_set ?_ GE261.out | refine below_set ?_ GE266.out | refine below_set ?_ GE271.out | refine below_set ?_ GE276.out | refine below_set ?_ GE281.out | refine below_set ?_ GE286.out | refine below_set ?_ GE291.out) | exact HB.out)) hb)
           clear BK260
           clear BK261
           clear BK266
           clear BK271
           clear BK276
           clear BK281
           clear BK286
           clear BK291
           clear HB
           have BK260 := n0_
           have BK261 := n1_
           have BK266 := n2_
           have BK271 := n3_
           have BK276 := n4_
           have BK281 := n5_
           have BK286 := n6_
           have BK291 := n7_
           have HB := n8_
           clear n0_ n1_ n2_ n3_ n4_ n5_ n6_ n7_ n8_
           (try clear hb)
           (try clear hb2)
           (try clear hk)
           (try clear hi)
           refine hK.out _ _ ⟨(blk_cell BK266.out 0).trans rfl, (blk_cell BK266.out 1).trans rfl, (blk_cell BK260.out 0).trans rfl, (blk_cell BK260.out 1).trans rfl, (blk_cell BK261.out 0).trans rfl, (blk_cell BK261.out 1).trans rfl⟩ (fun hHeld => ?_)
           clear hK K
           refine norm_ (a' := ?_) ?_ ?_
           rotate_left
           ·show Act.put _ (some 115) _ = _
            simp only [Act.put, sqA, sqZ, sqS, i64_w, i32_w]
            rfl
           refine one_ (i := 7) (N := some 116) #[true, true, true, true, true, true, true, true, false] rfl rfl (one_of HT_.out (by kernel_rfl)) (by decide) (fun K hK => ?_)
           refine goes_ Try.func23 (by kernel_rfl) rfl #[.agg #[.float .f64 (un pr304 t303), .float .f64 (un pr306 t305)], .agg #[.float .f64 (un pr316 t315), .float .f64 (un pr318 t317)]] (by rfl) rfl rfl (by (try simp only [List.map_toArray, List.map_cons, List.map_nil]); first | done | rfl | (simp only [List.length_drop, List.length_take]; rfl)) ?_
           with_reducible refine (laws_equal.calls pr304 t303 pr306 t305 pr316 t315 pr318 t317 t319 _ A315.out).mono ?_
           rintro e w321 ⟨rfl, hb⟩
           refine ⟨_, rfl, ?_⟩
           have n0_ := Aside0.mk (blk_below (g := gb260) (o := .cells #[.float .f64 (un pr253 t252), .float .f64 (un pr255 t254)] 36 (0, 0)) (by (with_reducible repeat (first | refine blk_drewN ?_ _ | refine blk_drew ?_ | refine blk_alloc ?_ _)); exact BK260.out) hb)
           have n1_ := Aside0.mk (blk_below (g := gb261) (o := .cells #[.float .f64 (un pr257 t256), .float .f64 (un pr259 t258)] 36 (0, 0)) (by (with_reducible repeat (first | refine blk_drewN ?_ _ | refine blk_drew ?_ | refine blk_alloc ?_ _)); exact BK261.out) hb)
           have n2_ := Aside0.mk (blk_below (g := gb266) (o := .cells #[.float .f64 (un pr263 t262), .float .f64 (un pr265 t264)] 36 (0, 0)) (by (with_reducible repeat (first | refine blk_drewN ?_ _ | refine blk_drew ?_ | refine blk_alloc ?_ _)); exact BK266.out) hb)
           have n3_ := Aside0.mk (blk_below (g := gb271) (o := .cells #[.float .f64 (un pr268 t267), .float .f64 (un pr270 t269)] 36 (0, 0)) (by (with_reducible repeat (first | refine blk_drewN ?_ _ | refine blk_drew ?_ | refine blk_alloc ?_ _)); exact BK271.out) hb)
           have n4_ := Aside0.mk (blk_below (g := gb276) (o := .cells #[.float .f64 (un pr273 t272), .float .f64 (un pr275 t274)] 36 (0, 0)) (by (with_reducible repeat (first | refine blk_drewN ?_ _ | refine blk_drew ?_ | refine blk_alloc ?_ _)); exact BK276.out) hb)
           have n5_ := Aside0.mk (blk_below (g := gb281) (o := .cells #[.float .f64 (un pr278 t277), .float .f64 (un pr280 t279)] 36 (0, 0)) (by (with_reducible repeat (first | refine blk_drewN ?_ _ | refine blk_drew ?_ | refine blk_alloc ?_ _)); exact BK281.out) hb)
           have n6_ := Aside0.mk (blk_below (g := gb286) (o := .cells #[.float .f64 (un pr283 t282), .float .f64 (un pr285 t284)] 36 (0, 0)) (by (with_reducible repeat (first | refine blk_drewN ?_ _ | refine blk_drew ?_ | refine blk_alloc ?_ _)); exact BK286.out) hb)
           have n7_ := Aside0.mk (blk_below (g := gb291) (o := .cells #[.float .f64 (un pr288 t287), .float .f64 (un pr290 t289)] 36 (0, 0)) (by (with_reducible repeat (first | refine blk_drewN ?_ _ | refine blk_drew ?_ | refine blk_alloc ?_ _)); exact BK291.out) hb)
           have n8_ := Aside0.mk (below_step (by repeat (first | (with_reducible first | exact HB.out | apply below_alloc | apply pw_below_drewN | apply below_drew1 | refine below_set ?_ GE260.out | refine below_set ?_ GE261.out | refine below_set ?_ GE266.out | refine below_set ?_ GE271.out | refine below_set ?_ GE276.out | refine below_set ?_ GE281.out | refine below_set ?_ GE286.out | refine below_set ?_ GE291.out) | exact HB.out)) hb)
           clear BK260
           clear BK261
           clear BK266
           clear BK271
           clear BK276
           clear BK281
           clear BK286
           clear BK291
           clear HB
           have BK260 := n0_
           have BK261 := n1_
           have BK266 := n2_
           have BK271 := n3_
           have BK276 := n4_
           have BK281 := n5_
           have BK286 := n6_
           have BK291 := n7_
           have HB := n8_
           clear n0_ n1_ n2_ n3_ n4_ n5_ n6_ n7_ n8_
           (try clear hb)
           (try clear hb2)
           (try clear hk)
           (try clear hi)
           refine hK.out _ _ ⟨(blk_cell BK266.out 0).trans rfl, (blk_cell BK266.out 1).trans rfl, (blk_cell BK260.out 0).trans rfl, (blk_cell BK260.out 1).trans rfl, (blk_cell BK261.out 0).trans rfl, (blk_cell BK261.out 1).trans rfl⟩ (fun hHeld => ?_)
           clear hK K
           refine norm_ (a' := ?_) ?_ ?_
           rotate_left
           ·show Act.put _ (some 116) _ = _
            simp only [Act.put, sqA, sqZ, sqS, i64_w, i32_w]
            rfl
           refine pure_ (i := 8) (N := some 2) (v := ?_) (a' := ?_) #[true, true, true, true, true, true, true, true, true] rfl rfl (any_of HT_.out (by kernel_rfl)) (fun _ _ _ h => h) (Or.inl ⟨by rfl, ?_⟩) ?_ ?_
           rotate_left
           ·intro w'
            go_simp
            with_reducible rfl
           rotate_left
           ·simp only [Act.put, sqA, sqZ, sqS, i64_w, i32_w]
            rfl
           refine done_ (done_of HT_.out (by kernel_rfl)) ?_
           try go_wp2
           go_ret
           exact ⟨by first | rfl | (simp [errW_none, errW_some] <;> rfl) | (simp [*, errW_none, errW_some] <;> rfl), by repeat (first | (with_reducible first | exact HB.out | apply below_alloc | apply pw_below_drewN | apply below_drew1 | refine below_set ?_ GE260.out | refine below_set ?_ GE261.out | refine below_set ?_ GE266.out | refine below_set ?_ GE271.out | refine below_set ?_ GE276.out | refine below_set ?_ GE281.out | refine below_set ?_ GE286.out | refine below_set ?_ GE291.out) | exact HB.out)⟩

/-- THE ONE PURE STATEMENT of laws_FnPairs: yours. -/
def laws_FnPairs.Pure : Prop := ∀ (l0 : List Int), l0.length ≤ maxLen → l0.length * 1 ≤ 140737488351232 → (∀ x ∈ l0, (Lit.int .u8 x).wf = true) → ∃ k, laws_FnPairs.f k l0 = some true
theorem laws_FnPairs.walk (P : laws_FnPairs.Pure) (a0 : Option Addr) (len0 cap0 : Nat) (z0 : List Int) (w : World) (w0 : (a0 = none ∧ len0 = 0 ∧ cap0 = 0 ∧ z0 = []) ∨ ∃ x, a0 = some x ∧ len0 ≤ cap0 ∧ cap0 ≤ maxLen ∧ z0.length = cap0 ∧ (∀ i, i < z0.length → w.cell? (x.add i) = some (.int .u8 (z0.getD i 0))) ∧ ∀ n ∈ z0, (Lit.int .u8 n).wf = true) (y0 : len0 * 1 ≤ 140737488351232) :
  Calls Try.prog 4 #[.slice a0 len0 cap0] w fun e w' => e = .returned (.bool true) ∧ Below w.heap.size w w' := by
 obtain ⟨l0, rfl, hr0, hm0, hw0, hc0⟩ := ReadsInt.ofRowC w0
 obtain ⟨k, h⟩ := P l0 hm0 y0 hw0
 refine (laws_FnPairs.calls k _ _ l0 true w (Kd.C_of_reads (d := (0 : Int)) (h1 := fun _ => rfl) hr0) hc0 h).mono ?_
 rintro e w' ⟨rfl, hd⟩
 exact ⟨rfl, hd⟩

end Go.Proofs.Ytaophbkedbphnab.Q
