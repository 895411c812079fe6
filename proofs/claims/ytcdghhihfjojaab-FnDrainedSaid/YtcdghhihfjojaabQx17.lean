/- Plain Lean functions with the same answers as the Go functions of this seat, and a proof for each that the Go code comes to just these answers; no condition. Written by a program of this session (the kit's printer, turned). -/
import Derived.Test.YtcdghhihfjojaabQx0
import Derived.Test.YtcdghhihfjojaabQx1
import Derived.Test.YtcdghhihfjojaabQx3
import Derived.Test.YtcdghhihfjojaabQx10
import Derived.Test.YtcdghhihfjojaabQx14
import Derived.Test.YtcdghhihfjojaabQx15
import Derived.Test.YtcdghhihfjojaabQx16
namespace Go.Proofs.Ytcdghhihfjojaab.Q
open Go.RowKit Go.Proofs.YtcdghhihfjojaabW.PrintWords Go.Proofs.YtcdghhihfjojaabW.PrintLast Go.Proofs.YtcdghhihfjojaabW.PrintMore Go.Proofs.YtcdghhihfjojaabW.PrintFlt
attribute [local go_sem] cmp_lss cmp_leq cmp_gtr cmp_geq cmp_eql cmp_neq flt_l flt_r fgt_l fgt_r feq_l feq_r fne_l fne_r ord_lt ord_gt ord_eq ord_ne conv_int conv_flt foi_fold run_store_flt
attribute [local go_sem] max2_int min2_int max_two min_two max_three min_three max_four min_four   -- for this text's walks alone
set_option linter.unusedVariables false
set_option linter.unusedSimpArgs false

/-! ### laws_FnDrained: function 5 -/
mutual
def laws_FnDrained.j0 : Nat → List Int → List Int → Int → Bool → Int → Int → List Int → Option (Bool)
 | 0, _, _, _, _, _, _, _ => none
 | k + 1, x4, x5, x6, x48, x254000, x254001, x254002 => if x48 = true then (some false) else ((impl_Catch.f k x5).bind fun bt261 => (if bt261.2 = true then (laws_FnDrained.j1 k x4 x5 x6 bt261.1 ((bt261.1.length : Int) != x6) x254000 x254001 x254002) else (laws_FnDrained.j1 k x4 x5 x6 bt261.1 true x254000 x254001 x254002)))
def laws_FnDrained.j1 : Nat → List Int → List Int → Int → List Int → Bool → Int → Int → List Int → Option (Bool)
 | 0, _, _, _, _, _, _, _, _ => none
 | k + 1, x4, x5, x6, x7, x61, x254000, x254001, x254002 => if x61 = true then (some false) else (laws_FnDrained.l0 k x4 x5 x6 x7 0 0 x254000 x254001 x254002)
def laws_FnDrained.l0 : Nat → List Int → List Int → Int → List Int → Int → Int → Int → Int → List Int → Option (Bool)
 | 0, _, _, _, _, _, _, _, _, _ => none
 | k + 1, x4, x5, x6, x7, x9, x10, x254000, x254001, x254002 => if x10 < x6 then (if 0 ≤ x10 then (if x10 < (x5.length : Int) then (if (rd x5 x10) < (-1) then (laws_FnDrained.j3 k x4 x5 x6 x7 x9 x10 true x254000 x254001 x254002) else (if (rd x5 x10) ≥ x6 then (laws_FnDrained.j3 k x4 x5 x6 x7 x9 x10 true x254000 x254001 x254002) else (if x10 < (x4.length : Int) then (if x10 < (x254002.length : Int) then (if (rd x4 x10) < (rd x254002 x10) then (laws_FnDrained.j3 k x4 x5 x6 x7 x9 x10 true x254000 x254001 x254002) else (if (rd x5 x10) ≥ 0 then (if 0 ≤ (rd x5 x10) then (if (rd x5 x10) < (x4.length : Int) then (laws_FnDrained.j3 k x4 x5 x6 x7 x9 x10 (decide ((rd x4 (rd x5 x10)) > (rd x4 x10))) x254000 x254001 x254002) else (none)) else (none)) else (laws_FnDrained.j3 k x4 x5 x6 x7 x9 x10 false x254000 x254001 x254002))) else (none)) else (none)))) else (none)) else (none)) else (some (x9 == x6))
def laws_FnDrained.j3 : Nat → List Int → List Int → Int → List Int → Int → Int → Bool → Int → Int → List Int → Option (Bool)
 | 0, _, _, _, _, _, _, _, _, _, _ => none
 | k + 1, x4, x5, x6, x7, x9, x10, x112, x254000, x254001, x254002 => if x112 = true then (some false) else (if 0 ≤ x10 then (if x10 < (x5.length : Int) then (if (rd x5 x10) = (-1) then (if x10 < (x7.length : Int) then (if x254001 = 0 then (none) else (if (wrap64 (Int.tdiv x10 x254001)) > 0 then (if (wrap64 (Int.tdiv x10 x254001)) < (wrap64 (x254000 - 1)) then (if (Int.tmod x10 x254001) > 0 then (laws_FnDrained.j4 k x4 x5 x6 x7 (wrap64 (x9 + (rd x7 x10))) x10 (decide ((Int.tmod x10 x254001) < (wrap64 (x254001 - 1)))) x254000 x254001 x254002) else (laws_FnDrained.j4 k x4 x5 x6 x7 (wrap64 (x9 + (rd x7 x10))) x10 false x254000 x254001 x254002)) else (laws_FnDrained.j4 k x4 x5 x6 x7 (wrap64 (x9 + (rd x7 x10))) x10 false x254000 x254001 x254002)) else (laws_FnDrained.j4 k x4 x5 x6 x7 (wrap64 (x9 + (rd x7 x10))) x10 false x254000 x254001 x254002))) else (none)) else ((impl_OutletOf.f k x5 x10).bind fun t277 => (if t277 < 0 then (some false) else (if t277 ≥ x6 then (some false) else (if 0 ≤ t277 then (if t277 < (x5.length : Int) then (if (rd x5 t277) = (-1) then (laws_FnDrained.l0 k x4 x5 x6 x7 x9 (wrap64 (x10 + 1)) x254000 x254001 x254002) else (some false)) else (none)) else (none)))))) else (none)) else (none))
def laws_FnDrained.j4 : Nat → List Int → List Int → Int → List Int → Int → Int → Bool → Int → Int → List Int → Option (Bool)
 | 0, _, _, _, _, _, _, _, _, _, _ => none
 | k + 1, x4, x5, x6, x7, x9, x10, x151, x254000, x254001, x254002 => if x151 = true then (some false) else ((impl_OutletOf.f k x5 x10).bind fun t275 => (if t275 < 0 then (some false) else (if t275 ≥ x6 then (some false) else (if 0 ≤ t275 then (if t275 < (x5.length : Int) then (if (rd x5 t275) = (-1) then (laws_FnDrained.l0 k x4 x5 x6 x7 x9 (wrap64 (x10 + 1)) x254000 x254001 x254002) else (some false)) else (none)) else (none)))))
end
def laws_FnDrained.f (k : Nat) (l0 : List Int) : Option (Bool) := (laws_big.f l0).bind fun t247 => (if t247 = true then (some true) else ((spec_DrawDrain.f k l0).bind fun bt248 => ((impl_Drain.f k bt248.1 bt248.2.1 bt248.2.2).bind fun bt254 => ((spec_BoxOk.f k bt248.1 bt248.2.1 bt248.2.2).bind fun t260 => (if t260 = true then (if (bt254.1.length : Int) = (wrap64 (bt248.1 * bt248.2.1)) then (laws_FnDrained.j0 k bt254.1 bt254.2 (wrap64 (bt248.1 * bt248.2.1)) ((bt254.2.length : Int) != (wrap64 (bt248.1 * bt248.2.1))) bt248.1 bt248.2.1 bt248.2.2) else (laws_FnDrained.j0 k bt254.1 bt254.2 (wrap64 (bt248.1 * bt248.2.1)) true bt248.1 bt248.2.1 bt248.2.2)) else (if (bt254.1.length : Int) = 0 then (some ((bt254.2.length : Int) == 0)) else (some false)))))))
theorem laws_FnDrained.mono_l : ∀ k, (∀ y0 y1 y2 y3 y4 y5 y6, LeO (laws_FnDrained.j0 k y0 y1 y2 y3 y4 y5 y6) (laws_FnDrained.j0 (k + 1) y0 y1 y2 y3 y4 y5 y6)) ∧ (∀ y0 y1 y2 y3 y4 y5 y6 y7, LeO (laws_FnDrained.j1 k y0 y1 y2 y3 y4 y5 y6 y7) (laws_FnDrained.j1 (k + 1) y0 y1 y2 y3 y4 y5 y6 y7)) ∧ (∀ y0 y1 y2 y3 y4 y5 y6 y7 y8, LeO (laws_FnDrained.l0 k y0 y1 y2 y3 y4 y5 y6 y7 y8) (laws_FnDrained.l0 (k + 1) y0 y1 y2 y3 y4 y5 y6 y7 y8)) ∧ (∀ y0 y1 y2 y3 y4 y5 y6 y7 y8 y9, LeO (laws_FnDrained.j3 k y0 y1 y2 y3 y4 y5 y6 y7 y8 y9) (laws_FnDrained.j3 (k + 1) y0 y1 y2 y3 y4 y5 y6 y7 y8 y9)) ∧ (∀ y0 y1 y2 y3 y4 y5 y6 y7 y8 y9, LeO (laws_FnDrained.j4 k y0 y1 y2 y3 y4 y5 y6 y7 y8 y9) (laws_FnDrained.j4 (k + 1) y0 y1 y2 y3 y4 y5 y6 y7 y8 y9))
 | 0 => ⟨fun _ _ _ _ _ _ _ r h => by simp [laws_FnDrained.j0] at h, fun _ _ _ _ _ _ _ _ r h => by simp [laws_FnDrained.j1] at h, fun _ _ _ _ _ _ _ _ _ r h => by simp [laws_FnDrained.l0] at h, fun _ _ _ _ _ _ _ _ _ _ r h => by simp [laws_FnDrained.j3] at h, fun _ _ _ _ _ _ _ _ _ _ r h => by simp [laws_FnDrained.j4] at h⟩
 | k + 1 => by
  obtain ⟨ih0, ih1, ih2, ih3, ih4⟩ := laws_FnDrained.mono_l k
  refine ⟨?_, ?_, ?_, ?_, ?_⟩
  ·intro y0 y1 y2 y3 y4 y5 y6
   unfold laws_FnDrained.j0
   repeat' first
   | (with_reducible exact ih0 _ _ _ _ _ _ _)
   | (with_reducible exact ih1 _ _ _ _ _ _ _ _)
   | (with_reducible exact ih2 _ _ _ _ _ _ _ _ _)
   | (with_reducible exact ih3 _ _ _ _ _ _ _ _ _ _)
   | (with_reducible exact ih4 _ _ _ _ _ _ _ _ _ _)
   | (with_reducible exact impl_Catch.mono _ _)
   | (with_reducible exact impl_Drain.mono _ _ _ _)
   | (with_reducible exact impl_OutletOf.mono _ _ _)
   | (with_reducible exact spec_BoxOk.mono _ _ _ _)
   | (with_reducible exact spec_DrawDrain.mono _ _)
   | (with_reducible exact LeO.refl _)
   | (with_reducible exact LeO.none _)
   | (with_reducible refine LeO.ite ?_ ?_)
   | (with_reducible refine LeO.bind ?_ (fun _ => ?_))
   | exact ih0 _ _ _ _ _ _ _
   | exact ih1 _ _ _ _ _ _ _ _
   | exact ih2 _ _ _ _ _ _ _ _ _
   | exact ih3 _ _ _ _ _ _ _ _ _ _
   | exact ih4 _ _ _ _ _ _ _ _ _ _
   | exact impl_Catch.mono _ _
   | exact impl_Drain.mono _ _ _ _
   | exact impl_OutletOf.mono _ _ _
   | exact spec_BoxOk.mono _ _ _ _
   | exact spec_DrawDrain.mono _ _
   | exact LeO.none _
   | refine LeO.ite ?_ ?_
   | refine LeO.bind ?_ (fun _ => ?_)
  ·intro y0 y1 y2 y3 y4 y5 y6 y7
   unfold laws_FnDrained.j1
   repeat' first
   | (with_reducible exact ih0 _ _ _ _ _ _ _)
   | (with_reducible exact ih1 _ _ _ _ _ _ _ _)
   | (with_reducible exact ih2 _ _ _ _ _ _ _ _ _)
   | (with_reducible exact ih3 _ _ _ _ _ _ _ _ _ _)
   | (with_reducible exact ih4 _ _ _ _ _ _ _ _ _ _)
   | (with_reducible exact impl_Catch.mono _ _)
   | (with_reducible exact impl_Drain.mono _ _ _ _)
   | (with_reducible exact impl_OutletOf.mono _ _ _)
   | (with_reducible exact spec_BoxOk.mono _ _ _ _)
   | (with_reducible exact spec_DrawDrain.mono _ _)
   | (with_reducible exact LeO.refl _)
   | (with_reducible exact LeO.none _)
   | (with_reducible refine LeO.ite ?_ ?_)
   | (with_reducible refine LeO.bind ?_ (fun _ => ?_))
   | exact ih0 _ _ _ _ _ _ _
   | exact ih1 _ _ _ _ _ _ _ _
   | exact ih2 _ _ _ _ _ _ _ _ _
   | exact ih3 _ _ _ _ _ _ _ _ _ _
   | exact ih4 _ _ _ _ _ _ _ _ _ _
   | exact impl_Catch.mono _ _
   | exact impl_Drain.mono _ _ _ _
   | exact impl_OutletOf.mono _ _ _
   | exact spec_BoxOk.mono _ _ _ _
   | exact spec_DrawDrain.mono _ _
   | exact LeO.none _
   | refine LeO.ite ?_ ?_
   | refine LeO.bind ?_ (fun _ => ?_)
  ·intro y0 y1 y2 y3 y4 y5 y6 y7 y8
   unfold laws_FnDrained.l0
   repeat' first
   | (with_reducible exact ih0 _ _ _ _ _ _ _)
   | (with_reducible exact ih1 _ _ _ _ _ _ _ _)
   | (with_reducible exact ih2 _ _ _ _ _ _ _ _ _)
   | (with_reducible exact ih3 _ _ _ _ _ _ _ _ _ _)
   | (with_reducible exact ih4 _ _ _ _ _ _ _ _ _ _)
   | (with_reducible exact impl_Catch.mono _ _)
   | (with_reducible exact impl_Drain.mono _ _ _ _)
   | (with_reducible exact impl_OutletOf.mono _ _ _)
   | (with_reducible exact spec_BoxOk.mono _ _ _ _)
   | (with_reducible exact spec_DrawDrain.mono _ _)
   | (with_reducible exact LeO.refl _)
   | (with_reducible exact LeO.none _)
   | (with_reducible refine LeO.ite ?_ ?_)
   | (with_reducible refine LeO.bind ?_ (fun _ => ?_))
   | exact ih0 _ _ _ _ _ _ _
   | exact ih1 _ _ _ _ _ _ _ _
   | exact ih2 _ _ _ _ _ _ _ _ _
   | exact ih3 _ _ _ _ _ _ _ _ _ _
   | exact ih4 _ _ _ _ _ _ _ _ _ _
   | exact impl_Catch.mono _ _
   | exact impl_Drain.mono _ _ _ _
   | exact impl_OutletOf.mono _ _ _
   | exact spec_BoxOk.mono _ _ _ _
   | exact spec_DrawDrain.mono _ _
   | exact LeO.none _
   | refine LeO.ite ?_ ?_
   | refine LeO.bind ?_ (fun _ => ?_)
  ·intro y0 y1 y2 y3 y4 y5 y6 y7 y8 y9
   unfold laws_FnDrained.j3
   repeat' first
   | (with_reducible exact ih0 _ _ _ _ _ _ _)
   | (with_reducible exact ih1 _ _ _ _ _ _ _ _)
   | (with_reducible exact ih2 _ _ _ _ _ _ _ _ _)
   | (with_reducible exact ih3 _ _ _ _ _ _ _ _ _ _)
   | (with_reducible exact ih4 _ _ _ _ _ _ _ _ _ _)
   | (with_reducible exact impl_Catch.mono _ _)
   | (with_reducible exact impl_Drain.mono _ _ _ _)
   | (with_reducible exact impl_OutletOf.mono _ _ _)
   | (with_reducible exact spec_BoxOk.mono _ _ _ _)
   | (with_reducible exact spec_DrawDrain.mono _ _)
   | (with_reducible exact LeO.refl _)
   | (with_reducible exact LeO.none _)
   | (with_reducible refine LeO.ite ?_ ?_)
   | (with_reducible refine LeO.bind ?_ (fun _ => ?_))
   | exact ih0 _ _ _ _ _ _ _
   | exact ih1 _ _ _ _ _ _ _ _
   | exact ih2 _ _ _ _ _ _ _ _ _
   | exact ih3 _ _ _ _ _ _ _ _ _ _
   | exact ih4 _ _ _ _ _ _ _ _ _ _
   | exact impl_Catch.mono _ _
   | exact impl_Drain.mono _ _ _ _
   | exact impl_OutletOf.mono _ _ _
   | exact spec_BoxOk.mono _ _ _ _
   | exact spec_DrawDrain.mono _ _
   | exact LeO.none _
   | refine LeO.ite ?_ ?_
   | refine LeO.bind ?_ (fun _ => ?_)
  ·intro y0 y1 y2 y3 y4 y5 y6 y7 y8 y9
   unfold laws_FnDrained.j4
   repeat' first
   | (with_reducible exact ih0 _ _ _ _ _ _ _)
   | (with_reducible exact ih1 _ _ _ _ _ _ _ _)
   | (with_reducible exact ih2 _ _ _ _ _ _ _ _ _)
   | (with_reducible exact ih3 _ _ _ _ _ _ _ _ _ _)
   | (with_reducible exact ih4 _ _ _ _ _ _ _ _ _ _)
   | (with_reducible exact impl_Catch.mono _ _)
   | (with_reducible exact impl_Drain.mono _ _ _ _)
   | (with_reducible exact impl_OutletOf.mono _ _ _)
   | (with_reducible exact spec_BoxOk.mono _ _ _ _)
   | (with_reducible exact spec_DrawDrain.mono _ _)
   | (with_reducible exact LeO.refl _)
   | (with_reducible exact LeO.none _)
   | (with_reducible refine LeO.ite ?_ ?_)
   | (with_reducible refine LeO.bind ?_ (fun _ => ?_))
   | exact ih0 _ _ _ _ _ _ _
   | exact ih1 _ _ _ _ _ _ _ _
   | exact ih2 _ _ _ _ _ _ _ _ _
   | exact ih3 _ _ _ _ _ _ _ _ _ _
   | exact ih4 _ _ _ _ _ _ _ _ _ _
   | exact impl_Catch.mono _ _
   | exact impl_Drain.mono _ _ _ _
   | exact impl_OutletOf.mono _ _ _
   | exact spec_BoxOk.mono _ _ _ _
   | exact spec_DrawDrain.mono _ _
   | exact LeO.none _
   | refine LeO.ite ?_ ?_
   | refine LeO.bind ?_ (fun _ => ?_)
theorem laws_FnDrained.mono : ∀ a0 k, LeO (laws_FnDrained.f k a0) (laws_FnDrained.f (k + 1) a0) := by
 intro a0 k
 obtain ⟨ih0, ih1, ih2, ih3, ih4⟩ := laws_FnDrained.mono_l k
 unfold laws_FnDrained.f
 repeat' first
   | (with_reducible exact ih0 _ _ _ _ _ _ _)
   | (with_reducible exact ih1 _ _ _ _ _ _ _ _)
   | (with_reducible exact ih2 _ _ _ _ _ _ _ _ _)
   | (with_reducible exact ih3 _ _ _ _ _ _ _ _ _ _)
   | (with_reducible exact ih4 _ _ _ _ _ _ _ _ _ _)
   | (with_reducible exact impl_Catch.mono _ _)
   | (with_reducible exact impl_Drain.mono _ _ _ _)
   | (with_reducible exact impl_OutletOf.mono _ _ _)
   | (with_reducible exact spec_BoxOk.mono _ _ _ _)
   | (with_reducible exact spec_DrawDrain.mono _ _)
   | (with_reducible exact LeO.refl _)
   | (with_reducible exact LeO.none _)
   | (with_reducible refine LeO.ite ?_ ?_)
   | (with_reducible refine LeO.bind ?_ (fun _ => ?_))
   | exact ih0 _ _ _ _ _ _ _
   | exact ih1 _ _ _ _ _ _ _ _
   | exact ih2 _ _ _ _ _ _ _ _ _
   | exact ih3 _ _ _ _ _ _ _ _ _ _
   | exact ih4 _ _ _ _ _ _ _ _ _ _
   | exact impl_Catch.mono _ _
   | exact impl_Drain.mono _ _ _ _
   | exact impl_OutletOf.mono _ _ _
   | exact spec_BoxOk.mono _ _ _ _
   | exact spec_DrawDrain.mono _ _
   | exact LeO.none _
   | refine LeO.ite ?_ ?_
   | refine LeO.bind ?_ (fun _ => ?_)
set_option maxHeartbeats 8000000 in
set_option maxRecDepth 100000 in
theorem laws_FnDrained.calls (k : Nat) (A0 : Option Addr) (c0 : Nat) (l0 : List Int) (r : Bool) (w : World) (hr0 : Kd.C (Kd.int .u8) w A0 l0.length l0) (hc0 : l0.length ≤ c0) (h : laws_FnDrained.f k l0 = some r) :
  Calls Try.prog 5 #[.slice A0 l0.length c0] w fun e w' => e = .returned (.bool r) ∧ Below w.heap.size w w' := by
 have hu27 := Try.underlying27
 have HR0 := Aside0.mk hr0
 have HC0 := Aside0.mk hc0
 clear hr0 hc0
 have HB := Aside0.mk (Below.refl w.heap.size w)
 have H : ((laws_big.f l0).bind fun t247 => (if t247 = true then (some true) else ((spec_DrawDrain.f k l0).bind fun bt248 => ((impl_Drain.f k bt248.1 bt248.2.1 bt248.2.2).bind fun bt254 => ((spec_BoxOk.f k bt248.1 bt248.2.1 bt248.2.2).bind fun t260 => (if t260 = true then (if (bt254.1.length : Int) = (wrap64 (bt248.1 * bt248.2.1)) then (laws_FnDrained.j0 k bt254.1 bt254.2 (wrap64 (bt248.1 * bt248.2.1)) ((bt254.2.length : Int) != (wrap64 (bt248.1 * bt248.2.1))) bt248.1 bt248.2.1 bt248.2.2) else (laws_FnDrained.j0 k bt254.1 bt254.2 (wrap64 (bt248.1 * bt248.2.1)) true bt248.1 bt248.2.1 bt248.2.2)) else (if (bt254.1.length : Int) = 0 then (some ((bt254.2.length : Int) == 0)) else (some false)))))))) = some r := h
 clear h
 replace H := Option.bind_eq_some_iff.mp H
 obtain ⟨t247, A20, H⟩ := H
 replace H : (if t247 = true then (some true) else ((spec_DrawDrain.f k l0).bind fun bt248 => ((impl_Drain.f k bt248.1 bt248.2.1 bt248.2.2).bind fun bt254 => ((spec_BoxOk.f k bt248.1 bt248.2.1 bt248.2.2).bind fun t260 => (if t260 = true then (if (bt254.1.length : Int) = (wrap64 (bt248.1 * bt248.2.1)) then (laws_FnDrained.j0 k bt254.1 bt254.2 (wrap64 (bt248.1 * bt248.2.1)) ((bt254.2.length : Int) != (wrap64 (bt248.1 * bt248.2.1))) bt248.1 bt248.2.1 bt248.2.2) else (laws_FnDrained.j0 k bt254.1 bt254.2 (wrap64 (bt248.1 * bt248.2.1)) true bt248.1 bt248.2.1 bt248.2.2)) else (if (bt254.1.length : Int) = 0 then (some ((bt254.2.length : Int) == 0)) else (some false))))))) = some r := H
 have A2 := Aside0.mk A20
 clear A20
 by_cases c3 : t247 = true
 ·subst c3
  have H1 : (some true) = some r := by rw [if_pos rfl] at H; exact H
  clear H
  have H := H1
  clear H1
  obtain rfl := Option.some.inj H
  go_enter Try.func5, Try.ntmps5
  go_wp2_with (first | (go_at_call 16; (with_reducible refine (laws_big.calls _ _ l0 true _ ?side1 ?side2 A2.out).mono ?_); (case side1 => repeat (first | exact HR0.out | (with_reducible refine Kd.C_alloc ?_ _) | (with_reducible refine Kd.C_drewN ?_ _) | (with_reducible refine Kd.C_drew ?_))); (case side2 => exact HC0.out); rintro e w' ⟨rfl, ⟨nd, rfl⟩⟩; (try first | exact ⟨rfl, _, World.drewN_drewN _ _ _⟩ | exact ⟨rfl, _, Eq.trans (World.drewN_drewN _ _ _) (congrArg (World.drewN _) (Nat.add_assoc _ _ _))⟩)))
  repeat (go_quiet (first | (go_at_call 16; (with_reducible refine (laws_big.calls _ _ l0 true _ ?side1 ?side2 A2.out).mono ?_); (case side1 => repeat (first | exact HR0.out | (with_reducible refine Kd.C_alloc ?_ _) | (with_reducible refine Kd.C_drewN ?_ _) | (with_reducible refine Kd.C_drew ?_))); (case side2 => exact HC0.out); rintro e w' ⟨rfl, ⟨nd, rfl⟩⟩; (try first | exact ⟨rfl, _, World.drewN_drewN _ _ _⟩ | exact ⟨rfl, _, Eq.trans (World.drewN_drewN _ _ _) (congrArg (World.drewN _) (Nat.add_assoc _ _ _))⟩))); try go_wp2_with (first | (go_at_call 16; (with_reducible refine (laws_big.calls _ _ l0 true _ ?side1 ?side2 A2.out).mono ?_); (case side1 => repeat (first | exact HR0.out | (with_reducible refine Kd.C_alloc ?_ _) | (with_reducible refine Kd.C_drewN ?_ _) | (with_reducible refine Kd.C_drew ?_))); (case side2 => exact HC0.out); rintro e w' ⟨rfl, ⟨nd, rfl⟩⟩; (try first | exact ⟨rfl, _, World.drewN_drewN _ _ _⟩ | exact ⟨rfl, _, Eq.trans (World.drewN_drewN _ _ _) (congrArg (World.drewN _) (Nat.add_assoc _ _ _))⟩))))
  go_ret
  exact ⟨by first | rfl | (simp [errW_none, errW_some] <;> rfl) | (simp [*, errW_none, errW_some] <;> rfl), by repeat (first | (with_reducible first | exact HB.out | apply wA | apply wN | apply wD) | exact HB.out)⟩
 ·replace c3 := Bool.eq_false_iff.mpr c3
  subst c3
  have H1 : ((spec_DrawDrain.f k l0).bind fun bt248 => ((impl_Drain.f k bt248.1 bt248.2.1 bt248.2.2).bind fun bt254 => ((spec_BoxOk.f k bt248.1 bt248.2.1 bt248.2.2).bind fun t260 => (if t260 = true then (if (bt254.1.length : Int) = (wrap64 (bt248.1 * bt248.2.1)) then (laws_FnDrained.j0 k bt254.1 bt254.2 (wrap64 (bt248.1 * bt248.2.1)) ((bt254.2.length : Int) != (wrap64 (bt248.1 * bt248.2.1))) bt248.1 bt248.2.1 bt248.2.2) else (laws_FnDrained.j0 k bt254.1 bt254.2 (wrap64 (bt248.1 * bt248.2.1)) true bt248.1 bt248.2.1 bt248.2.2)) else (if (bt254.1.length : Int) = 0 then (some ((bt254.2.length : Int) == 0)) else (some false)))))) = some r := by rw [if_neg (show ¬ (false = true) by decide)] at H; exact H
  clear H
  have H := H1
  clear H1
  replace H := Option.bind_eq_some_iff.mp H
  obtain ⟨⟨t248, t249, t250⟩, A40, H⟩ := H
  replace H : ((impl_Drain.f k t248 t249 t250).bind fun bt254 => ((spec_BoxOk.f k t248 t249 t250).bind fun t260 => (if t260 = true then (if (bt254.1.length : Int) = (wrap64 (t248 * t249)) then (laws_FnDrained.j0 k bt254.1 bt254.2 (wrap64 (t248 * t249)) ((bt254.2.length : Int) != (wrap64 (t248 * t249))) t248 t249 t250) else (laws_FnDrained.j0 k bt254.1 bt254.2 (wrap64 (t248 * t249)) true t248 t249 t250)) else (if (bt254.1.length : Int) = 0 then (some ((bt254.2.length : Int) == 0)) else (some false))))) = some r := H
  have A4 := Aside0.mk A40
  clear A40
  replace H := Option.bind_eq_some_iff.mp H
  obtain ⟨⟨t254, t257⟩, A50, H⟩ := H
  replace H : ((spec_BoxOk.f k t248 t249 t250).bind fun t260 => (if t260 = true then (if (t254.length : Int) = (wrap64 (t248 * t249)) then (laws_FnDrained.j0 k t254 t257 (wrap64 (t248 * t249)) ((t257.length : Int) != (wrap64 (t248 * t249))) t248 t249 t250) else (laws_FnDrained.j0 k t254 t257 (wrap64 (t248 * t249)) true t248 t249 t250)) else (if (t254.length : Int) = 0 then (some ((t257.length : Int) == 0)) else (some false)))) = some r := H
  have A5 := Aside0.mk A50
  clear A50
  replace H := Option.bind_eq_some_iff.mp H
  obtain ⟨t260, A60, H⟩ := H
  replace H : (if t260 = true then (if (t254.length : Int) = (wrap64 (t248 * t249)) then (laws_FnDrained.j0 k t254 t257 (wrap64 (t248 * t249)) ((t257.length : Int) != (wrap64 (t248 * t249))) t248 t249 t250) else (laws_FnDrained.j0 k t254 t257 (wrap64 (t248 * t249)) true t248 t249 t250)) else (if (t254.length : Int) = 0 then (some ((t257.length : Int) == 0)) else (some false))) = some r := H
  have A6 := Aside0.mk A60
  clear A60
  by_cases c7 : t260 = true
  ·subst c7
   have H1 : (if (t254.length : Int) = (wrap64 (t248 * t249)) then (laws_FnDrained.j0 k t254 t257 (wrap64 (t248 * t249)) ((t257.length : Int) != (wrap64 (t248 * t249))) t248 t249 t250) else (laws_FnDrained.j0 k t254 t257 (wrap64 (t248 * t249)) true t248 t249 t250)) = some r := by rw [if_pos rfl] at H; exact H
   clear H
   have H := H1
   clear H1
   have HC8 := Aside0.mk H
   clear H
   go_enter Try.func5, Try.ntmps5
   go_upto_region 8 with (first | (go_at_call 16; (with_reducible refine (laws_big.calls _ _ l0 false _ ?side1 ?side2 A2.out).mono ?_); (case side1 => repeat (first | exact HR0.out | (with_reducible refine Kd.C_alloc ?_ _) | (with_reducible refine Kd.C_drewN ?_ _) | (with_reducible refine Kd.C_drew ?_))); (case side2 => exact HC0.out); rintro e w' ⟨rfl, ⟨nd, rfl⟩⟩; (try first | exact ⟨rfl, _, World.drewN_drewN _ _ _⟩ | exact ⟨rfl, _, Eq.trans (World.drewN_drewN _ _ _) (congrArg (World.drewN _) (Nat.add_assoc _ _ _))⟩)) | (go_at_call 20; (with_reducible refine (spec_DrawDrain.calls k _ _ l0 t248 t249 t250 _ ?side1 ?side2 A4.out).mono ?_); (case side1 => repeat (first | exact HR0.out | (with_reducible refine Kd.C_alloc ?_ _) | (with_reducible refine Kd.C_drewN ?_ _) | (with_reducible refine Kd.C_drew ?_))); (case side2 => exact HC0.out); rintro e w9 ⟨v251, rfl, ho0, hb⟩; have n0_ := Aside0.mk (Kd.Q_lower ho0 (below_size (by repeat (first | (with_reducible first | exact HB.out | apply wA | apply wN | apply wD) | exact HB.out)))); have n1_ := Aside0.mk (below_step (by repeat (first | (with_reducible first | exact HB.out | apply wA | apply wN | apply wD) | exact HB.out)) hb); clear HB; have HO252 := n0_; have HB := n1_; clear n0_ n1_; (try clear hb); (try clear hb2); (try clear hk); (try clear hi); (try clear ho0)) | ((with_reducible refine gate_dst (N := 3) rfl ?_); (try (refine gate_guard (by rfl) ?_; dsimp only)); refine box_event ?hg (N := 3) ?hd (cs := #[.int .i64 0, .int .i64 0, .slice none 0 0]) (t := 27) ?hr ?_; (case hd => rfl); (case hg => rfl); (case hr => first | (go_simp; done) | (go_simp; rfl)); intro gb253 hg w10 hbox hb; have n0_ := Aside0.mk (Kd.Q_below (by (with_reducible repeat (first | apply Kd.Q_alloc | apply Kd.Q_drewN | apply Kd.Q_drew)); exact HO252.out) hb); have n1_ := Aside0.mk (below_step (by repeat (first | (with_reducible first | exact HB.out | apply wA | apply wN | apply wD) | exact HB.out)) hb); have n2_ := Aside0.mk (hbox); have n3_ := Aside0.mk ((by rw [hg]; exact (below_size (by repeat (first | (with_reducible first | exact HB.out | apply wA | apply wN | apply wD) | exact HB.out))) : w.heap.size ≤ gb253)); have n4_ := Aside0.mk ((by rw [hg]; exact (below_size (by repeat (first | (with_reducible first | exact HB.out | apply wA | apply wN | apply wD) | exact HB.out))) : w.heap.size ≤ gb253)); clear HO252; clear HB; have HO252 := n0_; have HB := n1_; have BK253 := n2_; have GW253 := n3_; have GE253 := n4_; clear n0_ n1_ n2_ n3_ n4_; clear hb hbox hg; have hcz11_0 : w10.cell? ⟨gb253, 0, none⟩ = some (.int .i64 0) := bC BK253.out 0 rfl; have hcz11_1 : w10.cell? ⟨gb253, 1, none⟩ = some (.int .i64 0) := bC BK253.out 1 rfl; have hcz11_2 : w10.cell? ⟨gb253, 2, none⟩ = some (.slice none 0 0) := bC BK253.out 2 rfl; have hfz11_0 := blk_frozen BK253.out 0; have hfz11_1 := blk_frozen BK253.out 1; have hfz11_2 := blk_frozen BK253.out 2; obtain ⟨Ao12, co12, eo12, _⟩ := Kd.Q_slice HO252.out; subst eo12) | (go_at_call 21; (with_reducible refine (impl_Drain.calls k t248 t249 _ _ t250 t254 t257 _ ?side1 ?side2 A5.out).mono ?_); (case side1 => refine (Kd.Q_reads' (e := 2) (base := w.heap.size) (ok := fun k_ => True) (n := t250.length) (c := co12) ?_).2.2; exact (by (with_reducible repeat (first | apply Kd.Q_alloc | apply Kd.Q_drewN | apply Kd.Q_drew)); exact (Kd.Q_mono (Kd.Q_far (p := ⟨gb253, 2, none⟩) (Kd.Q_far (p := ⟨gb253, 1, none⟩) (Kd.Q_far (p := ⟨gb253, 0, none⟩) (Kd.Q_types HO252.out BK253.out (by decide)) (fun _ hk => hk.2) (.int .i64 t248)) (fun _ hk => hk.2) (.int .i64 t249)) (fun _ hk => hk.2) (.slice Ao12 t250.length co12)) (fun _ h_ => h_.1)))); (case side2 => exact (Kd.Q_reads' HO252.out).2.1); rintro e w13 ⟨v255, v258, rfl, ho0, ho1, hb⟩; have n0_ := Aside0.mk (Kd.Q_mono (Kd.Q_told (Kd.Q_told (Kd.Q_old (by (with_reducible repeat (first | apply Kd.Q_alloc | apply Kd.Q_drewN | apply Kd.Q_drew)); exact (Kd.Q_mono (Kd.Q_far (p := ⟨gb253, 2, none⟩) (Kd.Q_far (p := ⟨gb253, 1, none⟩) (Kd.Q_far (p := ⟨gb253, 0, none⟩) (Kd.Q_types HO252.out BK253.out (by decide)) (fun _ hk => hk.2) (.int .i64 t248)) (fun _ hk => hk.2) (.int .i64 t249)) (fun _ hk => hk.2) (.slice Ao12 t250.length co12)) (fun _ h_ => h_.1))) hb) (Kd.R_base ho0)) (Kd.R_base ho1)) (fun _ h_ => h_.1)); have n1_ := Aside0.mk (Kd.R_lower (Kd.R_new' ho0 (Kd.Q_lt (by (with_reducible repeat (first | apply Kd.Q_alloc | apply Kd.Q_drewN | apply Kd.Q_drew)); exact (Kd.Q_mono (Kd.Q_far (p := ⟨gb253, 2, none⟩) (Kd.Q_far (p := ⟨gb253, 1, none⟩) (Kd.Q_far (p := ⟨gb253, 0, none⟩) (Kd.Q_types HO252.out BK253.out (by decide)) (fun _ hk => hk.2) (.int .i64 t248)) (fun _ hk => hk.2) (.int .i64 t249)) (fun _ hk => hk.2) (.slice Ao12 t250.length co12)) (fun _ h_ => h_.1))))) (below_size (by repeat (first | (with_reducible first | exact HB.out | apply wA | apply wN | apply wD | refine bS ?_ GE253.out) | exact HB.out)))); have n2_ := Aside0.mk (Kd.R_lower (Kd.R_new' ho1 (Kd.Q_lt (by (with_reducible repeat (first | apply Kd.Q_alloc | apply Kd.Q_drewN | apply Kd.Q_drew)); exact (Kd.Q_mono (Kd.Q_far (p := ⟨gb253, 2, none⟩) (Kd.Q_far (p := ⟨gb253, 1, none⟩) (Kd.Q_far (p := ⟨gb253, 0, none⟩) (Kd.Q_types HO252.out BK253.out (by decide)) (fun _ hk => hk.2) (.int .i64 t248)) (fun _ hk => hk.2) (.int .i64 t249)) (fun _ hk => hk.2) (.slice Ao12 t250.length co12)) (fun _ h_ => h_.1))))) (below_size (by repeat (first | (with_reducible first | exact HB.out | apply wA | apply wN | apply wD | refine bS ?_ GE253.out) | exact HB.out)))); have n3_ := Aside0.mk (blk_below (g := gb253) (o := .cells #[.int .i64 t248, .int .i64 t249, .slice Ao12 t250.length co12] 27 (0, 0)) (by (with_reducible repeat (first | refine bN ?_ _ | refine bD ?_ | refine bA ?_ _)); refine blk_put (cs := #[.int .i64 t248, .int .i64 t249, .slice none 0 0]) ?_ 2 _ rfl; (with_reducible repeat (first | refine bN ?_ _ | refine bD ?_ | refine bA ?_ _)); refine blk_put (cs := #[.int .i64 t248, .int .i64 0, .slice none 0 0]) ?_ 1 _ rfl; (with_reducible repeat (first | refine bN ?_ _ | refine bD ?_ | refine bA ?_ _)); refine blk_put (cs := #[.int .i64 0, .int .i64 0, .slice none 0 0]) ?_ 0 _ rfl; (with_reducible repeat (first | refine bN ?_ _ | refine bD ?_ | refine bA ?_ _)); exact BK253.out) hb); have n4_ := Aside0.mk (below_step (by repeat (first | (with_reducible first | exact HB.out | apply wA | apply wN | apply wD | refine bS ?_ GE253.out) | exact HB.out)) hb); clear HO252; clear BK253; clear HB; have HO252 := n0_; have HO256 := n1_; have HO259 := n2_; have BK253 := n3_; have HB := n4_; clear n0_ n1_ n2_ n3_ n4_; (try clear hb); (try clear hb2); (try clear hk); (try clear hi); (try clear ho0); (try clear ho1); have hcz14_0 : w13.cell? ⟨gb253, 0, none⟩ = some (.int .i64 t248) := bC BK253.out 0 rfl; have hcz14_1 : w13.cell? ⟨gb253, 1, none⟩ = some (.int .i64 t249) := bC BK253.out 1 rfl; have hcz14_2 : w13.cell? ⟨gb253, 2, none⟩ = some (.slice Ao12 t250.length co12) := bC BK253.out 2 rfl; have hfz14_0 := blk_frozen BK253.out 0; have hfz14_1 := blk_frozen BK253.out 1; have hfz14_2 := blk_frozen BK253.out 2) | (go_at_call 18; (with_reducible refine (spec_BoxOk.calls k t248 t249 _ _ t250 true _ ?side1 ?side2 A6.out).mono ?_); (case side1 => repeat (first | exact (Kd.Q_reads' HO252.out).2.2 | (with_reducible refine Kd.C_alloc ?_ _) | (with_reducible refine Kd.C_drewN ?_ _) | (with_reducible refine Kd.C_drew ?_))); (case side2 => exact (Kd.Q_reads' HO252.out).2.1); rintro e w15 ⟨rfl, hb⟩; have n0_ := Aside0.mk (Kd.Q_below (by (with_reducible repeat (first | apply Kd.Q_alloc | apply Kd.Q_drewN | apply Kd.Q_drew)); exact HO252.out) hb); have n1_ := Aside0.mk (Kd.R_below (by (with_reducible repeat (first | apply Kd.R_alloc | apply Kd.R_drewN | apply Kd.R_drew)); exact HO256.out) hb); have n2_ := Aside0.mk (Kd.R_below (by (with_reducible repeat (first | apply Kd.R_alloc | apply Kd.R_drewN | apply Kd.R_drew)); exact HO259.out) hb); have n3_ := Aside0.mk (blk_below (g := gb253) (o := .cells #[.int .i64 t248, .int .i64 t249, .slice Ao12 t250.length co12] 27 (0, 0)) (by (with_reducible repeat (first | refine bN ?_ _ | refine bD ?_ | refine bA ?_ _)); exact BK253.out) hb); have n4_ := Aside0.mk (below_step (by repeat (first | (with_reducible first | exact HB.out | apply wA | apply wN | apply wD | refine bS ?_ GE253.out) | exact HB.out)) hb); clear HO252; clear HO256; clear HO259; clear BK253; clear HB; have HO252 := n0_; have HO256 := n1_; have HO259 := n2_; have BK253 := n3_; have HB := n4_; clear n0_ n1_ n2_ n3_ n4_; (try clear hb); (try clear hb2); (try clear hk); (try clear hi); have hcz16_0 : w15.cell? ⟨gb253, 0, none⟩ = some (.int .i64 t248) := bC BK253.out 0 rfl; have hcz16_1 : w15.cell? ⟨gb253, 1, none⟩ = some (.int .i64 t249) := bC BK253.out 1 rfl; have hcz16_2 : w15.cell? ⟨gb253, 2, none⟩ = some (.slice Ao12 t250.length co12) := bC BK253.out 2 rfl; have hfz16_0 := blk_frozen BK253.out 0; have hfz16_1 := blk_frozen BK253.out 1; have hfz16_2 := blk_frozen BK253.out 2))
   repeat (go_quiet (first | (go_at_call 16; (with_reducible refine (laws_big.calls _ _ l0 false _ ?side1 ?side2 A2.out).mono ?_); (case side1 => repeat (first | exact HR0.out | (with_reducible refine Kd.C_alloc ?_ _) | (with_reducible refine Kd.C_drewN ?_ _) | (with_reducible refine Kd.C_drew ?_))); (case side2 => exact HC0.out); rintro e w' ⟨rfl, ⟨nd, rfl⟩⟩; (try first | exact ⟨rfl, _, World.drewN_drewN _ _ _⟩ | exact ⟨rfl, _, Eq.trans (World.drewN_drewN _ _ _) (congrArg (World.drewN _) (Nat.add_assoc _ _ _))⟩)) | (go_at_call 20; (with_reducible refine (spec_DrawDrain.calls k _ _ l0 t248 t249 t250 _ ?side1 ?side2 A4.out).mono ?_); (case side1 => repeat (first | exact HR0.out | (with_reducible refine Kd.C_alloc ?_ _) | (with_reducible refine Kd.C_drewN ?_ _) | (with_reducible refine Kd.C_drew ?_))); (case side2 => exact HC0.out); rintro e w9 ⟨v251, rfl, ho0, hb⟩; have n0_ := Aside0.mk (Kd.Q_lower ho0 (below_size (by repeat (first | (with_reducible first | exact HB.out | apply wA | apply wN | apply wD) | exact HB.out)))); have n1_ := Aside0.mk (below_step (by repeat (first | (with_reducible first | exact HB.out | apply wA | apply wN | apply wD) | exact HB.out)) hb); clear HB; have HO252 := n0_; have HB := n1_; clear n0_ n1_; (try clear hb); (try clear hb2); (try clear hk); (try clear hi); (try clear ho0)) | ((with_reducible refine gate_dst (N := 3) rfl ?_); (try (refine gate_guard (by rfl) ?_; dsimp only)); refine box_event ?hg (N := 3) ?hd (cs := #[.int .i64 0, .int .i64 0, .slice none 0 0]) (t := 27) ?hr ?_; (case hd => rfl); (case hg => rfl); (case hr => first | (go_simp; done) | (go_simp; rfl)); intro gb253 hg w10 hbox hb; have n0_ := Aside0.mk (Kd.Q_below (by (with_reducible repeat (first | apply Kd.Q_alloc | apply Kd.Q_drewN | apply Kd.Q_drew)); exact HO252.out) hb); have n1_ := Aside0.mk (below_step (by repeat (first | (with_reducible first | exact HB.out | apply wA | apply wN | apply wD) | exact HB.out)) hb); have n2_ := Aside0.mk (hbox); have n3_ := Aside0.mk ((by rw [hg]; exact (below_size (by repeat (first | (with_reducible first | exact HB.out | apply wA | apply wN | apply wD) | exact HB.out))) : w.heap.size ≤ gb253)); have n4_ := Aside0.mk ((by rw [hg]; exact (below_size (by repeat (first | (with_reducible first | exact HB.out | apply wA | apply wN | apply wD) | exact HB.out))) : w.heap.size ≤ gb253)); clear HO252; clear HB; have HO252 := n0_; have HB := n1_; have BK253 := n2_; have GW253 := n3_; have GE253 := n4_; clear n0_ n1_ n2_ n3_ n4_; clear hb hbox hg; have hcz11_0 : w10.cell? ⟨gb253, 0, none⟩ = some (.int .i64 0) := bC BK253.out 0 rfl; have hcz11_1 : w10.cell? ⟨gb253, 1, none⟩ = some (.int .i64 0) := bC BK253.out 1 rfl; have hcz11_2 : w10.cell? ⟨gb253, 2, none⟩ = some (.slice none 0 0) := bC BK253.out 2 rfl; have hfz11_0 := blk_frozen BK253.out 0; have hfz11_1 := blk_frozen BK253.out 1; have hfz11_2 := blk_frozen BK253.out 2; obtain ⟨Ao12, co12, eo12, _⟩ := Kd.Q_slice HO252.out; subst eo12) | (go_at_call 21; (with_reducible refine (impl_Drain.calls k t248 t249 _ _ t250 t254 t257 _ ?side1 ?side2 A5.out).mono ?_); (case side1 => refine (Kd.Q_reads' (e := 2) (base := w.heap.size) (ok := fun k_ => True) (n := t250.length) (c := co12) ?_).2.2; exact (by (with_reducible repeat (first | apply Kd.Q_alloc | apply Kd.Q_drewN | apply Kd.Q_drew)); exact (Kd.Q_mono (Kd.Q_far (p := ⟨gb253, 2, none⟩) (Kd.Q_far (p := ⟨gb253, 1, none⟩) (Kd.Q_far (p := ⟨gb253, 0, none⟩) (Kd.Q_types HO252.out BK253.out (by decide)) (fun _ hk => hk.2) (.int .i64 t248)) (fun _ hk => hk.2) (.int .i64 t249)) (fun _ hk => hk.2) (.slice Ao12 t250.length co12)) (fun _ h_ => h_.1)))); (case side2 => exact (Kd.Q_reads' HO252.out).2.1); rintro e w13 ⟨v255, v258, rfl, ho0, ho1, hb⟩; have n0_ := Aside0.mk (Kd.Q_mono (Kd.Q_told (Kd.Q_told (Kd.Q_old (by (with_reducible repeat (first | apply Kd.Q_alloc | apply Kd.Q_drewN | apply Kd.Q_drew)); exact (Kd.Q_mono (Kd.Q_far (p := ⟨gb253, 2, none⟩) (Kd.Q_far (p := ⟨gb253, 1, none⟩) (Kd.Q_far (p := ⟨gb253, 0, none⟩) (Kd.Q_types HO252.out BK253.out (by decide)) (fun _ hk => hk.2) (.int .i64 t248)) (fun _ hk => hk.2) (.int .i64 t249)) (fun _ hk => hk.2) (.slice Ao12 t250.length co12)) (fun _ h_ => h_.1))) hb) (Kd.R_base ho0)) (Kd.R_base ho1)) (fun _ h_ => h_.1)); have n1_ := Aside0.mk (Kd.R_lower (Kd.R_new' ho0 (Kd.Q_lt (by (with_reducible repeat (first | apply Kd.Q_alloc | apply Kd.Q_drewN | apply Kd.Q_drew)); exact (Kd.Q_mono (Kd.Q_far (p := ⟨gb253, 2, none⟩) (Kd.Q_far (p := ⟨gb253, 1, none⟩) (Kd.Q_far (p := ⟨gb253, 0, none⟩) (Kd.Q_types HO252.out BK253.out (by decide)) (fun _ hk => hk.2) (.int .i64 t248)) (fun _ hk => hk.2) (.int .i64 t249)) (fun _ hk => hk.2) (.slice Ao12 t250.length co12)) (fun _ h_ => h_.1))))) (below_size (by repeat (first | (with_reducible first | exact HB.out | apply wA | apply wN | apply wD | refine bS ?_ GE253.out) | exact HB.out)))); have n2_ := Aside0.mk (Kd.R_lower (Kd.R_new' ho1 (Kd.Q_lt (by (with_reducible repeat (first | apply Kd.Q_alloc | apply Kd.Q_drewN | apply Kd.Q_drew)); exact (Kd.Q_mono (Kd.Q_far (p := ⟨gb253, 2, none⟩) (Kd.Q_far (p := ⟨gb253, 1, none⟩) (Kd.Q_far (p := ⟨gb253, 0, none⟩) (Kd.Q_types HO252.out BK253.out (by decide)) (fun _ hk => hk.2) (.int .i64 t248)) (fun _ hk => hk.2) (.int .i64 t249)) (fun _ hk => hk.2) (.slice Ao12 t250.length co12)) (fun _ h_ => h_.1))))) (below_size (by repeat (first | (with_reducible first | exact HB.out | apply wA | apply wN | apply wD | refine bS ?_ GE253.out) | exact HB.out)))); have n3_ := Aside0.mk (blk_below (g := gb253) (o := .cells #[.int .i64 t248, .int .i64 t249, .slice Ao12 t250.length co12] 27 (0, 0)) (by (with_reducible repeat (first | refine bN ?_ _ | refine bD ?_ | refine bA ?_ _)); refine blk_put (cs := #[.int .i64 t248, .int .i64 t249, .slice none 0 0]) ?_ 2 _ rfl; (with_reducible repeat (first | refine bN ?_ _ | refine bD ?_ | refine bA ?_ _)); refine blk_put (cs := #[.int .i64 t248, .int .i64 0, .slice none 0 0]) ?_ 1 _ rfl; (with_reducible repeat (first | refine bN ?_ _ | refine bD ?_ | refine bA ?_ _)); refine blk_put (cs := #[.int .i64 0, .int .i64 0, .slice none 0 0]) ?_ 0 _ rfl; (with_reducible repeat (first | refine bN ?_ _ | refine bD ?_ | refine bA ?_ _)); exact BK253.out) hb); have n4_ := Aside0.mk (below_step (by repeat (first | (with_reducible first | exact HB.out | apply wA | apply wN | apply wD | refine bS ?_ GE253.out) | exact HB.out)) hb); clear HO252; clear BK253; clear HB; have HO252 := n0_; have HO256 := n1_; have HO259 := n2_; have BK253 := n3_; have HB := n4_; clear n0_ n1_ n2_ n3_ n4_; (try clear hb); (try clear hb2); (try clear hk); (try clear hi); (try clear ho0); (try clear ho1); have hcz14_0 : w13.cell? ⟨gb253, 0, none⟩ = some (.int .i64 t248) := bC BK253.out 0 rfl; have hcz14_1 : w13.cell? ⟨gb253, 1, none⟩ = some (.int .i64 t249) := bC BK253.out 1 rfl; have hcz14_2 : w13.cell? ⟨gb253, 2, none⟩ = some (.slice Ao12 t250.length co12) := bC BK253.out 2 rfl; have hfz14_0 := blk_frozen BK253.out 0; have hfz14_1 := blk_frozen BK253.out 1; have hfz14_2 := blk_frozen BK253.out 2) | (go_at_call 18; (with_reducible refine (spec_BoxOk.calls k t248 t249 _ _ t250 true _ ?side1 ?side2 A6.out).mono ?_); (case side1 => repeat (first | exact (Kd.Q_reads' HO252.out).2.2 | (with_reducible refine Kd.C_alloc ?_ _) | (with_reducible refine Kd.C_drewN ?_ _) | (with_reducible refine Kd.C_drew ?_))); (case side2 => exact (Kd.Q_reads' HO252.out).2.1); rintro e w15 ⟨rfl, hb⟩; have n0_ := Aside0.mk (Kd.Q_below (by (with_reducible repeat (first | apply Kd.Q_alloc | apply Kd.Q_drewN | apply Kd.Q_drew)); exact HO252.out) hb); have n1_ := Aside0.mk (Kd.R_below (by (with_reducible repeat (first | apply Kd.R_alloc | apply Kd.R_drewN | apply Kd.R_drew)); exact HO256.out) hb); have n2_ := Aside0.mk (Kd.R_below (by (with_reducible repeat (first | apply Kd.R_alloc | apply Kd.R_drewN | apply Kd.R_drew)); exact HO259.out) hb); have n3_ := Aside0.mk (blk_below (g := gb253) (o := .cells #[.int .i64 t248, .int .i64 t249, .slice Ao12 t250.length co12] 27 (0, 0)) (by (with_reducible repeat (first | refine bN ?_ _ | refine bD ?_ | refine bA ?_ _)); exact BK253.out) hb); have n4_ := Aside0.mk (below_step (by repeat (first | (with_reducible first | exact HB.out | apply wA | apply wN | apply wD | refine bS ?_ GE253.out) | exact HB.out)) hb); clear HO252; clear HO256; clear HO259; clear BK253; clear HB; have HO252 := n0_; have HO256 := n1_; have HO259 := n2_; have BK253 := n3_; have HB := n4_; clear n0_ n1_ n2_ n3_ n4_; (try clear hb); (try clear hb2); (try clear hk); (try clear hi); have hcz16_0 : w15.cell? ⟨gb253, 0, none⟩ = some (.int .i64 t248) := bC BK253.out 0 rfl; have hcz16_1 : w15.cell? ⟨gb253, 1, none⟩ = some (.int .i64 t249) := bC BK253.out 1 rfl; have hcz16_2 : w15.cell? ⟨gb253, 2, none⟩ = some (.slice Ao12 t250.length co12) := bC BK253.out 2 rfl; have hfz16_0 := blk_frozen BK253.out 0; have hfz16_1 := blk_frozen BK253.out 1; have hfz16_2 := blk_frozen BK253.out 2)); go_upto_region 8 with (first | (go_at_call 16; (with_reducible refine (laws_big.calls _ _ l0 false _ ?side1 ?side2 A2.out).mono ?_); (case side1 => repeat (first | exact HR0.out | (with_reducible refine Kd.C_alloc ?_ _) | (with_reducible refine Kd.C_drewN ?_ _) | (with_reducible refine Kd.C_drew ?_))); (case side2 => exact HC0.out); rintro e w' ⟨rfl, ⟨nd, rfl⟩⟩; (try first | exact ⟨rfl, _, World.drewN_drewN _ _ _⟩ | exact ⟨rfl, _, Eq.trans (World.drewN_drewN _ _ _) (congrArg (World.drewN _) (Nat.add_assoc _ _ _))⟩)) | (go_at_call 20; (with_reducible refine (spec_DrawDrain.calls k _ _ l0 t248 t249 t250 _ ?side1 ?side2 A4.out).mono ?_); (case side1 => repeat (first | exact HR0.out | (with_reducible refine Kd.C_alloc ?_ _) | (with_reducible refine Kd.C_drewN ?_ _) | (with_reducible refine Kd.C_drew ?_))); (case side2 => exact HC0.out); rintro e w9 ⟨v251, rfl, ho0, hb⟩; have n0_ := Aside0.mk (Kd.Q_lower ho0 (below_size (by repeat (first | (with_reducible first | exact HB.out | apply wA | apply wN | apply wD) | exact HB.out)))); have n1_ := Aside0.mk (below_step (by repeat (first | (with_reducible first | exact HB.out | apply wA | apply wN | apply wD) | exact HB.out)) hb); clear HB; have HO252 := n0_; have HB := n1_; clear n0_ n1_; (try clear hb); (try clear hb2); (try clear hk); (try clear hi); (try clear ho0)) | ((with_reducible refine gate_dst (N := 3) rfl ?_); (try (refine gate_guard (by rfl) ?_; dsimp only)); refine box_event ?hg (N := 3) ?hd (cs := #[.int .i64 0, .int .i64 0, .slice none 0 0]) (t := 27) ?hr ?_; (case hd => rfl); (case hg => rfl); (case hr => first | (go_simp; done) | (go_simp; rfl)); intro gb253 hg w10 hbox hb; have n0_ := Aside0.mk (Kd.Q_below (by (with_reducible repeat (first | apply Kd.Q_alloc | apply Kd.Q_drewN | apply Kd.Q_drew)); exact HO252.out) hb); have n1_ := Aside0.mk (below_step (by repeat (first | (with_reducible first | exact HB.out | apply wA | apply wN | apply wD) | exact HB.out)) hb); have n2_ := Aside0.mk (hbox); have n3_ := Aside0.mk ((by rw [hg]; exact (below_size (by repeat (first | (with_reducible first | exact HB.out | apply wA | apply wN | apply wD) | exact HB.out))) : w.heap.size ≤ gb253)); have n4_ := Aside0.mk ((by rw [hg]; exact (below_size (by repeat (first | (with_reducible first | exact HB.out | apply wA | apply wN | apply wD) | exact HB.out))) : w.heap.size ≤ gb253)); clear HO252; clear HB; have HO252 := n0_; have HB := n1_; have BK253 := n2_; have GW253 := n3_; have GE253 := n4_; clear n0_ n1_ n2_ n3_ n4_; clear hb hbox hg; have hcz11_0 : w10.cell? ⟨gb253, 0, none⟩ = some (.int .i64 0) := bC BK253.out 0 rfl; have hcz11_1 : w10.cell? ⟨gb253, 1, none⟩ = some (.int .i64 0) := bC BK253.out 1 rfl; have hcz11_2 : w10.cell? ⟨gb253, 2, none⟩ = some (.slice none 0 0) := bC BK253.out 2 rfl; have hfz11_0 := blk_frozen BK253.out 0; have hfz11_1 := blk_frozen BK253.out 1; have hfz11_2 := blk_frozen BK253.out 2; obtain ⟨Ao12, co12, eo12, _⟩ := Kd.Q_slice HO252.out; subst eo12) | (go_at_call 21; (with_reducible refine (impl_Drain.calls k t248 t249 _ _ t250 t254 t257 _ ?side1 ?side2 A5.out).mono ?_); (case side1 => refine (Kd.Q_reads' (e := 2) (base := w.heap.size) (ok := fun k_ => True) (n := t250.length) (c := co12) ?_).2.2; exact (by (with_reducible repeat (first | apply Kd.Q_alloc | apply Kd.Q_drewN | apply Kd.Q_drew)); exact (Kd.Q_mono (Kd.Q_far (p := ⟨gb253, 2, none⟩) (Kd.Q_far (p := ⟨gb253, 1, none⟩) (Kd.Q_far (p := ⟨gb253, 0, none⟩) (Kd.Q_types HO252.out BK253.out (by decide)) (fun _ hk => hk.2) (.int .i64 t248)) (fun _ hk => hk.2) (.int .i64 t249)) (fun _ hk => hk.2) (.slice Ao12 t250.length co12)) (fun _ h_ => h_.1)))); (case side2 => exact (Kd.Q_reads' HO252.out).2.1); rintro e w13 ⟨v255, v258, rfl, ho0, ho1, hb⟩; have n0_ := Aside0.mk (Kd.Q_mono (Kd.Q_told (Kd.Q_told (Kd.Q_old (by (with_reducible repeat (first | apply Kd.Q_alloc | apply Kd.Q_drewN | apply Kd.Q_drew)); exact (Kd.Q_mono (Kd.Q_far (p := ⟨gb253, 2, none⟩) (Kd.Q_far (p := ⟨gb253, 1, none⟩) (Kd.Q_far (p := ⟨gb253, 0, none⟩) (Kd.Q_types HO252.out BK253.out (by decide)) (fun _ hk => hk.2) (.int .i64 t248)) (fun _ hk => hk.2) (.int .i64 t249)) (fun _ hk => hk.2) (.slice Ao12 t250.length co12)) (fun _ h_ => h_.1))) hb) (Kd.R_base ho0)) (Kd.R_base ho1)) (fun _ h_ => h_.1)); have n1_ := Aside0.mk (Kd.R_lower (Kd.R_new' ho0 (Kd.Q_lt (by (with_reducible repeat (first | apply Kd.Q_alloc | apply Kd.Q_drewN | apply Kd.Q_drew)); exact (Kd.Q_mono (Kd.Q_far (p := ⟨gb253, 2, none⟩) (Kd.Q_far (p := ⟨gb253, 1, none⟩) (Kd.Q_far (p := ⟨gb253, 0, none⟩) (Kd.Q_types HO252.out BK253.out (by decide)) (fun _ hk => hk.2) (.int .i64 t248)) (fun _ hk => hk.2) (.int .i64 t249)) (fun _ hk => hk.2) (.slice Ao12 t250.length co12)) (fun _ h_ => h_.1))))) (below_size (by repeat (first | (with_reducible first | exact HB.out | apply wA | apply wN | apply wD | refine bS ?_ GE253.out) | exact HB.out)))); have n2_ := Aside0.mk (Kd.R_lower (Kd.R_new' ho1 (Kd.Q_lt (by (with_reducible repeat (first | apply Kd.Q_alloc | apply Kd.Q_drewN | apply Kd.Q_drew)); exact (Kd.Q_mono (Kd.Q_far (p := ⟨gb253, 2, none⟩) (Kd.Q_far (p := ⟨gb253, 1, none⟩) (Kd.Q_far (p := ⟨gb253, 0, none⟩) (Kd.Q_types HO252.out BK253.out (by decide)) (fun _ hk => hk.2) (.int .i64 t248)) (fun _ hk => hk.2) (.int .i64 t249)) (fun _ hk => hk.2) (.slice Ao12 t250.length co12)) (fun _ h_ => h_.1))))) (below_size (by repeat (first | (with_reducible first | exact HB.out | apply wA | apply wN | apply wD | refine bS ?_ GE253.out) | exact HB.out)))); have n3_ := Aside0.mk (blk_below (g := gb253) (o := .cells #[.int .i64 t248, .int .i64 t249, .slice Ao12 t250.length co12] 27 (0, 0)) (by (with_reducible repeat (first | refine bN ?_ _ | refine bD ?_ | refine bA ?_ _)); refine blk_put (cs := #[.int .i64 t248, .int .i64 t249, .slice none 0 0]) ?_ 2 _ rfl; (with_reducible repeat (first | refine bN ?_ _ | refine bD ?_ | refine bA ?_ _)); refine blk_put (cs := #[.int .i64 t248, .int .i64 0, .slice none 0 0]) ?_ 1 _ rfl; (with_reducible repeat (first | refine bN ?_ _ | refine bD ?_ | refine bA ?_ _)); refine blk_put (cs := #[.int .i64 0, .int .i64 0, .slice none 0 0]) ?_ 0 _ rfl; (with_reducible repeat (first | refine bN ?_ _ | refine bD ?_ | refine bA ?_ _)); exact BK253.out) hb); have n4_ := Aside0.mk (below_step (by repeat (first | (with_reducible first | exact HB.out | apply wA | apply wN | apply wD | refine bS ?_ GE253.out) | exact HB.out)) hb); clear HO252; clear BK253; clear HB; have HO252 := n0_; have HO256 := n1_; have HO259 := n2_; have BK253 := n3_; have HB := n4_; clear n0_ n1_ n2_ n3_ n4_; (try clear hb); (try clear hb2); (try clear hk); (try clear hi); (try clear ho0); (try clear ho1); have hcz14_0 : w13.cell? ⟨gb253, 0, none⟩ = some (.int .i64 t248) := bC BK253.out 0 rfl; have hcz14_1 : w13.cell? ⟨gb253, 1, none⟩ = some (.int .i64 t249) := bC BK253.out 1 rfl; have hcz14_2 : w13.cell? ⟨gb253, 2, none⟩ = some (.slice Ao12 t250.length co12) := bC BK253.out 2 rfl; have hfz14_0 := blk_frozen BK253.out 0; have hfz14_1 := blk_frozen BK253.out 1; have hfz14_2 := blk_frozen BK253.out 2) | (go_at_call 18; (with_reducible refine (spec_BoxOk.calls k t248 t249 _ _ t250 true _ ?side1 ?side2 A6.out).mono ?_); (case side1 => repeat (first | exact (Kd.Q_reads' HO252.out).2.2 | (with_reducible refine Kd.C_alloc ?_ _) | (with_reducible refine Kd.C_drewN ?_ _) | (with_reducible refine Kd.C_drew ?_))); (case side2 => exact (Kd.Q_reads' HO252.out).2.1); rintro e w15 ⟨rfl, hb⟩; have n0_ := Aside0.mk (Kd.Q_below (by (with_reducible repeat (first | apply Kd.Q_alloc | apply Kd.Q_drewN | apply Kd.Q_drew)); exact HO252.out) hb); have n1_ := Aside0.mk (Kd.R_below (by (with_reducible repeat (first | apply Kd.R_alloc | apply Kd.R_drewN | apply Kd.R_drew)); exact HO256.out) hb); have n2_ := Aside0.mk (Kd.R_below (by (with_reducible repeat (first | apply Kd.R_alloc | apply Kd.R_drewN | apply Kd.R_drew)); exact HO259.out) hb); have n3_ := Aside0.mk (blk_below (g := gb253) (o := .cells #[.int .i64 t248, .int .i64 t249, .slice Ao12 t250.length co12] 27 (0, 0)) (by (with_reducible repeat (first | refine bN ?_ _ | refine bD ?_ | refine bA ?_ _)); exact BK253.out) hb); have n4_ := Aside0.mk (below_step (by repeat (first | (with_reducible first | exact HB.out | apply wA | apply wN | apply wD | refine bS ?_ GE253.out) | exact HB.out)) hb); clear HO252; clear HO256; clear HO259; clear BK253; clear HB; have HO252 := n0_; have HO256 := n1_; have HO259 := n2_; have BK253 := n3_; have HB := n4_; clear n0_ n1_ n2_ n3_ n4_; (try clear hb); (try clear hb2); (try clear hk); (try clear hi); have hcz16_0 : w15.cell? ⟨gb253, 0, none⟩ = some (.int .i64 t248) := bC BK253.out 0 rfl; have hcz16_1 : w15.cell? ⟨gb253, 1, none⟩ = some (.int .i64 t249) := bC BK253.out 1 rfl; have hcz16_2 : w15.cell? ⟨gb253, 2, none⟩ = some (.slice Ao12 t250.length co12) := bC BK253.out 2 rfl; have hfz16_0 := blk_frozen BK253.out 0; have hfz16_1 := blk_frozen BK253.out 1; have hfz16_2 := blk_frozen BK253.out 2)))
   (try simp only [Act.put, sqA, sqZ, sqS])
   go_cut [48] (fun v48 wc => ∃ (kq : Nat) (x48_7 : Bool), v48 = .bool x48_7 ∧ Aside0 (laws_FnDrained.j0 kq t254 t257 (wrap64 (t248 * t249)) x48_7 t248 t249 t250 = some r) ∧ Aside0 (kq ≤ k) ∧ Aside0 (Kd.R (Kd.int .i64) 2 wc w.heap.size (fun k_ => some k_ ≠ (v258 : Value).ownBlock ∧ some k_ ≠ ((.slice Ao12 t250.length co12) : Value).ownBlock) v255 t254) ∧ Aside0 (Kd.R (Kd.int .i64) 2 wc w.heap.size (fun k_ => some k_ ≠ (v255 : Value).ownBlock ∧ some k_ ≠ ((.slice Ao12 t250.length co12) : Value).ownBlock) v258 t257) ∧ Aside0 (Kd.Q (Kd.int .i64) 2 wc w.heap.size (fun k_ => some k_ ≠ (v255 : Value).ownBlock ∧ some k_ ≠ (v258 : Value).ownBlock) (.slice Ao12 t250.length co12) t250) ∧ Aside0 (wc.heap[gb253]? = some (.cells #[.int .i64 t248, .int .i64 t249, (.slice Ao12 t250.length co12)] 27 (0, 0))) ∧ Aside0 (Below w.heap.size w wc))
   case first =>
    have H := HC8.out
    clear HC8
    by_cases c17 : (t254.length : Int) = (wrap64 (t248 * t249))
    ·rw [if_pos c17] at H
     have c17b0 : ((t254.length : Int) == (wrap64 (t248 * t249))) = true := beq_iff_eq.mpr c17
     have c17b1 : ((t254.length : Int) != (wrap64 (t248 * t249))) = false := bne_eq_false_iff_eq.mpr c17
     clear c17
     (first | rw [c17b0] | (simp only [i64_w, i32_w]; rw [c17b0]) | skip)
     have H' := Aside0.mk H
     clear H
     obtain ⟨Ao18, co18, eo18⟩ := Kd.R_slice HO256.out
     subst eo18
     obtain ⟨Ao19, co19, eo19⟩ := Kd.R_slice HO259.out
     subst eo19
     go_wp2
     repeat (go_quiet (fail); try go_wp2)
     go_meet
     case rel => exact ⟨_, (((t257.length : Int) != (wrap64 (t248 * t249)))), (by first | rfl | (simp; done) | (simp [*]; done)), H', ⟨by first | omega | exact Nat.le_refl _⟩, ⟨HO256.out⟩, ⟨HO259.out⟩, ⟨by (with_reducible repeat (first | apply Kd.Q_alloc | apply Kd.Q_drewN | apply Kd.Q_drew)); exact Kd.Q_mono HO252.out (fun _ hk => ⟨hk.1.2, hk.2⟩)⟩, ⟨by (with_reducible repeat (first | refine bN ?_ _ | refine bD ?_ | refine bA ?_ _)); exact BK253.out⟩, ⟨by repeat (first | (with_reducible first | exact HB.out | apply wA | apply wN | apply wD | refine bS ?_ GE253.out) | exact HB.out)⟩⟩
    ·rw [if_neg c17] at H
     have c17b0 : ((t254.length : Int) == (wrap64 (t248 * t249))) = false := beq_eq_false_iff_ne.mpr c17
     have c17b1 : ((t254.length : Int) != (wrap64 (t248 * t249))) = true := bne_iff_ne.mpr c17
     (first | rw [c17b0] | (simp only [i64_w, i32_w]; rw [c17b0]) | skip)
     have H' := Aside0.mk H
     clear H
     obtain ⟨Ao20, co20, eo20⟩ := Kd.R_slice HO256.out
     subst eo20
     go_wp2
     repeat (go_quiet (fail); try go_wp2)
     go_meet
     case rel => exact ⟨_, (true), (by first | rfl | (simp; done) | (simp [*]; done)), H', ⟨by first | omega | exact Nat.le_refl _⟩, ⟨HO256.out⟩, ⟨HO259.out⟩, ⟨by (with_reducible repeat (first | apply Kd.Q_alloc | apply Kd.Q_drewN | apply Kd.Q_drew)); exact Kd.Q_mono HO252.out (fun _ hk => ⟨hk.1.2, hk.2⟩)⟩, ⟨by (with_reducible repeat (first | refine bN ?_ _ | refine bD ?_ | refine bA ?_ _)); exact BK253.out⟩, ⟨by repeat (first | (with_reducible first | exact HB.out | apply wA | apply wN | apply wD | refine bS ?_ GE253.out) | exact HB.out)⟩⟩
   case rest =>
    clear HC8
    try clear c1
    try clear p2
    try clear c3
    try clear c5
    try clear p6
    try clear c7
    try clear c17
    try clear c17b0
    try clear c17b1
    try clear hcz11_0
    try clear hcz11_1
    try clear hcz11_2
    try clear hcz14_0
    try clear hcz14_1
    try clear hcz14_2
    try clear hcz16_0
    try clear hcz16_1
    try clear hcz16_2
    try clear hfz11_0
    try clear hfz11_1
    try clear hfz11_2
    try clear hfz14_0
    try clear hfz14_1
    try clear hfz14_2
    try clear hfz16_0
    try clear hfz16_1
    try clear hfz16_2
    obtain ⟨kq, x48_7, rfl, HA, HJ7, HO_4, HO_5, HO_254002, BK253, HB⟩ := hcut
    cases kq with
    | zero => exact absurd HA.out (by simp [laws_FnDrained.j0])
    | succ kj7 =>
     have H := HA.out
     clear HA
     simp only [laws_FnDrained.j0] at H
     by_cases c21 : x48_7 = true
     ·subst c21
      have H1 : (some false) = some r := by rw [if_pos rfl] at H; exact H
      clear H
      have H := H1
      clear H1
      obtain rfl := Option.some.inj H
      go_wp2
      repeat (go_quiet (fail); try go_wp2)
      go_ret
      exact ⟨by first | rfl | (simp [errW_none, errW_some] <;> rfl) | (simp [*, errW_none, errW_some] <;> rfl), by repeat (first | (with_reducible first | exact HB.out | apply wA | apply wN | apply wD | refine bS ?_ GE253.out) | exact HB.out)⟩
     ·replace c21 := Bool.eq_false_iff.mpr c21
      subst c21
      have H1 : ((impl_Catch.f kj7 t257).bind fun bt261 => (if bt261.2 = true then (laws_FnDrained.j1 kj7 t254 t257 (wrap64 (t248 * t249)) bt261.1 ((bt261.1.length : Int) != (wrap64 (t248 * t249))) t248 t249 t250) else (laws_FnDrained.j1 kj7 t254 t257 (wrap64 (t248 * t249)) bt261.1 true t248 t249 t250))) = some r := by rw [if_neg (show ¬ (false = true) by decide)] at H; exact H
      clear H
      have H := H1
      clear H1
      replace H := Option.bind_eq_some_iff.mp H
      obtain ⟨⟨t261, t262⟩, A220, H⟩ := H
      replace H : (if t262 = true then (laws_FnDrained.j1 kj7 t254 t257 (wrap64 (t248 * t249)) t261 ((t261.length : Int) != (wrap64 (t248 * t249))) t248 t249 t250) else (laws_FnDrained.j1 kj7 t254 t257 (wrap64 (t248 * t249)) t261 true t248 t249 t250)) = some r := H
      have A22 := Aside0.mk A220
      clear A220
      have HC23 := Aside0.mk H
      clear H
      obtain ⟨Ao24, co24, eo24⟩ := Kd.R_slice HO_5.out
      subst eo24
      go_upto_region 11 with (first | (go_at_call 22; (with_reducible refine (impl_Catch.calls kj7 _ _ t257 t261 t262 _ ?side1 ?side2 A22.out).mono ?_); (case side1 => repeat (first | exact (Kd.R_reads' HO_5.out).2.2 | (with_reducible refine Kd.C_alloc ?_ _) | (with_reducible refine Kd.C_drewN ?_ _) | (with_reducible refine Kd.C_drew ?_))); (case side2 => exact (Kd.R_reads' HO_5.out).2.1); rintro e w25 ⟨v263, rfl, ho0, hb⟩; have n0_ := Aside0.mk (Kd.R_elder' HO_4.out (Kd.R_base ho0) hb); have n1_ := Aside0.mk (Kd.R_elder' HO_5.out (Kd.R_base ho0) hb); have n2_ := Aside0.mk (Kd.Q_elder' (by (with_reducible repeat (first | apply Kd.Q_alloc | apply Kd.Q_drewN | apply Kd.Q_drew)); exact HO_254002.out) (Kd.R_base ho0) hb); have n3_ := Aside0.mk (Kd.R_lower (Kd.R_new' (Kd.R_new' (Kd.R_new' ho0 (Kd.R_lt HO_4.out)) (Kd.R_lt HO_5.out)) (Kd.Q_lt (by (with_reducible repeat (first | apply Kd.Q_alloc | apply Kd.Q_drewN | apply Kd.Q_drew)); exact HO_254002.out))) (below_size (by repeat (first | (with_reducible first | exact HB.out | apply wA | apply wN | apply wD | refine bS ?_ GE253.out) | exact HB.out)))); have n4_ := Aside0.mk (blk_below (g := gb253) (o := .cells #[.int .i64 t248, .int .i64 t249, .slice Ao12 t250.length co12] 27 (0, 0)) (by (with_reducible repeat (first | refine bN ?_ _ | refine bD ?_ | refine bA ?_ _)); exact BK253.out) hb); have n5_ := Aside0.mk (below_step (by repeat (first | (with_reducible first | exact HB.out | apply wA | apply wN | apply wD | refine bS ?_ GE253.out) | exact HB.out)) hb); clear HO_4; clear HO_5; clear HO_254002; clear BK253; clear HB; have HO_4 := n0_; have HO_5 := n1_; have HO_254002 := n2_; have HO264 := n3_; have BK253 := n4_; have HB := n5_; clear n0_ n1_ n2_ n3_ n4_ n5_; (try clear hb); (try clear hb2); (try clear hk); (try clear hi); (try clear ho0)))
      repeat (go_quiet (first | (go_at_call 22; (with_reducible refine (impl_Catch.calls kj7 _ _ t257 t261 t262 _ ?side1 ?side2 A22.out).mono ?_); (case side1 => repeat (first | exact (Kd.R_reads' HO_5.out).2.2 | (with_reducible refine Kd.C_alloc ?_ _) | (with_reducible refine Kd.C_drewN ?_ _) | (with_reducible refine Kd.C_drew ?_))); (case side2 => exact (Kd.R_reads' HO_5.out).2.1); rintro e w25 ⟨v263, rfl, ho0, hb⟩; have n0_ := Aside0.mk (Kd.R_elder' HO_4.out (Kd.R_base ho0) hb); have n1_ := Aside0.mk (Kd.R_elder' HO_5.out (Kd.R_base ho0) hb); have n2_ := Aside0.mk (Kd.Q_elder' (by (with_reducible repeat (first | apply Kd.Q_alloc | apply Kd.Q_drewN | apply Kd.Q_drew)); exact HO_254002.out) (Kd.R_base ho0) hb); have n3_ := Aside0.mk (Kd.R_lower (Kd.R_new' (Kd.R_new' (Kd.R_new' ho0 (Kd.R_lt HO_4.out)) (Kd.R_lt HO_5.out)) (Kd.Q_lt (by (with_reducible repeat (first | apply Kd.Q_alloc | apply Kd.Q_drewN | apply Kd.Q_drew)); exact HO_254002.out))) (below_size (by repeat (first | (with_reducible first | exact HB.out | apply wA | apply wN | apply wD | refine bS ?_ GE253.out) | exact HB.out)))); have n4_ := Aside0.mk (blk_below (g := gb253) (o := .cells #[.int .i64 t248, .int .i64 t249, .slice Ao12 t250.length co12] 27 (0, 0)) (by (with_reducible repeat (first | refine bN ?_ _ | refine bD ?_ | refine bA ?_ _)); exact BK253.out) hb); have n5_ := Aside0.mk (below_step (by repeat (first | (with_reducible first | exact HB.out | apply wA | apply wN | apply wD | refine bS ?_ GE253.out) | exact HB.out)) hb); clear HO_4; clear HO_5; clear HO_254002; clear BK253; clear HB; have HO_4 := n0_; have HO_5 := n1_; have HO_254002 := n2_; have HO264 := n3_; have BK253 := n4_; have HB := n5_; clear n0_ n1_ n2_ n3_ n4_ n5_; (try clear hb); (try clear hb2); (try clear hk); (try clear hi); (try clear ho0))); go_upto_region 11 with (first | (go_at_call 22; (with_reducible refine (impl_Catch.calls kj7 _ _ t257 t261 t262 _ ?side1 ?side2 A22.out).mono ?_); (case side1 => repeat (first | exact (Kd.R_reads' HO_5.out).2.2 | (with_reducible refine Kd.C_alloc ?_ _) | (with_reducible refine Kd.C_drewN ?_ _) | (with_reducible refine Kd.C_drew ?_))); (case side2 => exact (Kd.R_reads' HO_5.out).2.1); rintro e w25 ⟨v263, rfl, ho0, hb⟩; have n0_ := Aside0.mk (Kd.R_elder' HO_4.out (Kd.R_base ho0) hb); have n1_ := Aside0.mk (Kd.R_elder' HO_5.out (Kd.R_base ho0) hb); have n2_ := Aside0.mk (Kd.Q_elder' (by (with_reducible repeat (first | apply Kd.Q_alloc | apply Kd.Q_drewN | apply Kd.Q_drew)); exact HO_254002.out) (Kd.R_base ho0) hb); have n3_ := Aside0.mk (Kd.R_lower (Kd.R_new' (Kd.R_new' (Kd.R_new' ho0 (Kd.R_lt HO_4.out)) (Kd.R_lt HO_5.out)) (Kd.Q_lt (by (with_reducible repeat (first | apply Kd.Q_alloc | apply Kd.Q_drewN | apply Kd.Q_drew)); exact HO_254002.out))) (below_size (by repeat (first | (with_reducible first | exact HB.out | apply wA | apply wN | apply wD | refine bS ?_ GE253.out) | exact HB.out)))); have n4_ := Aside0.mk (blk_below (g := gb253) (o := .cells #[.int .i64 t248, .int .i64 t249, .slice Ao12 t250.length co12] 27 (0, 0)) (by (with_reducible repeat (first | refine bN ?_ _ | refine bD ?_ | refine bA ?_ _)); exact BK253.out) hb); have n5_ := Aside0.mk (below_step (by repeat (first | (with_reducible first | exact HB.out | apply wA | apply wN | apply wD | refine bS ?_ GE253.out) | exact HB.out)) hb); clear HO_4; clear HO_5; clear HO_254002; clear BK253; clear HB; have HO_4 := n0_; have HO_5 := n1_; have HO_254002 := n2_; have HO264 := n3_; have BK253 := n4_; have HB := n5_; clear n0_ n1_ n2_ n3_ n4_ n5_; (try clear hb); (try clear hb2); (try clear hk); (try clear hi); (try clear ho0))))
      (try simp only [Act.put, sqA, sqZ, sqS])
      go_cut [61] (fun v61 wc => ∃ (kq : Nat) (x61_22 : Bool), v61 = .bool x61_22 ∧ Aside0 (laws_FnDrained.j1 kq t254 t257 (wrap64 (t248 * t249)) t261 x61_22 t248 t249 t250 = some r) ∧ Aside0 (kq ≤ kj7) ∧ Aside0 (Kd.R (Kd.int .i64) 2 wc w.heap.size (fun k_ => some k_ ≠ ((.slice Ao24 t257.length co24) : Value).ownBlock ∧ some k_ ≠ (v263 : Value).ownBlock ∧ some k_ ≠ ((.slice Ao12 t250.length co12) : Value).ownBlock) v255 t254) ∧ Aside0 (Kd.R (Kd.int .i64) 2 wc w.heap.size (fun k_ => some k_ ≠ (v255 : Value).ownBlock ∧ some k_ ≠ (v263 : Value).ownBlock ∧ some k_ ≠ ((.slice Ao12 t250.length co12) : Value).ownBlock) (.slice Ao24 t257.length co24) t257) ∧ Aside0 (Kd.R (Kd.int .i64) 2 wc w.heap.size (fun k_ => some k_ ≠ (v255 : Value).ownBlock ∧ some k_ ≠ ((.slice Ao24 t257.length co24) : Value).ownBlock ∧ some k_ ≠ ((.slice Ao12 t250.length co12) : Value).ownBlock) v263 t261) ∧ Aside0 (Kd.Q (Kd.int .i64) 2 wc w.heap.size (fun k_ => some k_ ≠ (v255 : Value).ownBlock ∧ some k_ ≠ ((.slice Ao24 t257.length co24) : Value).ownBlock ∧ some k_ ≠ (v263 : Value).ownBlock) (.slice Ao12 t250.length co12) t250) ∧ Aside0 (wc.heap[gb253]? = some (.cells #[.int .i64 t248, .int .i64 t249, (.slice Ao12 t250.length co12)] 27 (0, 0))) ∧ Aside0 (Below w.heap.size w wc))
      case first =>
       have H := HC23.out
       clear HC23
       by_cases c26 : t262 = true
       ·subst c26
        have H1 : (laws_FnDrained.j1 kj7 t254 t257 (wrap64 (t248 * t249)) t261 ((t261.length : Int) != (wrap64 (t248 * t249))) t248 t249 t250) = some r := by rw [if_pos rfl] at H; exact H
        clear H
        have H := H1
        clear H1
        have H' := Aside0.mk H
        clear H
        obtain ⟨Ao27, co27, eo27⟩ := Kd.R_slice HO264.out
        subst eo27
        go_wp2
        repeat (go_quiet (fail); try go_wp2)
        go_meet
        case rel => exact ⟨_, (((t261.length : Int) != (wrap64 (t248 * t249)))), (by first | rfl | (simp; done) | (simp [*]; done)), H', ⟨by have := HJ7.out; first | omega | exact Nat.le_refl _⟩, ⟨by (with_reducible repeat (first | apply Kd.R_alloc | apply Kd.R_drewN | apply Kd.R_drew)); exact Kd.R_mono HO_4.out (fun _ hk => ⟨hk.1.1, ⟨hk.2, hk.1.2⟩⟩)⟩, ⟨by (with_reducible repeat (first | apply Kd.R_alloc | apply Kd.R_drewN | apply Kd.R_drew)); exact Kd.R_mono HO_5.out (fun _ hk => ⟨hk.1.1, ⟨hk.2, hk.1.2⟩⟩)⟩, ⟨by (with_reducible repeat (first | apply Kd.R_alloc | apply Kd.R_drewN | apply Kd.R_drew)); exact Kd.R_mono HO264.out (fun _ hk => ⟨hk.1.1.2, ⟨hk.1.2, hk.2⟩⟩)⟩, ⟨by (with_reducible repeat (first | apply Kd.Q_alloc | apply Kd.Q_drewN | apply Kd.Q_drew)); exact Kd.Q_mono HO_254002.out (fun _ hk => ⟨hk.1.1, ⟨hk.1.2, hk.2⟩⟩)⟩, ⟨by (with_reducible repeat (first | refine bN ?_ _ | refine bD ?_ | refine bA ?_ _)); exact BK253.out⟩, ⟨by repeat (first | (with_reducible first | exact HB.out | apply wA | apply wN | apply wD | refine bS ?_ GE253.out) | exact HB.out)⟩⟩
       ·replace c26 := Bool.eq_false_iff.mpr c26
        subst c26
        have H1 : (laws_FnDrained.j1 kj7 t254 t257 (wrap64 (t248 * t249)) t261 true t248 t249 t250) = some r := by rw [if_neg (show ¬ (false = true) by decide)] at H; exact H
        clear H
        have H := H1
        clear H1
        have H' := Aside0.mk H
        clear H
        go_wp2
        repeat (go_quiet (fail); try go_wp2)
        go_meet
        case rel => exact ⟨_, (true), (by first | rfl | (simp; done) | (simp [*]; done)), H', ⟨by have := HJ7.out; first | omega | exact Nat.le_refl _⟩, ⟨by (with_reducible repeat (first | apply Kd.R_alloc | apply Kd.R_drewN | apply Kd.R_drew)); exact Kd.R_mono HO_4.out (fun _ hk => ⟨hk.1.1, ⟨hk.2, hk.1.2⟩⟩)⟩, ⟨by (with_reducible repeat (first | apply Kd.R_alloc | apply Kd.R_drewN | apply Kd.R_drew)); exact Kd.R_mono HO_5.out (fun _ hk => ⟨hk.1.1, ⟨hk.2, hk.1.2⟩⟩)⟩, ⟨by (with_reducible repeat (first | apply Kd.R_alloc | apply Kd.R_drewN | apply Kd.R_drew)); exact Kd.R_mono HO264.out (fun _ hk => ⟨hk.1.1.2, ⟨hk.1.2, hk.2⟩⟩)⟩, ⟨by (with_reducible repeat (first | apply Kd.Q_alloc | apply Kd.Q_drewN | apply Kd.Q_drew)); exact Kd.Q_mono HO_254002.out (fun _ hk => ⟨hk.1.1, ⟨hk.1.2, hk.2⟩⟩)⟩, ⟨by (with_reducible repeat (first | refine bN ?_ _ | refine bD ?_ | refine bA ?_ _)); exact BK253.out⟩, ⟨by repeat (first | (with_reducible first | exact HB.out | apply wA | apply wN | apply wD | refine bS ?_ GE253.out) | exact HB.out)⟩⟩
      case rest =>
       clear HC23
       try clear c1
       try clear c2
       try clear p2
       try clear c3
       try clear c5
       try clear p6
       try clear c7
       try clear c17
       try clear c17b0
       try clear c17b1
       try clear c21
       try clear c26
       try clear hcz11_0
       try clear hcz11_1
       try clear hcz11_2
       try clear hcz14_0
       try clear hcz14_1
       try clear hcz14_2
       try clear hcz16_0
       try clear hcz16_1
       try clear hcz16_2
       try clear hfz11_0
       try clear hfz11_1
       try clear hfz11_2
       try clear hfz14_0
       try clear hfz14_1
       try clear hfz14_2
       try clear hfz16_0
       try clear hfz16_1
       try clear hfz16_2
       try clear p2
       try clear p6
       obtain ⟨kq, x61_22, rfl, HA, HJ22, HO_4, HO_5, HO_7, HO_254002, BK253, HB⟩ := hcut
       cases kq with
       | zero => exact absurd HA.out (by simp [laws_FnDrained.j1])
       | succ kj22 =>
        have H := HA.out
        clear HA
        simp only [laws_FnDrained.j1] at H
        by_cases c28 : x61_22 = true
        ·subst c28
         have H1 : (some false) = some r := by rw [if_pos rfl] at H; exact H
         clear H
         have H := H1
         clear H1
         obtain rfl := Option.some.inj H
         go_wp2
         repeat (go_quiet (fail); try go_wp2)
         go_ret
         exact ⟨by first | rfl | (simp [errW_none, errW_some] <;> rfl) | (simp [*, errW_none, errW_some] <;> rfl), by repeat (first | (with_reducible first | exact HB.out | apply wA | apply wN | apply wD | refine bS ?_ GE253.out) | exact HB.out)⟩
        ·replace c28 := Bool.eq_false_iff.mpr c28
         subst c28
         have H1 : (laws_FnDrained.l0 kj22 t254 t257 (wrap64 (t248 * t249)) t261 0 0 t248 t249 t250) = some r := by rw [if_neg (show ¬ (false = true) by decide)] at H; exact H
         clear H
         have H := H1
         clear H1
         have H' := Aside0.mk H
         clear H
         go_wp2
         repeat (go_quiet (fail); try go_wp2)
         go_loopg [9, 10] kj22 (fun kq v9 v10 w' => ∃ (x9_3 : Int) (x10_3 : Int), v9 = .int .i64 x9_3 ∧ v10 = .int .i64 x10_3 ∧ Aside0 (laws_FnDrained.l0 kq t254 t257 (wrap64 (t248 * t249)) t261 x9_3 x10_3 t248 t249 t250 = some r) ∧ Aside0 (kq ≤ kj22) ∧ Aside0 (Kd.R (Kd.int .i64) 2 w' w.heap.size (fun k_ => some k_ ≠ ((.slice Ao24 t257.length co24) : Value).ownBlock ∧ some k_ ≠ (v263 : Value).ownBlock ∧ some k_ ≠ ((.slice Ao12 t250.length co12) : Value).ownBlock) v255 t254) ∧ Aside0 (Kd.R (Kd.int .i64) 2 w' w.heap.size (fun k_ => some k_ ≠ (v255 : Value).ownBlock ∧ some k_ ≠ (v263 : Value).ownBlock ∧ some k_ ≠ ((.slice Ao12 t250.length co12) : Value).ownBlock) (.slice Ao24 t257.length co24) t257) ∧ Aside0 (Kd.R (Kd.int .i64) 2 w' w.heap.size (fun k_ => some k_ ≠ (v255 : Value).ownBlock ∧ some k_ ≠ ((.slice Ao24 t257.length co24) : Value).ownBlock ∧ some k_ ≠ ((.slice Ao12 t250.length co12) : Value).ownBlock) v263 t261) ∧ Aside0 (Kd.Q (Kd.int .i64) 2 w' w.heap.size (fun k_ => some k_ ≠ (v255 : Value).ownBlock ∧ some k_ ≠ ((.slice Ao24 t257.length co24) : Value).ownBlock ∧ some k_ ≠ (v263 : Value).ownBlock) (.slice Ao12 t250.length co12) t250) ∧ Aside0 (w'.heap[gb253]? = some (.cells #[.int .i64 t248, .int .i64 t249, (.slice Ao12 t250.length co12)] 27 (0, 0))) ∧ Aside0 (Below w.heap.size w w'))
         case atStart => exact ⟨(0), (0), (by first | rfl | (simp; done) | (simp [*]; done)), (by first | rfl | (simp; done) | (simp [*]; done)), H', ⟨Nat.le_refl _⟩, ⟨HO_4.out⟩, ⟨HO_5.out⟩, ⟨HO_7.out⟩, ⟨by (with_reducible repeat (first | apply Kd.Q_alloc | apply Kd.Q_drewN | apply Kd.Q_drew)); exact HO_254002.out⟩, ⟨by (with_reducible repeat (first | refine bN ?_ _ | refine bD ?_ | refine bA ?_ _)); exact BK253.out⟩, ⟨by repeat (first | (with_reducible first | exact HB.out | apply wA | apply wN | apply wD | refine bS ?_ GE253.out) | exact HB.out)⟩⟩
         case round =>
          clear H'
          try clear c1
          try clear c2
          try clear p2
          try clear c3
          try clear c5
          try clear p6
          try clear c7
          try clear c17
          try clear c17b0
          try clear c17b1
          try clear c21
          try clear c26
          try clear c28
          try clear hcz11_0
          try clear hcz11_1
          try clear hcz11_2
          try clear hcz14_0
          try clear hcz14_1
          try clear hcz14_2
          try clear hcz16_0
          try clear hcz16_1
          try clear hcz16_2
          try clear hfz11_0
          try clear hfz11_1
          try clear hfz11_2
          try clear hfz14_0
          try clear hfz14_1
          try clear hfz14_2
          try clear hfz16_0
          try clear hfz16_1
          try clear hfz16_2
          try clear p2
          try clear p6
          obtain ⟨x9_3, x10_3, rfl, rfl, HA, HK3, HO_4, HO_5, HO_7, HO_254002, BK253, HB⟩ := hrel
          cases gk with
          | zero => exact absurd HA.out (by simp [laws_FnDrained.l0])
          | succ k3 =>
           have H := HA.out
           clear HA
           simp only [laws_FnDrained.l0] at H
           by_cases c29 : x10_3 < (wrap64 (t248 * t249))
           ·rw [if_pos c29] at H
            have c29b0 : decide (x10_3 < (wrap64 (t248 * t249))) = true := decide_eq_true c29
            clear c29
            have HC30 := Aside0.mk H
            clear H
            go_upto_region 17 with (fail)
            repeat (go_quiet (fail); go_upto_region 17 with (fail))
            go_cut [112] (fun v112 wc => ∃ (kq : Nat) (x112_29 : Bool), v112 = .bool x112_29 ∧ Aside0 (laws_FnDrained.j3 kq t254 t257 (wrap64 (t248 * t249)) t261 x9_3 x10_3 x112_29 t248 t249 t250 = some r) ∧ Aside0 (kq ≤ k3) ∧ Aside0 (Kd.R (Kd.int .i64) 2 wc w.heap.size (fun k_ => some k_ ≠ ((.slice Ao24 t257.length co24) : Value).ownBlock ∧ some k_ ≠ (v263 : Value).ownBlock ∧ some k_ ≠ ((.slice Ao12 t250.length co12) : Value).ownBlock) v255 t254) ∧ Aside0 (Kd.R (Kd.int .i64) 2 wc w.heap.size (fun k_ => some k_ ≠ (v255 : Value).ownBlock ∧ some k_ ≠ (v263 : Value).ownBlock ∧ some k_ ≠ ((.slice Ao12 t250.length co12) : Value).ownBlock) (.slice Ao24 t257.length co24) t257) ∧ Aside0 (Kd.R (Kd.int .i64) 2 wc w.heap.size (fun k_ => some k_ ≠ (v255 : Value).ownBlock ∧ some k_ ≠ ((.slice Ao24 t257.length co24) : Value).ownBlock ∧ some k_ ≠ ((.slice Ao12 t250.length co12) : Value).ownBlock) v263 t261) ∧ Aside0 (Kd.Q (Kd.int .i64) 2 wc w.heap.size (fun k_ => some k_ ≠ (v255 : Value).ownBlock ∧ some k_ ≠ ((.slice Ao24 t257.length co24) : Value).ownBlock ∧ some k_ ≠ (v263 : Value).ownBlock) (.slice Ao12 t250.length co12) t250) ∧ Aside0 (wc.heap[gb253]? = some (.cells #[.int .i64 t248, .int .i64 t249, (.slice Ao12 t250.length co12)] 27 (0, 0))) ∧ Aside0 (Below w.heap.size w wc))
            case first =>
             have H := HC30.out
             clear HC30
             by_cases c31 : 0 ≤ x10_3
             ·rw [if_pos c31] at H
              have c31b0 : decide (0 ≤ x10_3) = true := decide_eq_true c31
              clear c31
              (first | rw [c31b0] | (simp only [i64_w, i32_w]; rw [c31b0]) | skip)
              by_cases c32 : x10_3 < (t257.length : Int)
              ·rw [if_pos c32] at H
               have c32b0 : decide (x10_3 < (t257.length : Int)) = true := decide_eq_true c32
               clear c32
               by_cases c33 : (rd t257 x10_3) < (-1)
               ·rw [if_pos c33] at H
                have c33b0 : decide ((rd t257 x10_3) < (-1)) = true := decide_eq_true c33
                clear c33
                have H' := Aside0.mk H
                clear H
                have p265 : 0 ≤ (x10_3 : Int) := of_decide_eq_true (by first | (with_reducible assumption) | assumption)
                have q265 : x10_3 < (t257.length : Int) := of_decide_eq_true (by first | (with_reducible assumption) | assumption)
                obtain ⟨ad265, e265, hx265_0⟩ := Kd.at_int (Kd.R_reads' HO_5.out).2.2 x10_3 p265 q265
                cases e265
                replace p265 := eq_true p265
                replace q265 := eq_true q265
                go_wp2
                repeat (go_quiet (fail); try go_wp2)
                go_meet
                case rel => exact ⟨_, (true), (by first | rfl | (simp; done) | (simp [*]; done)), H', ⟨by have := HJ7.out; have := HJ22.out; have := HK3.out; first | omega | exact Nat.le_refl _⟩, ⟨HO_4.out⟩, ⟨HO_5.out⟩, ⟨HO_7.out⟩, ⟨by (with_reducible repeat (first | apply Kd.Q_alloc | apply Kd.Q_drewN | apply Kd.Q_drew)); exact HO_254002.out⟩, ⟨by (with_reducible repeat (first | refine bN ?_ _ | refine bD ?_ | refine bA ?_ _)); exact BK253.out⟩, ⟨by repeat (first | (with_reducible first | exact HB.out | apply wA | apply wN | apply wD | refine bS ?_ GE253.out) | exact HB.out)⟩⟩
               ·rw [if_neg c33] at H
                have c33b0 : decide ((rd t257 x10_3) < (-1)) = false := decide_eq_false c33
                clear c33
                by_cases c34 : (rd t257 x10_3) ≥ (wrap64 (t248 * t249))
                ·rw [if_pos c34] at H
                 have c34b0 : decide ((wrap64 (t248 * t249)) ≤ (rd t257 x10_3)) = true := decide_eq_true c34
                 clear c34
                 have H' := Aside0.mk H
                 clear H
                 have p265 : 0 ≤ (x10_3 : Int) := of_decide_eq_true (by first | (with_reducible assumption) | assumption)
                 have q265 : x10_3 < (t257.length : Int) := of_decide_eq_true (by first | (with_reducible assumption) | assumption)
                 obtain ⟨ad265, e265, hx265_0⟩ := Kd.at_int (Kd.R_reads' HO_5.out).2.2 x10_3 p265 q265
                 cases e265
                 replace p265 := eq_true p265
                 replace q265 := eq_true q265
                 have p266 : 0 ≤ (x10_3 : Int) := of_decide_eq_true (by first | (with_reducible assumption) | assumption)
                 have q266 : x10_3 < (t257.length : Int) := of_decide_eq_true (by first | (with_reducible assumption) | assumption)
                 obtain ⟨ad266, e266, hx266_0⟩ := Kd.at_int (Kd.R_reads' HO_5.out).2.2 x10_3 p266 q266
                 obtain rfl : ad265 = ad266 := (by injection e266)
                 replace p266 := eq_true p266
                 replace q266 := eq_true q266
                 go_wp2
                 repeat (go_quiet (fail); try go_wp2)
                 go_meet
                 case rel => exact ⟨_, (true), (by first | rfl | (simp; done) | (simp [*]; done)), H', ⟨by have := HJ7.out; have := HJ22.out; have := HK3.out; first | omega | exact Nat.le_refl _⟩, ⟨HO_4.out⟩, ⟨HO_5.out⟩, ⟨HO_7.out⟩, ⟨by (with_reducible repeat (first | apply Kd.Q_alloc | apply Kd.Q_drewN | apply Kd.Q_drew)); exact HO_254002.out⟩, ⟨by (with_reducible repeat (first | refine bN ?_ _ | refine bD ?_ | refine bA ?_ _)); exact BK253.out⟩, ⟨by repeat (first | (with_reducible first | exact HB.out | apply wA | apply wN | apply wD | refine bS ?_ GE253.out) | exact HB.out)⟩⟩
                ·rw [if_neg c34] at H
                 have c34b0 : decide ((wrap64 (t248 * t249)) ≤ (rd t257 x10_3)) = false := decide_eq_false c34
                 clear c34
                 by_cases c35 : x10_3 < (t254.length : Int)
                 ·rw [if_pos c35] at H
                  have c35b0 : decide (x10_3 < (t254.length : Int)) = true := decide_eq_true c35
                  clear c35
                  by_cases c36 : x10_3 < (t250.length : Int)
                  ·rw [if_pos c36] at H
                   have c36b0 : decide (x10_3 < (t250.length : Int)) = true := decide_eq_true c36
                   clear c36
                   by_cases c37 : (rd t254 x10_3) < (rd t250 x10_3)
                   ·rw [if_pos c37] at H
                    have c37b0 : decide ((rd t254 x10_3) < (rd t250 x10_3)) = true := decide_eq_true c37
                    clear c37
                    have H' := Aside0.mk H
                    clear H
                    have p265 : 0 ≤ (x10_3 : Int) := of_decide_eq_true (by first | (with_reducible assumption) | assumption)
                    have q265 : x10_3 < (t257.length : Int) := of_decide_eq_true (by first | (with_reducible assumption) | assumption)
                    obtain ⟨ad265, e265, hx265_0⟩ := Kd.at_int (Kd.R_reads' HO_5.out).2.2 x10_3 p265 q265
                    cases e265
                    replace p265 := eq_true p265
                    replace q265 := eq_true q265
                    have p266 : 0 ≤ (x10_3 : Int) := of_decide_eq_true (by first | (with_reducible assumption) | assumption)
                    have q266 : x10_3 < (t257.length : Int) := of_decide_eq_true (by first | (with_reducible assumption) | assumption)
                    obtain ⟨ad266, e266, hx266_0⟩ := Kd.at_int (Kd.R_reads' HO_5.out).2.2 x10_3 p266 q266
                    obtain rfl : ad265 = ad266 := (by injection e266)
                    replace p266 := eq_true p266
                    replace q266 := eq_true q266
                    obtain ⟨Ao38, co38, eo38⟩ := Kd.R_slice HO_4.out
                    subst eo38
                    have p267 : 0 ≤ (x10_3 : Int) := of_decide_eq_true (by first | (with_reducible assumption) | assumption)
                    have q267 : x10_3 < (t254.length : Int) := of_decide_eq_true (by first | (with_reducible assumption) | assumption)
                    obtain ⟨ad267, e267, hx267_0⟩ := Kd.at_int (Kd.R_reads' HO_4.out).2.2 x10_3 p267 q267
                    cases e267
                    replace p267 := eq_true p267
                    replace q267 := eq_true q267
                    have hcz39_0 : wr.cell? ⟨gb253, 0, none⟩ = some (.int .i64 t248) := bC BK253.out 0 rfl
                    have hcz39_1 : wr.cell? ⟨gb253, 1, none⟩ = some (.int .i64 t249) := bC BK253.out 1 rfl
                    have hcz39_2 : wr.cell? ⟨gb253, 2, none⟩ = some (.slice Ao12 t250.length co12) := bC BK253.out 2 rfl
                    have hfz39_0 := blk_frozen BK253.out 0
                    have hfz39_1 := blk_frozen BK253.out 1
                    have hfz39_2 := blk_frozen BK253.out 2
                    have p268 : 0 ≤ (x10_3 : Int) := of_decide_eq_true (by first | (with_reducible assumption) | assumption)
                    have q268 : x10_3 < (t250.length : Int) := of_decide_eq_true (by first | (with_reducible assumption) | assumption)
                    obtain ⟨ad268, e268, hx268_0⟩ := Kd.at_int (Kd.Q_reads' HO_254002.out).2.2 x10_3 p268 q268
                    cases e268
                    replace p268 := eq_true p268
                    replace q268 := eq_true q268
                    go_wp2
                    repeat (go_quiet (fail); try go_wp2)
                    go_meet
                    case rel => exact ⟨_, (true), (by first | rfl | (simp; done) | (simp [*]; done)), H', ⟨by have := HJ7.out; have := HJ22.out; have := HK3.out; first | omega | exact Nat.le_refl _⟩, ⟨HO_4.out⟩, ⟨HO_5.out⟩, ⟨HO_7.out⟩, ⟨by (with_reducible repeat (first | apply Kd.Q_alloc | apply Kd.Q_drewN | apply Kd.Q_drew)); exact HO_254002.out⟩, ⟨by (with_reducible repeat (first | refine bN ?_ _ | refine bD ?_ | refine bA ?_ _)); exact BK253.out⟩, ⟨by repeat (first | (with_reducible first | exact HB.out | apply wA | apply wN | apply wD | refine bS ?_ GE253.out) | exact HB.out)⟩⟩
                   ·rw [if_neg c37] at H
                    have c37b0 : decide ((rd t254 x10_3) < (rd t250 x10_3)) = false := decide_eq_false c37
                    clear c37
                    by_cases c40 : (rd t257 x10_3) ≥ 0
                    ·rw [if_pos c40] at H
                     have c40b0 : decide (0 ≤ (rd t257 x10_3)) = true := decide_eq_true c40
                     clear c40
                     by_cases c41 : 0 ≤ (rd t257 x10_3)
                     ·rw [if_pos c41] at H
                      have c41b0 : decide (0 ≤ (rd t257 x10_3)) = true := decide_eq_true c41
                      clear c41
                      by_cases c42 : (rd t257 x10_3) < (t254.length : Int)
                      ·rw [if_pos c42] at H
                       have c42b0 : decide ((rd t257 x10_3) < (t254.length : Int)) = true := decide_eq_true c42
                       clear c42
                       have H' := Aside0.mk H
                       clear H
                       have p265 : 0 ≤ (x10_3 : Int) := of_decide_eq_true (by first | (with_reducible assumption) | assumption)
                       have q265 : x10_3 < (t257.length : Int) := of_decide_eq_true (by first | (with_reducible assumption) | assumption)
                       obtain ⟨ad265, e265, hx265_0⟩ := Kd.at_int (Kd.R_reads' HO_5.out).2.2 x10_3 p265 q265
                       cases e265
                       replace p265 := eq_true p265
                       replace q265 := eq_true q265
                       have p266 : 0 ≤ (x10_3 : Int) := of_decide_eq_true (by first | (with_reducible assumption) | assumption)
                       have q266 : x10_3 < (t257.length : Int) := of_decide_eq_true (by first | (with_reducible assumption) | assumption)
                       obtain ⟨ad266, e266, hx266_0⟩ := Kd.at_int (Kd.R_reads' HO_5.out).2.2 x10_3 p266 q266
                       obtain rfl : ad265 = ad266 := (by injection e266)
                       replace p266 := eq_true p266
                       replace q266 := eq_true q266
                       obtain ⟨Ao43, co43, eo43⟩ := Kd.R_slice HO_4.out
                       subst eo43
                       have p267 : 0 ≤ (x10_3 : Int) := of_decide_eq_true (by first | (with_reducible assumption) | assumption)
                       have q267 : x10_3 < (t254.length : Int) := of_decide_eq_true (by first | (with_reducible assumption) | assumption)
                       obtain ⟨ad267, e267, hx267_0⟩ := Kd.at_int (Kd.R_reads' HO_4.out).2.2 x10_3 p267 q267
                       cases e267
                       replace p267 := eq_true p267
                       replace q267 := eq_true q267
                       have hcz44_0 : wr.cell? ⟨gb253, 0, none⟩ = some (.int .i64 t248) := bC BK253.out 0 rfl
                       have hcz44_1 : wr.cell? ⟨gb253, 1, none⟩ = some (.int .i64 t249) := bC BK253.out 1 rfl
                       have hcz44_2 : wr.cell? ⟨gb253, 2, none⟩ = some (.slice Ao12 t250.length co12) := bC BK253.out 2 rfl
                       have hfz44_0 := blk_frozen BK253.out 0
                       have hfz44_1 := blk_frozen BK253.out 1
                       have hfz44_2 := blk_frozen BK253.out 2
                       have p268 : 0 ≤ (x10_3 : Int) := of_decide_eq_true (by first | (with_reducible assumption) | assumption)
                       have q268 : x10_3 < (t250.length : Int) := of_decide_eq_true (by first | (with_reducible assumption) | assumption)
                       obtain ⟨ad268, e268, hx268_0⟩ := Kd.at_int (Kd.Q_reads' HO_254002.out).2.2 x10_3 p268 q268
                       cases e268
                       replace p268 := eq_true p268
                       replace q268 := eq_true q268
                       have p269 : 0 ≤ (x10_3 : Int) := of_decide_eq_true (by first | (with_reducible assumption) | assumption)
                       have q269 : x10_3 < (t257.length : Int) := of_decide_eq_true (by first | (with_reducible assumption) | assumption)
                       obtain ⟨ad269, e269, hx269_0⟩ := Kd.at_int (Kd.R_reads' HO_5.out).2.2 x10_3 p269 q269
                       obtain rfl : ad265 = ad269 := (by injection e269)
                       replace p269 := eq_true p269
                       replace q269 := eq_true q269
                       have p270 : 0 ≤ (x10_3 : Int) := of_decide_eq_true (by first | (with_reducible assumption) | assumption)
                       have q270 : x10_3 < (t257.length : Int) := of_decide_eq_true (by first | (with_reducible assumption) | assumption)
                       obtain ⟨ad270, e270, hx270_0⟩ := Kd.at_int (Kd.R_reads' HO_5.out).2.2 x10_3 p270 q270
                       obtain rfl : ad265 = ad270 := (by injection e270)
                       replace p270 := eq_true p270
                       replace q270 := eq_true q270
                       have p271 : 0 ≤ ((rd t257 x10_3) : Int) := of_decide_eq_true (by first | (with_reducible assumption) | assumption)
                       have q271 : (rd t257 x10_3) < (t254.length : Int) := of_decide_eq_true (by first | (with_reducible assumption) | assumption)
                       obtain ⟨ad271, e271, hx271_0⟩ := Kd.at_int (Kd.R_reads' HO_4.out).2.2 (rd t257 x10_3) p271 q271
                       obtain rfl : ad267 = ad271 := (by injection e271)
                       replace p271 := eq_true p271
                       replace q271 := eq_true q271
                       have p272 : 0 ≤ (x10_3 : Int) := of_decide_eq_true (by first | (with_reducible assumption) | assumption)
                       have q272 : x10_3 < (t254.length : Int) := of_decide_eq_true (by first | (with_reducible assumption) | assumption)
                       obtain ⟨ad272, e272, hx272_0⟩ := Kd.at_int (Kd.R_reads' HO_4.out).2.2 x10_3 p272 q272
                       obtain rfl : ad267 = ad272 := (by injection e272)
                       replace p272 := eq_true p272
                       replace q272 := eq_true q272
                       go_wp2
                       repeat (go_quiet (fail); try go_wp2)
                       go_meet
                       case rel => exact ⟨_, (decide ((rd t254 (rd t257 x10_3)) > (rd t254 x10_3))), (by first | rfl | (simp; done) | (simp [*]; done)), H', ⟨by have := HJ7.out; have := HJ22.out; have := HK3.out; first | omega | exact Nat.le_refl _⟩, ⟨HO_4.out⟩, ⟨HO_5.out⟩, ⟨HO_7.out⟩, ⟨by (with_reducible repeat (first | apply Kd.Q_alloc | apply Kd.Q_drewN | apply Kd.Q_drew)); exact HO_254002.out⟩, ⟨by (with_reducible repeat (first | refine bN ?_ _ | refine bD ?_ | refine bA ?_ _)); exact BK253.out⟩, ⟨by repeat (first | (with_reducible first | exact HB.out | apply wA | apply wN | apply wD | refine bS ?_ GE253.out) | exact HB.out)⟩⟩
                      ·rw [if_neg c42] at H
                       exact absurd H (by simp)
                     ·rw [if_neg c41] at H
                      exact absurd H (by simp)
                    ·rw [if_neg c40] at H
                     have c40b0 : decide (0 ≤ (rd t257 x10_3)) = false := decide_eq_false c40
                     clear c40
                     have H' := Aside0.mk H
                     clear H
                     have p265 : 0 ≤ (x10_3 : Int) := of_decide_eq_true (by first | (with_reducible assumption) | assumption)
                     have q265 : x10_3 < (t257.length : Int) := of_decide_eq_true (by first | (with_reducible assumption) | assumption)
                     obtain ⟨ad265, e265, hx265_0⟩ := Kd.at_int (Kd.R_reads' HO_5.out).2.2 x10_3 p265 q265
                     cases e265
                     replace p265 := eq_true p265
                     replace q265 := eq_true q265
                     have p266 : 0 ≤ (x10_3 : Int) := of_decide_eq_true (by first | (with_reducible assumption) | assumption)
                     have q266 : x10_3 < (t257.length : Int) := of_decide_eq_true (by first | (with_reducible assumption) | assumption)
                     obtain ⟨ad266, e266, hx266_0⟩ := Kd.at_int (Kd.R_reads' HO_5.out).2.2 x10_3 p266 q266
                     obtain rfl : ad265 = ad266 := (by injection e266)
                     replace p266 := eq_true p266
                     replace q266 := eq_true q266
                     obtain ⟨Ao45, co45, eo45⟩ := Kd.R_slice HO_4.out
                     subst eo45
                     have p267 : 0 ≤ (x10_3 : Int) := of_decide_eq_true (by first | (with_reducible assumption) | assumption)
                     have q267 : x10_3 < (t254.length : Int) := of_decide_eq_true (by first | (with_reducible assumption) | assumption)
                     obtain ⟨ad267, e267, hx267_0⟩ := Kd.at_int (Kd.R_reads' HO_4.out).2.2 x10_3 p267 q267
                     cases e267
                     replace p267 := eq_true p267
                     replace q267 := eq_true q267
                     have hcz46_0 : wr.cell? ⟨gb253, 0, none⟩ = some (.int .i64 t248) := bC BK253.out 0 rfl
                     have hcz46_1 : wr.cell? ⟨gb253, 1, none⟩ = some (.int .i64 t249) := bC BK253.out 1 rfl
                     have hcz46_2 : wr.cell? ⟨gb253, 2, none⟩ = some (.slice Ao12 t250.length co12) := bC BK253.out 2 rfl
                     have hfz46_0 := blk_frozen BK253.out 0
                     have hfz46_1 := blk_frozen BK253.out 1
                     have hfz46_2 := blk_frozen BK253.out 2
                     have p268 : 0 ≤ (x10_3 : Int) := of_decide_eq_true (by first | (with_reducible assumption) | assumption)
                     have q268 : x10_3 < (t250.length : Int) := of_decide_eq_true (by first | (with_reducible assumption) | assumption)
                     obtain ⟨ad268, e268, hx268_0⟩ := Kd.at_int (Kd.Q_reads' HO_254002.out).2.2 x10_3 p268 q268
                     cases e268
                     replace p268 := eq_true p268
                     replace q268 := eq_true q268
                     have p269 : 0 ≤ (x10_3 : Int) := of_decide_eq_true (by first | (with_reducible assumption) | assumption)
                     have q269 : x10_3 < (t257.length : Int) := of_decide_eq_true (by first | (with_reducible assumption) | assumption)
                     obtain ⟨ad269, e269, hx269_0⟩ := Kd.at_int (Kd.R_reads' HO_5.out).2.2 x10_3 p269 q269
                     obtain rfl : ad265 = ad269 := (by injection e269)
                     replace p269 := eq_true p269
                     replace q269 := eq_true q269
                     go_wp2
                     repeat (go_quiet (fail); try go_wp2)
                     go_meet
                     case rel => exact ⟨_, (false), (by first | rfl | (simp; done) | (simp [*]; done)), H', ⟨by have := HJ7.out; have := HJ22.out; have := HK3.out; first | omega | exact Nat.le_refl _⟩, ⟨HO_4.out⟩, ⟨HO_5.out⟩, ⟨HO_7.out⟩, ⟨by (with_reducible repeat (first | apply Kd.Q_alloc | apply Kd.Q_drewN | apply Kd.Q_drew)); exact HO_254002.out⟩, ⟨by (with_reducible repeat (first | refine bN ?_ _ | refine bD ?_ | refine bA ?_ _)); exact BK253.out⟩, ⟨by repeat (first | (with_reducible first | exact HB.out | apply wA | apply wN | apply wD | refine bS ?_ GE253.out) | exact HB.out)⟩⟩
                  ·rw [if_neg c36] at H
                   exact absurd H (by simp)
                 ·rw [if_neg c35] at H
                  exact absurd H (by simp)
              ·rw [if_neg c32] at H
               exact absurd H (by simp)
             ·rw [if_neg c31] at H
              exact absurd H (by simp)
            case rest =>
             clear HC30
             try clear c1
             try clear c2
             try clear p2
             try clear q2
             try clear hx2
             try clear c3
             try clear c4
             try clear c5
             try clear p6
             try clear c7
             try clear c17
             try clear c17b0
             try clear c17b1
             try clear c21
             try clear c26
             try clear p26
             try clear q26
             try clear hx26
             try clear p27
             try clear q27
             try clear hx27
             try clear c28
             try clear c29
             try clear c29b0
             try clear c31
             try clear c31b0
             try clear c32
             try clear c32b0
             try clear c33
             try clear c33b0
             try clear c34
             try clear c34b0
             try clear c35
             try clear c35b0
             try clear c36
             try clear c36b0
             try clear c37
             try clear c37b0
             try clear c40
             try clear c40b0
             try clear c41
             try clear c41b0
             try clear c42
             try clear c42b0
             try clear hcz11_0
             try clear hcz11_1
             try clear hcz11_2
             try clear hcz14_0
             try clear hcz14_1
             try clear hcz14_2
             try clear hcz16_0
             try clear hcz16_1
             try clear hcz16_2
             try clear hcz39_0
             try clear hcz39_1
             try clear hcz39_2
             try clear hcz44_0
             try clear hcz44_1
             try clear hcz44_2
             try clear hcz46_0
             try clear hcz46_1
             try clear hcz46_2
             try clear hfz11_0
             try clear hfz11_1
             try clear hfz11_2
             try clear hfz14_0
             try clear hfz14_1
             try clear hfz14_2
             try clear hfz16_0
             try clear hfz16_1
             try clear hfz16_2
             try clear hfz39_0
             try clear hfz39_1
             try clear hfz39_2
             try clear hfz44_0
             try clear hfz44_1
             try clear hfz44_2
             try clear hfz46_0
             try clear hfz46_1
             try clear hfz46_2
             try clear hx265_0
             try clear hx266_0
             try clear hx267_0
             try clear hx268_0
             try clear hx269_0
             try clear hx270_0
             try clear hx271_0
             try clear hx272_0
             try clear p2
             try clear p265
             try clear p266
             try clear p267
             try clear p268
             try clear p269
             try clear p270
             try clear p271
             try clear p272
             try clear p6
             try clear q265
             try clear q266
             try clear q267
             try clear q268
             try clear q269
             try clear q270
             try clear q271
             try clear q272
             obtain ⟨kq, x112_29, rfl, HA, HJ29, HO_4, HO_5, HO_7, HO_254002, BK253, HB⟩ := hcut
             cases kq with
             | zero => exact absurd HA.out (by simp [laws_FnDrained.j3])
             | succ kj29 =>
              have H := HA.out
              clear HA
              simp only [laws_FnDrained.j3] at H
              by_cases c47 : x112_29 = true
              ·subst c47
               have H1 : (some false) = some r := by rw [if_pos rfl] at H; exact H
               clear H
               have H := H1
               clear H1
               obtain rfl := Option.some.inj H
               go_wp2
               repeat (go_quiet (fail); try go_wp2)
               go_ret
               exact ⟨by first | rfl | (simp [errW_none, errW_some] <;> rfl) | (simp [*, errW_none, errW_some] <;> rfl), by repeat (first | (with_reducible first | exact HB.out | apply wA | apply wN | apply wD | refine bS ?_ GE253.out) | exact HB.out)⟩
              ·replace c47 := Bool.eq_false_iff.mpr c47
               subst c47
               have H1 : (if 0 ≤ x10_3 then (if x10_3 < (t257.length : Int) then (if (rd t257 x10_3) = (-1) then (if x10_3 < (t261.length : Int) then (if t249 = 0 then (none) else (if (wrap64 (Int.tdiv x10_3 t249)) > 0 then (if (wrap64 (Int.tdiv x10_3 t249)) < (wrap64 (t248 - 1)) then (if (Int.tmod x10_3 t249) > 0 then (laws_FnDrained.j4 kj29 t254 t257 (wrap64 (t248 * t249)) t261 (wrap64 (x9_3 + (rd t261 x10_3))) x10_3 (decide ((Int.tmod x10_3 t249) < (wrap64 (t249 - 1)))) t248 t249 t250) else (laws_FnDrained.j4 kj29 t254 t257 (wrap64 (t248 * t249)) t261 (wrap64 (x9_3 + (rd t261 x10_3))) x10_3 false t248 t249 t250)) else (laws_FnDrained.j4 kj29 t254 t257 (wrap64 (t248 * t249)) t261 (wrap64 (x9_3 + (rd t261 x10_3))) x10_3 false t248 t249 t250)) else (laws_FnDrained.j4 kj29 t254 t257 (wrap64 (t248 * t249)) t261 (wrap64 (x9_3 + (rd t261 x10_3))) x10_3 false t248 t249 t250))) else (none)) else ((impl_OutletOf.f kj29 t257 x10_3).bind fun t277 => (if t277 < 0 then (some false) else (if t277 ≥ (wrap64 (t248 * t249)) then (some false) else (if 0 ≤ t277 then (if t277 < (t257.length : Int) then (if (rd t257 t277) = (-1) then (laws_FnDrained.l0 kj29 t254 t257 (wrap64 (t248 * t249)) t261 x9_3 (wrap64 (x10_3 + 1)) t248 t249 t250) else (some false)) else (none)) else (none)))))) else (none)) else (none)) = some r := by rw [if_neg (show ¬ (false = true) by decide)] at H; exact H
               clear H
               have H := H1
               clear H1
               by_cases c48 : 0 ≤ x10_3
               ·rw [if_pos c48] at H
                have c48b0 : decide (0 ≤ x10_3) = true := decide_eq_true c48
                clear c48
                by_cases c49 : x10_3 < (t257.length : Int)
                ·rw [if_pos c49] at H
                 have c49b0 : decide (x10_3 < (t257.length : Int)) = true := decide_eq_true c49
                 clear c49
                 by_cases c50 : (rd t257 x10_3) = (-1)
                 ·rw [if_pos c50] at H
                  have c50b0 : ((rd t257 x10_3) == (-1)) = true := beq_iff_eq.mpr c50
                  have c50b1 : ((rd t257 x10_3) != (-1)) = false := bne_eq_false_iff_eq.mpr c50
                  clear c50
                  by_cases c51 : x10_3 < (t261.length : Int)
                  ·rw [if_pos c51] at H
                   have c51b0 : decide (x10_3 < (t261.length : Int)) = true := decide_eq_true c51
                   clear c51
                   by_cases c52 : t249 = 0
                   ·rw [if_pos c52] at H
                    exact absurd H (by simp)
                   ·rw [if_neg c52] at H
                    have c52b0 : (t249 == 0) = false := beq_eq_false_iff_ne.mpr c52
                    have c52b1 : (t249 != 0) = true := bne_iff_ne.mpr c52
                    have HC53 := Aside0.mk H
                    clear H
                    have p273 : 0 ≤ (x10_3 : Int) := of_decide_eq_true (by first | (with_reducible assumption) | assumption)
                    have q273 : x10_3 < (t257.length : Int) := of_decide_eq_true (by first | (with_reducible assumption) | assumption)
                    obtain ⟨ad273, e273, hx273_0⟩ := Kd.at_int (Kd.R_reads' HO_5.out).2.2 x10_3 p273 q273
                    cases e273
                    replace p273 := eq_true p273
                    replace q273 := eq_true q273
                    obtain ⟨Ao54, co54, eo54⟩ := Kd.R_slice HO_7.out
                    subst eo54
                    have p274 : 0 ≤ (x10_3 : Int) := of_decide_eq_true (by first | (with_reducible assumption) | assumption)
                    have q274 : x10_3 < (t261.length : Int) := of_decide_eq_true (by first | (with_reducible assumption) | assumption)
                    obtain ⟨ad274, e274, hx274_0⟩ := Kd.at_int (Kd.R_reads' HO_7.out).2.2 x10_3 p274 q274
                    cases e274
                    replace p274 := eq_true p274
                    replace q274 := eq_true q274
                    have hcz55_0 : wc.cell? ⟨gb253, 0, none⟩ = some (.int .i64 t248) := bC BK253.out 0 rfl
                    have hcz55_1 : wc.cell? ⟨gb253, 1, none⟩ = some (.int .i64 t249) := bC BK253.out 1 rfl
                    have hcz55_2 : wc.cell? ⟨gb253, 2, none⟩ = some (.slice Ao12 t250.length co12) := bC BK253.out 2 rfl
                    have hfz55_0 := blk_frozen BK253.out 0
                    have hfz55_1 := blk_frozen BK253.out 1
                    have hfz55_2 := blk_frozen BK253.out 2
                    go_upto_region 23 with (fail)
                    repeat (go_quiet (fail); go_upto_region 23 with (fail))
                    go_cut [151] (fun v151 wc => ∃ (kq : Nat) (x151_52 : Bool), v151 = .bool x151_52 ∧ Aside0 (laws_FnDrained.j4 kq t254 t257 (wrap64 (t248 * t249)) t261 (wrap64 (x9_3 + (rd t261 x10_3))) x10_3 x151_52 t248 t249 t250 = some r) ∧ Aside0 (kq ≤ kj29) ∧ Aside0 (Kd.R (Kd.int .i64) 2 wc w.heap.size (fun k_ => some k_ ≠ ((.slice (some ad273) t257.length co24) : Value).ownBlock ∧ some k_ ≠ ((.slice (some ad274) t261.length co54) : Value).ownBlock ∧ some k_ ≠ ((.slice Ao12 t250.length co12) : Value).ownBlock) v255 t254) ∧ Aside0 (Kd.R (Kd.int .i64) 2 wc w.heap.size (fun k_ => some k_ ≠ (v255 : Value).ownBlock ∧ some k_ ≠ ((.slice (some ad274) t261.length co54) : Value).ownBlock ∧ some k_ ≠ ((.slice Ao12 t250.length co12) : Value).ownBlock) (.slice (some ad273) t257.length co24) t257) ∧ Aside0 (Kd.R (Kd.int .i64) 2 wc w.heap.size (fun k_ => some k_ ≠ (v255 : Value).ownBlock ∧ some k_ ≠ ((.slice (some ad273) t257.length co24) : Value).ownBlock ∧ some k_ ≠ ((.slice Ao12 t250.length co12) : Value).ownBlock) (.slice (some ad274) t261.length co54) t261) ∧ Aside0 (Kd.Q (Kd.int .i64) 2 wc w.heap.size (fun k_ => some k_ ≠ (v255 : Value).ownBlock ∧ some k_ ≠ ((.slice (some ad273) t257.length co24) : Value).ownBlock ∧ some k_ ≠ ((.slice (some ad274) t261.length co54) : Value).ownBlock) (.slice Ao12 t250.length co12) t250) ∧ Aside0 (wc.heap[gb253]? = some (.cells #[.int .i64 t248, .int .i64 t249, (.slice Ao12 t250.length co12)] 27 (0, 0))) ∧ Aside0 (Below w.heap.size w wc))
                    case first =>
                     have H := HC53.out
                     clear HC53
                     by_cases c56 : (wrap64 (Int.tdiv x10_3 t249)) > 0
                     ·rw [if_pos c56] at H
                      have c56b0 : decide (0 < (wrap64 (Int.tdiv x10_3 t249))) = true := decide_eq_true c56
                      clear c56
                      (first | rw [c56b0] | (simp only [i64_w, i32_w]; rw [c56b0]) | skip)
                      by_cases c57 : (wrap64 (Int.tdiv x10_3 t249)) < (wrap64 (t248 - 1))
                      ·rw [if_pos c57] at H
                       have c57b0 : decide ((wrap64 (Int.tdiv x10_3 t249)) < (wrap64 (t248 - 1))) = true := decide_eq_true c57
                       clear c57
                       by_cases c58 : (Int.tmod x10_3 t249) > 0
                       ·rw [if_pos c58] at H
                        have c58b0 : decide (0 < (Int.tmod x10_3 t249)) = true := decide_eq_true c58
                        clear c58
                        have H' := Aside0.mk H
                        clear H
                        have hcz59_0 : wc.cell? ⟨gb253, 0, none⟩ = some (.int .i64 t248) := bC BK253.out 0 rfl
                        have hcz59_1 : wc.cell? ⟨gb253, 1, none⟩ = some (.int .i64 t249) := bC BK253.out 1 rfl
                        have hcz59_2 : wc.cell? ⟨gb253, 2, none⟩ = some (.slice Ao12 t250.length co12) := bC BK253.out 2 rfl
                        have hfz59_0 := blk_frozen BK253.out 0
                        have hfz59_1 := blk_frozen BK253.out 1
                        have hfz59_2 := blk_frozen BK253.out 2
                        go_wp2
                        repeat (go_quiet (fail); try go_wp2)
                        go_meet
                        case rel => exact ⟨_, (decide ((Int.tmod x10_3 t249) < (wrap64 (t249 - 1)))), (by first | rfl | (simp; done) | (simp [*]; done)), H', ⟨by have := HJ7.out; have := HJ22.out; have := HK3.out; have := HJ29.out; first | omega | exact Nat.le_refl _⟩, ⟨HO_4.out⟩, ⟨HO_5.out⟩, ⟨HO_7.out⟩, ⟨by (with_reducible repeat (first | apply Kd.Q_alloc | apply Kd.Q_drewN | apply Kd.Q_drew)); exact HO_254002.out⟩, ⟨by (with_reducible repeat (first | refine bN ?_ _ | refine bD ?_ | refine bA ?_ _)); exact BK253.out⟩, ⟨by repeat (first | (with_reducible first | exact HB.out | apply wA | apply wN | apply wD | refine bS ?_ GE253.out) | exact HB.out)⟩⟩
                       ·rw [if_neg c58] at H
                        have c58b0 : decide (0 < (Int.tmod x10_3 t249)) = false := decide_eq_false c58
                        clear c58
                        have H' := Aside0.mk H
                        clear H
                        have hcz60_0 : wc.cell? ⟨gb253, 0, none⟩ = some (.int .i64 t248) := bC BK253.out 0 rfl
                        have hcz60_1 : wc.cell? ⟨gb253, 1, none⟩ = some (.int .i64 t249) := bC BK253.out 1 rfl
                        have hcz60_2 : wc.cell? ⟨gb253, 2, none⟩ = some (.slice Ao12 t250.length co12) := bC BK253.out 2 rfl
                        have hfz60_0 := blk_frozen BK253.out 0
                        have hfz60_1 := blk_frozen BK253.out 1
                        have hfz60_2 := blk_frozen BK253.out 2
                        go_wp2
                        repeat (go_quiet (fail); try go_wp2)
                        go_meet
                        case rel => exact ⟨_, (false), (by first | rfl | (simp; done) | (simp [*]; done)), H', ⟨by have := HJ7.out; have := HJ22.out; have := HK3.out; have := HJ29.out; first | omega | exact Nat.le_refl _⟩, ⟨HO_4.out⟩, ⟨HO_5.out⟩, ⟨HO_7.out⟩, ⟨by (with_reducible repeat (first | apply Kd.Q_alloc | apply Kd.Q_drewN | apply Kd.Q_drew)); exact HO_254002.out⟩, ⟨by (with_reducible repeat (first | refine bN ?_ _ | refine bD ?_ | refine bA ?_ _)); exact BK253.out⟩, ⟨by repeat (first | (with_reducible first | exact HB.out | apply wA | apply wN | apply wD | refine bS ?_ GE253.out) | exact HB.out)⟩⟩
                      ·rw [if_neg c57] at H
                       have c57b0 : decide ((wrap64 (Int.tdiv x10_3 t249)) < (wrap64 (t248 - 1))) = false := decide_eq_false c57
                       clear c57
                       have H' := Aside0.mk H
                       clear H
                       have hcz61_0 : wc.cell? ⟨gb253, 0, none⟩ = some (.int .i64 t248) := bC BK253.out 0 rfl
                       have hcz61_1 : wc.cell? ⟨gb253, 1, none⟩ = some (.int .i64 t249) := bC BK253.out 1 rfl
                       have hcz61_2 : wc.cell? ⟨gb253, 2, none⟩ = some (.slice Ao12 t250.length co12) := bC BK253.out 2 rfl
                       have hfz61_0 := blk_frozen BK253.out 0
                       have hfz61_1 := blk_frozen BK253.out 1
                       have hfz61_2 := blk_frozen BK253.out 2
                       go_wp2
                       repeat (go_quiet (fail); try go_wp2)
                       go_meet
                       case rel => exact ⟨_, (false), (by first | rfl | (simp; done) | (simp [*]; done)), H', ⟨by have := HJ7.out; have := HJ22.out; have := HK3.out; have := HJ29.out; first | omega | exact Nat.le_refl _⟩, ⟨HO_4.out⟩, ⟨HO_5.out⟩, ⟨HO_7.out⟩, ⟨by (with_reducible repeat (first | apply Kd.Q_alloc | apply Kd.Q_drewN | apply Kd.Q_drew)); exact HO_254002.out⟩, ⟨by (with_reducible repeat (first | refine bN ?_ _ | refine bD ?_ | refine bA ?_ _)); exact BK253.out⟩, ⟨by repeat (first | (with_reducible first | exact HB.out | apply wA | apply wN | apply wD | refine bS ?_ GE253.out) | exact HB.out)⟩⟩
                     ·rw [if_neg c56] at H
                      have c56b0 : decide (0 < (wrap64 (Int.tdiv x10_3 t249))) = false := decide_eq_false c56
                      clear c56
                      (first | rw [c56b0] | (simp only [i64_w, i32_w]; rw [c56b0]) | skip)
                      have H' := Aside0.mk H
                      clear H
                      go_wp2
                      repeat (go_quiet (fail); try go_wp2)
                      go_meet
                      case rel => exact ⟨_, (false), (by first | rfl | (simp; done) | (simp [*]; done)), H', ⟨by have := HJ7.out; have := HJ22.out; have := HK3.out; have := HJ29.out; first | omega | exact Nat.le_refl _⟩, ⟨HO_4.out⟩, ⟨HO_5.out⟩, ⟨HO_7.out⟩, ⟨by (with_reducible repeat (first | apply Kd.Q_alloc | apply Kd.Q_drewN | apply Kd.Q_drew)); exact HO_254002.out⟩, ⟨by (with_reducible repeat (first | refine bN ?_ _ | refine bD ?_ | refine bA ?_ _)); exact BK253.out⟩, ⟨by repeat (first | (with_reducible first | exact HB.out | apply wA | apply wN | apply wD | refine bS ?_ GE253.out) | exact HB.out)⟩⟩
                    case rest =>
                     clear HC53
                     try clear c1
                     try clear c2
                     try clear p2
                     try clear q2
                     try clear hx2
                     try clear c3
                     try clear c4
                     try clear c5
                     try clear p6
                     try clear c7
                     try clear c17
                     try clear c17b0
                     try clear c17b1
                     try clear c21
                     try clear c26
                     try clear p26
                     try clear q26
                     try clear hx26
                     try clear p27
                     try clear q27
                     try clear hx27
                     try clear c28
                     try clear c29
                     try clear c29b0
                     try clear c31
                     try clear c31b0
                     try clear c32
                     try clear c32b0
                     try clear c33
                     try clear c33b0
                     try clear c34
                     try clear c34b0
                     try clear c35
                     try clear c35b0
                     try clear c36
                     try clear c36b0
                     try clear c37
                     try clear c37b0
                     try clear c40
                     try clear c40b0
                     try clear c41
                     try clear c41b0
                     try clear c42
                     try clear c42b0
                     try clear c47
                     try clear c48
                     try clear c48b0
                     try clear c49
                     try clear c49b0
                     try clear c50
                     try clear c50b0
                     try clear c50b1
                     try clear c51
                     try clear c51b0
                     try clear c52
                     try clear c52b0
                     try clear c52b1
                     try clear c56
                     try clear c56b0
                     try clear c57
                     try clear c57b0
                     try clear c58
                     try clear c58b0
                     try clear hcz11_0
                     try clear hcz11_1
                     try clear hcz11_2
                     try clear hcz14_0
                     try clear hcz14_1
                     try clear hcz14_2
                     try clear hcz16_0
                     try clear hcz16_1
                     try clear hcz16_2
                     try clear hcz39_0
                     try clear hcz39_1
                     try clear hcz39_2
                     try clear hcz44_0
                     try clear hcz44_1
                     try clear hcz44_2
                     try clear hcz46_0
                     try clear hcz46_1
                     try clear hcz46_2
                     try clear hcz55_0
                     try clear hcz55_1
                     try clear hcz55_2
                     try clear hcz59_0
                     try clear hcz59_1
                     try clear hcz59_2
                     try clear hcz60_0
                     try clear hcz60_1
                     try clear hcz60_2
                     try clear hcz61_0
                     try clear hcz61_1
                     try clear hcz61_2
                     try clear hfz11_0
                     try clear hfz11_1
                     try clear hfz11_2
                     try clear hfz14_0
                     try clear hfz14_1
                     try clear hfz14_2
                     try clear hfz16_0
                     try clear hfz16_1
                     try clear hfz16_2
                     try clear hfz39_0
                     try clear hfz39_1
                     try clear hfz39_2
                     try clear hfz44_0
                     try clear hfz44_1
                     try clear hfz44_2
                     try clear hfz46_0
                     try clear hfz46_1
                     try clear hfz46_2
                     try clear hfz55_0
                     try clear hfz55_1
                     try clear hfz55_2
                     try clear hfz59_0
                     try clear hfz59_1
                     try clear hfz59_2
                     try clear hfz60_0
                     try clear hfz60_1
                     try clear hfz60_2
                     try clear hfz61_0
                     try clear hfz61_1
                     try clear hfz61_2
                     try clear hx265_0
                     try clear hx266_0
                     try clear hx267_0
                     try clear hx268_0
                     try clear hx269_0
                     try clear hx270_0
                     try clear hx271_0
                     try clear hx272_0
                     try clear hx273_0
                     try clear hx274_0
                     try clear p2
                     try clear p26
                     try clear p265
                     try clear p266
                     try clear p267
                     try clear p268
                     try clear p269
                     try clear p27
                     try clear p270
                     try clear p271
                     try clear p272
                     try clear p273
                     try clear p274
                     try clear p6
                     try clear q2
                     try clear q26
                     try clear q265
                     try clear q266
                     try clear q267
                     try clear q268
                     try clear q269
                     try clear q27
                     try clear q270
                     try clear q271
                     try clear q272
                     try clear q273
                     try clear q274
                     obtain ⟨kq, x151_52, rfl, HA, HJ52, HO_4, HO_5, HO_7, HO_254002, BK253, HB⟩ := hcut
                     cases kq with
                     | zero => exact absurd HA.out (by simp [laws_FnDrained.j4])
                     | succ kj52 =>
                      have H := HA.out
                      clear HA
                      simp only [laws_FnDrained.j4] at H
                      by_cases c62 : x151_52 = true
                      ·subst c62
                       have H1 : (some false) = some r := by rw [if_pos rfl] at H; exact H
                       clear H
                       have H := H1
                       clear H1
                       obtain rfl := Option.some.inj H
                       go_wp2
                       repeat (go_quiet (fail); try go_wp2)
                       go_ret
                       exact ⟨by first | rfl | (simp [errW_none, errW_some] <;> rfl) | (simp [*, errW_none, errW_some] <;> rfl), by repeat (first | (with_reducible first | exact HB.out | apply wA | apply wN | apply wD | refine bS ?_ GE253.out) | exact HB.out)⟩
                      ·replace c62 := Bool.eq_false_iff.mpr c62
                       subst c62
                       have H1 : ((impl_OutletOf.f kj52 t257 x10_3).bind fun t275 => (if t275 < 0 then (some false) else (if t275 ≥ (wrap64 (t248 * t249)) then (some false) else (if 0 ≤ t275 then (if t275 < (t257.length : Int) then (if (rd t257 t275) = (-1) then (laws_FnDrained.l0 kj52 t254 t257 (wrap64 (t248 * t249)) t261 (wrap64 (x9_3 + (rd t261 x10_3))) (wrap64 (x10_3 + 1)) t248 t249 t250) else (some false)) else (none)) else (none))))) = some r := by rw [if_neg (show ¬ (false = true) by decide)] at H; exact H
                       clear H
                       have H := H1
                       clear H1
                       replace H := Option.bind_eq_some_iff.mp H
                       obtain ⟨t275, A630, H⟩ := H
                       replace H : (if t275 < 0 then (some false) else (if t275 ≥ (wrap64 (t248 * t249)) then (some false) else (if 0 ≤ t275 then (if t275 < (t257.length : Int) then (if (rd t257 t275) = (-1) then (laws_FnDrained.l0 kj52 t254 t257 (wrap64 (t248 * t249)) t261 (wrap64 (x9_3 + (rd t261 x10_3))) (wrap64 (x10_3 + 1)) t248 t249 t250) else (some false)) else (none)) else (none)))) = some r := H
                       have A63 := Aside0.mk A630
                       clear A630
                       by_cases c64 : t275 < 0
                       ·rw [if_pos c64] at H
                        have c64b0 : decide (t275 < 0) = true := decide_eq_true c64
                        clear c64
                        obtain rfl := Option.some.inj H
                        go_wp2_with (first | (go_at_call 23; (with_reducible refine (impl_OutletOf.calls kj52 _ _ t257 x10_3 t275 _ ?side1 ?side2 A63.out).mono ?_); (case side1 => repeat (first | exact (Kd.R_reads' HO_5.out).2.2 | (with_reducible refine Kd.C_alloc ?_ _) | (with_reducible refine Kd.C_drewN ?_ _) | (with_reducible refine Kd.C_drew ?_))); (case side2 => exact (Kd.R_reads' HO_5.out).2.1); rintro e w65 ⟨rfl, hb⟩; have n0_ := Aside0.mk (Kd.R_below HO_4.out hb); have n1_ := Aside0.mk (Kd.R_below HO_5.out hb); have n2_ := Aside0.mk (Kd.R_below HO_7.out hb); have n3_ := Aside0.mk (Kd.Q_below (by (with_reducible repeat (first | apply Kd.Q_alloc | apply Kd.Q_drewN | apply Kd.Q_drew)); exact HO_254002.out) hb); have n4_ := Aside0.mk (blk_below (g := gb253) (o := .cells #[.int .i64 t248, .int .i64 t249, .slice Ao12 t250.length co12] 27 (0, 0)) (by (with_reducible repeat (first | refine bN ?_ _ | refine bD ?_ | refine bA ?_ _)); exact BK253.out) hb); have n5_ := Aside0.mk (below_step (by repeat (first | (with_reducible first | exact HB.out | apply wA | apply wN | apply wD | refine bS ?_ GE253.out) | exact HB.out)) hb); clear HO_4; clear HO_5; clear HO_7; clear HO_254002; clear BK253; clear HB; have HO_4 := n0_; have HO_5 := n1_; have HO_7 := n2_; have HO_254002 := n3_; have BK253 := n4_; have HB := n5_; clear n0_ n1_ n2_ n3_ n4_ n5_; (try clear hb); (try clear hb2); (try clear hk); (try clear hi)))
                        repeat (go_quiet (first | (go_at_call 23; (with_reducible refine (impl_OutletOf.calls kj52 _ _ t257 x10_3 t275 _ ?side1 ?side2 A63.out).mono ?_); (case side1 => repeat (first | exact (Kd.R_reads' HO_5.out).2.2 | (with_reducible refine Kd.C_alloc ?_ _) | (with_reducible refine Kd.C_drewN ?_ _) | (with_reducible refine Kd.C_drew ?_))); (case side2 => exact (Kd.R_reads' HO_5.out).2.1); rintro e w65 ⟨rfl, hb⟩; have n0_ := Aside0.mk (Kd.R_below HO_4.out hb); have n1_ := Aside0.mk (Kd.R_below HO_5.out hb); have n2_ := Aside0.mk (Kd.R_below HO_7.out hb); have n3_ := Aside0.mk (Kd.Q_below (by (with_reducible repeat (first | apply Kd.Q_alloc | apply Kd.Q_drewN | apply Kd.Q_drew)); exact HO_254002.out) hb); have n4_ := Aside0.mk (blk_below (g := gb253) (o := .cells #[.int .i64 t248, .int .i64 t249, .slice Ao12 t250.length co12] 27 (0, 0)) (by (with_reducible repeat (first | refine bN ?_ _ | refine bD ?_ | refine bA ?_ _)); exact BK253.out) hb); have n5_ := Aside0.mk (below_step (by repeat (first | (with_reducible first | exact HB.out | apply wA | apply wN | apply wD | refine bS ?_ GE253.out) | exact HB.out)) hb); clear HO_4; clear HO_5; clear HO_7; clear HO_254002; clear BK253; clear HB; have HO_4 := n0_; have HO_5 := n1_; have HO_7 := n2_; have HO_254002 := n3_; have BK253 := n4_; have HB := n5_; clear n0_ n1_ n2_ n3_ n4_ n5_; (try clear hb); (try clear hb2); (try clear hk); (try clear hi))); try go_wp2_with (first | (go_at_call 23; (with_reducible refine (impl_OutletOf.calls kj52 _ _ t257 x10_3 t275 _ ?side1 ?side2 A63.out).mono ?_); (case side1 => repeat (first | exact (Kd.R_reads' HO_5.out).2.2 | (with_reducible refine Kd.C_alloc ?_ _) | (with_reducible refine Kd.C_drewN ?_ _) | (with_reducible refine Kd.C_drew ?_))); (case side2 => exact (Kd.R_reads' HO_5.out).2.1); rintro e w65 ⟨rfl, hb⟩; have n0_ := Aside0.mk (Kd.R_below HO_4.out hb); have n1_ := Aside0.mk (Kd.R_below HO_5.out hb); have n2_ := Aside0.mk (Kd.R_below HO_7.out hb); have n3_ := Aside0.mk (Kd.Q_below (by (with_reducible repeat (first | apply Kd.Q_alloc | apply Kd.Q_drewN | apply Kd.Q_drew)); exact HO_254002.out) hb); have n4_ := Aside0.mk (blk_below (g := gb253) (o := .cells #[.int .i64 t248, .int .i64 t249, .slice Ao12 t250.length co12] 27 (0, 0)) (by (with_reducible repeat (first | refine bN ?_ _ | refine bD ?_ | refine bA ?_ _)); exact BK253.out) hb); have n5_ := Aside0.mk (below_step (by repeat (first | (with_reducible first | exact HB.out | apply wA | apply wN | apply wD | refine bS ?_ GE253.out) | exact HB.out)) hb); clear HO_4; clear HO_5; clear HO_7; clear HO_254002; clear BK253; clear HB; have HO_4 := n0_; have HO_5 := n1_; have HO_7 := n2_; have HO_254002 := n3_; have BK253 := n4_; have HB := n5_; clear n0_ n1_ n2_ n3_ n4_ n5_; (try clear hb); (try clear hb2); (try clear hk); (try clear hi))))
                        go_ret
                        exact ⟨by first | rfl | (simp [errW_none, errW_some] <;> rfl) | (simp [*, errW_none, errW_some] <;> rfl), by repeat (first | (with_reducible first | exact HB.out | apply wA | apply wN | apply wD | refine bS ?_ GE253.out) | exact HB.out)⟩
                       ·rw [if_neg c64] at H
                        have c64b0 : decide (t275 < 0) = false := decide_eq_false c64
                        clear c64
                        by_cases c66 : t275 ≥ (wrap64 (t248 * t249))
                        ·rw [if_pos c66] at H
                         have c66b0 : decide ((wrap64 (t248 * t249)) ≤ t275) = true := decide_eq_true c66
                         clear c66
                         obtain rfl := Option.some.inj H
                         go_wp2_with (first | (go_at_call 23; (with_reducible refine (impl_OutletOf.calls kj52 _ _ t257 x10_3 t275 _ ?side1 ?side2 A63.out).mono ?_); (case side1 => repeat (first | exact (Kd.R_reads' HO_5.out).2.2 | (with_reducible refine Kd.C_alloc ?_ _) | (with_reducible refine Kd.C_drewN ?_ _) | (with_reducible refine Kd.C_drew ?_))); (case side2 => exact (Kd.R_reads' HO_5.out).2.1); rintro e w67 ⟨rfl, hb⟩; have n0_ := Aside0.mk (Kd.R_below HO_4.out hb); have n1_ := Aside0.mk (Kd.R_below HO_5.out hb); have n2_ := Aside0.mk (Kd.R_below HO_7.out hb); have n3_ := Aside0.mk (Kd.Q_below (by (with_reducible repeat (first | apply Kd.Q_alloc | apply Kd.Q_drewN | apply Kd.Q_drew)); exact HO_254002.out) hb); have n4_ := Aside0.mk (blk_below (g := gb253) (o := .cells #[.int .i64 t248, .int .i64 t249, .slice Ao12 t250.length co12] 27 (0, 0)) (by (with_reducible repeat (first | refine bN ?_ _ | refine bD ?_ | refine bA ?_ _)); exact BK253.out) hb); have n5_ := Aside0.mk (below_step (by repeat (first | (with_reducible first | exact HB.out | apply wA | apply wN | apply wD | refine bS ?_ GE253.out) | exact HB.out)) hb); clear HO_4; clear HO_5; clear HO_7; clear HO_254002; clear BK253; clear HB; have HO_4 := n0_; have HO_5 := n1_; have HO_7 := n2_; have HO_254002 := n3_; have BK253 := n4_; have HB := n5_; clear n0_ n1_ n2_ n3_ n4_ n5_; (try clear hb); (try clear hb2); (try clear hk); (try clear hi)))
                         repeat (go_quiet (first | (go_at_call 23; (with_reducible refine (impl_OutletOf.calls kj52 _ _ t257 x10_3 t275 _ ?side1 ?side2 A63.out).mono ?_); (case side1 => repeat (first | exact (Kd.R_reads' HO_5.out).2.2 | (with_reducible refine Kd.C_alloc ?_ _) | (with_reducible refine Kd.C_drewN ?_ _) | (with_reducible refine Kd.C_drew ?_))); (case side2 => exact (Kd.R_reads' HO_5.out).2.1); rintro e w67 ⟨rfl, hb⟩; have n0_ := Aside0.mk (Kd.R_below HO_4.out hb); have n1_ := Aside0.mk (Kd.R_below HO_5.out hb); have n2_ := Aside0.mk (Kd.R_below HO_7.out hb); have n3_ := Aside0.mk (Kd.Q_below (by (with_reducible repeat (first | apply Kd.Q_alloc | apply Kd.Q_drewN | apply Kd.Q_drew)); exact HO_254002.out) hb); have n4_ := Aside0.mk (blk_below (g := gb253) (o := .cells #[.int .i64 t248, .int .i64 t249, .slice Ao12 t250.length co12] 27 (0, 0)) (by (with_reducible repeat (first | refine bN ?_ _ | refine bD ?_ | refine bA ?_ _)); exact BK253.out) hb); have n5_ := Aside0.mk (below_step (by repeat (first | (with_reducible first | exact HB.out | apply wA | apply wN | apply wD | refine bS ?_ GE253.out) | exact HB.out)) hb); clear HO_4; clear HO_5; clear HO_7; clear HO_254002; clear BK253; clear HB; have HO_4 := n0_; have HO_5 := n1_; have HO_7 := n2_; have HO_254002 := n3_; have BK253 := n4_; have HB := n5_; clear n0_ n1_ n2_ n3_ n4_ n5_; (try clear hb); (try clear hb2); (try clear hk); (try clear hi))); try go_wp2_with (first | (go_at_call 23; (with_reducible refine (impl_OutletOf.calls kj52 _ _ t257 x10_3 t275 _ ?side1 ?side2 A63.out).mono ?_); (case side1 => repeat (first | exact (Kd.R_reads' HO_5.out).2.2 | (with_reducible refine Kd.C_alloc ?_ _) | (with_reducible refine Kd.C_drewN ?_ _) | (with_reducible refine Kd.C_drew ?_))); (case side2 => exact (Kd.R_reads' HO_5.out).2.1); rintro e w67 ⟨rfl, hb⟩; have n0_ := Aside0.mk (Kd.R_below HO_4.out hb); have n1_ := Aside0.mk (Kd.R_below HO_5.out hb); have n2_ := Aside0.mk (Kd.R_below HO_7.out hb); have n3_ := Aside0.mk (Kd.Q_below (by (with_reducible repeat (first | apply Kd.Q_alloc | apply Kd.Q_drewN | apply Kd.Q_drew)); exact HO_254002.out) hb); have n4_ := Aside0.mk (blk_below (g := gb253) (o := .cells #[.int .i64 t248, .int .i64 t249, .slice Ao12 t250.length co12] 27 (0, 0)) (by (with_reducible repeat (first | refine bN ?_ _ | refine bD ?_ | refine bA ?_ _)); exact BK253.out) hb); have n5_ := Aside0.mk (below_step (by repeat (first | (with_reducible first | exact HB.out | apply wA | apply wN | apply wD | refine bS ?_ GE253.out) | exact HB.out)) hb); clear HO_4; clear HO_5; clear HO_7; clear HO_254002; clear BK253; clear HB; have HO_4 := n0_; have HO_5 := n1_; have HO_7 := n2_; have HO_254002 := n3_; have BK253 := n4_; have HB := n5_; clear n0_ n1_ n2_ n3_ n4_ n5_; (try clear hb); (try clear hb2); (try clear hk); (try clear hi))))
                         go_ret
                         exact ⟨by first | rfl | (simp [errW_none, errW_some] <;> rfl) | (simp [*, errW_none, errW_some] <;> rfl), by repeat (first | (with_reducible first | exact HB.out | apply wA | apply wN | apply wD | refine bS ?_ GE253.out) | exact HB.out)⟩
                        ·rw [if_neg c66] at H
                         have c66b0 : decide ((wrap64 (t248 * t249)) ≤ t275) = false := decide_eq_false c66
                         clear c66
                         by_cases c68 : 0 ≤ t275
                         ·rw [if_pos c68] at H
                          have c68b0 : decide (0 ≤ t275) = true := decide_eq_true c68
                          clear c68
                          by_cases c69 : t275 < (t257.length : Int)
                          ·rw [if_pos c69] at H
                           have c69b0 : decide (t275 < (t257.length : Int)) = true := decide_eq_true c69
                           clear c69
                           by_cases c70 : (rd t257 t275) = (-1)
                           ·rw [if_pos c70] at H
                            have c70b0 : ((rd t257 t275) == (-1)) = true := beq_iff_eq.mpr c70
                            have c70b1 : ((rd t257 t275) != (-1)) = false := bne_eq_false_iff_eq.mpr c70
                            clear c70
                            have H' := Aside0.mk H
                            clear H
                            go_wp2_with (first | (go_at_call 23; (with_reducible refine (impl_OutletOf.calls kj52 _ _ t257 x10_3 t275 _ ?side1 ?side2 A63.out).mono ?_); (case side1 => repeat (first | exact (Kd.R_reads' HO_5.out).2.2 | (with_reducible refine Kd.C_alloc ?_ _) | (with_reducible refine Kd.C_drewN ?_ _) | (with_reducible refine Kd.C_drew ?_))); (case side2 => exact (Kd.R_reads' HO_5.out).2.1); rintro e w71 ⟨rfl, hb⟩; have n0_ := Aside0.mk (Kd.R_below HO_4.out hb); have n1_ := Aside0.mk (Kd.R_below HO_5.out hb); have n2_ := Aside0.mk (Kd.R_below HO_7.out hb); have n3_ := Aside0.mk (Kd.Q_below (by (with_reducible repeat (first | apply Kd.Q_alloc | apply Kd.Q_drewN | apply Kd.Q_drew)); exact HO_254002.out) hb); have n4_ := Aside0.mk (blk_below (g := gb253) (o := .cells #[.int .i64 t248, .int .i64 t249, .slice Ao12 t250.length co12] 27 (0, 0)) (by (with_reducible repeat (first | refine bN ?_ _ | refine bD ?_ | refine bA ?_ _)); exact BK253.out) hb); have n5_ := Aside0.mk (below_step (by repeat (first | (with_reducible first | exact HB.out | apply wA | apply wN | apply wD | refine bS ?_ GE253.out) | exact HB.out)) hb); clear HO_4; clear HO_5; clear HO_7; clear HO_254002; clear BK253; clear HB; have HO_4 := n0_; have HO_5 := n1_; have HO_7 := n2_; have HO_254002 := n3_; have BK253 := n4_; have HB := n5_; clear n0_ n1_ n2_ n3_ n4_ n5_; (try clear hb); (try clear hb2); (try clear hk); (try clear hi); have p276 : 0 ≤ (t275 : Int) := of_decide_eq_true (by first | (with_reducible assumption) | assumption); have q276 : t275 < (t257.length : Int) := of_decide_eq_true (by first | (with_reducible assumption) | assumption); obtain ⟨ad276, e276, hx276_0⟩ := Kd.at_int (Kd.R_reads' HO_5.out).2.2 t275 p276 q276; obtain rfl : ad273 = ad276 := (by injection e276); replace p276 := eq_true p276; replace q276 := eq_true q276))
                            repeat (go_quiet (first | (go_at_call 23; (with_reducible refine (impl_OutletOf.calls kj52 _ _ t257 x10_3 t275 _ ?side1 ?side2 A63.out).mono ?_); (case side1 => repeat (first | exact (Kd.R_reads' HO_5.out).2.2 | (with_reducible refine Kd.C_alloc ?_ _) | (with_reducible refine Kd.C_drewN ?_ _) | (with_reducible refine Kd.C_drew ?_))); (case side2 => exact (Kd.R_reads' HO_5.out).2.1); rintro e w71 ⟨rfl, hb⟩; have n0_ := Aside0.mk (Kd.R_below HO_4.out hb); have n1_ := Aside0.mk (Kd.R_below HO_5.out hb); have n2_ := Aside0.mk (Kd.R_below HO_7.out hb); have n3_ := Aside0.mk (Kd.Q_below (by (with_reducible repeat (first | apply Kd.Q_alloc | apply Kd.Q_drewN | apply Kd.Q_drew)); exact HO_254002.out) hb); have n4_ := Aside0.mk (blk_below (g := gb253) (o := .cells #[.int .i64 t248, .int .i64 t249, .slice Ao12 t250.length co12] 27 (0, 0)) (by (with_reducible repeat (first | refine bN ?_ _ | refine bD ?_ | refine bA ?_ _)); exact BK253.out) hb); have n5_ := Aside0.mk (below_step (by repeat (first | (with_reducible first | exact HB.out | apply wA | apply wN | apply wD | refine bS ?_ GE253.out) | exact HB.out)) hb); clear HO_4; clear HO_5; clear HO_7; clear HO_254002; clear BK253; clear HB; have HO_4 := n0_; have HO_5 := n1_; have HO_7 := n2_; have HO_254002 := n3_; have BK253 := n4_; have HB := n5_; clear n0_ n1_ n2_ n3_ n4_ n5_; (try clear hb); (try clear hb2); (try clear hk); (try clear hi); have p276 : 0 ≤ (t275 : Int) := of_decide_eq_true (by first | (with_reducible assumption) | assumption); have q276 : t275 < (t257.length : Int) := of_decide_eq_true (by first | (with_reducible assumption) | assumption); obtain ⟨ad276, e276, hx276_0⟩ := Kd.at_int (Kd.R_reads' HO_5.out).2.2 t275 p276 q276; obtain rfl : ad273 = ad276 := (by injection e276); replace p276 := eq_true p276; replace q276 := eq_true q276)); try go_wp2_with (first | (go_at_call 23; (with_reducible refine (impl_OutletOf.calls kj52 _ _ t257 x10_3 t275 _ ?side1 ?side2 A63.out).mono ?_); (case side1 => repeat (first | exact (Kd.R_reads' HO_5.out).2.2 | (with_reducible refine Kd.C_alloc ?_ _) | (with_reducible refine Kd.C_drewN ?_ _) | (with_reducible refine Kd.C_drew ?_))); (case side2 => exact (Kd.R_reads' HO_5.out).2.1); rintro e w71 ⟨rfl, hb⟩; have n0_ := Aside0.mk (Kd.R_below HO_4.out hb); have n1_ := Aside0.mk (Kd.R_below HO_5.out hb); have n2_ := Aside0.mk (Kd.R_below HO_7.out hb); have n3_ := Aside0.mk (Kd.Q_below (by (with_reducible repeat (first | apply Kd.Q_alloc | apply Kd.Q_drewN | apply Kd.Q_drew)); exact HO_254002.out) hb); have n4_ := Aside0.mk (blk_below (g := gb253) (o := .cells #[.int .i64 t248, .int .i64 t249, .slice Ao12 t250.length co12] 27 (0, 0)) (by (with_reducible repeat (first | refine bN ?_ _ | refine bD ?_ | refine bA ?_ _)); exact BK253.out) hb); have n5_ := Aside0.mk (below_step (by repeat (first | (with_reducible first | exact HB.out | apply wA | apply wN | apply wD | refine bS ?_ GE253.out) | exact HB.out)) hb); clear HO_4; clear HO_5; clear HO_7; clear HO_254002; clear BK253; clear HB; have HO_4 := n0_; have HO_5 := n1_; have HO_7 := n2_; have HO_254002 := n3_; have BK253 := n4_; have HB := n5_; clear n0_ n1_ n2_ n3_ n4_ n5_; (try clear hb); (try clear hb2); (try clear hk); (try clear hi); have p276 : 0 ≤ (t275 : Int) := of_decide_eq_true (by first | (with_reducible assumption) | assumption); have q276 : t275 < (t257.length : Int) := of_decide_eq_true (by first | (with_reducible assumption) | assumption); obtain ⟨ad276, e276, hx276_0⟩ := Kd.at_int (Kd.R_reads' HO_5.out).2.2 t275 p276 q276; obtain rfl : ad273 = ad276 := (by injection e276); replace p276 := eq_true p276; replace q276 := eq_true q276)))
                            go_roundg kj52
                            case measure => have := HJ7.out; have := HJ22.out; have := HK3.out; have := HJ29.out; have := HJ52.out; omega
                            case rel => exact ⟨((wrap64 (x9_3 + (rd t261 x10_3)))), (wrap64 (x10_3 + 1)), (by first | rfl | (simp; done) | (simp [*]; done)), (by first | rfl | (simp; done) | (simp [*]; done)), H', ⟨by have := HJ7.out; have := HJ22.out; have := HK3.out; have := HJ29.out; have := HJ52.out; omega⟩, ⟨HO_4.out⟩, ⟨HO_5.out⟩, ⟨HO_7.out⟩, ⟨by (with_reducible repeat (first | apply Kd.Q_alloc | apply Kd.Q_drewN | apply Kd.Q_drew)); exact HO_254002.out⟩, ⟨by (with_reducible repeat (first | refine bN ?_ _ | refine bD ?_ | refine bA ?_ _)); exact BK253.out⟩, ⟨by repeat (first | (with_reducible first | exact HB.out | apply wA | apply wN | apply wD | refine bS ?_ GE253.out) | exact HB.out)⟩⟩
                           ·rw [if_neg c70] at H
                            have c70b0 : ((rd t257 t275) == (-1)) = false := beq_eq_false_iff_ne.mpr c70
                            have c70b1 : ((rd t257 t275) != (-1)) = true := bne_iff_ne.mpr c70
                            obtain rfl := Option.some.inj H
                            go_wp2_with (first | (go_at_call 23; (with_reducible refine (impl_OutletOf.calls kj52 _ _ t257 x10_3 t275 _ ?side1 ?side2 A63.out).mono ?_); (case side1 => repeat (first | exact (Kd.R_reads' HO_5.out).2.2 | (with_reducible refine Kd.C_alloc ?_ _) | (with_reducible refine Kd.C_drewN ?_ _) | (with_reducible refine Kd.C_drew ?_))); (case side2 => exact (Kd.R_reads' HO_5.out).2.1); rintro e w72 ⟨rfl, hb⟩; have n0_ := Aside0.mk (Kd.R_below HO_4.out hb); have n1_ := Aside0.mk (Kd.R_below HO_5.out hb); have n2_ := Aside0.mk (Kd.R_below HO_7.out hb); have n3_ := Aside0.mk (Kd.Q_below (by (with_reducible repeat (first | apply Kd.Q_alloc | apply Kd.Q_drewN | apply Kd.Q_drew)); exact HO_254002.out) hb); have n4_ := Aside0.mk (blk_below (g := gb253) (o := .cells #[.int .i64 t248, .int .i64 t249, .slice Ao12 t250.length co12] 27 (0, 0)) (by (with_reducible repeat (first | refine bN ?_ _ | refine bD ?_ | refine bA ?_ _)); exact BK253.out) hb); have n5_ := Aside0.mk (below_step (by repeat (first | (with_reducible first | exact HB.out | apply wA | apply wN | apply wD | refine bS ?_ GE253.out) | exact HB.out)) hb); clear HO_4; clear HO_5; clear HO_7; clear HO_254002; clear BK253; clear HB; have HO_4 := n0_; have HO_5 := n1_; have HO_7 := n2_; have HO_254002 := n3_; have BK253 := n4_; have HB := n5_; clear n0_ n1_ n2_ n3_ n4_ n5_; (try clear hb); (try clear hb2); (try clear hk); (try clear hi); have p276 : 0 ≤ (t275 : Int) := of_decide_eq_true (by first | (with_reducible assumption) | assumption); have q276 : t275 < (t257.length : Int) := of_decide_eq_true (by first | (with_reducible assumption) | assumption); obtain ⟨ad276, e276, hx276_0⟩ := Kd.at_int (Kd.R_reads' HO_5.out).2.2 t275 p276 q276; obtain rfl : ad273 = ad276 := (by injection e276); replace p276 := eq_true p276; replace q276 := eq_true q276))
                            repeat (go_quiet (first | (go_at_call 23; (with_reducible refine (impl_OutletOf.calls kj52 _ _ t257 x10_3 t275 _ ?side1 ?side2 A63.out).mono ?_); (case side1 => repeat (first | exact (Kd.R_reads' HO_5.out).2.2 | (with_reducible refine Kd.C_alloc ?_ _) | (with_reducible refine Kd.C_drewN ?_ _) | (with_reducible refine Kd.C_drew ?_))); (case side2 => exact (Kd.R_reads' HO_5.out).2.1); rintro e w72 ⟨rfl, hb⟩; have n0_ := Aside0.mk (Kd.R_below HO_4.out hb); have n1_ := Aside0.mk (Kd.R_below HO_5.out hb); have n2_ := Aside0.mk (Kd.R_below HO_7.out hb); have n3_ := Aside0.mk (Kd.Q_below (by (with_reducible repeat (first | apply Kd.Q_alloc | apply Kd.Q_drewN | apply Kd.Q_drew)); exact HO_254002.out) hb); have n4_ := Aside0.mk (blk_below (g := gb253) (o := .cells #[.int .i64 t248, .int .i64 t249, .slice Ao12 t250.length co12] 27 (0, 0)) (by (with_reducible repeat (first | refine bN ?_ _ | refine bD ?_ | refine bA ?_ _)); exact BK253.out) hb); have n5_ := Aside0.mk (below_step (by repeat (first | (with_reducible first | exact HB.out | apply wA | apply wN | apply wD | refine bS ?_ GE253.out) | exact HB.out)) hb); clear HO_4; clear HO_5; clear HO_7; clear HO_254002; clear BK253; clear HB; have HO_4 := n0_; have HO_5 := n1_; have HO_7 := n2_; have HO_254002 := n3_; have BK253 := n4_; have HB := n5_; clear n0_ n1_ n2_ n3_ n4_ n5_; (try clear hb); (try clear hb2); (try clear hk); (try clear hi); have p276 : 0 ≤ (t275 : Int) := of_decide_eq_true (by first | (with_reducible assumption) | assumption); have q276 : t275 < (t257.length : Int) := of_decide_eq_true (by first | (with_reducible assumption) | assumption); obtain ⟨ad276, e276, hx276_0⟩ := Kd.at_int (Kd.R_reads' HO_5.out).2.2 t275 p276 q276; obtain rfl : ad273 = ad276 := (by injection e276); replace p276 := eq_true p276; replace q276 := eq_true q276)); try go_wp2_with (first | (go_at_call 23; (with_reducible refine (impl_OutletOf.calls kj52 _ _ t257 x10_3 t275 _ ?side1 ?side2 A63.out).mono ?_); (case side1 => repeat (first | exact (Kd.R_reads' HO_5.out).2.2 | (with_reducible refine Kd.C_alloc ?_ _) | (with_reducible refine Kd.C_drewN ?_ _) | (with_reducible refine Kd.C_drew ?_))); (case side2 => exact (Kd.R_reads' HO_5.out).2.1); rintro e w72 ⟨rfl, hb⟩; have n0_ := Aside0.mk (Kd.R_below HO_4.out hb); have n1_ := Aside0.mk (Kd.R_below HO_5.out hb); have n2_ := Aside0.mk (Kd.R_below HO_7.out hb); have n3_ := Aside0.mk (Kd.Q_below (by (with_reducible repeat (first | apply Kd.Q_alloc | apply Kd.Q_drewN | apply Kd.Q_drew)); exact HO_254002.out) hb); have n4_ := Aside0.mk (blk_below (g := gb253) (o := .cells #[.int .i64 t248, .int .i64 t249, .slice Ao12 t250.length co12] 27 (0, 0)) (by (with_reducible repeat (first | refine bN ?_ _ | refine bD ?_ | refine bA ?_ _)); exact BK253.out) hb); have n5_ := Aside0.mk (below_step (by repeat (first | (with_reducible first | exact HB.out | apply wA | apply wN | apply wD | refine bS ?_ GE253.out) | exact HB.out)) hb); clear HO_4; clear HO_5; clear HO_7; clear HO_254002; clear BK253; clear HB; have HO_4 := n0_; have HO_5 := n1_; have HO_7 := n2_; have HO_254002 := n3_; have BK253 := n4_; have HB := n5_; clear n0_ n1_ n2_ n3_ n4_ n5_; (try clear hb); (try clear hb2); (try clear hk); (try clear hi); have p276 : 0 ≤ (t275 : Int) := of_decide_eq_true (by first | (with_reducible assumption) | assumption); have q276 : t275 < (t257.length : Int) := of_decide_eq_true (by first | (with_reducible assumption) | assumption); obtain ⟨ad276, e276, hx276_0⟩ := Kd.at_int (Kd.R_reads' HO_5.out).2.2 t275 p276 q276; obtain rfl : ad273 = ad276 := (by injection e276); replace p276 := eq_true p276; replace q276 := eq_true q276)))
                            go_ret
                            exact ⟨by first | rfl | (simp [errW_none, errW_some] <;> rfl) | (simp [*, errW_none, errW_some] <;> rfl), by repeat (first | (with_reducible first | exact HB.out | apply wA | apply wN | apply wD | refine bS ?_ GE253.out) | exact HB.out)⟩
                          ·rw [if_neg c69] at H
                           exact absurd H (by simp)
                         ·rw [if_neg c68] at H
                          exact absurd H (by simp)
                  ·rw [if_neg c51] at H
                   exact absurd H (by simp)
                 ·rw [if_neg c50] at H
                  have c50b0 : ((rd t257 x10_3) == (-1)) = false := beq_eq_false_iff_ne.mpr c50
                  have c50b1 : ((rd t257 x10_3) != (-1)) = true := bne_iff_ne.mpr c50
                  replace H := Option.bind_eq_some_iff.mp H
                  obtain ⟨t277, A730, H⟩ := H
                  replace H : (if t277 < 0 then (some false) else (if t277 ≥ (wrap64 (t248 * t249)) then (some false) else (if 0 ≤ t277 then (if t277 < (t257.length : Int) then (if (rd t257 t277) = (-1) then (laws_FnDrained.l0 kj29 t254 t257 (wrap64 (t248 * t249)) t261 x9_3 (wrap64 (x10_3 + 1)) t248 t249 t250) else (some false)) else (none)) else (none)))) = some r := H
                  have A73 := Aside0.mk A730
                  clear A730
                  by_cases c74 : t277 < 0
                  ·rw [if_pos c74] at H
                   have c74b0 : decide (t277 < 0) = true := decide_eq_true c74
                   clear c74
                   obtain rfl := Option.some.inj H
                   have p273 : 0 ≤ (x10_3 : Int) := of_decide_eq_true (by first | (with_reducible assumption) | assumption)
                   have q273 : x10_3 < (t257.length : Int) := of_decide_eq_true (by first | (with_reducible assumption) | assumption)
                   obtain ⟨ad273, e273, hx273_0⟩ := Kd.at_int (Kd.R_reads' HO_5.out).2.2 x10_3 p273 q273
                   cases e273
                   replace p273 := eq_true p273
                   replace q273 := eq_true q273
                   go_wp2_with (first | (go_at_call 23; (with_reducible refine (impl_OutletOf.calls kj29 _ _ t257 x10_3 t277 _ ?side1 ?side2 A73.out).mono ?_); (case side1 => repeat (first | exact (Kd.R_reads' HO_5.out).2.2 | (with_reducible refine Kd.C_alloc ?_ _) | (with_reducible refine Kd.C_drewN ?_ _) | (with_reducible refine Kd.C_drew ?_))); (case side2 => exact (Kd.R_reads' HO_5.out).2.1); rintro e w75 ⟨rfl, hb⟩; have n0_ := Aside0.mk (Kd.R_below HO_4.out hb); have n1_ := Aside0.mk (Kd.R_below HO_5.out hb); have n2_ := Aside0.mk (Kd.R_below HO_7.out hb); have n3_ := Aside0.mk (Kd.Q_below (by (with_reducible repeat (first | apply Kd.Q_alloc | apply Kd.Q_drewN | apply Kd.Q_drew)); exact HO_254002.out) hb); have n4_ := Aside0.mk (blk_below (g := gb253) (o := .cells #[.int .i64 t248, .int .i64 t249, .slice Ao12 t250.length co12] 27 (0, 0)) (by (with_reducible repeat (first | refine bN ?_ _ | refine bD ?_ | refine bA ?_ _)); exact BK253.out) hb); have n5_ := Aside0.mk (below_step (by repeat (first | (with_reducible first | exact HB.out | apply wA | apply wN | apply wD | refine bS ?_ GE253.out) | exact HB.out)) hb); clear HO_4; clear HO_5; clear HO_7; clear HO_254002; clear BK253; clear HB; have HO_4 := n0_; have HO_5 := n1_; have HO_7 := n2_; have HO_254002 := n3_; have BK253 := n4_; have HB := n5_; clear n0_ n1_ n2_ n3_ n4_ n5_; (try clear hb); (try clear hb2); (try clear hk); (try clear hi)))
                   repeat (go_quiet (first | (go_at_call 23; (with_reducible refine (impl_OutletOf.calls kj29 _ _ t257 x10_3 t277 _ ?side1 ?side2 A73.out).mono ?_); (case side1 => repeat (first | exact (Kd.R_reads' HO_5.out).2.2 | (with_reducible refine Kd.C_alloc ?_ _) | (with_reducible refine Kd.C_drewN ?_ _) | (with_reducible refine Kd.C_drew ?_))); (case side2 => exact (Kd.R_reads' HO_5.out).2.1); rintro e w75 ⟨rfl, hb⟩; have n0_ := Aside0.mk (Kd.R_below HO_4.out hb); have n1_ := Aside0.mk (Kd.R_below HO_5.out hb); have n2_ := Aside0.mk (Kd.R_below HO_7.out hb); have n3_ := Aside0.mk (Kd.Q_below (by (with_reducible repeat (first | apply Kd.Q_alloc | apply Kd.Q_drewN | apply Kd.Q_drew)); exact HO_254002.out) hb); have n4_ := Aside0.mk (blk_below (g := gb253) (o := .cells #[.int .i64 t248, .int .i64 t249, .slice Ao12 t250.length co12] 27 (0, 0)) (by (with_reducible repeat (first | refine bN ?_ _ | refine bD ?_ | refine bA ?_ _)); exact BK253.out) hb); have n5_ := Aside0.mk (below_step (by repeat (first | (with_reducible first | exact HB.out | apply wA | apply wN | apply wD | refine bS ?_ GE253.out) | exact HB.out)) hb); clear HO_4; clear HO_5; clear HO_7; clear HO_254002; clear BK253; clear HB; have HO_4 := n0_; have HO_5 := n1_; have HO_7 := n2_; have HO_254002 := n3_; have BK253 := n4_; have HB := n5_; clear n0_ n1_ n2_ n3_ n4_ n5_; (try clear hb); (try clear hb2); (try clear hk); (try clear hi))); try go_wp2_with (first | (go_at_call 23; (with_reducible refine (impl_OutletOf.calls kj29 _ _ t257 x10_3 t277 _ ?side1 ?side2 A73.out).mono ?_); (case side1 => repeat (first | exact (Kd.R_reads' HO_5.out).2.2 | (with_reducible refine Kd.C_alloc ?_ _) | (with_reducible refine Kd.C_drewN ?_ _) | (with_reducible refine Kd.C_drew ?_))); (case side2 => exact (Kd.R_reads' HO_5.out).2.1); rintro e w75 ⟨rfl, hb⟩; have n0_ := Aside0.mk (Kd.R_below HO_4.out hb); have n1_ := Aside0.mk (Kd.R_below HO_5.out hb); have n2_ := Aside0.mk (Kd.R_below HO_7.out hb); have n3_ := Aside0.mk (Kd.Q_below (by (with_reducible repeat (first | apply Kd.Q_alloc | apply Kd.Q_drewN | apply Kd.Q_drew)); exact HO_254002.out) hb); have n4_ := Aside0.mk (blk_below (g := gb253) (o := .cells #[.int .i64 t248, .int .i64 t249, .slice Ao12 t250.length co12] 27 (0, 0)) (by (with_reducible repeat (first | refine bN ?_ _ | refine bD ?_ | refine bA ?_ _)); exact BK253.out) hb); have n5_ := Aside0.mk (below_step (by repeat (first | (with_reducible first | exact HB.out | apply wA | apply wN | apply wD | refine bS ?_ GE253.out) | exact HB.out)) hb); clear HO_4; clear HO_5; clear HO_7; clear HO_254002; clear BK253; clear HB; have HO_4 := n0_; have HO_5 := n1_; have HO_7 := n2_; have HO_254002 := n3_; have BK253 := n4_; have HB := n5_; clear n0_ n1_ n2_ n3_ n4_ n5_; (try clear hb); (try clear hb2); (try clear hk); (try clear hi))))
                   go_ret
                   exact ⟨by first | rfl | (simp [errW_none, errW_some] <;> rfl) | (simp [*, errW_none, errW_some] <;> rfl), by repeat (first | (with_reducible first | exact HB.out | apply wA | apply wN | apply wD | refine bS ?_ GE253.out) | exact HB.out)⟩
                  ·rw [if_neg c74] at H
                   have c74b0 : decide (t277 < 0) = false := decide_eq_false c74
                   clear c74
                   by_cases c76 : t277 ≥ (wrap64 (t248 * t249))
                   ·rw [if_pos c76] at H
                    have c76b0 : decide ((wrap64 (t248 * t249)) ≤ t277) = true := decide_eq_true c76
                    clear c76
                    obtain rfl := Option.some.inj H
                    have p273 : 0 ≤ (x10_3 : Int) := of_decide_eq_true (by first | (with_reducible assumption) | assumption)
                    have q273 : x10_3 < (t257.length : Int) := of_decide_eq_true (by first | (with_reducible assumption) | assumption)
                    obtain ⟨ad273, e273, hx273_0⟩ := Kd.at_int (Kd.R_reads' HO_5.out).2.2 x10_3 p273 q273
                    cases e273
                    replace p273 := eq_true p273
                    replace q273 := eq_true q273
                    go_wp2_with (first | (go_at_call 23; (with_reducible refine (impl_OutletOf.calls kj29 _ _ t257 x10_3 t277 _ ?side1 ?side2 A73.out).mono ?_); (case side1 => repeat (first | exact (Kd.R_reads' HO_5.out).2.2 | (with_reducible refine Kd.C_alloc ?_ _) | (with_reducible refine Kd.C_drewN ?_ _) | (with_reducible refine Kd.C_drew ?_))); (case side2 => exact (Kd.R_reads' HO_5.out).2.1); rintro e w77 ⟨rfl, hb⟩; have n0_ := Aside0.mk (Kd.R_below HO_4.out hb); have n1_ := Aside0.mk (Kd.R_below HO_5.out hb); have n2_ := Aside0.mk (Kd.R_below HO_7.out hb); have n3_ := Aside0.mk (Kd.Q_below (by (with_reducible repeat (first | apply Kd.Q_alloc | apply Kd.Q_drewN | apply Kd.Q_drew)); exact HO_254002.out) hb); have n4_ := Aside0.mk (blk_below (g := gb253) (o := .cells #[.int .i64 t248, .int .i64 t249, .slice Ao12 t250.length co12] 27 (0, 0)) (by (with_reducible repeat (first | refine bN ?_ _ | refine bD ?_ | refine bA ?_ _)); exact BK253.out) hb); have n5_ := Aside0.mk (below_step (by repeat (first | (with_reducible first | exact HB.out | apply wA | apply wN | apply wD | refine bS ?_ GE253.out) | exact HB.out)) hb); clear HO_4; clear HO_5; clear HO_7; clear HO_254002; clear BK253; clear HB; have HO_4 := n0_; have HO_5 := n1_; have HO_7 := n2_; have HO_254002 := n3_; have BK253 := n4_; have HB := n5_; clear n0_ n1_ n2_ n3_ n4_ n5_; (try clear hb); (try clear hb2); (try clear hk); (try clear hi)))
                    repeat (go_quiet (first | (go_at_call 23; (with_reducible refine (impl_OutletOf.calls kj29 _ _ t257 x10_3 t277 _ ?side1 ?side2 A73.out).mono ?_); (case side1 => repeat (first | exact (Kd.R_reads' HO_5.out).2.2 | (with_reducible refine Kd.C_alloc ?_ _) | (with_reducible refine Kd.C_drewN ?_ _) | (with_reducible refine Kd.C_drew ?_))); (case side2 => exact (Kd.R_reads' HO_5.out).2.1); rintro e w77 ⟨rfl, hb⟩; have n0_ := Aside0.mk (Kd.R_below HO_4.out hb); have n1_ := Aside0.mk (Kd.R_below HO_5.out hb); have n2_ := Aside0.mk (Kd.R_below HO_7.out hb); have n3_ := Aside0.mk (Kd.Q_below (by (with_reducible repeat (first | apply Kd.Q_alloc | apply Kd.Q_drewN | apply Kd.Q_drew)); exact HO_254002.out) hb); have n4_ := Aside0.mk (blk_below (g := gb253) (o := .cells #[.int .i64 t248, .int .i64 t249, .slice Ao12 t250.length co12] 27 (0, 0)) (by (with_reducible repeat (first | refine bN ?_ _ | refine bD ?_ | refine bA ?_ _)); exact BK253.out) hb); have n5_ := Aside0.mk (below_step (by repeat (first | (with_reducible first | exact HB.out | apply wA | apply wN | apply wD | refine bS ?_ GE253.out) | exact HB.out)) hb); clear HO_4; clear HO_5; clear HO_7; clear HO_254002; clear BK253; clear HB; have HO_4 := n0_; have HO_5 := n1_; have HO_7 := n2_; have HO_254002 := n3_; have BK253 := n4_; have HB := n5_; clear n0_ n1_ n2_ n3_ n4_ n5_; (try clear hb); (try clear hb2); (try clear hk); (try clear hi))); try go_wp2_with (first | (go_at_call 23; (with_reducible refine (impl_OutletOf.calls kj29 _ _ t257 x10_3 t277 _ ?side1 ?side2 A73.out).mono ?_); (case side1 => repeat (first | exact (Kd.R_reads' HO_5.out).2.2 | (with_reducible refine Kd.C_alloc ?_ _) | (with_reducible refine Kd.C_drewN ?_ _) | (with_reducible refine Kd.C_drew ?_))); (case side2 => exact (Kd.R_reads' HO_5.out).2.1); rintro e w77 ⟨rfl, hb⟩; have n0_ := Aside0.mk (Kd.R_below HO_4.out hb); have n1_ := Aside0.mk (Kd.R_below HO_5.out hb); have n2_ := Aside0.mk (Kd.R_below HO_7.out hb); have n3_ := Aside0.mk (Kd.Q_below (by (with_reducible repeat (first | apply Kd.Q_alloc | apply Kd.Q_drewN | apply Kd.Q_drew)); exact HO_254002.out) hb); have n4_ := Aside0.mk (blk_below (g := gb253) (o := .cells #[.int .i64 t248, .int .i64 t249, .slice Ao12 t250.length co12] 27 (0, 0)) (by (with_reducible repeat (first | refine bN ?_ _ | refine bD ?_ | refine bA ?_ _)); exact BK253.out) hb); have n5_ := Aside0.mk (below_step (by repeat (first | (with_reducible first | exact HB.out | apply wA | apply wN | apply wD | refine bS ?_ GE253.out) | exact HB.out)) hb); clear HO_4; clear HO_5; clear HO_7; clear HO_254002; clear BK253; clear HB; have HO_4 := n0_; have HO_5 := n1_; have HO_7 := n2_; have HO_254002 := n3_; have BK253 := n4_; have HB := n5_; clear n0_ n1_ n2_ n3_ n4_ n5_; (try clear hb); (try clear hb2); (try clear hk); (try clear hi))))
                    go_ret
                    exact ⟨by first | rfl | (simp [errW_none, errW_some] <;> rfl) | (simp [*, errW_none, errW_some] <;> rfl), by repeat (first | (with_reducible first | exact HB.out | apply wA | apply wN | apply wD | refine bS ?_ GE253.out) | exact HB.out)⟩
                   ·rw [if_neg c76] at H
                    have c76b0 : decide ((wrap64 (t248 * t249)) ≤ t277) = false := decide_eq_false c76
                    clear c76
                    by_cases c78 : 0 ≤ t277
                    ·rw [if_pos c78] at H
                     have c78b0 : decide (0 ≤ t277) = true := decide_eq_true c78
                     clear c78
                     by_cases c79 : t277 < (t257.length : Int)
                     ·rw [if_pos c79] at H
                      have c79b0 : decide (t277 < (t257.length : Int)) = true := decide_eq_true c79
                      clear c79
                      by_cases c80 : (rd t257 t277) = (-1)
                      ·rw [if_pos c80] at H
                       have c80b0 : ((rd t257 t277) == (-1)) = true := beq_iff_eq.mpr c80
                       have c80b1 : ((rd t257 t277) != (-1)) = false := bne_eq_false_iff_eq.mpr c80
                       clear c80
                       have H' := Aside0.mk H
                       clear H
                       have p273 : 0 ≤ (x10_3 : Int) := of_decide_eq_true (by first | (with_reducible assumption) | assumption)
                       have q273 : x10_3 < (t257.length : Int) := of_decide_eq_true (by first | (with_reducible assumption) | assumption)
                       obtain ⟨ad273, e273, hx273_0⟩ := Kd.at_int (Kd.R_reads' HO_5.out).2.2 x10_3 p273 q273
                       cases e273
                       replace p273 := eq_true p273
                       replace q273 := eq_true q273
                       go_wp2_with (first | (go_at_call 23; (with_reducible refine (impl_OutletOf.calls kj29 _ _ t257 x10_3 t277 _ ?side1 ?side2 A73.out).mono ?_); (case side1 => repeat (first | exact (Kd.R_reads' HO_5.out).2.2 | (with_reducible refine Kd.C_alloc ?_ _) | (with_reducible refine Kd.C_drewN ?_ _) | (with_reducible refine Kd.C_drew ?_))); (case side2 => exact (Kd.R_reads' HO_5.out).2.1); rintro e w81 ⟨rfl, hb⟩; have n0_ := Aside0.mk (Kd.R_below HO_4.out hb); have n1_ := Aside0.mk (Kd.R_below HO_5.out hb); have n2_ := Aside0.mk (Kd.R_below HO_7.out hb); have n3_ := Aside0.mk (Kd.Q_below (by (with_reducible repeat (first | apply Kd.Q_alloc | apply Kd.Q_drewN | apply Kd.Q_drew)); exact HO_254002.out) hb); have n4_ := Aside0.mk (blk_below (g := gb253) (o := .cells #[.int .i64 t248, .int .i64 t249, .slice Ao12 t250.length co12] 27 (0, 0)) (by (with_reducible repeat (first | refine bN ?_ _ | refine bD ?_ | refine bA ?_ _)); exact BK253.out) hb); have n5_ := Aside0.mk (below_step (by repeat (first | (with_reducible first | exact HB.out | apply wA | apply wN | apply wD | refine bS ?_ GE253.out) | exact HB.out)) hb); clear HO_4; clear HO_5; clear HO_7; clear HO_254002; clear BK253; clear HB; have HO_4 := n0_; have HO_5 := n1_; have HO_7 := n2_; have HO_254002 := n3_; have BK253 := n4_; have HB := n5_; clear n0_ n1_ n2_ n3_ n4_ n5_; (try clear hb); (try clear hb2); (try clear hk); (try clear hi); have p278 : 0 ≤ (t277 : Int) := of_decide_eq_true (by first | (with_reducible assumption) | assumption); have q278 : t277 < (t257.length : Int) := of_decide_eq_true (by first | (with_reducible assumption) | assumption); obtain ⟨ad278, e278, hx278_0⟩ := Kd.at_int (Kd.R_reads' HO_5.out).2.2 t277 p278 q278; obtain rfl : ad273 = ad278 := (by injection e278); replace p278 := eq_true p278; replace q278 := eq_true q278))
                       repeat (go_quiet (first | (go_at_call 23; (with_reducible refine (impl_OutletOf.calls kj29 _ _ t257 x10_3 t277 _ ?side1 ?side2 A73.out).mono ?_); (case side1 => repeat (first | exact (Kd.R_reads' HO_5.out).2.2 | (with_reducible refine Kd.C_alloc ?_ _) | (with_reducible refine Kd.C_drewN ?_ _) | (with_reducible refine Kd.C_drew ?_))); (case side2 => exact (Kd.R_reads' HO_5.out).2.1); rintro e w81 ⟨rfl, hb⟩; have n0_ := Aside0.mk (Kd.R_below HO_4.out hb); have n1_ := Aside0.mk (Kd.R_below HO_5.out hb); have n2_ := Aside0.mk (Kd.R_below HO_7.out hb); have n3_ := Aside0.mk (Kd.Q_below (by (with_reducible repeat (first | apply Kd.Q_alloc | apply Kd.Q_drewN | apply Kd.Q_drew)); exact HO_254002.out) hb); have n4_ := Aside0.mk (blk_below (g := gb253) (o := .cells #[.int .i64 t248, .int .i64 t249, .slice Ao12 t250.length co12] 27 (0, 0)) (by (with_reducible repeat (first | refine bN ?_ _ | refine bD ?_ | refine bA ?_ _)); exact BK253.out) hb); have n5_ := Aside0.mk (below_step (by repeat (first | (with_reducible first | exact HB.out | apply wA | apply wN | apply wD | refine bS ?_ GE253.out) | exact HB.out)) hb); clear HO_4; clear HO_5; clear HO_7; clear HO_254002; clear BK253; clear HB; have HO_4 := n0_; have HO_5 := n1_; have HO_7 := n2_; have HO_254002 := n3_; have BK253 := n4_; have HB := n5_; clear n0_ n1_ n2_ n3_ n4_ n5_; (try clear hb); (try clear hb2); (try clear hk); (try clear hi); have p278 : 0 ≤ (t277 : Int) := of_decide_eq_true (by first | (with_reducible assumption) | assumption); have q278 : t277 < (t257.length : Int) := of_decide_eq_true (by first | (with_reducible assumption) | assumption); obtain ⟨ad278, e278, hx278_0⟩ := Kd.at_int (Kd.R_reads' HO_5.out).2.2 t277 p278 q278; obtain rfl : ad273 = ad278 := (by injection e278); replace p278 := eq_true p278; replace q278 := eq_true q278)); try go_wp2_with (first | (go_at_call 23; (with_reducible refine (impl_OutletOf.calls kj29 _ _ t257 x10_3 t277 _ ?side1 ?side2 A73.out).mono ?_); (case side1 => repeat (first | exact (Kd.R_reads' HO_5.out).2.2 | (with_reducible refine Kd.C_alloc ?_ _) | (with_reducible refine Kd.C_drewN ?_ _) | (with_reducible refine Kd.C_drew ?_))); (case side2 => exact (Kd.R_reads' HO_5.out).2.1); rintro e w81 ⟨rfl, hb⟩; have n0_ := Aside0.mk (Kd.R_below HO_4.out hb); have n1_ := Aside0.mk (Kd.R_below HO_5.out hb); have n2_ := Aside0.mk (Kd.R_below HO_7.out hb); have n3_ := Aside0.mk (Kd.Q_below (by (with_reducible repeat (first | apply Kd.Q_alloc | apply Kd.Q_drewN | apply Kd.Q_drew)); exact HO_254002.out) hb); have n4_ := Aside0.mk (blk_below (g := gb253) (o := .cells #[.int .i64 t248, .int .i64 t249, .slice Ao12 t250.length co12] 27 (0, 0)) (by (with_reducible repeat (first | refine bN ?_ _ | refine bD ?_ | refine bA ?_ _)); exact BK253.out) hb); have n5_ := Aside0.mk (below_step (by repeat (first | (with_reducible first | exact HB.out | apply wA | apply wN | apply wD | refine bS ?_ GE253.out) | exact HB.out)) hb); clear HO_4; clear HO_5; clear HO_7; clear HO_254002; clear BK253; clear HB; have HO_4 := n0_; have HO_5 := n1_; have HO_7 := n2_; have HO_254002 := n3_; have BK253 := n4_; have HB := n5_; clear n0_ n1_ n2_ n3_ n4_ n5_; (try clear hb); (try clear hb2); (try clear hk); (try clear hi); have p278 : 0 ≤ (t277 : Int) := of_decide_eq_true (by first | (with_reducible assumption) | assumption); have q278 : t277 < (t257.length : Int) := of_decide_eq_true (by first | (with_reducible assumption) | assumption); obtain ⟨ad278, e278, hx278_0⟩ := Kd.at_int (Kd.R_reads' HO_5.out).2.2 t277 p278 q278; obtain rfl : ad273 = ad278 := (by injection e278); replace p278 := eq_true p278; replace q278 := eq_true q278)))
                       go_roundg kj29
                       case measure => have := HJ7.out; have := HJ22.out; have := HK3.out; have := HJ29.out; omega
                       case rel => exact ⟨(x9_3), (wrap64 (x10_3 + 1)), (by first | rfl | (simp; done) | (simp [*]; done)), (by first | rfl | (simp; done) | (simp [*]; done)), H', ⟨by have := HJ7.out; have := HJ22.out; have := HK3.out; have := HJ29.out; omega⟩, ⟨HO_4.out⟩, ⟨HO_5.out⟩, ⟨HO_7.out⟩, ⟨by (with_reducible repeat (first | apply Kd.Q_alloc | apply Kd.Q_drewN | apply Kd.Q_drew)); exact HO_254002.out⟩, ⟨by (with_reducible repeat (first | refine bN ?_ _ | refine bD ?_ | refine bA ?_ _)); exact BK253.out⟩, ⟨by repeat (first | (with_reducible first | exact HB.out | apply wA | apply wN | apply wD | refine bS ?_ GE253.out) | exact HB.out)⟩⟩
                      ·rw [if_neg c80] at H
                       have c80b0 : ((rd t257 t277) == (-1)) = false := beq_eq_false_iff_ne.mpr c80
                       have c80b1 : ((rd t257 t277) != (-1)) = true := bne_iff_ne.mpr c80
                       obtain rfl := Option.some.inj H
                       have p273 : 0 ≤ (x10_3 : Int) := of_decide_eq_true (by first | (with_reducible assumption) | assumption)
                       have q273 : x10_3 < (t257.length : Int) := of_decide_eq_true (by first | (with_reducible assumption) | assumption)
                       obtain ⟨ad273, e273, hx273_0⟩ := Kd.at_int (Kd.R_reads' HO_5.out).2.2 x10_3 p273 q273
                       cases e273
                       replace p273 := eq_true p273
                       replace q273 := eq_true q273
                       go_wp2_with (first | (go_at_call 23; (with_reducible refine (impl_OutletOf.calls kj29 _ _ t257 x10_3 t277 _ ?side1 ?side2 A73.out).mono ?_); (case side1 => repeat (first | exact (Kd.R_reads' HO_5.out).2.2 | (with_reducible refine Kd.C_alloc ?_ _) | (with_reducible refine Kd.C_drewN ?_ _) | (with_reducible refine Kd.C_drew ?_))); (case side2 => exact (Kd.R_reads' HO_5.out).2.1); rintro e w82 ⟨rfl, hb⟩; have n0_ := Aside0.mk (Kd.R_below HO_4.out hb); have n1_ := Aside0.mk (Kd.R_below HO_5.out hb); have n2_ := Aside0.mk (Kd.R_below HO_7.out hb); have n3_ := Aside0.mk (Kd.Q_below (by (with_reducible repeat (first | apply Kd.Q_alloc | apply Kd.Q_drewN | apply Kd.Q_drew)); exact HO_254002.out) hb); have n4_ := Aside0.mk (blk_below (g := gb253) (o := .cells #[.int .i64 t248, .int .i64 t249, .slice Ao12 t250.length co12] 27 (0, 0)) (by (with_reducible repeat (first | refine bN ?_ _ | refine bD ?_ | refine bA ?_ _)); exact BK253.out) hb); have n5_ := Aside0.mk (below_step (by repeat (first | (with_reducible first | exact HB.out | apply wA | apply wN | apply wD | refine bS ?_ GE253.out) | exact HB.out)) hb); clear HO_4; clear HO_5; clear HO_7; clear HO_254002; clear BK253; clear HB; have HO_4 := n0_; have HO_5 := n1_; have HO_7 := n2_; have HO_254002 := n3_; have BK253 := n4_; have HB := n5_; clear n0_ n1_ n2_ n3_ n4_ n5_; (try clear hb); (try clear hb2); (try clear hk); (try clear hi); have p278 : 0 ≤ (t277 : Int) := of_decide_eq_true (by first | (with_reducible assumption) | assumption); have q278 : t277 < (t257.length : Int) := of_decide_eq_true (by first | (with_reducible assumption) | assumption); obtain ⟨ad278, e278, hx278_0⟩ := Kd.at_int (Kd.R_reads' HO_5.out).2.2 t277 p278 q278; obtain rfl : ad273 = ad278 := (by injection e278); replace p278 := eq_true p278; replace q278 := eq_true q278))
                       repeat (go_quiet (first | (go_at_call 23; (with_reducible refine (impl_OutletOf.calls kj29 _ _ t257 x10_3 t277 _ ?side1 ?side2 A73.out).mono ?_); (case side1 => repeat (first | exact (Kd.R_reads' HO_5.out).2.2 | (with_reducible refine Kd.C_alloc ?_ _) | (with_reducible refine Kd.C_drewN ?_ _) | (with_reducible refine Kd.C_drew ?_))); (case side2 => exact (Kd.R_reads' HO_5.out).2.1); rintro e w82 ⟨rfl, hb⟩; have n0_ := Aside0.mk (Kd.R_below HO_4.out hb); have n1_ := Aside0.mk (Kd.R_below HO_5.out hb); have n2_ := Aside0.mk (Kd.R_below HO_7.out hb); have n3_ := Aside0.mk (Kd.Q_below (by (with_reducible repeat (first | apply Kd.Q_alloc | apply Kd.Q_drewN | apply Kd.Q_drew)); exact HO_254002.out) hb); have n4_ := Aside0.mk (blk_below (g := gb253) (o := .cells #[.int .i64 t248, .int .i64 t249, .slice Ao12 t250.length co12] 27 (0, 0)) (by (with_reducible repeat (first | refine bN ?_ _ | refine bD ?_ | refine bA ?_ _)); exact BK253.out) hb); have n5_ := Aside0.mk (below_step (by repeat (first | (with_reducible first | exact HB.out | apply wA | apply wN | apply wD | refine bS ?_ GE253.out) | exact HB.out)) hb); clear HO_4; clear HO_5; clear HO_7; clear HO_254002; clear BK253; clear HB; have HO_4 := n0_; have HO_5 := n1_; have HO_7 := n2_; have HO_254002 := n3_; have BK253 := n4_; have HB := n5_; clear n0_ n1_ n2_ n3_ n4_ n5_; (try clear hb); (try clear hb2); (try clear hk); (try clear hi); have p278 : 0 ≤ (t277 : Int) := of_decide_eq_true (by first | (with_reducible assumption) | assumption); have q278 : t277 < (t257.length : Int) := of_decide_eq_true (by first | (with_reducible assumption) | assumption); obtain ⟨ad278, e278, hx278_0⟩ := Kd.at_int (Kd.R_reads' HO_5.out).2.2 t277 p278 q278; obtain rfl : ad273 = ad278 := (by injection e278); replace p278 := eq_true p278; replace q278 := eq_true q278)); try go_wp2_with (first | (go_at_call 23; (with_reducible refine (impl_OutletOf.calls kj29 _ _ t257 x10_3 t277 _ ?side1 ?side2 A73.out).mono ?_); (case side1 => repeat (first | exact (Kd.R_reads' HO_5.out).2.2 | (with_reducible refine Kd.C_alloc ?_ _) | (with_reducible refine Kd.C_drewN ?_ _) | (with_reducible refine Kd.C_drew ?_))); (case side2 => exact (Kd.R_reads' HO_5.out).2.1); rintro e w82 ⟨rfl, hb⟩; have n0_ := Aside0.mk (Kd.R_below HO_4.out hb); have n1_ := Aside0.mk (Kd.R_below HO_5.out hb); have n2_ := Aside0.mk (Kd.R_below HO_7.out hb); have n3_ := Aside0.mk (Kd.Q_below (by (with_reducible repeat (first | apply Kd.Q_alloc | apply Kd.Q_drewN | apply Kd.Q_drew)); exact HO_254002.out) hb); have n4_ := Aside0.mk (blk_below (g := gb253) (o := .cells #[.int .i64 t248, .int .i64 t249, .slice Ao12 t250.length co12] 27 (0, 0)) (by (with_reducible repeat (first | refine bN ?_ _ | refine bD ?_ | refine bA ?_ _)); exact BK253.out) hb); have n5_ := Aside0.mk (below_step (by repeat (first | (with_reducible first | exact HB.out | apply wA | apply wN | apply wD | refine bS ?_ GE253.out) | exact HB.out)) hb); clear HO_4; clear HO_5; clear HO_7; clear HO_254002; clear BK253; clear HB; have HO_4 := n0_; have HO_5 := n1_; have HO_7 := n2_; have HO_254002 := n3_; have BK253 := n4_; have HB := n5_; clear n0_ n1_ n2_ n3_ n4_ n5_; (try clear hb); (try clear hb2); (try clear hk); (try clear hi); have p278 : 0 ≤ (t277 : Int) := of_decide_eq_true (by first | (with_reducible assumption) | assumption); have q278 : t277 < (t257.length : Int) := of_decide_eq_true (by first | (with_reducible assumption) | assumption); obtain ⟨ad278, e278, hx278_0⟩ := Kd.at_int (Kd.R_reads' HO_5.out).2.2 t277 p278 q278; obtain rfl : ad273 = ad278 := (by injection e278); replace p278 := eq_true p278; replace q278 := eq_true q278)))
                       go_ret
                       exact ⟨by first | rfl | (simp [errW_none, errW_some] <;> rfl) | (simp [*, errW_none, errW_some] <;> rfl), by repeat (first | (with_reducible first | exact HB.out | apply wA | apply wN | apply wD | refine bS ?_ GE253.out) | exact HB.out)⟩
                     ·rw [if_neg c79] at H
                      exact absurd H (by simp)
                    ·rw [if_neg c78] at H
                     exact absurd H (by simp)
                ·rw [if_neg c49] at H
                 exact absurd H (by simp)
               ·rw [if_neg c48] at H
                exact absurd H (by simp)
           ·rw [if_neg c29] at H
            have c29b0 : decide (x10_3 < (wrap64 (t248 * t249))) = false := decide_eq_false c29
            clear c29
            obtain rfl := Option.some.inj H
            go_wp2
            repeat (go_quiet (fail); try go_wp2)
            go_ret
            exact ⟨by first | rfl | (simp [errW_none, errW_some] <;> rfl) | (simp [*, errW_none, errW_some] <;> rfl), by repeat (first | (with_reducible first | exact HB.out | apply wA | apply wN | apply wD | refine bS ?_ GE253.out) | exact HB.out)⟩
  ·replace c7 := Bool.eq_false_iff.mpr c7
   subst c7
   have H1 : (if (t254.length : Int) = 0 then (some ((t257.length : Int) == 0)) else (some false)) = some r := by rw [if_neg (show ¬ (false = true) by decide)] at H; exact H
   clear H
   have H := H1
   clear H1
   by_cases c83 : (t254.length : Int) = 0
   ·rw [if_pos c83] at H
    have c83b0 : ((t254.length : Int) == 0) = true := beq_iff_eq.mpr c83
    have c83b1 : ((t254.length : Int) != 0) = false := bne_eq_false_iff_eq.mpr c83
    clear c83
    obtain rfl := Option.some.inj H
    go_enter Try.func5, Try.ntmps5
    go_wp2_with (first | (go_at_call 16; (with_reducible refine (laws_big.calls _ _ l0 false _ ?side1 ?side2 A2.out).mono ?_); (case side1 => repeat (first | exact HR0.out | (with_reducible refine Kd.C_alloc ?_ _) | (with_reducible refine Kd.C_drewN ?_ _) | (with_reducible refine Kd.C_drew ?_))); (case side2 => exact HC0.out); rintro e w' ⟨rfl, ⟨nd, rfl⟩⟩; (try first | exact ⟨rfl, _, World.drewN_drewN _ _ _⟩ | exact ⟨rfl, _, Eq.trans (World.drewN_drewN _ _ _) (congrArg (World.drewN _) (Nat.add_assoc _ _ _))⟩)) | (go_at_call 20; (with_reducible refine (spec_DrawDrain.calls k _ _ l0 t248 t249 t250 _ ?side1 ?side2 A4.out).mono ?_); (case side1 => repeat (first | exact HR0.out | (with_reducible refine Kd.C_alloc ?_ _) | (with_reducible refine Kd.C_drewN ?_ _) | (with_reducible refine Kd.C_drew ?_))); (case side2 => exact HC0.out); rintro e w84 ⟨v251, rfl, ho0, hb⟩; have n0_ := Aside0.mk (Kd.Q_lower ho0 (below_size (by repeat (first | (with_reducible first | exact HB.out | apply wA | apply wN | apply wD) | exact HB.out)))); have n1_ := Aside0.mk (below_step (by repeat (first | (with_reducible first | exact HB.out | apply wA | apply wN | apply wD) | exact HB.out)) hb); clear HB; have HO252 := n0_; have HB := n1_; clear n0_ n1_; (try clear hb); (try clear hb2); (try clear hk); (try clear hi); (try clear ho0)) | ((with_reducible refine gate_dst (N := 3) rfl ?_); (try (refine gate_guard (by rfl) ?_; dsimp only)); refine box_event ?hg (N := 3) ?hd (cs := #[.int .i64 0, .int .i64 0, .slice none 0 0]) (t := 27) ?hr ?_; (case hd => rfl); (case hg => rfl); (case hr => first | (go_simp; done) | (go_simp; rfl)); intro gb253 hg w85 hbox hb; have n0_ := Aside0.mk (Kd.Q_below (by (with_reducible repeat (first | apply Kd.Q_alloc | apply Kd.Q_drewN | apply Kd.Q_drew)); exact HO252.out) hb); have n1_ := Aside0.mk (below_step (by repeat (first | (with_reducible first | exact HB.out | apply wA | apply wN | apply wD) | exact HB.out)) hb); have n2_ := Aside0.mk (hbox); have n3_ := Aside0.mk ((by rw [hg]; exact (below_size (by repeat (first | (with_reducible first | exact HB.out | apply wA | apply wN | apply wD) | exact HB.out))) : w.heap.size ≤ gb253)); have n4_ := Aside0.mk ((by rw [hg]; exact (below_size (by repeat (first | (with_reducible first | exact HB.out | apply wA | apply wN | apply wD) | exact HB.out))) : w.heap.size ≤ gb253)); clear HO252; clear HB; have HO252 := n0_; have HB := n1_; have BK253 := n2_; have GW253 := n3_; have GE253 := n4_; clear n0_ n1_ n2_ n3_ n4_; clear hb hbox hg; have hcz86_0 : w85.cell? ⟨gb253, 0, none⟩ = some (.int .i64 0) := bC BK253.out 0 rfl; have hcz86_1 : w85.cell? ⟨gb253, 1, none⟩ = some (.int .i64 0) := bC BK253.out 1 rfl; have hcz86_2 : w85.cell? ⟨gb253, 2, none⟩ = some (.slice none 0 0) := bC BK253.out 2 rfl; have hfz86_0 := blk_frozen BK253.out 0; have hfz86_1 := blk_frozen BK253.out 1; have hfz86_2 := blk_frozen BK253.out 2; obtain ⟨Ao87, co87, eo87, _⟩ := Kd.Q_slice HO252.out; subst eo87) | (go_at_call 21; (with_reducible refine (impl_Drain.calls k t248 t249 _ _ t250 t254 t257 _ ?side1 ?side2 A5.out).mono ?_); (case side1 => refine (Kd.Q_reads' (e := 2) (base := w.heap.size) (ok := fun k_ => True) (n := t250.length) (c := co87) ?_).2.2; exact (by (with_reducible repeat (first | apply Kd.Q_alloc | apply Kd.Q_drewN | apply Kd.Q_drew)); exact (Kd.Q_mono (Kd.Q_far (p := ⟨gb253, 2, none⟩) (Kd.Q_far (p := ⟨gb253, 1, none⟩) (Kd.Q_far (p := ⟨gb253, 0, none⟩) (Kd.Q_types HO252.out BK253.out (by decide)) (fun _ hk => hk.2) (.int .i64 t248)) (fun _ hk => hk.2) (.int .i64 t249)) (fun _ hk => hk.2) (.slice Ao87 t250.length co87)) (fun _ h_ => h_.1)))); (case side2 => exact (Kd.Q_reads' HO252.out).2.1); rintro e w88 ⟨v255, v258, rfl, ho0, ho1, hb⟩; have n0_ := Aside0.mk (Kd.Q_mono (Kd.Q_told (Kd.Q_told (Kd.Q_old (by (with_reducible repeat (first | apply Kd.Q_alloc | apply Kd.Q_drewN | apply Kd.Q_drew)); exact (Kd.Q_mono (Kd.Q_far (p := ⟨gb253, 2, none⟩) (Kd.Q_far (p := ⟨gb253, 1, none⟩) (Kd.Q_far (p := ⟨gb253, 0, none⟩) (Kd.Q_types HO252.out BK253.out (by decide)) (fun _ hk => hk.2) (.int .i64 t248)) (fun _ hk => hk.2) (.int .i64 t249)) (fun _ hk => hk.2) (.slice Ao87 t250.length co87)) (fun _ h_ => h_.1))) hb) (Kd.R_base ho0)) (Kd.R_base ho1)) (fun _ h_ => h_.1)); have n1_ := Aside0.mk (Kd.R_lower (Kd.R_new' ho0 (Kd.Q_lt (by (with_reducible repeat (first | apply Kd.Q_alloc | apply Kd.Q_drewN | apply Kd.Q_drew)); exact (Kd.Q_mono (Kd.Q_far (p := ⟨gb253, 2, none⟩) (Kd.Q_far (p := ⟨gb253, 1, none⟩) (Kd.Q_far (p := ⟨gb253, 0, none⟩) (Kd.Q_types HO252.out BK253.out (by decide)) (fun _ hk => hk.2) (.int .i64 t248)) (fun _ hk => hk.2) (.int .i64 t249)) (fun _ hk => hk.2) (.slice Ao87 t250.length co87)) (fun _ h_ => h_.1))))) (below_size (by repeat (first | (with_reducible first | exact HB.out | apply wA | apply wN | apply wD | refine bS ?_ GE253.out) | exact HB.out)))); have n2_ := Aside0.mk (Kd.R_lower (Kd.R_new' ho1 (Kd.Q_lt (by (with_reducible repeat (first | apply Kd.Q_alloc | apply Kd.Q_drewN | apply Kd.Q_drew)); exact (Kd.Q_mono (Kd.Q_far (p := ⟨gb253, 2, none⟩) (Kd.Q_far (p := ⟨gb253, 1, none⟩) (Kd.Q_far (p := ⟨gb253, 0, none⟩) (Kd.Q_types HO252.out BK253.out (by decide)) (fun _ hk => hk.2) (.int .i64 t248)) (fun _ hk => hk.2) (.int .i64 t249)) (fun _ hk => hk.2) (.slice Ao87 t250.length co87)) (fun _ h_ => h_.1))))) (below_size (by repeat (first | (with_reducible first | exact HB.out | apply wA | apply wN | apply wD | refine bS ?_ GE253.out) | exact HB.out)))); have n3_ := Aside0.mk (blk_below (g := gb253) (o := .cells #[.int .i64 t248, .int .i64 t249, .slice Ao87 t250.length co87] 27 (0, 0)) (by (with_reducible repeat (first | refine bN ?_ _ | refine bD ?_ | refine bA ?_ _)); refine blk_put (cs := #[.int .i64 t248, .int .i64 t249, .slice none 0 0]) ?_ 2 _ rfl; (with_reducible repeat (first | refine bN ?_ _ | refine bD ?_ | refine bA ?_ _)); refine blk_put (cs := #[.int .i64 t248, .int .i64 0, .slice none 0 0]) ?_ 1 _ rfl; (with_reducible repeat (first | refine bN ?_ _ | refine bD ?_ | refine bA ?_ _)); refine blk_put (cs := #[.int .i64 0, .int .i64 0, .slice none 0 0]) ?_ 0 _ rfl; (with_reducible repeat (first | refine bN ?_ _ | refine bD ?_ | refine bA ?_ _)); exact BK253.out) hb); have n4_ := Aside0.mk (below_step (by repeat (first | (with_reducible first | exact HB.out | apply wA | apply wN | apply wD | refine bS ?_ GE253.out) | exact HB.out)) hb); clear HO252; clear BK253; clear HB; have HO252 := n0_; have HO256 := n1_; have HO259 := n2_; have BK253 := n3_; have HB := n4_; clear n0_ n1_ n2_ n3_ n4_; (try clear hb); (try clear hb2); (try clear hk); (try clear hi); (try clear ho0); (try clear ho1); have hcz89_0 : w88.cell? ⟨gb253, 0, none⟩ = some (.int .i64 t248) := bC BK253.out 0 rfl; have hcz89_1 : w88.cell? ⟨gb253, 1, none⟩ = some (.int .i64 t249) := bC BK253.out 1 rfl; have hcz89_2 : w88.cell? ⟨gb253, 2, none⟩ = some (.slice Ao87 t250.length co87) := bC BK253.out 2 rfl; have hfz89_0 := blk_frozen BK253.out 0; have hfz89_1 := blk_frozen BK253.out 1; have hfz89_2 := blk_frozen BK253.out 2) | (go_at_call 18; (with_reducible refine (spec_BoxOk.calls k t248 t249 _ _ t250 false _ ?side1 ?side2 A6.out).mono ?_); (case side1 => repeat (first | exact (Kd.Q_reads' HO252.out).2.2 | (with_reducible refine Kd.C_alloc ?_ _) | (with_reducible refine Kd.C_drewN ?_ _) | (with_reducible refine Kd.C_drew ?_))); (case side2 => exact (Kd.Q_reads' HO252.out).2.1); rintro e w90 ⟨rfl, hb⟩; have n0_ := Aside0.mk (Kd.Q_below (by (with_reducible repeat (first | apply Kd.Q_alloc | apply Kd.Q_drewN | apply Kd.Q_drew)); exact HO252.out) hb); have n1_ := Aside0.mk (Kd.R_below (by (with_reducible repeat (first | apply Kd.R_alloc | apply Kd.R_drewN | apply Kd.R_drew)); exact HO256.out) hb); have n2_ := Aside0.mk (Kd.R_below (by (with_reducible repeat (first | apply Kd.R_alloc | apply Kd.R_drewN | apply Kd.R_drew)); exact HO259.out) hb); have n3_ := Aside0.mk (blk_below (g := gb253) (o := .cells #[.int .i64 t248, .int .i64 t249, .slice Ao87 t250.length co87] 27 (0, 0)) (by (with_reducible repeat (first | refine bN ?_ _ | refine bD ?_ | refine bA ?_ _)); exact BK253.out) hb); have n4_ := Aside0.mk (below_step (by repeat (first | (with_reducible first | exact HB.out | apply wA | apply wN | apply wD | refine bS ?_ GE253.out) | exact HB.out)) hb); clear HO252; clear HO256; clear HO259; clear BK253; clear HB; have HO252 := n0_; have HO256 := n1_; have HO259 := n2_; have BK253 := n3_; have HB := n4_; clear n0_ n1_ n2_ n3_ n4_; (try clear hb); (try clear hb2); (try clear hk); (try clear hi); obtain ⟨Ao91, co91, eo91⟩ := Kd.R_slice HO256.out; subst eo91; obtain ⟨Ao92, co92, eo92⟩ := Kd.R_slice HO259.out; subst eo92))
    repeat (go_quiet (first | (go_at_call 16; (with_reducible refine (laws_big.calls _ _ l0 false _ ?side1 ?side2 A2.out).mono ?_); (case side1 => repeat (first | exact HR0.out | (with_reducible refine Kd.C_alloc ?_ _) | (with_reducible refine Kd.C_drewN ?_ _) | (with_reducible refine Kd.C_drew ?_))); (case side2 => exact HC0.out); rintro e w' ⟨rfl, ⟨nd, rfl⟩⟩; (try first | exact ⟨rfl, _, World.drewN_drewN _ _ _⟩ | exact ⟨rfl, _, Eq.trans (World.drewN_drewN _ _ _) (congrArg (World.drewN _) (Nat.add_assoc _ _ _))⟩)) | (go_at_call 20; (with_reducible refine (spec_DrawDrain.calls k _ _ l0 t248 t249 t250 _ ?side1 ?side2 A4.out).mono ?_); (case side1 => repeat (first | exact HR0.out | (with_reducible refine Kd.C_alloc ?_ _) | (with_reducible refine Kd.C_drewN ?_ _) | (with_reducible refine Kd.C_drew ?_))); (case side2 => exact HC0.out); rintro e w84 ⟨v251, rfl, ho0, hb⟩; have n0_ := Aside0.mk (Kd.Q_lower ho0 (below_size (by repeat (first | (with_reducible first | exact HB.out | apply wA | apply wN | apply wD) | exact HB.out)))); have n1_ := Aside0.mk (below_step (by repeat (first | (with_reducible first | exact HB.out | apply wA | apply wN | apply wD) | exact HB.out)) hb); clear HB; have HO252 := n0_; have HB := n1_; clear n0_ n1_; (try clear hb); (try clear hb2); (try clear hk); (try clear hi); (try clear ho0)) | ((with_reducible refine gate_dst (N := 3) rfl ?_); (try (refine gate_guard (by rfl) ?_; dsimp only)); refine box_event ?hg (N := 3) ?hd (cs := #[.int .i64 0, .int .i64 0, .slice none 0 0]) (t := 27) ?hr ?_; (case hd => rfl); (case hg => rfl); (case hr => first | (go_simp; done) | (go_simp; rfl)); intro gb253 hg w85 hbox hb; have n0_ := Aside0.mk (Kd.Q_below (by (with_reducible repeat (first | apply Kd.Q_alloc | apply Kd.Q_drewN | apply Kd.Q_drew)); exact HO252.out) hb); have n1_ := Aside0.mk (below_step (by repeat (first | (with_reducible first | exact HB.out | apply wA | apply wN | apply wD) | exact HB.out)) hb); have n2_ := Aside0.mk (hbox); have n3_ := Aside0.mk ((by rw [hg]; exact (below_size (by repeat (first | (with_reducible first | exact HB.out | apply wA | apply wN | apply wD) | exact HB.out))) : w.heap.size ≤ gb253)); have n4_ := Aside0.mk ((by rw [hg]; exact (below_size (by repeat (first | (with_reducible first | exact HB.out | apply wA | apply wN | apply wD) | exact HB.out))) : w.heap.size ≤ gb253)); clear HO252; clear HB; have HO252 := n0_; have HB := n1_; have BK253 := n2_; have GW253 := n3_; have GE253 := n4_; clear n0_ n1_ n2_ n3_ n4_; clear hb hbox hg; have hcz86_0 : w85.cell? ⟨gb253, 0, none⟩ = some (.int .i64 0) := bC BK253.out 0 rfl; have hcz86_1 : w85.cell? ⟨gb253, 1, none⟩ = some (.int .i64 0) := bC BK253.out 1 rfl; have hcz86_2 : w85.cell? ⟨gb253, 2, none⟩ = some (.slice none 0 0) := bC BK253.out 2 rfl; have hfz86_0 := blk_frozen BK253.out 0; have hfz86_1 := blk_frozen BK253.out 1; have hfz86_2 := blk_frozen BK253.out 2; obtain ⟨Ao87, co87, eo87, _⟩ := Kd.Q_slice HO252.out; subst eo87) | (go_at_call 21; (with_reducible refine (impl_Drain.calls k t248 t249 _ _ t250 t254 t257 _ ?side1 ?side2 A5.out).mono ?_); (case side1 => refine (Kd.Q_reads' (e := 2) (base := w.heap.size) (ok := fun k_ => True) (n := t250.length) (c := co87) ?_).2.2; exact (by (with_reducible repeat (first | apply Kd.Q_alloc | apply Kd.Q_drewN | apply Kd.Q_drew)); exact (Kd.Q_mono (Kd.Q_far (p := ⟨gb253, 2, none⟩) (Kd.Q_far (p := ⟨gb253, 1, none⟩) (Kd.Q_far (p := ⟨gb253, 0, none⟩) (Kd.Q_types HO252.out BK253.out (by decide)) (fun _ hk => hk.2) (.int .i64 t248)) (fun _ hk => hk.2) (.int .i64 t249)) (fun _ hk => hk.2) (.slice Ao87 t250.length co87)) (fun _ h_ => h_.1)))); (case side2 => exact (Kd.Q_reads' HO252.out).2.1); rintro e w88 ⟨v255, v258, rfl, ho0, ho1, hb⟩; have n0_ := Aside0.mk (Kd.Q_mono (Kd.Q_told (Kd.Q_told (Kd.Q_old (by (with_reducible repeat (first | apply Kd.Q_alloc | apply Kd.Q_drewN | apply Kd.Q_drew)); exact (Kd.Q_mono (Kd.Q_far (p := ⟨gb253, 2, none⟩) (Kd.Q_far (p := ⟨gb253, 1, none⟩) (Kd.Q_far (p := ⟨gb253, 0, none⟩) (Kd.Q_types HO252.out BK253.out (by decide)) (fun _ hk => hk.2) (.int .i64 t248)) (fun _ hk => hk.2) (.int .i64 t249)) (fun _ hk => hk.2) (.slice Ao87 t250.length co87)) (fun _ h_ => h_.1))) hb) (Kd.R_base ho0)) (Kd.R_base ho1)) (fun _ h_ => h_.1)); have n1_ := Aside0.mk (Kd.R_lower (Kd.R_new' ho0 (Kd.Q_lt (by (with_reducible repeat (first | apply Kd.Q_alloc | apply Kd.Q_drewN | apply Kd.Q_drew)); exact (Kd.Q_mono (Kd.Q_far (p := ⟨gb253, 2, none⟩) (Kd.Q_far (p := ⟨gb253, 1, none⟩) (Kd.Q_far (p := ⟨gb253, 0, none⟩) (Kd.Q_types HO252.out BK253.out (by decide)) (fun _ hk => hk.2) (.int .i64 t248)) (fun _ hk => hk.2) (.int .i64 t249)) (fun _ hk => hk.2) (.slice Ao87 t250.length co87)) (fun _ h_ => h_.1))))) (below_size (by repeat (first | (with_reducible first | exact HB.out | apply wA | apply wN | apply wD | refine bS ?_ GE253.out) | exact HB.out)))); have n2_ := Aside0.mk (Kd.R_lower (Kd.R_new' ho1 (Kd.Q_lt (by (with_reducible repeat (first | apply Kd.Q_alloc | apply Kd.Q_drewN | apply Kd.Q_drew)); exact (Kd.Q_mono (Kd.Q_far (p := ⟨gb253, 2, none⟩) (Kd.Q_far (p := ⟨gb253, 1, none⟩) (Kd.Q_far (p := ⟨gb253, 0, none⟩) (Kd.Q_types HO252.out BK253.out (by decide)) (fun _ hk => hk.2) (.int .i64 t248)) (fun _ hk => hk.2) (.int .i64 t249)) (fun _ hk => hk.2) (.slice Ao87 t250.length co87)) (fun _ h_ => h_.1))))) (below_size (by repeat (first | (with_reducible first | exact HB.out | apply wA | apply wN | apply wD | refine bS ?_ GE253.out) | exact HB.out)))); have n3_ := Aside0.mk (blk_below (g := gb253) (o := .cells #[.int .i64 t248, .int .i64 t249, .slice Ao87 t250.length co87] 27 (0, 0)) (by (with_reducible repeat (first | refine bN ?_ _ | refine bD ?_ | refine bA ?_ _)); refine blk_put (cs := #[.int .i64 t248, .int .i64 t249, .slice none 0 0]) ?_ 2 _ rfl; (with_reducible repeat (first | refine bN ?_ _ | refine bD ?_ | refine bA ?_ _)); refine blk_put (cs := #[.int .i64 t248, .int .i64 0, .slice none 0 0]) ?_ 1 _ rfl; (with_reducible repeat (first | refine bN ?_ _ | refine bD ?_ | refine bA ?_ _)); refine blk_put (cs := #[.int .i64 0, .int .i64 0, .slice none 0 0]) ?_ 0 _ rfl; (with_reducible repeat (first | refine bN ?_ _ | refine bD ?_ | refine bA ?_ _)); exact BK253.out) hb); have n4_ := Aside0.mk (below_step (by repeat (first | (with_reducible first | exact HB.out | apply wA | apply wN | apply wD | refine bS ?_ GE253.out) | exact HB.out)) hb); clear HO252; clear BK253; clear HB; have HO252 := n0_; have HO256 := n1_; have HO259 := n2_; have BK253 := n3_; have HB := n4_; clear n0_ n1_ n2_ n3_ n4_; (try clear hb); (try clear hb2); (try clear hk); (try clear hi); (try clear ho0); (try clear ho1); have hcz89_0 : w88.cell? ⟨gb253, 0, none⟩ = some (.int .i64 t248) := bC BK253.out 0 rfl; have hcz89_1 : w88.cell? ⟨gb253, 1, none⟩ = some (.int .i64 t249) := bC BK253.out 1 rfl; have hcz89_2 : w88.cell? ⟨gb253, 2, none⟩ = some (.slice Ao87 t250.length co87) := bC BK253.out 2 rfl; have hfz89_0 := blk_frozen BK253.out 0; have hfz89_1 := blk_frozen BK253.out 1; have hfz89_2 := blk_frozen BK253.out 2) | (go_at_call 18; (with_reducible refine (spec_BoxOk.calls k t248 t249 _ _ t250 false _ ?side1 ?side2 A6.out).mono ?_); (case side1 => repeat (first | exact (Kd.Q_reads' HO252.out).2.2 | (with_reducible refine Kd.C_alloc ?_ _) | (with_reducible refine Kd.C_drewN ?_ _) | (with_reducible refine Kd.C_drew ?_))); (case side2 => exact (Kd.Q_reads' HO252.out).2.1); rintro e w90 ⟨rfl, hb⟩; have n0_ := Aside0.mk (Kd.Q_below (by (with_reducible repeat (first | apply Kd.Q_alloc | apply Kd.Q_drewN | apply Kd.Q_drew)); exact HO252.out) hb); have n1_ := Aside0.mk (Kd.R_below (by (with_reducible repeat (first | apply Kd.R_alloc | apply Kd.R_drewN | apply Kd.R_drew)); exact HO256.out) hb); have n2_ := Aside0.mk (Kd.R_below (by (with_reducible repeat (first | apply Kd.R_alloc | apply Kd.R_drewN | apply Kd.R_drew)); exact HO259.out) hb); have n3_ := Aside0.mk (blk_below (g := gb253) (o := .cells #[.int .i64 t248, .int .i64 t249, .slice Ao87 t250.length co87] 27 (0, 0)) (by (with_reducible repeat (first | refine bN ?_ _ | refine bD ?_ | refine bA ?_ _)); exact BK253.out) hb); have n4_ := Aside0.mk (below_step (by repeat (first | (with_reducible first | exact HB.out | apply wA | apply wN | apply wD | refine bS ?_ GE253.out) | exact HB.out)) hb); clear HO252; clear HO256; clear HO259; clear BK253; clear HB; have HO252 := n0_; have HO256 := n1_; have HO259 := n2_; have BK253 := n3_; have HB := n4_; clear n0_ n1_ n2_ n3_ n4_; (try clear hb); (try clear hb2); (try clear hk); (try clear hi); obtain ⟨Ao91, co91, eo91⟩ := Kd.R_slice HO256.out; subst eo91; obtain ⟨Ao92, co92, eo92⟩ := Kd.R_slice HO259.out; subst eo92)); try go_wp2_with (first | (go_at_call 16; (with_reducible refine (laws_big.calls _ _ l0 false _ ?side1 ?side2 A2.out).mono ?_); (case side1 => repeat (first | exact HR0.out | (with_reducible refine Kd.C_alloc ?_ _) | (with_reducible refine Kd.C_drewN ?_ _) | (with_reducible refine Kd.C_drew ?_))); (case side2 => exact HC0.out); rintro e w' ⟨rfl, ⟨nd, rfl⟩⟩; (try first | exact ⟨rfl, _, World.drewN_drewN _ _ _⟩ | exact ⟨rfl, _, Eq.trans (World.drewN_drewN _ _ _) (congrArg (World.drewN _) (Nat.add_assoc _ _ _))⟩)) | (go_at_call 20; (with_reducible refine (spec_DrawDrain.calls k _ _ l0 t248 t249 t250 _ ?side1 ?side2 A4.out).mono ?_); (case side1 => repeat (first | exact HR0.out | (with_reducible refine Kd.C_alloc ?_ _) | (with_reducible refine Kd.C_drewN ?_ _) | (with_reducible refine Kd.C_drew ?_))); (case side2 => exact HC0.out); rintro e w84 ⟨v251, rfl, ho0, hb⟩; have n0_ := Aside0.mk (Kd.Q_lower ho0 (below_size (by repeat (first | (with_reducible first | exact HB.out | apply wA | apply wN | apply wD) | exact HB.out)))); have n1_ := Aside0.mk (below_step (by repeat (first | (with_reducible first | exact HB.out | apply wA | apply wN | apply wD) | exact HB.out)) hb); clear HB; have HO252 := n0_; have HB := n1_; clear n0_ n1_; (try clear hb); (try clear hb2); (try clear hk); (try clear hi); (try clear ho0)) | ((with_reducible refine gate_dst (N := 3) rfl ?_); (try (refine gate_guard (by rfl) ?_; dsimp only)); refine box_event ?hg (N := 3) ?hd (cs := #[.int .i64 0, .int .i64 0, .slice none 0 0]) (t := 27) ?hr ?_; (case hd => rfl); (case hg => rfl); (case hr => first | (go_simp; done) | (go_simp; rfl)); intro gb253 hg w85 hbox hb; have n0_ := Aside0.mk (Kd.Q_below (by (with_reducible repeat (first | apply Kd.Q_alloc | apply Kd.Q_drewN | apply Kd.Q_drew)); exact HO252.out) hb); have n1_ := Aside0.mk (below_step (by repeat (first | (with_reducible first | exact HB.out | apply wA | apply wN | apply wD) | exact HB.out)) hb); have n2_ := Aside0.mk (hbox); have n3_ := Aside0.mk ((by rw [hg]; exact (below_size (by repeat (first | (with_reducible first | exact HB.out | apply wA | apply wN | apply wD) | exact HB.out))) : w.heap.size ≤ gb253)); have n4_ := Aside0.mk ((by rw [hg]; exact (below_size (by repeat (first | (with_reducible first | exact HB.out | apply wA | apply wN | apply wD) | exact HB.out))) : w.heap.size ≤ gb253)); clear HO252; clear HB; have HO252 := n0_; have HB := n1_; have BK253 := n2_; have GW253 := n3_; have GE253 := n4_; clear n0_ n1_ n2_ n3_ n4_; clear hb hbox hg; have hcz86_0 : w85.cell? ⟨gb253, 0, none⟩ = some (.int .i64 0) := bC BK253.out 0 rfl; have hcz86_1 : w85.cell? ⟨gb253, 1, none⟩ = some (.int .i64 0) := bC BK253.out 1 rfl; have hcz86_2 : w85.cell? ⟨gb253, 2, none⟩ = some (.slice none 0 0) := bC BK253.out 2 rfl; have hfz86_0 := blk_frozen BK253.out 0; have hfz86_1 := blk_frozen BK253.out 1; have hfz86_2 := blk_frozen BK253.out 2; obtain ⟨Ao87, co87, eo87, _⟩ := Kd.Q_slice HO252.out; subst eo87) | (go_at_call 21; (with_reducible refine (impl_Drain.calls k t248 t249 _ _ t250 t254 t257 _ ?side1 ?side2 A5.out).mono ?_); (case side1 => refine (Kd.Q_reads' (e := 2) (base := w.heap.size) (ok := fun k_ => True) (n := t250.length) (c := co87) ?_).2.2; exact (by (with_reducible repeat (first | apply Kd.Q_alloc | apply Kd.Q_drewN | apply Kd.Q_drew)); exact (Kd.Q_mono (Kd.Q_far (p := ⟨gb253, 2, none⟩) (Kd.Q_far (p := ⟨gb253, 1, none⟩) (Kd.Q_far (p := ⟨gb253, 0, none⟩) (Kd.Q_types HO252.out BK253.out (by decide)) (fun _ hk => hk.2) (.int .i64 t248)) (fun _ hk => hk.2) (.int .i64 t249)) (fun _ hk => hk.2) (.slice Ao87 t250.length co87)) (fun _ h_ => h_.1)))); (case side2 => exact (Kd.Q_reads' HO252.out).2.1); rintro e w88 ⟨v255, v258, rfl, ho0, ho1, hb⟩; have n0_ := Aside0.mk (Kd.Q_mono (Kd.Q_told (Kd.Q_told (Kd.Q_old (by (with_reducible repeat (first | apply Kd.Q_alloc | apply Kd.Q_drewN | apply Kd.Q_drew)); exact (Kd.Q_mono (Kd.Q_far (p := ⟨gb253, 2, none⟩) (Kd.Q_far (p := ⟨gb253, 1, none⟩) (Kd.Q_far (p := ⟨gb253, 0, none⟩) (Kd.Q_types HO252.out BK253.out (by decide)) (fun _ hk => hk.2) (.int .i64 t248)) (fun _ hk => hk.2) (.int .i64 t249)) (fun _ hk => hk.2) (.slice Ao87 t250.length co87)) (fun _ h_ => h_.1))) hb) (Kd.R_base ho0)) (Kd.R_base ho1)) (fun _ h_ => h_.1)); have n1_ := Aside0.mk (Kd.R_lower (Kd.R_new' ho0 (Kd.Q_lt (by (with_reducible repeat (first | apply Kd.Q_alloc | apply Kd.Q_drewN | apply Kd.Q_drew)); exact (Kd.Q_mono (Kd.Q_far (p := ⟨gb253, 2, none⟩) (Kd.Q_far (p := ⟨gb253, 1, none⟩) (Kd.Q_far (p := ⟨gb253, 0, none⟩) (Kd.Q_types HO252.out BK253.out (by decide)) (fun _ hk => hk.2) (.int .i64 t248)) (fun _ hk => hk.2) (.int .i64 t249)) (fun _ hk => hk.2) (.slice Ao87 t250.length co87)) (fun _ h_ => h_.1))))) (below_size (by repeat (first | (with_reducible first | exact HB.out | apply wA | apply wN | apply wD | refine bS ?_ GE253.out) | exact HB.out)))); have n2_ := Aside0.mk (Kd.R_lower (Kd.R_new' ho1 (Kd.Q_lt (by (with_reducible repeat (first | apply Kd.Q_alloc | apply Kd.Q_drewN | apply Kd.Q_drew)); exact (Kd.Q_mono (Kd.Q_far (p := ⟨gb253, 2, none⟩) (Kd.Q_far (p := ⟨gb253, 1, none⟩) (Kd.Q_far (p := ⟨gb253, 0, none⟩) (Kd.Q_types HO252.out BK253.out (by decide)) (fun _ hk => hk.2) (.int .i64 t248)) (fun _ hk => hk.2) (.int .i64 t249)) (fun _ hk => hk.2) (.slice Ao87 t250.length co87)) (fun _ h_ => h_.1))))) (below_size (by repeat (first | (with_reducible first | exact HB.out | apply wA | apply wN | apply wD | refine bS ?_ GE253.out) | exact HB.out)))); have n3_ := Aside0.mk (blk_below (g := gb253) (o := .cells #[.int .i64 t248, .int .i64 t249, .slice Ao87 t250.length co87] 27 (0, 0)) (by (with_reducible repeat (first | refine bN ?_ _ | refine bD ?_ | refine bA ?_ _)); refine blk_put (cs := #[.int .i64 t248, .int .i64 t249, .slice none 0 0]) ?_ 2 _ rfl; (with_reducible repeat (first | refine bN ?_ _ | refine bD ?_ | refine bA ?_ _)); refine blk_put (cs := #[.int .i64 t248, .int .i64 0, .slice none 0 0]) ?_ 1 _ rfl; (with_reducible repeat (first | refine bN ?_ _ | refine bD ?_ | refine bA ?_ _)); refine blk_put (cs := #[.int .i64 0, .int .i64 0, .slice none 0 0]) ?_ 0 _ rfl; (with_reducible repeat (first | refine bN ?_ _ | refine bD ?_ | refine bA ?_ _)); exact BK253.out) hb); have n4_ := Aside0.mk (below_step (by repeat (first | (with_reducible first | exact HB.out | apply wA | apply wN | apply wD | refine bS ?_ GE253.out) | exact HB.out)) hb); clear HO252; clear BK253; clear HB; have HO252 := n0_; have HO256 := n1_; have HO259 := n2_; have BK253 := n3_; have HB := n4_; clear n0_ n1_ n2_ n3_ n4_; (try clear hb); (try clear hb2); (try clear hk); (try clear hi); (try clear ho0); (try clear ho1); have hcz89_0 : w88.cell? ⟨gb253, 0, none⟩ = some (.int .i64 t248) := bC BK253.out 0 rfl; have hcz89_1 : w88.cell? ⟨gb253, 1, none⟩ = some (.int .i64 t249) := bC BK253.out 1 rfl; have hcz89_2 : w88.cell? ⟨gb253, 2, none⟩ = some (.slice Ao87 t250.length co87) := bC BK253.out 2 rfl; have hfz89_0 := blk_frozen BK253.out 0; have hfz89_1 := blk_frozen BK253.out 1; have hfz89_2 := blk_frozen BK253.out 2) | (go_at_call 18; (with_reducible refine (spec_BoxOk.calls k t248 t249 _ _ t250 false _ ?side1 ?side2 A6.out).mono ?_); (case side1 => repeat (first | exact (Kd.Q_reads' HO252.out).2.2 | (with_reducible refine Kd.C_alloc ?_ _) | (with_reducible refine Kd.C_drewN ?_ _) | (with_reducible refine Kd.C_drew ?_))); (case side2 => exact (Kd.Q_reads' HO252.out).2.1); rintro e w90 ⟨rfl, hb⟩; have n0_ := Aside0.mk (Kd.Q_below (by (with_reducible repeat (first | apply Kd.Q_alloc | apply Kd.Q_drewN | apply Kd.Q_drew)); exact HO252.out) hb); have n1_ := Aside0.mk (Kd.R_below (by (with_reducible repeat (first | apply Kd.R_alloc | apply Kd.R_drewN | apply Kd.R_drew)); exact HO256.out) hb); have n2_ := Aside0.mk (Kd.R_below (by (with_reducible repeat (first | apply Kd.R_alloc | apply Kd.R_drewN | apply Kd.R_drew)); exact HO259.out) hb); have n3_ := Aside0.mk (blk_below (g := gb253) (o := .cells #[.int .i64 t248, .int .i64 t249, .slice Ao87 t250.length co87] 27 (0, 0)) (by (with_reducible repeat (first | refine bN ?_ _ | refine bD ?_ | refine bA ?_ _)); exact BK253.out) hb); have n4_ := Aside0.mk (below_step (by repeat (first | (with_reducible first | exact HB.out | apply wA | apply wN | apply wD | refine bS ?_ GE253.out) | exact HB.out)) hb); clear HO252; clear HO256; clear HO259; clear BK253; clear HB; have HO252 := n0_; have HO256 := n1_; have HO259 := n2_; have BK253 := n3_; have HB := n4_; clear n0_ n1_ n2_ n3_ n4_; (try clear hb); (try clear hb2); (try clear hk); (try clear hi); obtain ⟨Ao91, co91, eo91⟩ := Kd.R_slice HO256.out; subst eo91; obtain ⟨Ao92, co92, eo92⟩ := Kd.R_slice HO259.out; subst eo92)))
    go_ret
    exact ⟨by first | rfl | (simp [errW_none, errW_some] <;> rfl) | (simp [*, errW_none, errW_some] <;> rfl), by repeat (first | (with_reducible first | exact HB.out | apply wA | apply wN | apply wD | refine bS ?_ GE253.out) | exact HB.out)⟩
   ·rw [if_neg c83] at H
    have c83b0 : ((t254.length : Int) == 0) = false := beq_eq_false_iff_ne.mpr c83
    have c83b1 : ((t254.length : Int) != 0) = true := bne_iff_ne.mpr c83
    have c83b2 : ¬ (t254 = []) := fun h_ => c83 (by rw [h_]; rfl)
    obtain rfl := Option.some.inj H
    go_enter Try.func5, Try.ntmps5
    go_wp2_with (first | (go_at_call 16; (with_reducible refine (laws_big.calls _ _ l0 false _ ?side1 ?side2 A2.out).mono ?_); (case side1 => repeat (first | exact HR0.out | (with_reducible refine Kd.C_alloc ?_ _) | (with_reducible refine Kd.C_drewN ?_ _) | (with_reducible refine Kd.C_drew ?_))); (case side2 => exact HC0.out); rintro e w' ⟨rfl, ⟨nd, rfl⟩⟩; (try first | exact ⟨rfl, _, World.drewN_drewN _ _ _⟩ | exact ⟨rfl, _, Eq.trans (World.drewN_drewN _ _ _) (congrArg (World.drewN _) (Nat.add_assoc _ _ _))⟩)) | (go_at_call 20; (with_reducible refine (spec_DrawDrain.calls k _ _ l0 t248 t249 t250 _ ?side1 ?side2 A4.out).mono ?_); (case side1 => repeat (first | exact HR0.out | (with_reducible refine Kd.C_alloc ?_ _) | (with_reducible refine Kd.C_drewN ?_ _) | (with_reducible refine Kd.C_drew ?_))); (case side2 => exact HC0.out); rintro e w93 ⟨v251, rfl, ho0, hb⟩; have n0_ := Aside0.mk (Kd.Q_lower ho0 (below_size (by repeat (first | (with_reducible first | exact HB.out | apply wA | apply wN | apply wD) | exact HB.out)))); have n1_ := Aside0.mk (below_step (by repeat (first | (with_reducible first | exact HB.out | apply wA | apply wN | apply wD) | exact HB.out)) hb); clear HB; have HO252 := n0_; have HB := n1_; clear n0_ n1_; (try clear hb); (try clear hb2); (try clear hk); (try clear hi); (try clear ho0)) | ((with_reducible refine gate_dst (N := 3) rfl ?_); (try (refine gate_guard (by rfl) ?_; dsimp only)); refine box_event ?hg (N := 3) ?hd (cs := #[.int .i64 0, .int .i64 0, .slice none 0 0]) (t := 27) ?hr ?_; (case hd => rfl); (case hg => rfl); (case hr => first | (go_simp; done) | (go_simp; rfl)); intro gb253 hg w94 hbox hb; have n0_ := Aside0.mk (Kd.Q_below (by (with_reducible repeat (first | apply Kd.Q_alloc | apply Kd.Q_drewN | apply Kd.Q_drew)); exact HO252.out) hb); have n1_ := Aside0.mk (below_step (by repeat (first | (with_reducible first | exact HB.out | apply wA | apply wN | apply wD) | exact HB.out)) hb); have n2_ := Aside0.mk (hbox); have n3_ := Aside0.mk ((by rw [hg]; exact (below_size (by repeat (first | (with_reducible first | exact HB.out | apply wA | apply wN | apply wD) | exact HB.out))) : w.heap.size ≤ gb253)); have n4_ := Aside0.mk ((by rw [hg]; exact (below_size (by repeat (first | (with_reducible first | exact HB.out | apply wA | apply wN | apply wD) | exact HB.out))) : w.heap.size ≤ gb253)); clear HO252; clear HB; have HO252 := n0_; have HB := n1_; have BK253 := n2_; have GW253 := n3_; have GE253 := n4_; clear n0_ n1_ n2_ n3_ n4_; clear hb hbox hg; have hcz95_0 : w94.cell? ⟨gb253, 0, none⟩ = some (.int .i64 0) := bC BK253.out 0 rfl; have hcz95_1 : w94.cell? ⟨gb253, 1, none⟩ = some (.int .i64 0) := bC BK253.out 1 rfl; have hcz95_2 : w94.cell? ⟨gb253, 2, none⟩ = some (.slice none 0 0) := bC BK253.out 2 rfl; have hfz95_0 := blk_frozen BK253.out 0; have hfz95_1 := blk_frozen BK253.out 1; have hfz95_2 := blk_frozen BK253.out 2; obtain ⟨Ao96, co96, eo96, _⟩ := Kd.Q_slice HO252.out; subst eo96) | (go_at_call 21; (with_reducible refine (impl_Drain.calls k t248 t249 _ _ t250 t254 t257 _ ?side1 ?side2 A5.out).mono ?_); (case side1 => refine (Kd.Q_reads' (e := 2) (base := w.heap.size) (ok := fun k_ => True) (n := t250.length) (c := co96) ?_).2.2; exact (by (with_reducible repeat (first | apply Kd.Q_alloc | apply Kd.Q_drewN | apply Kd.Q_drew)); exact (Kd.Q_mono (Kd.Q_far (p := ⟨gb253, 2, none⟩) (Kd.Q_far (p := ⟨gb253, 1, none⟩) (Kd.Q_far (p := ⟨gb253, 0, none⟩) (Kd.Q_types HO252.out BK253.out (by decide)) (fun _ hk => hk.2) (.int .i64 t248)) (fun _ hk => hk.2) (.int .i64 t249)) (fun _ hk => hk.2) (.slice Ao96 t250.length co96)) (fun _ h_ => h_.1)))); (case side2 => exact (Kd.Q_reads' HO252.out).2.1); rintro e w97 ⟨v255, v258, rfl, ho0, ho1, hb⟩; have n0_ := Aside0.mk (Kd.Q_mono (Kd.Q_told (Kd.Q_told (Kd.Q_old (by (with_reducible repeat (first | apply Kd.Q_alloc | apply Kd.Q_drewN | apply Kd.Q_drew)); exact (Kd.Q_mono (Kd.Q_far (p := ⟨gb253, 2, none⟩) (Kd.Q_far (p := ⟨gb253, 1, none⟩) (Kd.Q_far (p := ⟨gb253, 0, none⟩) (Kd.Q_types HO252.out BK253.out (by decide)) (fun _ hk => hk.2) (.int .i64 t248)) (fun _ hk => hk.2) (.int .i64 t249)) (fun _ hk => hk.2) (.slice Ao96 t250.length co96)) (fun _ h_ => h_.1))) hb) (Kd.R_base ho0)) (Kd.R_base ho1)) (fun _ h_ => h_.1)); have n1_ := Aside0.mk (Kd.R_lower (Kd.R_new' ho0 (Kd.Q_lt (by (with_reducible repeat (first | apply Kd.Q_alloc | apply Kd.Q_drewN | apply Kd.Q_drew)); exact (Kd.Q_mono (Kd.Q_far (p := ⟨gb253, 2, none⟩) (Kd.Q_far (p := ⟨gb253, 1, none⟩) (Kd.Q_far (p := ⟨gb253, 0, none⟩) (Kd.Q_types HO252.out BK253.out (by decide)) (fun _ hk => hk.2) (.int .i64 t248)) (fun _ hk => hk.2) (.int .i64 t249)) (fun _ hk => hk.2) (.slice Ao96 t250.length co96)) (fun _ h_ => h_.1))))) (below_size (by repeat (first | (with_reducible first | exact HB.out | apply wA | apply wN | apply wD | refine bS ?_ GE253.out) | exact HB.out)))); have n2_ := Aside0.mk (Kd.R_lower (Kd.R_new' ho1 (Kd.Q_lt (by (with_reducible repeat (first | apply Kd.Q_alloc | apply Kd.Q_drewN | apply Kd.Q_drew)); exact (Kd.Q_mono (Kd.Q_far (p := ⟨gb253, 2, none⟩) (Kd.Q_far (p := ⟨gb253, 1, none⟩) (Kd.Q_far (p := ⟨gb253, 0, none⟩) (Kd.Q_types HO252.out BK253.out (by decide)) (fun _ hk => hk.2) (.int .i64 t248)) (fun _ hk => hk.2) (.int .i64 t249)) (fun _ hk => hk.2) (.slice Ao96 t250.length co96)) (fun _ h_ => h_.1))))) (below_size (by repeat (first | (with_reducible first | exact HB.out | apply wA | apply wN | apply wD | refine bS ?_ GE253.out) | exact HB.out)))); have n3_ := Aside0.mk (blk_below (g := gb253) (o := .cells #[.int .i64 t248, .int .i64 t249, .slice Ao96 t250.length co96] 27 (0, 0)) (by (with_reducible repeat (first | refine bN ?_ _ | refine bD ?_ | refine bA ?_ _)); refine blk_put (cs := #[.int .i64 t248, .int .i64 t249, .slice none 0 0]) ?_ 2 _ rfl; (with_reducible repeat (first | refine bN ?_ _ | refine bD ?_ | refine bA ?_ _)); refine blk_put (cs := #[.int .i64 t248, .int .i64 0, .slice none 0 0]) ?_ 1 _ rfl; (with_reducible repeat (first | refine bN ?_ _ | refine bD ?_ | refine bA ?_ _)); refine blk_put (cs := #[.int .i64 0, .int .i64 0, .slice none 0 0]) ?_ 0 _ rfl; (with_reducible repeat (first | refine bN ?_ _ | refine bD ?_ | refine bA ?_ _)); exact BK253.out) hb); have n4_ := Aside0.mk (below_step (by repeat (first | (with_reducible first | exact HB.out | apply wA | apply wN | apply wD | refine bS ?_ GE253.out) | exact HB.out)) hb); clear HO252; clear BK253; clear HB; have HO252 := n0_; have HO256 := n1_; have HO259 := n2_; have BK253 := n3_; have HB := n4_; clear n0_ n1_ n2_ n3_ n4_; (try clear hb); (try clear hb2); (try clear hk); (try clear hi); (try clear ho0); (try clear ho1); have hcz98_0 : w97.cell? ⟨gb253, 0, none⟩ = some (.int .i64 t248) := bC BK253.out 0 rfl; have hcz98_1 : w97.cell? ⟨gb253, 1, none⟩ = some (.int .i64 t249) := bC BK253.out 1 rfl; have hcz98_2 : w97.cell? ⟨gb253, 2, none⟩ = some (.slice Ao96 t250.length co96) := bC BK253.out 2 rfl; have hfz98_0 := blk_frozen BK253.out 0; have hfz98_1 := blk_frozen BK253.out 1; have hfz98_2 := blk_frozen BK253.out 2) | (go_at_call 18; (with_reducible refine (spec_BoxOk.calls k t248 t249 _ _ t250 false _ ?side1 ?side2 A6.out).mono ?_); (case side1 => repeat (first | exact (Kd.Q_reads' HO252.out).2.2 | (with_reducible refine Kd.C_alloc ?_ _) | (with_reducible refine Kd.C_drewN ?_ _) | (with_reducible refine Kd.C_drew ?_))); (case side2 => exact (Kd.Q_reads' HO252.out).2.1); rintro e w99 ⟨rfl, hb⟩; have n0_ := Aside0.mk (Kd.Q_below (by (with_reducible repeat (first | apply Kd.Q_alloc | apply Kd.Q_drewN | apply Kd.Q_drew)); exact HO252.out) hb); have n1_ := Aside0.mk (Kd.R_below (by (with_reducible repeat (first | apply Kd.R_alloc | apply Kd.R_drewN | apply Kd.R_drew)); exact HO256.out) hb); have n2_ := Aside0.mk (Kd.R_below (by (with_reducible repeat (first | apply Kd.R_alloc | apply Kd.R_drewN | apply Kd.R_drew)); exact HO259.out) hb); have n3_ := Aside0.mk (blk_below (g := gb253) (o := .cells #[.int .i64 t248, .int .i64 t249, .slice Ao96 t250.length co96] 27 (0, 0)) (by (with_reducible repeat (first | refine bN ?_ _ | refine bD ?_ | refine bA ?_ _)); exact BK253.out) hb); have n4_ := Aside0.mk (below_step (by repeat (first | (with_reducible first | exact HB.out | apply wA | apply wN | apply wD | refine bS ?_ GE253.out) | exact HB.out)) hb); clear HO252; clear HO256; clear HO259; clear BK253; clear HB; have HO252 := n0_; have HO256 := n1_; have HO259 := n2_; have BK253 := n3_; have HB := n4_; clear n0_ n1_ n2_ n3_ n4_; (try clear hb); (try clear hb2); (try clear hk); (try clear hi); obtain ⟨Ao100, co100, eo100⟩ := Kd.R_slice HO256.out; subst eo100))
    repeat (go_quiet (first | (go_at_call 16; (with_reducible refine (laws_big.calls _ _ l0 false _ ?side1 ?side2 A2.out).mono ?_); (case side1 => repeat (first | exact HR0.out | (with_reducible refine Kd.C_alloc ?_ _) | (with_reducible refine Kd.C_drewN ?_ _) | (with_reducible refine Kd.C_drew ?_))); (case side2 => exact HC0.out); rintro e w' ⟨rfl, ⟨nd, rfl⟩⟩; (try first | exact ⟨rfl, _, World.drewN_drewN _ _ _⟩ | exact ⟨rfl, _, Eq.trans (World.drewN_drewN _ _ _) (congrArg (World.drewN _) (Nat.add_assoc _ _ _))⟩)) | (go_at_call 20; (with_reducible refine (spec_DrawDrain.calls k _ _ l0 t248 t249 t250 _ ?side1 ?side2 A4.out).mono ?_); (case side1 => repeat (first | exact HR0.out | (with_reducible refine Kd.C_alloc ?_ _) | (with_reducible refine Kd.C_drewN ?_ _) | (with_reducible refine Kd.C_drew ?_))); (case side2 => exact HC0.out); rintro e w93 ⟨v251, rfl, ho0, hb⟩; have n0_ := Aside0.mk (Kd.Q_lower ho0 (below_size (by repeat (first | (with_reducible first | exact HB.out | apply wA | apply wN | apply wD) | exact HB.out)))); have n1_ := Aside0.mk (below_step (by repeat (first | (with_reducible first | exact HB.out | apply wA | apply wN | apply wD) | exact HB.out)) hb); clear HB; have HO252 := n0_; have HB := n1_; clear n0_ n1_; (try clear hb); (try clear hb2); (try clear hk); (try clear hi); (try clear ho0)) | ((with_reducible refine gate_dst (N := 3) rfl ?_); (try (refine gate_guard (by rfl) ?_; dsimp only)); refine box_event ?hg (N := 3) ?hd (cs := #[.int .i64 0, .int .i64 0, .slice none 0 0]) (t := 27) ?hr ?_; (case hd => rfl); (case hg => rfl); (case hr => first | (go_simp; done) | (go_simp; rfl)); intro gb253 hg w94 hbox hb; have n0_ := Aside0.mk (Kd.Q_below (by (with_reducible repeat (first | apply Kd.Q_alloc | apply Kd.Q_drewN | apply Kd.Q_drew)); exact HO252.out) hb); have n1_ := Aside0.mk (below_step (by repeat (first | (with_reducible first | exact HB.out | apply wA | apply wN | apply wD) | exact HB.out)) hb); have n2_ := Aside0.mk (hbox); have n3_ := Aside0.mk ((by rw [hg]; exact (below_size (by repeat (first | (with_reducible first | exact HB.out | apply wA | apply wN | apply wD) | exact HB.out))) : w.heap.size ≤ gb253)); have n4_ := Aside0.mk ((by rw [hg]; exact (below_size (by repeat (first | (with_reducible first | exact HB.out | apply wA | apply wN | apply wD) | exact HB.out))) : w.heap.size ≤ gb253)); clear HO252; clear HB; have HO252 := n0_; have HB := n1_; have BK253 := n2_; have GW253 := n3_; have GE253 := n4_; clear n0_ n1_ n2_ n3_ n4_; clear hb hbox hg; have hcz95_0 : w94.cell? ⟨gb253, 0, none⟩ = some (.int .i64 0) := bC BK253.out 0 rfl; have hcz95_1 : w94.cell? ⟨gb253, 1, none⟩ = some (.int .i64 0) := bC BK253.out 1 rfl; have hcz95_2 : w94.cell? ⟨gb253, 2, none⟩ = some (.slice none 0 0) := bC BK253.out 2 rfl; have hfz95_0 := blk_frozen BK253.out 0; have hfz95_1 := blk_frozen BK253.out 1; have hfz95_2 := blk_frozen BK253.out 2; obtain ⟨Ao96, co96, eo96, _⟩ := Kd.Q_slice HO252.out; subst eo96) | (go_at_call 21; (with_reducible refine (impl_Drain.calls k t248 t249 _ _ t250 t254 t257 _ ?side1 ?side2 A5.out).mono ?_); (case side1 => refine (Kd.Q_reads' (e := 2) (base := w.heap.size) (ok := fun k_ => True) (n := t250.length) (c := co96) ?_).2.2; exact (by (with_reducible repeat (first | apply Kd.Q_alloc | apply Kd.Q_drewN | apply Kd.Q_drew)); exact (Kd.Q_mono (Kd.Q_far (p := ⟨gb253, 2, none⟩) (Kd.Q_far (p := ⟨gb253, 1, none⟩) (Kd.Q_far (p := ⟨gb253, 0, none⟩) (Kd.Q_types HO252.out BK253.out (by decide)) (fun _ hk => hk.2) (.int .i64 t248)) (fun _ hk => hk.2) (.int .i64 t249)) (fun _ hk => hk.2) (.slice Ao96 t250.length co96)) (fun _ h_ => h_.1)))); (case side2 => exact (Kd.Q_reads' HO252.out).2.1); rintro e w97 ⟨v255, v258, rfl, ho0, ho1, hb⟩; have n0_ := Aside0.mk (Kd.Q_mono (Kd.Q_told (Kd.Q_told (Kd.Q_old (by (with_reducible repeat (first | apply Kd.Q_alloc | apply Kd.Q_drewN | apply Kd.Q_drew)); exact (Kd.Q_mono (Kd.Q_far (p := ⟨gb253, 2, none⟩) (Kd.Q_far (p := ⟨gb253, 1, none⟩) (Kd.Q_far (p := ⟨gb253, 0, none⟩) (Kd.Q_types HO252.out BK253.out (by decide)) (fun _ hk => hk.2) (.int .i64 t248)) (fun _ hk => hk.2) (.int .i64 t249)) (fun _ hk => hk.2) (.slice Ao96 t250.length co96)) (fun _ h_ => h_.1))) hb) (Kd.R_base ho0)) (Kd.R_base ho1)) (fun _ h_ => h_.1)); have n1_ := Aside0.mk (Kd.R_lower (Kd.R_new' ho0 (Kd.Q_lt (by (with_reducible repeat (first | apply Kd.Q_alloc | apply Kd.Q_drewN | apply Kd.Q_drew)); exact (Kd.Q_mono (Kd.Q_far (p := ⟨gb253, 2, none⟩) (Kd.Q_far (p := ⟨gb253, 1, none⟩) (Kd.Q_far (p := ⟨gb253, 0, none⟩) (Kd.Q_types HO252.out BK253.out (by decide)) (fun _ hk => hk.2) (.int .i64 t248)) (fun _ hk => hk.2) (.int .i64 t249)) (fun _ hk => hk.2) (.slice Ao96 t250.length co96)) (fun _ h_ => h_.1))))) (below_size (by repeat (first | (with_reducible first | exact HB.out | apply wA | apply wN | apply wD | refine bS ?_ GE253.out) | exact HB.out)))); have n2_ := Aside0.mk (Kd.R_lower (Kd.R_new' ho1 (Kd.Q_lt (by (with_reducible repeat (first | apply Kd.Q_alloc | apply Kd.Q_drewN | apply Kd.Q_drew)); exact (Kd.Q_mono (Kd.Q_far (p := ⟨gb253, 2, none⟩) (Kd.Q_far (p := ⟨gb253, 1, none⟩) (Kd.Q_far (p := ⟨gb253, 0, none⟩) (Kd.Q_types HO252.out BK253.out (by decide)) (fun _ hk => hk.2) (.int .i64 t248)) (fun _ hk => hk.2) (.int .i64 t249)) (fun _ hk => hk.2) (.slice Ao96 t250.length co96)) (fun _ h_ => h_.1))))) (below_size (by repeat (first | (with_reducible first | exact HB.out | apply wA | apply wN | apply wD | refine bS ?_ GE253.out) | exact HB.out)))); have n3_ := Aside0.mk (blk_below (g := gb253) (o := .cells #[.int .i64 t248, .int .i64 t249, .slice Ao96 t250.length co96] 27 (0, 0)) (by (with_reducible repeat (first | refine bN ?_ _ | refine bD ?_ | refine bA ?_ _)); refine blk_put (cs := #[.int .i64 t248, .int .i64 t249, .slice none 0 0]) ?_ 2 _ rfl; (with_reducible repeat (first | refine bN ?_ _ | refine bD ?_ | refine bA ?_ _)); refine blk_put (cs := #[.int .i64 t248, .int .i64 0, .slice none 0 0]) ?_ 1 _ rfl; (with_reducible repeat (first | refine bN ?_ _ | refine bD ?_ | refine bA ?_ _)); refine blk_put (cs := #[.int .i64 0, .int .i64 0, .slice none 0 0]) ?_ 0 _ rfl; (with_reducible repeat (first | refine bN ?_ _ | refine bD ?_ | refine bA ?_ _)); exact BK253.out) hb); have n4_ := Aside0.mk (below_step (by repeat (first | (with_reducible first | exact HB.out | apply wA | apply wN | apply wD | refine bS ?_ GE253.out) | exact HB.out)) hb); clear HO252; clear BK253; clear HB; have HO252 := n0_; have HO256 := n1_; have HO259 := n2_; have BK253 := n3_; have HB := n4_; clear n0_ n1_ n2_ n3_ n4_; (try clear hb); (try clear hb2); (try clear hk); (try clear hi); (try clear ho0); (try clear ho1); have hcz98_0 : w97.cell? ⟨gb253, 0, none⟩ = some (.int .i64 t248) := bC BK253.out 0 rfl; have hcz98_1 : w97.cell? ⟨gb253, 1, none⟩ = some (.int .i64 t249) := bC BK253.out 1 rfl; have hcz98_2 : w97.cell? ⟨gb253, 2, none⟩ = some (.slice Ao96 t250.length co96) := bC BK253.out 2 rfl; have hfz98_0 := blk_frozen BK253.out 0; have hfz98_1 := blk_frozen BK253.out 1; have hfz98_2 := blk_frozen BK253.out 2) | (go_at_call 18; (with_reducible refine (spec_BoxOk.calls k t248 t249 _ _ t250 false _ ?side1 ?side2 A6.out).mono ?_); (case side1 => repeat (first | exact (Kd.Q_reads' HO252.out).2.2 | (with_reducible refine Kd.C_alloc ?_ _) | (with_reducible refine Kd.C_drewN ?_ _) | (with_reducible refine Kd.C_drew ?_))); (case side2 => exact (Kd.Q_reads' HO252.out).2.1); rintro e w99 ⟨rfl, hb⟩; have n0_ := Aside0.mk (Kd.Q_below (by (with_reducible repeat (first | apply Kd.Q_alloc | apply Kd.Q_drewN | apply Kd.Q_drew)); exact HO252.out) hb); have n1_ := Aside0.mk (Kd.R_below (by (with_reducible repeat (first | apply Kd.R_alloc | apply Kd.R_drewN | apply Kd.R_drew)); exact HO256.out) hb); have n2_ := Aside0.mk (Kd.R_below (by (with_reducible repeat (first | apply Kd.R_alloc | apply Kd.R_drewN | apply Kd.R_drew)); exact HO259.out) hb); have n3_ := Aside0.mk (blk_below (g := gb253) (o := .cells #[.int .i64 t248, .int .i64 t249, .slice Ao96 t250.length co96] 27 (0, 0)) (by (with_reducible repeat (first | refine bN ?_ _ | refine bD ?_ | refine bA ?_ _)); exact BK253.out) hb); have n4_ := Aside0.mk (below_step (by repeat (first | (with_reducible first | exact HB.out | apply wA | apply wN | apply wD | refine bS ?_ GE253.out) | exact HB.out)) hb); clear HO252; clear HO256; clear HO259; clear BK253; clear HB; have HO252 := n0_; have HO256 := n1_; have HO259 := n2_; have BK253 := n3_; have HB := n4_; clear n0_ n1_ n2_ n3_ n4_; (try clear hb); (try clear hb2); (try clear hk); (try clear hi); obtain ⟨Ao100, co100, eo100⟩ := Kd.R_slice HO256.out; subst eo100)); try go_wp2_with (first | (go_at_call 16; (with_reducible refine (laws_big.calls _ _ l0 false _ ?side1 ?side2 A2.out).mono ?_); (case side1 => repeat (first | exact HR0.out | (with_reducible refine Kd.C_alloc ?_ _) | (with_reducible refine Kd.C_drewN ?_ _) | (with_reducible refine Kd.C_drew ?_))); (case side2 => exact HC0.out); rintro e w' ⟨rfl, ⟨nd, rfl⟩⟩; (try first | exact ⟨rfl, _, World.drewN_drewN _ _ _⟩ | exact ⟨rfl, _, Eq.trans (World.drewN_drewN _ _ _) (congrArg (World.drewN _) (Nat.add_assoc _ _ _))⟩)) | (go_at_call 20; (with_reducible refine (spec_DrawDrain.calls k _ _ l0 t248 t249 t250 _ ?side1 ?side2 A4.out).mono ?_); (case side1 => repeat (first | exact HR0.out | (with_reducible refine Kd.C_alloc ?_ _) | (with_reducible refine Kd.C_drewN ?_ _) | (with_reducible refine Kd.C_drew ?_))); (case side2 => exact HC0.out); rintro e w93 ⟨v251, rfl, ho0, hb⟩; have n0_ := Aside0.mk (Kd.Q_lower ho0 (below_size (by repeat (first | (with_reducible first | exact HB.out | apply wA | apply wN | apply wD) | exact HB.out)))); have n1_ := Aside0.mk (below_step (by repeat (first | (with_reducible first | exact HB.out | apply wA | apply wN | apply wD) | exact HB.out)) hb); clear HB; have HO252 := n0_; have HB := n1_; clear n0_ n1_; (try clear hb); (try clear hb2); (try clear hk); (try clear hi); (try clear ho0)) | ((with_reducible refine gate_dst (N := 3) rfl ?_); (try (refine gate_guard (by rfl) ?_; dsimp only)); refine box_event ?hg (N := 3) ?hd (cs := #[.int .i64 0, .int .i64 0, .slice none 0 0]) (t := 27) ?hr ?_; (case hd => rfl); (case hg => rfl); (case hr => first | (go_simp; done) | (go_simp; rfl)); intro gb253 hg w94 hbox hb; have n0_ := Aside0.mk (Kd.Q_below (by (with_reducible repeat (first | apply Kd.Q_alloc | apply Kd.Q_drewN | apply Kd.Q_drew)); exact HO252.out) hb); have n1_ := Aside0.mk (below_step (by repeat (first | (with_reducible first | exact HB.out | apply wA | apply wN | apply wD) | exact HB.out)) hb); have n2_ := Aside0.mk (hbox); have n3_ := Aside0.mk ((by rw [hg]; exact (below_size (by repeat (first | (with_reducible first | exact HB.out | apply wA | apply wN | apply wD) | exact HB.out))) : w.heap.size ≤ gb253)); have n4_ := Aside0.mk ((by rw [hg]; exact (below_size (by repeat (first | (with_reducible first | exact HB.out | apply wA | apply wN | apply wD) | exact HB.out))) : w.heap.size ≤ gb253)); clear HO252; clear HB; have HO252 := n0_; have HB := n1_; have BK253 := n2_; have GW253 := n3_; have GE253 := n4_; clear n0_ n1_ n2_ n3_ n4_; clear hb hbox hg; have hcz95_0 : w94.cell? ⟨gb253, 0, none⟩ = some (.int .i64 0) := bC BK253.out 0 rfl; have hcz95_1 : w94.cell? ⟨gb253, 1, none⟩ = some (.int .i64 0) := bC BK253.out 1 rfl; have hcz95_2 : w94.cell? ⟨gb253, 2, none⟩ = some (.slice none 0 0) := bC BK253.out 2 rfl; have hfz95_0 := blk_frozen BK253.out 0; have hfz95_1 := blk_frozen BK253.out 1; have hfz95_2 := blk_frozen BK253.out 2; obtain ⟨Ao96, co96, eo96, _⟩ := Kd.Q_slice HO252.out; subst eo96) | (go_at_call 21; (with_reducible refine (impl_Drain.calls k t248 t249 _ _ t250 t254 t257 _ ?side1 ?side2 A5.out).mono ?_); (case side1 => refine (Kd.Q_reads' (e := 2) (base := w.heap.size) (ok := fun k_ => True) (n := t250.length) (c := co96) ?_).2.2; exact (by (with_reducible repeat (first | apply Kd.Q_alloc | apply Kd.Q_drewN | apply Kd.Q_drew)); exact (Kd.Q_mono (Kd.Q_far (p := ⟨gb253, 2, none⟩) (Kd.Q_far (p := ⟨gb253, 1, none⟩) (Kd.Q_far (p := ⟨gb253, 0, none⟩) (Kd.Q_types HO252.out BK253.out (by decide)) (fun _ hk => hk.2) (.int .i64 t248)) (fun _ hk => hk.2) (.int .i64 t249)) (fun _ hk => hk.2) (.slice Ao96 t250.length co96)) (fun _ h_ => h_.1)))); (case side2 => exact (Kd.Q_reads' HO252.out).2.1); rintro e w97 ⟨v255, v258, rfl, ho0, ho1, hb⟩; have n0_ := Aside0.mk (Kd.Q_mono (Kd.Q_told (Kd.Q_told (Kd.Q_old (by (with_reducible repeat (first | apply Kd.Q_alloc | apply Kd.Q_drewN | apply Kd.Q_drew)); exact (Kd.Q_mono (Kd.Q_far (p := ⟨gb253, 2, none⟩) (Kd.Q_far (p := ⟨gb253, 1, none⟩) (Kd.Q_far (p := ⟨gb253, 0, none⟩) (Kd.Q_types HO252.out BK253.out (by decide)) (fun _ hk => hk.2) (.int .i64 t248)) (fun _ hk => hk.2) (.int .i64 t249)) (fun _ hk => hk.2) (.slice Ao96 t250.length co96)) (fun _ h_ => h_.1))) hb) (Kd.R_base ho0)) (Kd.R_base ho1)) (fun _ h_ => h_.1)); have n1_ := Aside0.mk (Kd.R_lower (Kd.R_new' ho0 (Kd.Q_lt (by (with_reducible repeat (first | apply Kd.Q_alloc | apply Kd.Q_drewN | apply Kd.Q_drew)); exact (Kd.Q_mono (Kd.Q_far (p := ⟨gb253, 2, none⟩) (Kd.Q_far (p := ⟨gb253, 1, none⟩) (Kd.Q_far (p := ⟨gb253, 0, none⟩) (Kd.Q_types HO252.out BK253.out (by decide)) (fun _ hk => hk.2) (.int .i64 t248)) (fun _ hk => hk.2) (.int .i64 t249)) (fun _ hk => hk.2) (.slice Ao96 t250.length co96)) (fun _ h_ => h_.1))))) (below_size (by repeat (first | (with_reducible first | exact HB.out | apply wA | apply wN | apply wD | refine bS ?_ GE253.out) | exact HB.out)))); have n2_ := Aside0.mk (Kd.R_lower (Kd.R_new' ho1 (Kd.Q_lt (by (with_reducible repeat (first | apply Kd.Q_alloc | apply Kd.Q_drewN | apply Kd.Q_drew)); exact (Kd.Q_mono (Kd.Q_far (p := ⟨gb253, 2, none⟩) (Kd.Q_far (p := ⟨gb253, 1, none⟩) (Kd.Q_far (p := ⟨gb253, 0, none⟩) (Kd.Q_types HO252.out BK253.out (by decide)) (fun _ hk => hk.2) (.int .i64 t248)) (fun _ hk => hk.2) (.int .i64 t249)) (fun _ hk => hk.2) (.slice Ao96 t250.length co96)) (fun _ h_ => h_.1))))) (below_size (by repeat (first | (with_reducible first | exact HB.out | apply wA | apply wN | apply wD | refine bS ?_ GE253.out) | exact HB.out)))); have n3_ := Aside0.mk (blk_below (g := gb253) (o := .cells #[.int .i64 t248, .int .i64 t249, .slice Ao96 t250.length co96] 27 (0, 0)) (by (with_reducible repeat (first | refine bN ?_ _ | refine bD ?_ | refine bA ?_ _)); refine blk_put (cs := #[.int .i64 t248, .int .i64 t249, .slice none 0 0]) ?_ 2 _ rfl; (with_reducible repeat (first | refine bN ?_ _ | refine bD ?_ | refine bA ?_ _)); refine blk_put (cs := #[.int .i64 t248, .int .i64 0, .slice none 0 0]) ?_ 1 _ rfl; (with_reducible repeat (first | refine bN ?_ _ | refine bD ?_ | refine bA ?_ _)); refine blk_put (cs := #[.int .i64 0, .int .i64 0, .slice none 0 0]) ?_ 0 _ rfl; (with_reducible repeat (first | refine bN ?_ _ | refine bD ?_ | refine bA ?_ _)); exact BK253.out) hb); have n4_ := Aside0.mk (below_step (by repeat (first | (with_reducible first | exact HB.out | apply wA | apply wN | apply wD | refine bS ?_ GE253.out) | exact HB.out)) hb); clear HO252; clear BK253; clear HB; have HO252 := n0_; have HO256 := n1_; have HO259 := n2_; have BK253 := n3_; have HB := n4_; clear n0_ n1_ n2_ n3_ n4_; (try clear hb); (try clear hb2); (try clear hk); (try clear hi); (try clear ho0); (try clear ho1); have hcz98_0 : w97.cell? ⟨gb253, 0, none⟩ = some (.int .i64 t248) := bC BK253.out 0 rfl; have hcz98_1 : w97.cell? ⟨gb253, 1, none⟩ = some (.int .i64 t249) := bC BK253.out 1 rfl; have hcz98_2 : w97.cell? ⟨gb253, 2, none⟩ = some (.slice Ao96 t250.length co96) := bC BK253.out 2 rfl; have hfz98_0 := blk_frozen BK253.out 0; have hfz98_1 := blk_frozen BK253.out 1; have hfz98_2 := blk_frozen BK253.out 2) | (go_at_call 18; (with_reducible refine (spec_BoxOk.calls k t248 t249 _ _ t250 false _ ?side1 ?side2 A6.out).mono ?_); (case side1 => repeat (first | exact (Kd.Q_reads' HO252.out).2.2 | (with_reducible refine Kd.C_alloc ?_ _) | (with_reducible refine Kd.C_drewN ?_ _) | (with_reducible refine Kd.C_drew ?_))); (case side2 => exact (Kd.Q_reads' HO252.out).2.1); rintro e w99 ⟨rfl, hb⟩; have n0_ := Aside0.mk (Kd.Q_below (by (with_reducible repeat (first | apply Kd.Q_alloc | apply Kd.Q_drewN | apply Kd.Q_drew)); exact HO252.out) hb); have n1_ := Aside0.mk (Kd.R_below (by (with_reducible repeat (first | apply Kd.R_alloc | apply Kd.R_drewN | apply Kd.R_drew)); exact HO256.out) hb); have n2_ := Aside0.mk (Kd.R_below (by (with_reducible repeat (first | apply Kd.R_alloc | apply Kd.R_drewN | apply Kd.R_drew)); exact HO259.out) hb); have n3_ := Aside0.mk (blk_below (g := gb253) (o := .cells #[.int .i64 t248, .int .i64 t249, .slice Ao96 t250.length co96] 27 (0, 0)) (by (with_reducible repeat (first | refine bN ?_ _ | refine bD ?_ | refine bA ?_ _)); exact BK253.out) hb); have n4_ := Aside0.mk (below_step (by repeat (first | (with_reducible first | exact HB.out | apply wA | apply wN | apply wD | refine bS ?_ GE253.out) | exact HB.out)) hb); clear HO252; clear HO256; clear HO259; clear BK253; clear HB; have HO252 := n0_; have HO256 := n1_; have HO259 := n2_; have BK253 := n3_; have HB := n4_; clear n0_ n1_ n2_ n3_ n4_; (try clear hb); (try clear hb2); (try clear hk); (try clear hi); obtain ⟨Ao100, co100, eo100⟩ := Kd.R_slice HO256.out; subst eo100)))
    go_ret
    exact ⟨by first | rfl | (simp [errW_none, errW_some] <;> rfl) | (simp [*, errW_none, errW_some] <;> rfl), by repeat (first | (with_reducible first | exact HB.out | apply wA | apply wN | apply wD | refine bS ?_ GE253.out) | exact HB.out)⟩

/-- THE ONE PURE STATEMENT of laws_FnDrained: yours. -/
def laws_FnDrained.Pure : Prop := ∀ (l0 : List Int), l0.length ≤ maxLen → l0.length * 1 ≤ 140737488351232 → (∀ x ∈ l0, (Lit.int .u8 x).wf = true) → ∃ k, laws_FnDrained.f k l0 = some true
theorem laws_FnDrained.walk (P : laws_FnDrained.Pure) (a0 : Option Addr) (len0 cap0 : Nat) (z0 : List Int) (w : World) (w0 : (a0 = none ∧ len0 = 0 ∧ cap0 = 0 ∧ z0 = []) ∨ ∃ x, a0 = some x ∧ len0 ≤ cap0 ∧ cap0 ≤ maxLen ∧ z0.length = cap0 ∧ (∀ i, i < z0.length → w.cell? (x.add i) = some (.int .u8 (z0.getD i 0))) ∧ ∀ n ∈ z0, (Lit.int .u8 n).wf = true) (y0 : len0 * 1 ≤ 140737488351232) :
  Calls Try.prog 5 #[.slice a0 len0 cap0] w fun e w' => e = .returned (.bool true) ∧ Below w.heap.size w w' := by
 obtain ⟨l0, rfl, hr0, hm0, hw0, hc0⟩ := ReadsInt.ofRowC w0
 obtain ⟨k, h⟩ := P l0 hm0 y0 hw0
 refine (laws_FnDrained.calls k _ _ l0 true w (Kd.C_of_reads (d := (0 : Int)) (h1 := fun _ => rfl) hr0) hc0 h).mono ?_
 rintro e w' ⟨rfl, hd⟩
 exact ⟨rfl, hd⟩

end Go.Proofs.Ytcdghhihfjojaab.Q
