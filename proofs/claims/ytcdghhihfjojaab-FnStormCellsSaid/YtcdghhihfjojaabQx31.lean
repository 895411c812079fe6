/- Plain Lean functions with the same answers as the Go functions of this seat, and a proof for each that the Go code comes to just these answers; no condition. Written by a program of this session (the kit's printer, turned). -/
import Derived.Test.YtcdghhihfjojaabQx0
import Derived.Test.YtcdghhihfjojaabQx4
import Derived.Test.YtcdghhihfjojaabQx12
import Derived.Test.YtcdghhihfjojaabQx19
import Derived.Test.YtcdghhihfjojaabQx29
import Derived.Test.YtcdghhihfjojaabQx30
namespace Go.Proofs.Ytcdghhihfjojaab.Q
open Go.RowKit Go.Proofs.YtcdghhihfjojaabW.PrintWords Go.Proofs.YtcdghhihfjojaabW.PrintLast Go.Proofs.YtcdghhihfjojaabW.PrintMore Go.Proofs.YtcdghhihfjojaabW.PrintFlt
attribute [local go_sem] cmp_lss cmp_leq cmp_gtr cmp_geq cmp_eql cmp_neq flt_l flt_r fgt_l fgt_r feq_l feq_r fne_l fne_r ord_lt ord_gt ord_eq ord_ne conv_int foi_fold run_store_flt
attribute [local go_sem] max2_int min2_int max_two min_two max_three min_three max_four min_four   -- for this text's walks alone
set_option linter.unusedVariables false
set_option linter.unusedSimpArgs false

/-! ### laws_FnStormCells: function 4 -/
mutual
def laws_FnStormCells.l0 : Nat → Int → List Int → Int → Int → Int → Int → List Int → Option (Bool)
 | 0, _, _, _, _, _, _, _ => none
 | k + 1, x4, x5, x6, x7, x365000, x365001, x365002 => if x7 < (x5.length : Int) then (if 0 ≤ x7 then (if x7 < (x365002.length : Int) then (if ((decide ((rd x5 x7) > 0)) != (decide ((rd x365002 x7) ≥ x4))) = true then (laws_FnStormCells.j1 k x4 x5 x6 x7 true x365000 x365001 x365002) else (if (rd x5 x7) < 0 then (laws_FnStormCells.j1 k x4 x5 x6 x7 true x365000 x365001 x365002) else (laws_FnStormCells.j1 k x4 x5 x6 x7 (decide ((rd x5 x7) > (wrap64 (x6 + 1)))) x365000 x365001 x365002))) else (none)) else (none)) else ((impl_Moved.f k x365000 x365001 x365002 x4 x365000 x365001 x365002).bind fun bt369 => (if bt369.2.2 = true then (if bt369.1 = 0 then (some (bt369.2.1 == 0)) else (some false)) else (some false)))
def laws_FnStormCells.j1 : Nat → Int → List Int → Int → Int → Bool → Int → Int → List Int → Option (Bool)
 | 0, _, _, _, _, _, _, _, _ => none
 | k + 1, x4, x5, x6, x7, x69, x365000, x365001, x365002 => if x69 = true then (some false) else (if 0 ≤ x7 then (if x7 < (x5.length : Int) then (if x365001 = 0 then (none) else (if (Int.tmod x7 x365001) > 0 then (if (rd x5 x7) > 0 then (if 0 ≤ (wrap64 (x7 - 1)) then (if (wrap64 (x7 - 1)) < (x5.length : Int) then (if (rd x5 (wrap64 (x7 - 1))) > 0 then (laws_FnStormCells.j2 k x4 x5 (mx x6 (rd x5 x7)) x7 ((rd x5 x7) != (rd x5 (wrap64 (x7 - 1)))) x365000 x365001 x365002) else (laws_FnStormCells.j2 k x4 x5 (mx x6 (rd x5 x7)) x7 false x365000 x365001 x365002)) else (none)) else (none)) else (laws_FnStormCells.j2 k x4 x5 (mx x6 (rd x5 x7)) x7 false x365000 x365001 x365002)) else (laws_FnStormCells.j2 k x4 x5 (mx x6 (rd x5 x7)) x7 false x365000 x365001 x365002))) else (none)) else (none))
def laws_FnStormCells.j2 : Nat → Int → List Int → Int → Int → Bool → Int → Int → List Int → Option (Bool)
 | 0, _, _, _, _, _, _, _, _ => none
 | k + 1, x4, x5, x6, x7, x107, x365000, x365001, x365002 => if x107 = true then (some false) else (if x7 ≥ x365001 then (if 0 ≤ x7 then (if x7 < (x5.length : Int) then (if (rd x5 x7) > 0 then (if 0 ≤ (wrap64 (x7 - x365001)) then (if (wrap64 (x7 - x365001)) < (x5.length : Int) then (if (rd x5 (wrap64 (x7 - x365001))) > 0 then (if (rd x5 x7) = (rd x5 (wrap64 (x7 - x365001))) then (laws_FnStormCells.l0 k x4 x5 x6 (wrap64 (x7 + 1)) x365000 x365001 x365002) else (some false)) else (laws_FnStormCells.l0 k x4 x5 x6 (wrap64 (x7 + 1)) x365000 x365001 x365002)) else (none)) else (none)) else (laws_FnStormCells.l0 k x4 x5 x6 (wrap64 (x7 + 1)) x365000 x365001 x365002)) else (none)) else (none)) else (laws_FnStormCells.l0 k x4 x5 x6 (wrap64 (x7 + 1)) x365000 x365001 x365002))
end
def laws_FnStormCells.f (k : Nat) (l0 : List Int) : Option (Bool) := (laws_big.f l0).bind fun t357 => (if t357 = true then (some true) else ((spec_DrawCells.f k l0).bind fun bt358 => ((impl_Cells.f k bt358.1 bt358.2.1 bt358.2.2.1 bt358.2.2.2).bind fun t365 => ((spec_BoxOk.f k bt358.1 bt358.2.1 bt358.2.2.1).bind fun t368 => (if t368 = true then (if (t365.length : Int) = (wrap64 (bt358.1 * bt358.2.1)) then (laws_FnStormCells.l0 k bt358.2.2.2 t365 0 0 bt358.1 bt358.2.1 bt358.2.2.1) else (some false)) else (some ((t365.length : Int) == 0)))))))
theorem laws_FnStormCells.mono_l : ∀ k, (∀ y0 y1 y2 y3 y4 y5 y6, LeO (laws_FnStormCells.l0 k y0 y1 y2 y3 y4 y5 y6) (laws_FnStormCells.l0 (k + 1) y0 y1 y2 y3 y4 y5 y6)) ∧ (∀ y0 y1 y2 y3 y4 y5 y6 y7, LeO (laws_FnStormCells.j1 k y0 y1 y2 y3 y4 y5 y6 y7) (laws_FnStormCells.j1 (k + 1) y0 y1 y2 y3 y4 y5 y6 y7)) ∧ (∀ y0 y1 y2 y3 y4 y5 y6 y7, LeO (laws_FnStormCells.j2 k y0 y1 y2 y3 y4 y5 y6 y7) (laws_FnStormCells.j2 (k + 1) y0 y1 y2 y3 y4 y5 y6 y7))
 | 0 => ⟨fun _ _ _ _ _ _ _ r h => by simp [laws_FnStormCells.l0] at h, fun _ _ _ _ _ _ _ _ r h => by simp [laws_FnStormCells.j1] at h, fun _ _ _ _ _ _ _ _ r h => by simp [laws_FnStormCells.j2] at h⟩
 | k + 1 => by
  obtain ⟨ih0, ih1, ih2⟩ := laws_FnStormCells.mono_l k
  refine ⟨?_, ?_, ?_⟩
  ·intro y0 y1 y2 y3 y4 y5 y6
   unfold laws_FnStormCells.l0
   repeat' first
   | (with_reducible exact ih0 _ _ _ _ _ _ _)
   | (with_reducible exact ih1 _ _ _ _ _ _ _ _)
   | (with_reducible exact ih2 _ _ _ _ _ _ _ _)
   | (with_reducible exact impl_Cells.mono _ _ _ _ _)
   | (with_reducible exact impl_Moved.mono _ _ _ _ _ _ _ _)
   | (with_reducible exact spec_BoxOk.mono _ _ _ _)
   | (with_reducible exact spec_DrawCells.mono _ _)
   | (with_reducible exact LeO.refl _)
   | (with_reducible exact LeO.none _)
   | (with_reducible refine LeO.ite ?_ ?_)
   | (with_reducible refine LeO.bind ?_ (fun _ => ?_))
   | exact ih0 _ _ _ _ _ _ _
   | exact ih1 _ _ _ _ _ _ _ _
   | exact ih2 _ _ _ _ _ _ _ _
   | exact impl_Cells.mono _ _ _ _ _
   | exact impl_Moved.mono _ _ _ _ _ _ _ _
   | exact spec_BoxOk.mono _ _ _ _
   | exact spec_DrawCells.mono _ _
   | exact LeO.none _
   | refine LeO.ite ?_ ?_
   | refine LeO.bind ?_ (fun _ => ?_)
  ·intro y0 y1 y2 y3 y4 y5 y6 y7
   unfold laws_FnStormCells.j1
   repeat' first
   | (with_reducible exact ih0 _ _ _ _ _ _ _)
   | (with_reducible exact ih1 _ _ _ _ _ _ _ _)
   | (with_reducible exact ih2 _ _ _ _ _ _ _ _)
   | (with_reducible exact impl_Cells.mono _ _ _ _ _)
   | (with_reducible exact impl_Moved.mono _ _ _ _ _ _ _ _)
   | (with_reducible exact spec_BoxOk.mono _ _ _ _)
   | (with_reducible exact spec_DrawCells.mono _ _)
   | (with_reducible exact LeO.refl _)
   | (with_reducible exact LeO.none _)
   | (with_reducible refine LeO.ite ?_ ?_)
   | (with_reducible refine LeO.bind ?_ (fun _ => ?_))
   | exact ih0 _ _ _ _ _ _ _
   | exact ih1 _ _ _ _ _ _ _ _
   | exact ih2 _ _ _ _ _ _ _ _
   | exact impl_Cells.mono _ _ _ _ _
   | exact impl_Moved.mono _ _ _ _ _ _ _ _
   | exact spec_BoxOk.mono _ _ _ _
   | exact spec_DrawCells.mono _ _
   | exact LeO.none _
   | refine LeO.ite ?_ ?_
   | refine LeO.bind ?_ (fun _ => ?_)
  ·intro y0 y1 y2 y3 y4 y5 y6 y7
   unfold laws_FnStormCells.j2
   repeat' first
   | (with_reducible exact ih0 _ _ _ _ _ _ _)
   | (with_reducible exact ih1 _ _ _ _ _ _ _ _)
   | (with_reducible exact ih2 _ _ _ _ _ _ _ _)
   | (with_reducible exact impl_Cells.mono _ _ _ _ _)
   | (with_reducible exact impl_Moved.mono _ _ _ _ _ _ _ _)
   | (with_reducible exact spec_BoxOk.mono _ _ _ _)
   | (with_reducible exact spec_DrawCells.mono _ _)
   | (with_reducible exact LeO.refl _)
   | (with_reducible exact LeO.none _)
   | (with_reducible refine LeO.ite ?_ ?_)
   | (with_reducible refine LeO.bind ?_ (fun _ => ?_))
   | exact ih0 _ _ _ _ _ _ _
   | exact ih1 _ _ _ _ _ _ _ _
   | exact ih2 _ _ _ _ _ _ _ _
   | exact impl_Cells.mono _ _ _ _ _
   | exact impl_Moved.mono _ _ _ _ _ _ _ _
   | exact spec_BoxOk.mono _ _ _ _
   | exact spec_DrawCells.mono _ _
   | exact LeO.none _
   | refine LeO.ite ?_ ?_
   | refine LeO.bind ?_ (fun _ => ?_)
theorem laws_FnStormCells.mono : ∀ a0 k, LeO (laws_FnStormCells.f k a0) (laws_FnStormCells.f (k + 1) a0) := by
 intro a0 k
 obtain ⟨ih0, ih1, ih2⟩ := laws_FnStormCells.mono_l k
 unfold laws_FnStormCells.f
 repeat' first
   | (with_reducible exact ih0 _ _ _ _ _ _ _)
   | (with_reducible exact ih1 _ _ _ _ _ _ _ _)
   | (with_reducible exact ih2 _ _ _ _ _ _ _ _)
   | (with_reducible exact impl_Cells.mono _ _ _ _ _)
   | (with_reducible exact impl_Moved.mono _ _ _ _ _ _ _ _)
   | (with_reducible exact spec_BoxOk.mono _ _ _ _)
   | (with_reducible exact spec_DrawCells.mono _ _)
   | (with_reducible exact LeO.refl _)
   | (with_reducible exact LeO.none _)
   | (with_reducible refine LeO.ite ?_ ?_)
   | (with_reducible refine LeO.bind ?_ (fun _ => ?_))
   | exact ih0 _ _ _ _ _ _ _
   | exact ih1 _ _ _ _ _ _ _ _
   | exact ih2 _ _ _ _ _ _ _ _
   | exact impl_Cells.mono _ _ _ _ _
   | exact impl_Moved.mono _ _ _ _ _ _ _ _
   | exact spec_BoxOk.mono _ _ _ _
   | exact spec_DrawCells.mono _ _
   | exact LeO.none _
   | refine LeO.ite ?_ ?_
   | refine LeO.bind ?_ (fun _ => ?_)
set_option maxHeartbeats 8000000 in
set_option maxRecDepth 100000 in
theorem laws_FnStormCells.calls (k : Nat) (A0 : Option Addr) (c0 : Nat) (l0 : List Int) (r : Bool) (w : World) (hr0 : Kd.C (Kd.int .u8) w A0 l0.length l0) (hc0 : l0.length ≤ c0) (h : laws_FnStormCells.f k l0 = some r) :
  Calls Try.prog 4 #[.slice A0 l0.length c0] w fun e w' => e = .returned (.bool r) ∧ Below w.heap.size w w' := by
 have hu27 := Try.underlying27
 have HR0 := Aside0.mk hr0
 have HC0 := Aside0.mk hc0
 clear hr0 hc0
 have HB := Aside0.mk (Below.refl w.heap.size w)
 have H : ((laws_big.f l0).bind fun t357 => (if t357 = true then (some true) else ((spec_DrawCells.f k l0).bind fun bt358 => ((impl_Cells.f k bt358.1 bt358.2.1 bt358.2.2.1 bt358.2.2.2).bind fun t365 => ((spec_BoxOk.f k bt358.1 bt358.2.1 bt358.2.2.1).bind fun t368 => (if t368 = true then (if (t365.length : Int) = (wrap64 (bt358.1 * bt358.2.1)) then (laws_FnStormCells.l0 k bt358.2.2.2 t365 0 0 bt358.1 bt358.2.1 bt358.2.2.1) else (some false)) else (some ((t365.length : Int) == 0)))))))) = some r := h
 clear h
 replace H := Option.bind_eq_some_iff.mp H
 obtain ⟨t357, A20, H⟩ := H
 replace H : (if t357 = true then (some true) else ((spec_DrawCells.f k l0).bind fun bt358 => ((impl_Cells.f k bt358.1 bt358.2.1 bt358.2.2.1 bt358.2.2.2).bind fun t365 => ((spec_BoxOk.f k bt358.1 bt358.2.1 bt358.2.2.1).bind fun t368 => (if t368 = true then (if (t365.length : Int) = (wrap64 (bt358.1 * bt358.2.1)) then (laws_FnStormCells.l0 k bt358.2.2.2 t365 0 0 bt358.1 bt358.2.1 bt358.2.2.1) else (some false)) else (some ((t365.length : Int) == 0))))))) = some r := H
 have A2 := Aside0.mk A20
 clear A20
 by_cases c3 : t357 = true
 ·subst c3
  have H1 : (some true) = some r := by rw [if_pos rfl] at H; exact H
  clear H
  have H := H1
  clear H1
  obtain rfl := Option.some.inj H
  go_enter Try.func4, Try.ntmps4
  go_wp2_with (first | (go_at_call 16; (with_reducible refine (laws_big.calls _ _ l0 true _ ?side1 ?side2 A2.out).mono ?_); (case side1 => repeat (first | exact HR0.out | (with_reducible refine Kd.C_alloc ?_ _) | (with_reducible refine Kd.C_drewN ?_ _) | (with_reducible refine Kd.C_drew ?_))); (case side2 => exact HC0.out); rintro e w' ⟨rfl, ⟨nd, rfl⟩⟩; (try first | exact ⟨rfl, _, World.drewN_drewN _ _ _⟩ | exact ⟨rfl, _, Eq.trans (World.drewN_drewN _ _ _) (congrArg (World.drewN _) (Nat.add_assoc _ _ _))⟩)))
  repeat (go_quiet (first | (go_at_call 16; (with_reducible refine (laws_big.calls _ _ l0 true _ ?side1 ?side2 A2.out).mono ?_); (case side1 => repeat (first | exact HR0.out | (with_reducible refine Kd.C_alloc ?_ _) | (with_reducible refine Kd.C_drewN ?_ _) | (with_reducible refine Kd.C_drew ?_))); (case side2 => exact HC0.out); rintro e w' ⟨rfl, ⟨nd, rfl⟩⟩; (try first | exact ⟨rfl, _, World.drewN_drewN _ _ _⟩ | exact ⟨rfl, _, Eq.trans (World.drewN_drewN _ _ _) (congrArg (World.drewN _) (Nat.add_assoc _ _ _))⟩))); try go_wp2_with (first | (go_at_call 16; (with_reducible refine (laws_big.calls _ _ l0 true _ ?side1 ?side2 A2.out).mono ?_); (case side1 => repeat (first | exact HR0.out | (with_reducible refine Kd.C_alloc ?_ _) | (with_reducible refine Kd.C_drewN ?_ _) | (with_reducible refine Kd.C_drew ?_))); (case side2 => exact HC0.out); rintro e w' ⟨rfl, ⟨nd, rfl⟩⟩; (try first | exact ⟨rfl, _, World.drewN_drewN _ _ _⟩ | exact ⟨rfl, _, Eq.trans (World.drewN_drewN _ _ _) (congrArg (World.drewN _) (Nat.add_assoc _ _ _))⟩))))
  go_ret
  exact ⟨by first | rfl | (simp [errW_none, errW_some] <;> rfl) | (simp [*, errW_none, errW_some] <;> rfl), by repeat (first | (with_reducible first | exact HB.out | apply below_alloc | apply pw_below_drewN | apply below_drew1) | exact HB.out)⟩
 ·replace c3 := Bool.eq_false_iff.mpr c3
  subst c3
  have H1 : ((spec_DrawCells.f k l0).bind fun bt358 => ((impl_Cells.f k bt358.1 bt358.2.1 bt358.2.2.1 bt358.2.2.2).bind fun t365 => ((spec_BoxOk.f k bt358.1 bt358.2.1 bt358.2.2.1).bind fun t368 => (if t368 = true then (if (t365.length : Int) = (wrap64 (bt358.1 * bt358.2.1)) then (laws_FnStormCells.l0 k bt358.2.2.2 t365 0 0 bt358.1 bt358.2.1 bt358.2.2.1) else (some false)) else (some ((t365.length : Int) == 0)))))) = some r := by rw [if_neg (show ¬ (false = true) by decide)] at H; exact H
  clear H
  have H := H1
  clear H1
  replace H := Option.bind_eq_some_iff.mp H
  obtain ⟨⟨t358, t359, t360, t363⟩, A40, H⟩ := H
  replace H : ((impl_Cells.f k t358 t359 t360 t363).bind fun t365 => ((spec_BoxOk.f k t358 t359 t360).bind fun t368 => (if t368 = true then (if (t365.length : Int) = (wrap64 (t358 * t359)) then (laws_FnStormCells.l0 k t363 t365 0 0 t358 t359 t360) else (some false)) else (some ((t365.length : Int) == 0))))) = some r := H
  have A4 := Aside0.mk A40
  clear A40
  replace H := Option.bind_eq_some_iff.mp H
  obtain ⟨t365, A50, H⟩ := H
  replace H : ((spec_BoxOk.f k t358 t359 t360).bind fun t368 => (if t368 = true then (if (t365.length : Int) = (wrap64 (t358 * t359)) then (laws_FnStormCells.l0 k t363 t365 0 0 t358 t359 t360) else (some false)) else (some ((t365.length : Int) == 0)))) = some r := H
  have A5 := Aside0.mk A50
  clear A50
  replace H := Option.bind_eq_some_iff.mp H
  obtain ⟨t368, A60, H⟩ := H
  replace H : (if t368 = true then (if (t365.length : Int) = (wrap64 (t358 * t359)) then (laws_FnStormCells.l0 k t363 t365 0 0 t358 t359 t360) else (some false)) else (some ((t365.length : Int) == 0))) = some r := H
  have A6 := Aside0.mk A60
  clear A60
  by_cases c7 : t368 = true
  ·subst c7
   have H1 : (if (t365.length : Int) = (wrap64 (t358 * t359)) then (laws_FnStormCells.l0 k t363 t365 0 0 t358 t359 t360) else (some false)) = some r := by rw [if_pos rfl] at H; exact H
   clear H
   have H := H1
   clear H1
   by_cases c8 : (t365.length : Int) = (wrap64 (t358 * t359))
   ·rw [if_pos c8] at H
    have c8b0 : ((t365.length : Int) == (wrap64 (t358 * t359))) = true := beq_iff_eq.mpr c8
    have c8b1 : ((t365.length : Int) != (wrap64 (t358 * t359))) = false := bne_eq_false_iff_eq.mpr c8
    clear c8
    have H' := Aside0.mk H
    clear H
    go_enter Try.func4, Try.ntmps4
    go_wp2_with (first | (go_at_call 16; (with_reducible refine (laws_big.calls _ _ l0 false _ ?side1 ?side2 A2.out).mono ?_); (case side1 => repeat (first | exact HR0.out | (with_reducible refine Kd.C_alloc ?_ _) | (with_reducible refine Kd.C_drewN ?_ _) | (with_reducible refine Kd.C_drew ?_))); (case side2 => exact HC0.out); rintro e w' ⟨rfl, ⟨nd, rfl⟩⟩; (try first | exact ⟨rfl, _, World.drewN_drewN _ _ _⟩ | exact ⟨rfl, _, Eq.trans (World.drewN_drewN _ _ _) (congrArg (World.drewN _) (Nat.add_assoc _ _ _))⟩)) | (go_at_call 17; (with_reducible refine (spec_DrawCells.calls k _ _ l0 t358 t359 t360 t363 _ ?side1 ?side2 A4.out).mono ?_); (case side1 => repeat (first | exact HR0.out | (with_reducible refine Kd.C_alloc ?_ _) | (with_reducible refine Kd.C_drewN ?_ _) | (with_reducible refine Kd.C_drew ?_))); (case side2 => exact HC0.out); rintro e w9 ⟨v361, rfl, ho0, hb⟩; have n0_ := Aside0.mk (Kd.Q_lower ho0 (below_size (by repeat (first | (with_reducible first | exact HB.out | apply below_alloc | apply pw_below_drewN | apply below_drew1) | exact HB.out)))); have n1_ := Aside0.mk (below_step (by repeat (first | (with_reducible first | exact HB.out | apply below_alloc | apply pw_below_drewN | apply below_drew1) | exact HB.out)) hb); clear HB; have HO362 := n0_; have HB := n1_; clear n0_ n1_; (try clear hb); (try clear hb2); (try clear hk); (try clear hi); (try clear ho0)) | ((with_reducible refine gate_dst (N := 3) rfl ?_); refine box_event ?hg (N := 3) ?hd (cs := #[.int .i64 0, .int .i64 0, .slice none 0 0]) (t := 27) ?hr ?_; (case hd => rfl); (case hg => rfl); (case hr => first | (go_simp; done) | (go_simp; rfl)); intro gb364 hg w10 hbox hb; have n0_ := Aside0.mk (Kd.Q_below (by (with_reducible repeat (first | apply Kd.Q_alloc | apply Kd.Q_drewN | apply Kd.Q_drew)); exact HO362.out) hb); have n1_ := Aside0.mk (below_step (by repeat (first | (with_reducible first | exact HB.out | apply below_alloc | apply pw_below_drewN | apply below_drew1) | exact HB.out)) hb); have n2_ := Aside0.mk (hbox); have n3_ := Aside0.mk ((by rw [hg]; exact (below_size (by repeat (first | (with_reducible first | exact HB.out | apply below_alloc | apply pw_below_drewN | apply below_drew1) | exact HB.out))) : w.heap.size ≤ gb364)); have n4_ := Aside0.mk ((by rw [hg]; exact (below_size (by repeat (first | (with_reducible first | exact HB.out | apply below_alloc | apply pw_below_drewN | apply below_drew1) | exact HB.out))) : w.heap.size ≤ gb364)); clear HO362; clear HB; have HO362 := n0_; have HB := n1_; have BK364 := n2_; have GW364 := n3_; have GE364 := n4_; clear n0_ n1_ n2_ n3_ n4_; clear hb hbox hg; have hcz11_0 : w10.cell? ⟨gb364, 0, none⟩ = some (.int .i64 0) := (blk_cell BK364.out 0).trans rfl; have hcz11_1 : w10.cell? ⟨gb364, 1, none⟩ = some (.int .i64 0) := (blk_cell BK364.out 1).trans rfl; have hcz11_2 : w10.cell? ⟨gb364, 2, none⟩ = some (.slice none 0 0) := (blk_cell BK364.out 2).trans rfl; have hfz11_0 := blk_frozen BK364.out 0; have hfz11_1 := blk_frozen BK364.out 1; have hfz11_2 := blk_frozen BK364.out 2; obtain ⟨Ao12, co12, eo12, _⟩ := Kd.Q_slice HO362.out; subst eo12) | (go_at_call 10; (with_reducible refine (impl_Cells.calls k t358 t359 _ _ t360 t363 t365 _ ?side1 ?side2 A5.out).mono ?_); (case side1 => refine (Kd.Q_reads' (e := 2) (base := w.heap.size) (ok := fun k_ => True) (n := t360.length) (c := co12) ?_).2.2; exact (by (with_reducible repeat (first | apply Kd.Q_alloc | apply Kd.Q_drewN | apply Kd.Q_drew)); exact (Kd.Q_mono (Kd.Q_far (p := ⟨gb364, 2, none⟩) (Kd.Q_far (p := ⟨gb364, 1, none⟩) (Kd.Q_far (p := ⟨gb364, 0, none⟩) (Kd.Q_types HO362.out BK364.out (by decide)) (fun _ hk => hk.2) (.int .i64 t358)) (fun _ hk => hk.2) (.int .i64 t359)) (fun _ hk => hk.2) (.slice Ao12 t360.length co12)) (fun _ h_ => h_.1)))); (case side2 => exact (Kd.Q_reads' HO362.out).2.1); rintro e w13 ⟨v366, rfl, ho0, hb⟩; have n0_ := Aside0.mk (Kd.Q_elder' (by (with_reducible repeat (first | apply Kd.Q_alloc | apply Kd.Q_drewN | apply Kd.Q_drew)); exact (Kd.Q_mono (Kd.Q_far (p := ⟨gb364, 2, none⟩) (Kd.Q_far (p := ⟨gb364, 1, none⟩) (Kd.Q_far (p := ⟨gb364, 0, none⟩) (Kd.Q_types HO362.out BK364.out (by decide)) (fun _ hk => hk.2) (.int .i64 t358)) (fun _ hk => hk.2) (.int .i64 t359)) (fun _ hk => hk.2) (.slice Ao12 t360.length co12)) (fun _ h_ => h_.1))) (Kd.R_base ho0) hb); have n1_ := Aside0.mk (Kd.R_lower (Kd.R_new' ho0 (Kd.Q_lt (by (with_reducible repeat (first | apply Kd.Q_alloc | apply Kd.Q_drewN | apply Kd.Q_drew)); exact (Kd.Q_mono (Kd.Q_far (p := ⟨gb364, 2, none⟩) (Kd.Q_far (p := ⟨gb364, 1, none⟩) (Kd.Q_far (p := ⟨gb364, 0, none⟩) (Kd.Q_types HO362.out BK364.out (by decide)) (fun _ hk => hk.2) (.int .i64 t358)) (fun _ hk => hk.2) (.int .i64 t359)) (fun _ hk => hk.2) (.slice Ao12 t360.length co12)) (fun _ h_ => h_.1))))) (below_size (by repeat (first | (with_reducible first | exact HB.out | apply below_alloc | apply pw_below_drewN | apply below_drew1 | refine below_set ?_ GE364.out) | exact HB.out)))); have n2_ := Aside0.mk (blk_below (g := gb364) (o := .cells #[.int .i64 t358, .int .i64 t359, .slice Ao12 t360.length co12] 27 (0, 0)) (by (with_reducible repeat (first | refine blk_drewN ?_ _ | refine blk_drew ?_ | refine blk_alloc ?_ _)); refine blk_put (cs := #[.int .i64 t358, .int .i64 t359, .slice none 0 0]) ?_ 2 _ rfl; (with_reducible repeat (first | refine blk_drewN ?_ _ | refine blk_drew ?_ | refine blk_alloc ?_ _)); refine blk_put (cs := #[.int .i64 t358, .int .i64 0, .slice none 0 0]) ?_ 1 _ rfl; (with_reducible repeat (first | refine blk_drewN ?_ _ | refine blk_drew ?_ | refine blk_alloc ?_ _)); refine blk_put (cs := #[.int .i64 0, .int .i64 0, .slice none 0 0]) ?_ 0 _ rfl; (with_reducible repeat (first | refine blk_drewN ?_ _ | refine blk_drew ?_ | refine blk_alloc ?_ _)); exact BK364.out) hb); have n3_ := Aside0.mk (below_step (by repeat (first | (with_reducible first | exact HB.out | apply below_alloc | apply pw_below_drewN | apply below_drew1 | refine below_set ?_ GE364.out) | exact HB.out)) hb); clear HO362; clear BK364; clear HB; have HO362 := n0_; have HO367 := n1_; have BK364 := n2_; have HB := n3_; clear n0_ n1_ n2_ n3_; (try clear hb); (try clear hb2); (try clear hk); (try clear hi); (try clear ho0); have hcz14_0 : w13.cell? ⟨gb364, 0, none⟩ = some (.int .i64 t358) := (blk_cell BK364.out 0).trans rfl; have hcz14_1 : w13.cell? ⟨gb364, 1, none⟩ = some (.int .i64 t359) := (blk_cell BK364.out 1).trans rfl; have hcz14_2 : w13.cell? ⟨gb364, 2, none⟩ = some (.slice Ao12 t360.length co12) := (blk_cell BK364.out 2).trans rfl; have hfz14_0 := blk_frozen BK364.out 0; have hfz14_1 := blk_frozen BK364.out 1; have hfz14_2 := blk_frozen BK364.out 2) | (go_at_call 18; (with_reducible refine (spec_BoxOk.calls k t358 t359 _ _ t360 true _ ?side1 ?side2 A6.out).mono ?_); (case side1 => repeat (first | exact (Kd.Q_reads' HO362.out).2.2 | (with_reducible refine Kd.C_alloc ?_ _) | (with_reducible refine Kd.C_drewN ?_ _) | (with_reducible refine Kd.C_drew ?_))); (case side2 => exact (Kd.Q_reads' HO362.out).2.1); rintro e w15 ⟨rfl, hb⟩; have n0_ := Aside0.mk (Kd.Q_below (by (with_reducible repeat (first | apply Kd.Q_alloc | apply Kd.Q_drewN | apply Kd.Q_drew)); exact HO362.out) hb); have n1_ := Aside0.mk (Kd.R_below (by (with_reducible repeat (first | apply Kd.R_alloc | apply Kd.R_drewN | apply Kd.R_drew)); exact HO367.out) hb); have n2_ := Aside0.mk (blk_below (g := gb364) (o := .cells #[.int .i64 t358, .int .i64 t359, .slice Ao12 t360.length co12] 27 (0, 0)) (by (with_reducible repeat (first | refine blk_drewN ?_ _ | refine blk_drew ?_ | refine blk_alloc ?_ _)); exact BK364.out) hb); have n3_ := Aside0.mk (below_step (by repeat (first | (with_reducible first | exact HB.out | apply below_alloc | apply pw_below_drewN | apply below_drew1 | refine below_set ?_ GE364.out) | exact HB.out)) hb); clear HO362; clear HO367; clear BK364; clear HB; have HO362 := n0_; have HO367 := n1_; have BK364 := n2_; have HB := n3_; clear n0_ n1_ n2_ n3_; (try clear hb); (try clear hb2); (try clear hk); (try clear hi); obtain ⟨Ao16, co16, eo16⟩ := Kd.R_slice HO367.out; subst eo16; have hcz17_0 : w15.cell? ⟨gb364, 0, none⟩ = some (.int .i64 t358) := (blk_cell BK364.out 0).trans rfl; have hcz17_1 : w15.cell? ⟨gb364, 1, none⟩ = some (.int .i64 t359) := (blk_cell BK364.out 1).trans rfl; have hcz17_2 : w15.cell? ⟨gb364, 2, none⟩ = some (.slice Ao12 t360.length co12) := (blk_cell BK364.out 2).trans rfl; have hfz17_0 := blk_frozen BK364.out 0; have hfz17_1 := blk_frozen BK364.out 1; have hfz17_2 := blk_frozen BK364.out 2))
    repeat (go_quiet (first | (go_at_call 16; (with_reducible refine (laws_big.calls _ _ l0 false _ ?side1 ?side2 A2.out).mono ?_); (case side1 => repeat (first | exact HR0.out | (with_reducible refine Kd.C_alloc ?_ _) | (with_reducible refine Kd.C_drewN ?_ _) | (with_reducible refine Kd.C_drew ?_))); (case side2 => exact HC0.out); rintro e w' ⟨rfl, ⟨nd, rfl⟩⟩; (try first | exact ⟨rfl, _, World.drewN_drewN _ _ _⟩ | exact ⟨rfl, _, Eq.trans (World.drewN_drewN _ _ _) (congrArg (World.drewN _) (Nat.add_assoc _ _ _))⟩)) | (go_at_call 17; (with_reducible refine (spec_DrawCells.calls k _ _ l0 t358 t359 t360 t363 _ ?side1 ?side2 A4.out).mono ?_); (case side1 => repeat (first | exact HR0.out | (with_reducible refine Kd.C_alloc ?_ _) | (with_reducible refine Kd.C_drewN ?_ _) | (with_reducible refine Kd.C_drew ?_))); (case side2 => exact HC0.out); rintro e w9 ⟨v361, rfl, ho0, hb⟩; have n0_ := Aside0.mk (Kd.Q_lower ho0 (below_size (by repeat (first | (with_reducible first | exact HB.out | apply below_alloc | apply pw_below_drewN | apply below_drew1) | exact HB.out)))); have n1_ := Aside0.mk (below_step (by repeat (first | (with_reducible first | exact HB.out | apply below_alloc | apply pw_below_drewN | apply below_drew1) | exact HB.out)) hb); clear HB; have HO362 := n0_; have HB := n1_; clear n0_ n1_; (try clear hb); (try clear hb2); (try clear hk); (try clear hi); (try clear ho0)) | ((with_reducible refine gate_dst (N := 3) rfl ?_); refine box_event ?hg (N := 3) ?hd (cs := #[.int .i64 0, .int .i64 0, .slice none 0 0]) (t := 27) ?hr ?_; (case hd => rfl); (case hg => rfl); (case hr => first | (go_simp; done) | (go_simp; rfl)); intro gb364 hg w10 hbox hb; have n0_ := Aside0.mk (Kd.Q_below (by (with_reducible repeat (first | apply Kd.Q_alloc | apply Kd.Q_drewN | apply Kd.Q_drew)); exact HO362.out) hb); have n1_ := Aside0.mk (below_step (by repeat (first | (with_reducible first | exact HB.out | apply below_alloc | apply pw_below_drewN | apply below_drew1) | exact HB.out)) hb); have n2_ := Aside0.mk (hbox); have n3_ := Aside0.mk ((by rw [hg]; exact (below_size (by repeat (first | (with_reducible first | exact HB.out | apply below_alloc | apply pw_below_drewN | apply below_drew1) | exact HB.out))) : w.heap.size ≤ gb364)); have n4_ := Aside0.mk ((by rw [hg]; exact (below_size (by repeat (first | (with_reducible first | exact HB.out | apply below_alloc | apply pw_below_drewN | apply below_drew1) | exact HB.out))) : w.heap.size ≤ gb364)); clear HO362; clear HB; have HO362 := n0_; have HB := n1_; have BK364 := n2_; have GW364 := n3_; have GE364 := n4_; clear n0_ n1_ n2_ n3_ n4_; clear hb hbox hg; have hcz11_0 : w10.cell? ⟨gb364, 0, none⟩ = some (.int .i64 0) := (blk_cell BK364.out 0).trans rfl; have hcz11_1 : w10.cell? ⟨gb364, 1, none⟩ = some (.int .i64 0) := (blk_cell BK364.out 1).trans rfl; have hcz11_2 : w10.cell? ⟨gb364, 2, none⟩ = some (.slice none 0 0) := (blk_cell BK364.out 2).trans rfl; have hfz11_0 := blk_frozen BK364.out 0; have hfz11_1 := blk_frozen BK364.out 1; have hfz11_2 := blk_frozen BK364.out 2; obtain ⟨Ao12, co12, eo12, _⟩ := Kd.Q_slice HO362.out; subst eo12) | (go_at_call 10; (with_reducible refine (impl_Cells.calls k t358 t359 _ _ t360 t363 t365 _ ?side1 ?side2 A5.out).mono ?_); (case side1 => refine (Kd.Q_reads' (e := 2) (base := w.heap.size) (ok := fun k_ => True) (n := t360.length) (c := co12) ?_).2.2; exact (by (with_reducible repeat (first | apply Kd.Q_alloc | apply Kd.Q_drewN | apply Kd.Q_drew)); exact (Kd.Q_mono (Kd.Q_far (p := ⟨gb364, 2, none⟩) (Kd.Q_far (p := ⟨gb364, 1, none⟩) (Kd.Q_far (p := ⟨gb364, 0, none⟩) (Kd.Q_types HO362.out BK364.out (by decide)) (fun _ hk => hk.2) (.int .i64 t358)) (fun _ hk => hk.2) (.int .i64 t359)) (fun _ hk => hk.2) (.slice Ao12 t360.length co12)) (fun _ h_ => h_.1)))); (case side2 => exact (Kd.Q_reads' HO362.out).2.1); rintro e w13 ⟨v366, rfl, ho0, hb⟩; have n0_ := Aside0.mk (Kd.Q_elder' (by (with_reducible repeat (first | apply Kd.Q_alloc | apply Kd.Q_drewN | apply Kd.Q_drew)); exact (Kd.Q_mono (Kd.Q_far (p := ⟨gb364, 2, none⟩) (Kd.Q_far (p := ⟨gb364, 1, none⟩) (Kd.Q_far (p := ⟨gb364, 0, none⟩) (Kd.Q_types HO362.out BK364.out (by decide)) (fun _ hk => hk.2) (.int .i64 t358)) (fun _ hk => hk.2) (.int .i64 t359)) (fun _ hk => hk.2) (.slice Ao12 t360.length co12)) (fun _ h_ => h_.1))) (Kd.R_base ho0) hb); have n1_ := Aside0.mk (Kd.R_lower (Kd.R_new' ho0 (Kd.Q_lt (by (with_reducible repeat (first | apply Kd.Q_alloc | apply Kd.Q_drewN | apply Kd.Q_drew)); exact (Kd.Q_mono (Kd.Q_far (p := ⟨gb364, 2, none⟩) (Kd.Q_far (p := ⟨gb364, 1, none⟩) (Kd.Q_far (p := ⟨gb364, 0, none⟩) (Kd.Q_types HO362.out BK364.out (by decide)) (fun _ hk => hk.2) (.int .i64 t358)) (fun _ hk => hk.2) (.int .i64 t359)) (fun _ hk => hk.2) (.slice Ao12 t360.length co12)) (fun _ h_ => h_.1))))) (below_size (by repeat (first | (with_reducible first | exact HB.out | apply below_alloc | apply pw_below_drewN | apply below_drew1 | refine below_set ?_ GE364.out) | exact HB.out)))); have n2_ := Aside0.mk (blk_below (g := gb364) (o := .cells #[.int .i64 t358, .int .i64 t359, .slice Ao12 t360.length co12] 27 (0, 0)) (by (with_reducible repeat (first | refine blk_drewN ?_ _ | refine blk_drew ?_ | refine blk_alloc ?_ _)); refine blk_put (cs := #[.int .i64 t358, .int .i64 t359, .slice none 0 0]) ?_ 2 _ rfl; (with_reducible repeat (first | refine blk_drewN ?_ _ | refine blk_drew ?_ | refine blk_alloc ?_ _)); refine blk_put (cs := #[.int .i64 t358, .int .i64 0, .slice none 0 0]) ?_ 1 _ rfl; (with_reducible repeat (first | refine blk_drewN ?_ _ | refine blk_drew ?_ | refine blk_alloc ?_ _)); refine blk_put (cs := #[.int .i64 0, .int .i64 0, .slice none 0 0]) ?_ 0 _ rfl; (with_reducible repeat (first | refine blk_drewN ?_ _ | refine blk_drew ?_ | refine blk_alloc ?_ _)); exact BK364.out) hb); have n3_ := Aside0.mk (below_step (by repeat (first | (with_reducible first | exact HB.out | apply below_alloc | apply pw_below_drewN | apply below_drew1 | refine below_set ?_ GE364.out) | exact HB.out)) hb); clear HO362; clear BK364; clear HB; have HO362 := n0_; have HO367 := n1_; have BK364 := n2_; have HB := n3_; clear n0_ n1_ n2_ n3_; (try clear hb); (try clear hb2); (try clear hk); (try clear hi); (try clear ho0); have hcz14_0 : w13.cell? ⟨gb364, 0, none⟩ = some (.int .i64 t358) := (blk_cell BK364.out 0).trans rfl; have hcz14_1 : w13.cell? ⟨gb364, 1, none⟩ = some (.int .i64 t359) := (blk_cell BK364.out 1).trans rfl; have hcz14_2 : w13.cell? ⟨gb364, 2, none⟩ = some (.slice Ao12 t360.length co12) := (blk_cell BK364.out 2).trans rfl; have hfz14_0 := blk_frozen BK364.out 0; have hfz14_1 := blk_frozen BK364.out 1; have hfz14_2 := blk_frozen BK364.out 2) | (go_at_call 18; (with_reducible refine (spec_BoxOk.calls k t358 t359 _ _ t360 true _ ?side1 ?side2 A6.out).mono ?_); (case side1 => repeat (first | exact (Kd.Q_reads' HO362.out).2.2 | (with_reducible refine Kd.C_alloc ?_ _) | (with_reducible refine Kd.C_drewN ?_ _) | (with_reducible refine Kd.C_drew ?_))); (case side2 => exact (Kd.Q_reads' HO362.out).2.1); rintro e w15 ⟨rfl, hb⟩; have n0_ := Aside0.mk (Kd.Q_below (by (with_reducible repeat (first | apply Kd.Q_alloc | apply Kd.Q_drewN | apply Kd.Q_drew)); exact HO362.out) hb); have n1_ := Aside0.mk (Kd.R_below (by (with_reducible repeat (first | apply Kd.R_alloc | apply Kd.R_drewN | apply Kd.R_drew)); exact HO367.out) hb); have n2_ := Aside0.mk (blk_below (g := gb364) (o := .cells #[.int .i64 t358, .int .i64 t359, .slice Ao12 t360.length co12] 27 (0, 0)) (by (with_reducible repeat (first | refine blk_drewN ?_ _ | refine blk_drew ?_ | refine blk_alloc ?_ _)); exact BK364.out) hb); have n3_ := Aside0.mk (below_step (by repeat (first | (with_reducible first | exact HB.out | apply below_alloc | apply pw_below_drewN | apply below_drew1 | refine below_set ?_ GE364.out) | exact HB.out)) hb); clear HO362; clear HO367; clear BK364; clear HB; have HO362 := n0_; have HO367 := n1_; have BK364 := n2_; have HB := n3_; clear n0_ n1_ n2_ n3_; (try clear hb); (try clear hb2); (try clear hk); (try clear hi); obtain ⟨Ao16, co16, eo16⟩ := Kd.R_slice HO367.out; subst eo16; have hcz17_0 : w15.cell? ⟨gb364, 0, none⟩ = some (.int .i64 t358) := (blk_cell BK364.out 0).trans rfl; have hcz17_1 : w15.cell? ⟨gb364, 1, none⟩ = some (.int .i64 t359) := (blk_cell BK364.out 1).trans rfl; have hcz17_2 : w15.cell? ⟨gb364, 2, none⟩ = some (.slice Ao12 t360.length co12) := (blk_cell BK364.out 2).trans rfl; have hfz17_0 := blk_frozen BK364.out 0; have hfz17_1 := blk_frozen BK364.out 1; have hfz17_2 := blk_frozen BK364.out 2)); try go_wp2_with (first | (go_at_call 16; (with_reducible refine (laws_big.calls _ _ l0 false _ ?side1 ?side2 A2.out).mono ?_); (case side1 => repeat (first | exact HR0.out | (with_reducible refine Kd.C_alloc ?_ _) | (with_reducible refine Kd.C_drewN ?_ _) | (with_reducible refine Kd.C_drew ?_))); (case side2 => exact HC0.out); rintro e w' ⟨rfl, ⟨nd, rfl⟩⟩; (try first | exact ⟨rfl, _, World.drewN_drewN _ _ _⟩ | exact ⟨rfl, _, Eq.trans (World.drewN_drewN _ _ _) (congrArg (World.drewN _) (Nat.add_assoc _ _ _))⟩)) | (go_at_call 17; (with_reducible refine (spec_DrawCells.calls k _ _ l0 t358 t359 t360 t363 _ ?side1 ?side2 A4.out).mono ?_); (case side1 => repeat (first | exact HR0.out | (with_reducible refine Kd.C_alloc ?_ _) | (with_reducible refine Kd.C_drewN ?_ _) | (with_reducible refine Kd.C_drew ?_))); (case side2 => exact HC0.out); rintro e w9 ⟨v361, rfl, ho0, hb⟩; have n0_ := Aside0.mk (Kd.Q_lower ho0 (below_size (by repeat (first | (with_reducible first | exact HB.out | apply below_alloc | apply pw_below_drewN | apply below_drew1) | exact HB.out)))); have n1_ := Aside0.mk (below_step (by repeat (first | (with_reducible first | exact HB.out | apply below_alloc | apply pw_below_drewN | apply below_drew1) | exact HB.out)) hb); clear HB; have HO362 := n0_; have HB := n1_; clear n0_ n1_; (try clear hb); (try clear hb2); (try clear hk); (try clear hi); (try clear ho0)) | ((with_reducible refine gate_dst (N := 3) rfl ?_); refine box_event ?hg (N := 3) ?hd (cs := #[.int .i64 0, .int .i64 0, .slice none 0 0]) (t := 27) ?hr ?_; (case hd => rfl); (case hg => rfl); (case hr => first | (go_simp; done) | (go_simp; rfl)); intro gb364 hg w10 hbox hb; have n0_ := Aside0.mk (Kd.Q_below (by (with_reducible repeat (first | apply Kd.Q_alloc | apply Kd.Q_drewN | apply Kd.Q_drew)); exact HO362.out) hb); have n1_ := Aside0.mk (below_step (by repeat (first | (with_reducible first | exact HB.out | apply below_alloc | apply pw_below_drewN | apply below_drew1) | exact HB.out)) hb); have n2_ := Aside0.mk (hbox); have n3_ := Aside0.mk ((by rw [hg]; exact (below_size (by repeat (first | (with_reducible first | exact HB.out | apply below_alloc | apply pw_below_drewN | apply below_drew1) | exact HB.out))) : w.heap.size ≤ gb364)); have n4_ := Aside0.mk ((by rw [hg]; exact (below_size (by repeat (first | (with_reducible first | exact HB.out | apply below_alloc | apply pw_below_drewN | apply below_drew1) | exact HB.out))) : w.heap.size ≤ gb364)); clear HO362; clear HB; have HO362 := n0_; have HB := n1_; have BK364 := n2_; have GW364 := n3_; have GE364 := n4_; clear n0_ n1_ n2_ n3_ n4_; clear hb hbox hg; have hcz11_0 : w10.cell? ⟨gb364, 0, none⟩ = some (.int .i64 0) := (blk_cell BK364.out 0).trans rfl; have hcz11_1 : w10.cell? ⟨gb364, 1, none⟩ = some (.int .i64 0) := (blk_cell BK364.out 1).trans rfl; have hcz11_2 : w10.cell? ⟨gb364, 2, none⟩ = some (.slice none 0 0) := (blk_cell BK364.out 2).trans rfl; have hfz11_0 := blk_frozen BK364.out 0; have hfz11_1 := blk_frozen BK364.out 1; have hfz11_2 := blk_frozen BK364.out 2; obtain ⟨Ao12, co12, eo12, _⟩ := Kd.Q_slice HO362.out; subst eo12) | (go_at_call 10; (with_reducible refine (impl_Cells.calls k t358 t359 _ _ t360 t363 t365 _ ?side1 ?side2 A5.out).mono ?_); (case side1 => refine (Kd.Q_reads' (e := 2) (base := w.heap.size) (ok := fun k_ => True) (n := t360.length) (c := co12) ?_).2.2; exact (by (with_reducible repeat (first | apply Kd.Q_alloc | apply Kd.Q_drewN | apply Kd.Q_drew)); exact (Kd.Q_mono (Kd.Q_far (p := ⟨gb364, 2, none⟩) (Kd.Q_far (p := ⟨gb364, 1, none⟩) (Kd.Q_far (p := ⟨gb364, 0, none⟩) (Kd.Q_types HO362.out BK364.out (by decide)) (fun _ hk => hk.2) (.int .i64 t358)) (fun _ hk => hk.2) (.int .i64 t359)) (fun _ hk => hk.2) (.slice Ao12 t360.length co12)) (fun _ h_ => h_.1)))); (case side2 => exact (Kd.Q_reads' HO362.out).2.1); rintro e w13 ⟨v366, rfl, ho0, hb⟩; have n0_ := Aside0.mk (Kd.Q_elder' (by (with_reducible repeat (first | apply Kd.Q_alloc | apply Kd.Q_drewN | apply Kd.Q_drew)); exact (Kd.Q_mono (Kd.Q_far (p := ⟨gb364, 2, none⟩) (Kd.Q_far (p := ⟨gb364, 1, none⟩) (Kd.Q_far (p := ⟨gb364, 0, none⟩) (Kd.Q_types HO362.out BK364.out (by decide)) (fun _ hk => hk.2) (.int .i64 t358)) (fun _ hk => hk.2) (.int .i64 t359)) (fun _ hk => hk.2) (.slice Ao12 t360.length co12)) (fun _ h_ => h_.1))) (Kd.R_base ho0) hb); have n1_ := Aside0.mk (Kd.R_lower (Kd.R_new' ho0 (Kd.Q_lt (by (with_reducible repeat (first | apply Kd.Q_alloc | apply Kd.Q_drewN | apply Kd.Q_drew)); exact (Kd.Q_mono (Kd.Q_far (p := ⟨gb364, 2, none⟩) (Kd.Q_far (p := ⟨gb364, 1, none⟩) (Kd.Q_far (p := ⟨gb364, 0, none⟩) (Kd.Q_types HO362.out BK364.out (by decide)) (fun _ hk => hk.2) (.int .i64 t358)) (fun _ hk => hk.2) (.int .i64 t359)) (fun _ hk => hk.2) (.slice Ao12 t360.length co12)) (fun _ h_ => h_.1))))) (below_size (by repeat (first | (with_reducible first | exact HB.out | apply below_alloc | apply pw_below_drewN | apply below_drew1 | refine below_set ?_ GE364.out) | exact HB.out)))); have n2_ := Aside0.mk (blk_below (g := gb364) (o := .cells #[.int .i64 t358, .int .i64 t359, .slice Ao12 t360.length co12] 27 (0, 0)) (by (with_reducible repeat (first | refine blk_drewN ?_ _ | refine blk_drew ?_ | refine blk_alloc ?_ _)); refine blk_put (cs := #[.int .i64 t358, .int .i64 t359, .slice none 0 0]) ?_ 2 _ rfl; (with_reducible repeat (first | refine blk_drewN ?_ _ | refine blk_drew ?_ | refine blk_alloc ?_ _)); refine blk_put (cs := #[.int .i64 t358, .int .i64 0, .slice none 0 0]) ?_ 1 _ rfl; (with_reducible repeat (first | refine blk_drewN ?_ _ | refine blk_drew ?_ | refine blk_alloc ?_ _)); refine blk_put (cs := #[.int .i64 0, .int .i64 0, .slice none 0 0]) ?_ 0 _ rfl; (with_reducible repeat (first | refine blk_drewN ?_ _ | refine blk_drew ?_ | refine blk_alloc ?_ _)); exact BK364.out) hb); have n3_ := Aside0.mk (below_step (by repeat (first | (with_reducible first | exact HB.out | apply below_alloc | apply pw_below_drewN | apply below_drew1 | refine below_set ?_ GE364.out) | exact HB.out)) hb); clear HO362; clear BK364; clear HB; have HO362 := n0_; have HO367 := n1_; have BK364 := n2_; have HB := n3_; clear n0_ n1_ n2_ n3_; (try clear hb); (try clear hb2); (try clear hk); (try clear hi); (try clear ho0); have hcz14_0 : w13.cell? ⟨gb364, 0, none⟩ = some (.int .i64 t358) := (blk_cell BK364.out 0).trans rfl; have hcz14_1 : w13.cell? ⟨gb364, 1, none⟩ = some (.int .i64 t359) := (blk_cell BK364.out 1).trans rfl; have hcz14_2 : w13.cell? ⟨gb364, 2, none⟩ = some (.slice Ao12 t360.length co12) := (blk_cell BK364.out 2).trans rfl; have hfz14_0 := blk_frozen BK364.out 0; have hfz14_1 := blk_frozen BK364.out 1; have hfz14_2 := blk_frozen BK364.out 2) | (go_at_call 18; (with_reducible refine (spec_BoxOk.calls k t358 t359 _ _ t360 true _ ?side1 ?side2 A6.out).mono ?_); (case side1 => repeat (first | exact (Kd.Q_reads' HO362.out).2.2 | (with_reducible refine Kd.C_alloc ?_ _) | (with_reducible refine Kd.C_drewN ?_ _) | (with_reducible refine Kd.C_drew ?_))); (case side2 => exact (Kd.Q_reads' HO362.out).2.1); rintro e w15 ⟨rfl, hb⟩; have n0_ := Aside0.mk (Kd.Q_below (by (with_reducible repeat (first | apply Kd.Q_alloc | apply Kd.Q_drewN | apply Kd.Q_drew)); exact HO362.out) hb); have n1_ := Aside0.mk (Kd.R_below (by (with_reducible repeat (first | apply Kd.R_alloc | apply Kd.R_drewN | apply Kd.R_drew)); exact HO367.out) hb); have n2_ := Aside0.mk (blk_below (g := gb364) (o := .cells #[.int .i64 t358, .int .i64 t359, .slice Ao12 t360.length co12] 27 (0, 0)) (by (with_reducible repeat (first | refine blk_drewN ?_ _ | refine blk_drew ?_ | refine blk_alloc ?_ _)); exact BK364.out) hb); have n3_ := Aside0.mk (below_step (by repeat (first | (with_reducible first | exact HB.out | apply below_alloc | apply pw_below_drewN | apply below_drew1 | refine below_set ?_ GE364.out) | exact HB.out)) hb); clear HO362; clear HO367; clear BK364; clear HB; have HO362 := n0_; have HO367 := n1_; have BK364 := n2_; have HB := n3_; clear n0_ n1_ n2_ n3_; (try clear hb); (try clear hb2); (try clear hk); (try clear hi); obtain ⟨Ao16, co16, eo16⟩ := Kd.R_slice HO367.out; subst eo16; have hcz17_0 : w15.cell? ⟨gb364, 0, none⟩ = some (.int .i64 t358) := (blk_cell BK364.out 0).trans rfl; have hcz17_1 : w15.cell? ⟨gb364, 1, none⟩ = some (.int .i64 t359) := (blk_cell BK364.out 1).trans rfl; have hcz17_2 : w15.cell? ⟨gb364, 2, none⟩ = some (.slice Ao12 t360.length co12) := (blk_cell BK364.out 2).trans rfl; have hfz17_0 := blk_frozen BK364.out 0; have hfz17_1 := blk_frozen BK364.out 1; have hfz17_2 := blk_frozen BK364.out 2)))
    go_loopg [6, 7] k (fun kq v6 v7 w' => ∃ (x6_1 : Int) (x7_1 : Int), v6 = .int .i64 x6_1 ∧ v7 = .int .i64 x7_1 ∧ Aside0 (laws_FnStormCells.l0 kq t363 t365 x6_1 x7_1 t358 t359 t360 = some r) ∧ Aside0 (kq ≤ k) ∧ Aside0 (Kd.R (Kd.int .i64) 2 w' w.heap.size (fun k_ => some k_ ≠ ((.slice Ao12 t360.length co12) : Value).ownBlock) (.slice Ao16 t365.length co16) t365) ∧ Aside0 (Kd.Q (Kd.int .i64) 2 w' w.heap.size (fun k_ => some k_ ≠ ((.slice Ao16 t365.length co16) : Value).ownBlock) (.slice Ao12 t360.length co12) t360) ∧ Aside0 (w'.heap[gb364]? = some (.cells #[.int .i64 t358, .int .i64 t359, (.slice Ao12 t360.length co12)] 27 (0, 0))) ∧ Aside0 (Below w.heap.size w w'))
    case atStart => exact ⟨(0), (0), (by first | rfl | (simp; done) | (simp [*]; done)), (by first | rfl | (simp; done) | (simp [*]; done)), H', ⟨Nat.le_refl _⟩, ⟨by (with_reducible repeat (first | apply Kd.R_alloc | apply Kd.R_drewN | apply Kd.R_drew)); exact Kd.R_mono HO367.out (fun _ hk => hk.2)⟩, ⟨by (with_reducible repeat (first | apply Kd.Q_alloc | apply Kd.Q_drewN | apply Kd.Q_drew)); exact Kd.Q_mono HO362.out (fun _ hk => hk.2)⟩, ⟨by (with_reducible repeat (first | refine blk_drewN ?_ _ | refine blk_drew ?_ | refine blk_alloc ?_ _)); exact BK364.out⟩, ⟨by repeat (first | (with_reducible first | exact HB.out | apply below_alloc | apply pw_below_drewN | apply below_drew1 | refine below_set ?_ GE364.out) | exact HB.out)⟩⟩
    case round =>
     clear H'
     try clear p2
     try clear c3
     try clear c4
     try clear p6
     try clear c7
     try clear c8
     try clear c8b0
     try clear c8b1
     try clear hcz11_0
     try clear hcz11_1
     try clear hcz11_2
     try clear hcz14_0
     try clear hcz14_1
     try clear hcz14_2
     try clear hcz17_0
     try clear hcz17_1
     try clear hcz17_2
     try clear hfz11_0
     try clear hfz11_1
     try clear hfz11_2
     try clear hfz14_0
     try clear hfz14_1
     try clear hfz14_2
     try clear hfz17_0
     try clear hfz17_1
     try clear hfz17_2
     obtain ⟨x6_1, x7_1, rfl, rfl, HA, HK1, HO_5, HO_365002, BK364, HB⟩ := hrel
     cases gk with
     | zero => exact absurd HA.out (by simp [laws_FnStormCells.l0])
     | succ k1 =>
      have H := HA.out
      clear HA
      simp only [laws_FnStormCells.l0] at H
      by_cases c18 : x7_1 < (t365.length : Int)
      ·rw [if_pos c18] at H
       have c18b0 : decide (x7_1 < (t365.length : Int)) = true := decide_eq_true c18
       clear c18
       have HC19 := Aside0.mk H
       clear H
       go_upto_region 13 with (fail)
       repeat (go_quiet (fail); go_upto_region 13 with (fail))
       go_cut [69] (fun v69 wc => ∃ (kq : Nat) (x69_18 : Bool), v69 = .bool x69_18 ∧ Aside0 (laws_FnStormCells.j1 kq t363 t365 x6_1 x7_1 x69_18 t358 t359 t360 = some r) ∧ Aside0 (kq ≤ k1) ∧ Aside0 (Kd.R (Kd.int .i64) 2 wc w.heap.size (fun k_ => some k_ ≠ ((.slice Ao12 t360.length co12) : Value).ownBlock) (.slice Ao16 t365.length co16) t365) ∧ Aside0 (Kd.Q (Kd.int .i64) 2 wc w.heap.size (fun k_ => some k_ ≠ ((.slice Ao16 t365.length co16) : Value).ownBlock) (.slice Ao12 t360.length co12) t360) ∧ Aside0 (wc.heap[gb364]? = some (.cells #[.int .i64 t358, .int .i64 t359, (.slice Ao12 t360.length co12)] 27 (0, 0))) ∧ Aside0 (Below w.heap.size w wc))
       case first =>
        have H := HC19.out
        clear HC19
        by_cases c20 : 0 ≤ x7_1
        ·rw [if_pos c20] at H
         have c20b0 : decide (0 ≤ x7_1) = true := decide_eq_true c20
         clear c20
         (first | rw [c20b0] | (simp only [i64_w, i32_w]; rw [c20b0]) | skip)
         by_cases c21 : x7_1 < (t360.length : Int)
         ·rw [if_pos c21] at H
          have c21b0 : decide (x7_1 < (t360.length : Int)) = true := decide_eq_true c21
          clear c21
          by_cases c22 : ((decide ((rd t365 x7_1) > 0)) != (decide ((rd t360 x7_1) ≥ t363))) = true
          ·rw [if_pos c22] at H
           have c22b0 : ((decide ((rd t365 x7_1) > 0)) != (decide ((rd t360 x7_1) ≥ t363))) = true := c22
           (try (have c22b1 : decide ((decide ((rd t365 x7_1) > 0)) = (decide ((rd t360 x7_1) ≥ t363))) = false := by simpa using c22))
           (try (have c22b2 : ((decide ((rd t365 x7_1) > 0)) == (decide ((rd t360 x7_1) ≥ t363))) = false := by simpa using c22))
           (try (have c22b3 : ¬ ((decide ((rd t365 x7_1) > 0)) = (decide ((rd t360 x7_1) ≥ t363))) := by simpa using c22))
           clear c22
           have H' := Aside0.mk H
           clear H
           have p372 : 0 ≤ (x7_1 : Int) := of_decide_eq_true (by first | (with_reducible assumption) | assumption)
           have q372 : x7_1 < (t365.length : Int) := of_decide_eq_true (by first | (with_reducible assumption) | assumption)
           obtain ⟨ad372, e372, hx372_0⟩ := Kd.at_int (Kd.R_reads' HO_5.out).2.2 x7_1 p372 q372
           cases e372
           replace p372 := eq_true p372
           replace q372 := eq_true q372
           have hcz23_0 : wr.cell? ⟨gb364, 0, none⟩ = some (.int .i64 t358) := (blk_cell BK364.out 0).trans rfl
           have hcz23_1 : wr.cell? ⟨gb364, 1, none⟩ = some (.int .i64 t359) := (blk_cell BK364.out 1).trans rfl
           have hcz23_2 : wr.cell? ⟨gb364, 2, none⟩ = some (.slice Ao12 t360.length co12) := (blk_cell BK364.out 2).trans rfl
           have hfz23_0 := blk_frozen BK364.out 0
           have hfz23_1 := blk_frozen BK364.out 1
           have hfz23_2 := blk_frozen BK364.out 2
           have p373 : 0 ≤ (x7_1 : Int) := of_decide_eq_true (by first | (with_reducible assumption) | assumption)
           have q373 : x7_1 < (t360.length : Int) := of_decide_eq_true (by first | (with_reducible assumption) | assumption)
           obtain ⟨ad373, e373, hx373_0⟩ := Kd.at_int (Kd.Q_reads' HO_365002.out).2.2 x7_1 p373 q373
           cases e373
           replace p373 := eq_true p373
           replace q373 := eq_true q373
           go_wp2
           repeat (go_quiet (fail); try go_wp2)
           go_meet
           case rel => exact ⟨_, (true), (by first | rfl | (simp; done) | (simp [*]; done)), H', ⟨by have := HK1.out; first | omega | exact Nat.le_refl _⟩, ⟨by (with_reducible repeat (first | apply Kd.R_alloc | apply Kd.R_drewN | apply Kd.R_drew)); exact HO_5.out⟩, ⟨by (with_reducible repeat (first | apply Kd.Q_alloc | apply Kd.Q_drewN | apply Kd.Q_drew)); exact HO_365002.out⟩, ⟨by (with_reducible repeat (first | refine blk_drewN ?_ _ | refine blk_drew ?_ | refine blk_alloc ?_ _)); exact BK364.out⟩, ⟨by repeat (first | (with_reducible first | exact HB.out | apply below_alloc | apply pw_below_drewN | apply below_drew1 | refine below_set ?_ GE364.out) | exact HB.out)⟩⟩
          ·rw [if_neg c22] at H
           have c22b0 : ((decide ((rd t365 x7_1) > 0)) != (decide ((rd t360 x7_1) ≥ t363))) = false := by simpa using c22
           (try (have c22b1 : decide ((decide ((rd t365 x7_1) > 0)) = (decide ((rd t360 x7_1) ≥ t363))) = true := by simpa using c22))
           (try (have c22b2 : ((decide ((rd t365 x7_1) > 0)) == (decide ((rd t360 x7_1) ≥ t363))) = true := by simpa using c22))
           clear c22
           by_cases c24 : (rd t365 x7_1) < 0
           ·rw [if_pos c24] at H
            have c24b0 : decide ((rd t365 x7_1) < 0) = true := decide_eq_true c24
            clear c24
            have H' := Aside0.mk H
            clear H
            have p372 : 0 ≤ (x7_1 : Int) := of_decide_eq_true (by first | (with_reducible assumption) | assumption)
            have q372 : x7_1 < (t365.length : Int) := of_decide_eq_true (by first | (with_reducible assumption) | assumption)
            obtain ⟨ad372, e372, hx372_0⟩ := Kd.at_int (Kd.R_reads' HO_5.out).2.2 x7_1 p372 q372
            cases e372
            replace p372 := eq_true p372
            replace q372 := eq_true q372
            have hcz25_0 : wr.cell? ⟨gb364, 0, none⟩ = some (.int .i64 t358) := (blk_cell BK364.out 0).trans rfl
            have hcz25_1 : wr.cell? ⟨gb364, 1, none⟩ = some (.int .i64 t359) := (blk_cell BK364.out 1).trans rfl
            have hcz25_2 : wr.cell? ⟨gb364, 2, none⟩ = some (.slice Ao12 t360.length co12) := (blk_cell BK364.out 2).trans rfl
            have hfz25_0 := blk_frozen BK364.out 0
            have hfz25_1 := blk_frozen BK364.out 1
            have hfz25_2 := blk_frozen BK364.out 2
            have p373 : 0 ≤ (x7_1 : Int) := of_decide_eq_true (by first | (with_reducible assumption) | assumption)
            have q373 : x7_1 < (t360.length : Int) := of_decide_eq_true (by first | (with_reducible assumption) | assumption)
            obtain ⟨ad373, e373, hx373_0⟩ := Kd.at_int (Kd.Q_reads' HO_365002.out).2.2 x7_1 p373 q373
            cases e373
            replace p373 := eq_true p373
            replace q373 := eq_true q373
            have p374 : 0 ≤ (x7_1 : Int) := of_decide_eq_true (by first | (with_reducible assumption) | assumption)
            have q374 : x7_1 < (t365.length : Int) := of_decide_eq_true (by first | (with_reducible assumption) | assumption)
            obtain ⟨ad374, e374, hx374_0⟩ := Kd.at_int (Kd.R_reads' HO_5.out).2.2 x7_1 p374 q374
            obtain rfl : ad372 = ad374 := (by injection e374)
            replace p374 := eq_true p374
            replace q374 := eq_true q374
            go_wp2
            repeat (go_quiet (fail); try go_wp2)
            go_meet
            case rel => exact ⟨_, (true), (by first | rfl | (simp; done) | (simp [*]; done)), H', ⟨by have := HK1.out; first | omega | exact Nat.le_refl _⟩, ⟨by (with_reducible repeat (first | apply Kd.R_alloc | apply Kd.R_drewN | apply Kd.R_drew)); exact HO_5.out⟩, ⟨by (with_reducible repeat (first | apply Kd.Q_alloc | apply Kd.Q_drewN | apply Kd.Q_drew)); exact HO_365002.out⟩, ⟨by (with_reducible repeat (first | refine blk_drewN ?_ _ | refine blk_drew ?_ | refine blk_alloc ?_ _)); exact BK364.out⟩, ⟨by repeat (first | (with_reducible first | exact HB.out | apply below_alloc | apply pw_below_drewN | apply below_drew1 | refine below_set ?_ GE364.out) | exact HB.out)⟩⟩
           ·rw [if_neg c24] at H
            have c24b0 : decide ((rd t365 x7_1) < 0) = false := decide_eq_false c24
            clear c24
            have H' := Aside0.mk H
            clear H
            have p372 : 0 ≤ (x7_1 : Int) := of_decide_eq_true (by first | (with_reducible assumption) | assumption)
            have q372 : x7_1 < (t365.length : Int) := of_decide_eq_true (by first | (with_reducible assumption) | assumption)
            obtain ⟨ad372, e372, hx372_0⟩ := Kd.at_int (Kd.R_reads' HO_5.out).2.2 x7_1 p372 q372
            cases e372
            replace p372 := eq_true p372
            replace q372 := eq_true q372
            have hcz26_0 : wr.cell? ⟨gb364, 0, none⟩ = some (.int .i64 t358) := (blk_cell BK364.out 0).trans rfl
            have hcz26_1 : wr.cell? ⟨gb364, 1, none⟩ = some (.int .i64 t359) := (blk_cell BK364.out 1).trans rfl
            have hcz26_2 : wr.cell? ⟨gb364, 2, none⟩ = some (.slice Ao12 t360.length co12) := (blk_cell BK364.out 2).trans rfl
            have hfz26_0 := blk_frozen BK364.out 0
            have hfz26_1 := blk_frozen BK364.out 1
            have hfz26_2 := blk_frozen BK364.out 2
            have p373 : 0 ≤ (x7_1 : Int) := of_decide_eq_true (by first | (with_reducible assumption) | assumption)
            have q373 : x7_1 < (t360.length : Int) := of_decide_eq_true (by first | (with_reducible assumption) | assumption)
            obtain ⟨ad373, e373, hx373_0⟩ := Kd.at_int (Kd.Q_reads' HO_365002.out).2.2 x7_1 p373 q373
            cases e373
            replace p373 := eq_true p373
            replace q373 := eq_true q373
            have p374 : 0 ≤ (x7_1 : Int) := of_decide_eq_true (by first | (with_reducible assumption) | assumption)
            have q374 : x7_1 < (t365.length : Int) := of_decide_eq_true (by first | (with_reducible assumption) | assumption)
            obtain ⟨ad374, e374, hx374_0⟩ := Kd.at_int (Kd.R_reads' HO_5.out).2.2 x7_1 p374 q374
            obtain rfl : ad372 = ad374 := (by injection e374)
            replace p374 := eq_true p374
            replace q374 := eq_true q374
            have p375 : 0 ≤ (x7_1 : Int) := of_decide_eq_true (by first | (with_reducible assumption) | assumption)
            have q375 : x7_1 < (t365.length : Int) := of_decide_eq_true (by first | (with_reducible assumption) | assumption)
            obtain ⟨ad375, e375, hx375_0⟩ := Kd.at_int (Kd.R_reads' HO_5.out).2.2 x7_1 p375 q375
            obtain rfl : ad372 = ad375 := (by injection e375)
            replace p375 := eq_true p375
            replace q375 := eq_true q375
            go_wp2
            repeat (go_quiet (fail); try go_wp2)
            go_meet
            case rel => exact ⟨_, (decide ((rd t365 x7_1) > (wrap64 (x6_1 + 1)))), (by first | rfl | (simp; done) | (simp [*]; done)), H', ⟨by have := HK1.out; first | omega | exact Nat.le_refl _⟩, ⟨by (with_reducible repeat (first | apply Kd.R_alloc | apply Kd.R_drewN | apply Kd.R_drew)); exact HO_5.out⟩, ⟨by (with_reducible repeat (first | apply Kd.Q_alloc | apply Kd.Q_drewN | apply Kd.Q_drew)); exact HO_365002.out⟩, ⟨by (with_reducible repeat (first | refine blk_drewN ?_ _ | refine blk_drew ?_ | refine blk_alloc ?_ _)); exact BK364.out⟩, ⟨by repeat (first | (with_reducible first | exact HB.out | apply below_alloc | apply pw_below_drewN | apply below_drew1 | refine below_set ?_ GE364.out) | exact HB.out)⟩⟩
         ·rw [if_neg c21] at H
          exact absurd H (by simp)
        ·rw [if_neg c20] at H
         exact absurd H (by simp)
       case rest =>
        clear HC19
        try clear c1
        try clear c2
        try clear p2
        try clear c3
        try clear p3
        try clear q3
        try clear hx3
        try clear c4
        try clear p6
        try clear c7
        try clear c8
        try clear c8b0
        try clear c8b1
        try clear c18
        try clear c18b0
        try clear c20
        try clear c20b0
        try clear c21
        try clear c21b0
        try clear c22
        try clear c22b0
        try clear c22b1
        try clear c22b2
        try clear c24
        try clear c24b0
        try clear hcz11_0
        try clear hcz11_1
        try clear hcz11_2
        try clear hcz14_0
        try clear hcz14_1
        try clear hcz14_2
        try clear hcz17_0
        try clear hcz17_1
        try clear hcz17_2
        try clear hcz23_0
        try clear hcz23_1
        try clear hcz23_2
        try clear hcz25_0
        try clear hcz25_1
        try clear hcz25_2
        try clear hcz26_0
        try clear hcz26_1
        try clear hcz26_2
        try clear hfz11_0
        try clear hfz11_1
        try clear hfz11_2
        try clear hfz14_0
        try clear hfz14_1
        try clear hfz14_2
        try clear hfz17_0
        try clear hfz17_1
        try clear hfz17_2
        try clear hfz23_0
        try clear hfz23_1
        try clear hfz23_2
        try clear hfz25_0
        try clear hfz25_1
        try clear hfz25_2
        try clear hfz26_0
        try clear hfz26_1
        try clear hfz26_2
        try clear hx372_0
        try clear hx373_0
        try clear hx374_0
        try clear hx375_0
        try clear p2
        try clear p372
        try clear p373
        try clear p374
        try clear p375
        try clear p6
        try clear q372
        try clear q373
        try clear q374
        try clear q375
        obtain ⟨kq, x69_18, rfl, HA, HJ18, HO_5, HO_365002, BK364, HB⟩ := hcut
        cases kq with
        | zero => exact absurd HA.out (by simp [laws_FnStormCells.j1])
        | succ kj18 =>
         have H := HA.out
         clear HA
         simp only [laws_FnStormCells.j1] at H
         by_cases c27 : x69_18 = true
         ·subst c27
          have H1 : (some false) = some r := by rw [if_pos rfl] at H; exact H
          clear H
          have H := H1
          clear H1
          obtain rfl := Option.some.inj H
          go_wp2
          repeat (go_quiet (fail); try go_wp2)
          go_ret
          exact ⟨by first | rfl | (simp [errW_none, errW_some] <;> rfl) | (simp [*, errW_none, errW_some] <;> rfl), by repeat (first | (with_reducible first | exact HB.out | apply below_alloc | apply pw_below_drewN | apply below_drew1 | refine below_set ?_ GE364.out) | exact HB.out)⟩
         ·replace c27 := Bool.eq_false_iff.mpr c27
          subst c27
          have H1 : (if 0 ≤ x7_1 then (if x7_1 < (t365.length : Int) then (if t359 = 0 then (none) else (if (Int.tmod x7_1 t359) > 0 then (if (rd t365 x7_1) > 0 then (if 0 ≤ (wrap64 (x7_1 - 1)) then (if (wrap64 (x7_1 - 1)) < (t365.length : Int) then (if (rd t365 (wrap64 (x7_1 - 1))) > 0 then (laws_FnStormCells.j2 kj18 t363 t365 (mx x6_1 (rd t365 x7_1)) x7_1 ((rd t365 x7_1) != (rd t365 (wrap64 (x7_1 - 1)))) t358 t359 t360) else (laws_FnStormCells.j2 kj18 t363 t365 (mx x6_1 (rd t365 x7_1)) x7_1 false t358 t359 t360)) else (none)) else (none)) else (laws_FnStormCells.j2 kj18 t363 t365 (mx x6_1 (rd t365 x7_1)) x7_1 false t358 t359 t360)) else (laws_FnStormCells.j2 kj18 t363 t365 (mx x6_1 (rd t365 x7_1)) x7_1 false t358 t359 t360))) else (none)) else (none)) = some r := by rw [if_neg (show ¬ (false = true) by decide)] at H; exact H
          clear H
          have H := H1
          clear H1
          by_cases c28 : 0 ≤ x7_1
          ·rw [if_pos c28] at H
           have c28b0 : decide (0 ≤ x7_1) = true := decide_eq_true c28
           clear c28
           by_cases c29 : x7_1 < (t365.length : Int)
           ·rw [if_pos c29] at H
            have c29b0 : decide (x7_1 < (t365.length : Int)) = true := decide_eq_true c29
            clear c29
            obtain ⟨ji30, hji30⟩ : ∃ j_ : Int, (mx x6_1 (rd t365 x7_1)) = j_ := ⟨_, rfl⟩
            replace H : (if t359 = 0 then (none) else (if (Int.tmod x7_1 t359) > 0 then (if (rd t365 x7_1) > 0 then (if 0 ≤ (wrap64 (x7_1 - 1)) then (if (wrap64 (x7_1 - 1)) < (t365.length : Int) then (if (rd t365 (wrap64 (x7_1 - 1))) > 0 then (laws_FnStormCells.j2 kj18 t363 t365 ji30 x7_1 ((rd t365 x7_1) != (rd t365 (wrap64 (x7_1 - 1)))) t358 t359 t360) else (laws_FnStormCells.j2 kj18 t363 t365 ji30 x7_1 false t358 t359 t360)) else (none)) else (none)) else (laws_FnStormCells.j2 kj18 t363 t365 ji30 x7_1 false t358 t359 t360)) else (laws_FnStormCells.j2 kj18 t363 t365 ji30 x7_1 false t358 t359 t360))) = some r := by first | (rw [hji30] at H; exact H) | (simp only [hji30] at H ⊢; exact H)
            have hji30_ : (if x6_1 < (rd t365 x7_1) then (rd t365 x7_1) else x6_1) = ji30 := hji30
            have HC31 := Aside0.mk H
            clear H
            have p376 : 0 ≤ (x7_1 : Int) := of_decide_eq_true (by first | (with_reducible assumption) | assumption)
            have q376 : x7_1 < (t365.length : Int) := of_decide_eq_true (by first | (with_reducible assumption) | assumption)
            obtain ⟨ad376, e376, hx376_0⟩ := Kd.at_int (Kd.R_reads' HO_5.out).2.2 x7_1 p376 q376
            cases e376
            replace p376 := eq_true p376
            replace q376 := eq_true q376
            go_upto_region 16 with (fail)
            repeat (go_quiet (fail); go_upto_region 16 with (fail))
            go_cut [107] (fun v107 wc => ∃ (kq : Nat) (x107_30 : Bool), v107 = .bool x107_30 ∧ Aside0 (laws_FnStormCells.j2 kq t363 t365 ji30 x7_1 x107_30 t358 t359 t360 = some r) ∧ Aside0 (kq ≤ kj18) ∧ Aside0 (Kd.R (Kd.int .i64) 2 wc w.heap.size (fun k_ => some k_ ≠ ((.slice Ao12 t360.length co12) : Value).ownBlock) (.slice (some ad376) t365.length co16) t365) ∧ Aside0 (Kd.Q (Kd.int .i64) 2 wc w.heap.size (fun k_ => some k_ ≠ ((.slice (some ad376) t365.length co16) : Value).ownBlock) (.slice Ao12 t360.length co12) t360) ∧ Aside0 (wc.heap[gb364]? = some (.cells #[.int .i64 t358, .int .i64 t359, (.slice Ao12 t360.length co12)] 27 (0, 0))) ∧ Aside0 (Below w.heap.size w wc))
            case first =>
             have H := HC31.out
             clear HC31
             by_cases c32 : t359 = 0
             ·rw [if_pos c32] at H
              exact absurd H (by simp)
             ·rw [if_neg c32] at H
              have c32b0 : (t359 == 0) = false := beq_eq_false_iff_ne.mpr c32
              have c32b1 : (t359 != 0) = true := bne_iff_ne.mpr c32
              (first | rw [c32b0] | (simp only [i64_w, i32_w]; rw [c32b0]) | skip)
              by_cases c33 : (Int.tmod x7_1 t359) > 0
              ·rw [if_pos c33] at H
               have c33b0 : decide (0 < (Int.tmod x7_1 t359)) = true := decide_eq_true c33
               clear c33
               by_cases c34 : (rd t365 x7_1) > 0
               ·rw [if_pos c34] at H
                have c34b0 : decide (0 < (rd t365 x7_1)) = true := decide_eq_true c34
                clear c34
                obtain ⟨ji35, hji35⟩ : ∃ j_ : Int, (wrap64 (x7_1 - 1)) = j_ := ⟨_, rfl⟩
                replace H : (if 0 ≤ (ji35) then (if (ji35) < (t365.length : Int) then (if (rd t365 (ji35)) > 0 then (laws_FnStormCells.j2 kj18 t363 t365 ji30 x7_1 ((rd t365 x7_1) != (rd t365 (ji35))) t358 t359 t360) else (laws_FnStormCells.j2 kj18 t363 t365 ji30 x7_1 false t358 t359 t360)) else (none)) else (none)) = some r := by first | (rw [hji35] at H; exact H) | (simp only [hji35] at H ⊢; exact H)
                have hji35w : (IntKind.i64.wrap (x7_1 - 1)) = ji35 := (i64_w _).trans hji35
                by_cases c36 : 0 ≤ (ji35)
                ·rw [if_pos c36] at H
                 have c36b0 : decide (0 ≤ (ji35)) = true := decide_eq_true c36
                 clear c36
                 by_cases c37 : (ji35) < (t365.length : Int)
                 ·rw [if_pos c37] at H
                  have c37b0 : decide ((ji35) < (t365.length : Int)) = true := decide_eq_true c37
                  clear c37
                  by_cases c38 : (rd t365 (ji35)) > 0
                  ·rw [if_pos c38] at H
                   have c38b0 : decide (0 < (rd t365 (ji35))) = true := decide_eq_true c38
                   clear c38
                   have H' := Aside0.mk H
                   clear H
                   have hcz39_0 : wc.cell? ⟨gb364, 0, none⟩ = some (.int .i64 t358) := (blk_cell BK364.out 0).trans rfl
                   have hcz39_1 : wc.cell? ⟨gb364, 1, none⟩ = some (.int .i64 t359) := (blk_cell BK364.out 1).trans rfl
                   have hcz39_2 : wc.cell? ⟨gb364, 2, none⟩ = some (.slice Ao12 t360.length co12) := (blk_cell BK364.out 2).trans rfl
                   have hfz39_0 := blk_frozen BK364.out 0
                   have hfz39_1 := blk_frozen BK364.out 1
                   have hfz39_2 := blk_frozen BK364.out 2
                   have p377 : 0 ≤ (x7_1 : Int) := of_decide_eq_true (by first | (with_reducible assumption) | assumption)
                   have q377 : x7_1 < (t365.length : Int) := of_decide_eq_true (by first | (with_reducible assumption) | assumption)
                   obtain ⟨ad377, e377, hx377_0⟩ := Kd.at_int (Kd.R_reads' HO_5.out).2.2 x7_1 p377 q377
                   obtain rfl : ad376 = ad377 := (by injection e377)
                   replace p377 := eq_true p377
                   replace q377 := eq_true q377
                   have p378 : 0 ≤ ((ji35) : Int) := of_decide_eq_true (by first | (with_reducible assumption) | assumption)
                   have q378 : (ji35) < (t365.length : Int) := of_decide_eq_true (by first | (with_reducible assumption) | assumption)
                   obtain ⟨ad378, e378, hx378_0⟩ := Kd.at_int (Kd.R_reads' HO_5.out).2.2 (ji35) p378 q378
                   obtain rfl : ad376 = ad378 := (by injection e378)
                   replace p378 := eq_true p378
                   replace q378 := eq_true q378
                   have p379 : 0 ≤ (x7_1 : Int) := of_decide_eq_true (by first | (with_reducible assumption) | assumption)
                   have q379 : x7_1 < (t365.length : Int) := of_decide_eq_true (by first | (with_reducible assumption) | assumption)
                   obtain ⟨ad379, e379, hx379_0⟩ := Kd.at_int (Kd.R_reads' HO_5.out).2.2 x7_1 p379 q379
                   obtain rfl : ad376 = ad379 := (by injection e379)
                   replace p379 := eq_true p379
                   replace q379 := eq_true q379
                   have p380 : 0 ≤ ((ji35) : Int) := of_decide_eq_true (by first | (with_reducible assumption) | assumption)
                   have q380 : (ji35) < (t365.length : Int) := of_decide_eq_true (by first | (with_reducible assumption) | assumption)
                   obtain ⟨ad380, e380, hx380_0⟩ := Kd.at_int (Kd.R_reads' HO_5.out).2.2 (ji35) p380 q380
                   obtain rfl : ad376 = ad380 := (by injection e380)
                   replace p380 := eq_true p380
                   replace q380 := eq_true q380
                   go_wp2
                   repeat (go_quiet (fail); try go_wp2)
                   go_meet
                   case rel => exact ⟨_, (((rd t365 x7_1) != (rd t365 (ji35)))), (by first | rfl | (simp; done) | (simp only [← hji35] <;> (first | rfl | simp)) | (simp [*]; done)), H', ⟨by have := HK1.out; have := HJ18.out; first | omega | exact Nat.le_refl _⟩, ⟨by (with_reducible repeat (first | apply Kd.R_alloc | apply Kd.R_drewN | apply Kd.R_drew)); exact HO_5.out⟩, ⟨by (with_reducible repeat (first | apply Kd.Q_alloc | apply Kd.Q_drewN | apply Kd.Q_drew)); exact HO_365002.out⟩, ⟨by (with_reducible repeat (first | refine blk_drewN ?_ _ | refine blk_drew ?_ | refine blk_alloc ?_ _)); exact BK364.out⟩, ⟨by repeat (first | (with_reducible first | exact HB.out | apply below_alloc | apply pw_below_drewN | apply below_drew1 | refine below_set ?_ GE364.out) | exact HB.out)⟩⟩
                  ·rw [if_neg c38] at H
                   have c38b0 : decide (0 < (rd t365 (ji35))) = false := decide_eq_false c38
                   clear c38
                   have H' := Aside0.mk H
                   clear H
                   have hcz40_0 : wc.cell? ⟨gb364, 0, none⟩ = some (.int .i64 t358) := (blk_cell BK364.out 0).trans rfl
                   have hcz40_1 : wc.cell? ⟨gb364, 1, none⟩ = some (.int .i64 t359) := (blk_cell BK364.out 1).trans rfl
                   have hcz40_2 : wc.cell? ⟨gb364, 2, none⟩ = some (.slice Ao12 t360.length co12) := (blk_cell BK364.out 2).trans rfl
                   have hfz40_0 := blk_frozen BK364.out 0
                   have hfz40_1 := blk_frozen BK364.out 1
                   have hfz40_2 := blk_frozen BK364.out 2
                   have p377 : 0 ≤ (x7_1 : Int) := of_decide_eq_true (by first | (with_reducible assumption) | assumption)
                   have q377 : x7_1 < (t365.length : Int) := of_decide_eq_true (by first | (with_reducible assumption) | assumption)
                   obtain ⟨ad377, e377, hx377_0⟩ := Kd.at_int (Kd.R_reads' HO_5.out).2.2 x7_1 p377 q377
                   obtain rfl : ad376 = ad377 := (by injection e377)
                   replace p377 := eq_true p377
                   replace q377 := eq_true q377
                   have p378 : 0 ≤ ((ji35) : Int) := of_decide_eq_true (by first | (with_reducible assumption) | assumption)
                   have q378 : (ji35) < (t365.length : Int) := of_decide_eq_true (by first | (with_reducible assumption) | assumption)
                   obtain ⟨ad378, e378, hx378_0⟩ := Kd.at_int (Kd.R_reads' HO_5.out).2.2 (ji35) p378 q378
                   obtain rfl : ad376 = ad378 := (by injection e378)
                   replace p378 := eq_true p378
                   replace q378 := eq_true q378
                   go_wp2
                   repeat (go_quiet (fail); try go_wp2)
                   go_meet
                   case rel => exact ⟨_, (false), (by first | rfl | (simp; done) | (simp [*]; done)), H', ⟨by have := HK1.out; have := HJ18.out; first | omega | exact Nat.le_refl _⟩, ⟨by (with_reducible repeat (first | apply Kd.R_alloc | apply Kd.R_drewN | apply Kd.R_drew)); exact HO_5.out⟩, ⟨by (with_reducible repeat (first | apply Kd.Q_alloc | apply Kd.Q_drewN | apply Kd.Q_drew)); exact HO_365002.out⟩, ⟨by (with_reducible repeat (first | refine blk_drewN ?_ _ | refine blk_drew ?_ | refine blk_alloc ?_ _)); exact BK364.out⟩, ⟨by repeat (first | (with_reducible first | exact HB.out | apply below_alloc | apply pw_below_drewN | apply below_drew1 | refine below_set ?_ GE364.out) | exact HB.out)⟩⟩
                 ·rw [if_neg c37] at H
                  exact absurd H (by simp)
                ·rw [if_neg c36] at H
                 exact absurd H (by simp)
               ·rw [if_neg c34] at H
                have c34b0 : decide (0 < (rd t365 x7_1)) = false := decide_eq_false c34
                clear c34
                have H' := Aside0.mk H
                clear H
                have hcz41_0 : wc.cell? ⟨gb364, 0, none⟩ = some (.int .i64 t358) := (blk_cell BK364.out 0).trans rfl
                have hcz41_1 : wc.cell? ⟨gb364, 1, none⟩ = some (.int .i64 t359) := (blk_cell BK364.out 1).trans rfl
                have hcz41_2 : wc.cell? ⟨gb364, 2, none⟩ = some (.slice Ao12 t360.length co12) := (blk_cell BK364.out 2).trans rfl
                have hfz41_0 := blk_frozen BK364.out 0
                have hfz41_1 := blk_frozen BK364.out 1
                have hfz41_2 := blk_frozen BK364.out 2
                have p377 : 0 ≤ (x7_1 : Int) := of_decide_eq_true (by first | (with_reducible assumption) | assumption)
                have q377 : x7_1 < (t365.length : Int) := of_decide_eq_true (by first | (with_reducible assumption) | assumption)
                obtain ⟨ad377, e377, hx377_0⟩ := Kd.at_int (Kd.R_reads' HO_5.out).2.2 x7_1 p377 q377
                obtain rfl : ad376 = ad377 := (by injection e377)
                replace p377 := eq_true p377
                replace q377 := eq_true q377
                go_wp2
                repeat (go_quiet (fail); try go_wp2)
                go_meet
                case rel => exact ⟨_, (false), (by first | rfl | (simp; done) | (simp [*]; done)), H', ⟨by have := HK1.out; have := HJ18.out; first | omega | exact Nat.le_refl _⟩, ⟨by (with_reducible repeat (first | apply Kd.R_alloc | apply Kd.R_drewN | apply Kd.R_drew)); exact HO_5.out⟩, ⟨by (with_reducible repeat (first | apply Kd.Q_alloc | apply Kd.Q_drewN | apply Kd.Q_drew)); exact HO_365002.out⟩, ⟨by (with_reducible repeat (first | refine blk_drewN ?_ _ | refine blk_drew ?_ | refine blk_alloc ?_ _)); exact BK364.out⟩, ⟨by repeat (first | (with_reducible first | exact HB.out | apply below_alloc | apply pw_below_drewN | apply below_drew1 | refine below_set ?_ GE364.out) | exact HB.out)⟩⟩
              ·rw [if_neg c33] at H
               have c33b0 : decide (0 < (Int.tmod x7_1 t359)) = false := decide_eq_false c33
               clear c33
               have H' := Aside0.mk H
               clear H
               have hcz42_0 : wc.cell? ⟨gb364, 0, none⟩ = some (.int .i64 t358) := (blk_cell BK364.out 0).trans rfl
               have hcz42_1 : wc.cell? ⟨gb364, 1, none⟩ = some (.int .i64 t359) := (blk_cell BK364.out 1).trans rfl
               have hcz42_2 : wc.cell? ⟨gb364, 2, none⟩ = some (.slice Ao12 t360.length co12) := (blk_cell BK364.out 2).trans rfl
               have hfz42_0 := blk_frozen BK364.out 0
               have hfz42_1 := blk_frozen BK364.out 1
               have hfz42_2 := blk_frozen BK364.out 2
               go_wp2
               repeat (go_quiet (fail); try go_wp2)
               go_meet
               case rel => exact ⟨_, (false), (by first | rfl | (simp; done) | (simp [*]; done)), H', ⟨by have := HK1.out; have := HJ18.out; first | omega | exact Nat.le_refl _⟩, ⟨by (with_reducible repeat (first | apply Kd.R_alloc | apply Kd.R_drewN | apply Kd.R_drew)); exact HO_5.out⟩, ⟨by (with_reducible repeat (first | apply Kd.Q_alloc | apply Kd.Q_drewN | apply Kd.Q_drew)); exact HO_365002.out⟩, ⟨by (with_reducible repeat (first | refine blk_drewN ?_ _ | refine blk_drew ?_ | refine blk_alloc ?_ _)); exact BK364.out⟩, ⟨by repeat (first | (with_reducible first | exact HB.out | apply below_alloc | apply pw_below_drewN | apply below_drew1 | refine below_set ?_ GE364.out) | exact HB.out)⟩⟩
            case rest =>
             clear HC31
             try clear c1
             try clear c2
             try clear p2
             try clear c3
             try clear p3
             try clear q3
             try clear hx3
             try clear c4
             try clear p6
             try clear c7
             try clear c8
             try clear c8b0
             try clear c8b1
             try clear c18
             try clear c18b0
             try clear c20
             try clear c20b0
             try clear c21
             try clear c21b0
             try clear c22
             try clear c22b0
             try clear c22b1
             try clear c22b2
             try clear c24
             try clear c24b0
             try clear c27
             try clear c28
             try clear c28b0
             try clear c29
             try clear c29b0
             try clear c32
             try clear c32b0
             try clear c32b1
             try clear c33
             try clear c33b0
             try clear c34
             try clear c34b0
             try clear c36
             try clear c36b0
             try clear c37
             try clear c37b0
             try clear p37
             try clear q37
             try clear hx37
             try clear c38
             try clear c38b0
             try clear p38
             try clear q38
             try clear hx38
             try clear hcz11_0
             try clear hcz11_1
             try clear hcz11_2
             try clear hcz14_0
             try clear hcz14_1
             try clear hcz14_2
             try clear hcz17_0
             try clear hcz17_1
             try clear hcz17_2
             try clear hcz23_0
             try clear hcz23_1
             try clear hcz23_2
             try clear hcz25_0
             try clear hcz25_1
             try clear hcz25_2
             try clear hcz26_0
             try clear hcz26_1
             try clear hcz26_2
             try clear hcz39_0
             try clear hcz39_1
             try clear hcz39_2
             try clear hcz40_0
             try clear hcz40_1
             try clear hcz40_2
             try clear hcz41_0
             try clear hcz41_1
             try clear hcz41_2
             try clear hcz42_0
             try clear hcz42_1
             try clear hcz42_2
             try clear hfz11_0
             try clear hfz11_1
             try clear hfz11_2
             try clear hfz14_0
             try clear hfz14_1
             try clear hfz14_2
             try clear hfz17_0
             try clear hfz17_1
             try clear hfz17_2
             try clear hfz23_0
             try clear hfz23_1
             try clear hfz23_2
             try clear hfz25_0
             try clear hfz25_1
             try clear hfz25_2
             try clear hfz26_0
             try clear hfz26_1
             try clear hfz26_2
             try clear hfz39_0
             try clear hfz39_1
             try clear hfz39_2
             try clear hfz40_0
             try clear hfz40_1
             try clear hfz40_2
             try clear hfz41_0
             try clear hfz41_1
             try clear hfz41_2
             try clear hfz42_0
             try clear hfz42_1
             try clear hfz42_2
             try clear hx372_0
             try clear hx373_0
             try clear hx374_0
             try clear hx375_0
             try clear hx376_0
             try clear hx377_0
             try clear hx378_0
             try clear hx379_0
             try clear hx380_0
             try clear p2
             try clear p3
             try clear p372
             try clear p373
             try clear p374
             try clear p375
             try clear p376
             try clear p377
             try clear p378
             try clear p379
             try clear p380
             try clear p6
             try clear q3
             try clear q372
             try clear q373
             try clear q374
             try clear q375
             try clear q376
             try clear q377
             try clear q378
             try clear q379
             try clear q380
             obtain ⟨kq, x107_30, rfl, HA, HJ30, HO_5, HO_365002, BK364, HB⟩ := hcut
             cases kq with
             | zero => exact absurd HA.out (by simp [laws_FnStormCells.j2])
             | succ kj30 =>
              have H := HA.out
              clear HA
              simp only [laws_FnStormCells.j2] at H
              by_cases c43 : x107_30 = true
              ·subst c43
               have H1 : (some false) = some r := by rw [if_pos rfl] at H; exact H
               clear H
               have H := H1
               clear H1
               obtain rfl := Option.some.inj H
               go_wp2
               repeat (go_quiet (fail); try go_wp2)
               go_ret
               exact ⟨by first | rfl | (simp [errW_none, errW_some] <;> rfl) | (simp only [← hji30]; first | rfl | (simp [errW_none, errW_some] <;> rfl)) | (simp [*, errW_none, errW_some] <;> rfl), by repeat (first | (with_reducible first | exact HB.out | apply below_alloc | apply pw_below_drewN | apply below_drew1 | refine below_set ?_ GE364.out) | exact HB.out)⟩
              ·replace c43 := Bool.eq_false_iff.mpr c43
               subst c43
               have H1 : (if x7_1 ≥ t359 then (if 0 ≤ x7_1 then (if x7_1 < (t365.length : Int) then (if (rd t365 x7_1) > 0 then (if 0 ≤ (wrap64 (x7_1 - t359)) then (if (wrap64 (x7_1 - t359)) < (t365.length : Int) then (if (rd t365 (wrap64 (x7_1 - t359))) > 0 then (if (rd t365 x7_1) = (rd t365 (wrap64 (x7_1 - t359))) then (laws_FnStormCells.l0 kj30 t363 t365 ji30 (wrap64 (x7_1 + 1)) t358 t359 t360) else (some false)) else (laws_FnStormCells.l0 kj30 t363 t365 ji30 (wrap64 (x7_1 + 1)) t358 t359 t360)) else (none)) else (none)) else (laws_FnStormCells.l0 kj30 t363 t365 ji30 (wrap64 (x7_1 + 1)) t358 t359 t360)) else (none)) else (none)) else (laws_FnStormCells.l0 kj30 t363 t365 ji30 (wrap64 (x7_1 + 1)) t358 t359 t360)) = some r := by rw [if_neg (show ¬ (false = true) by decide)] at H; exact H
               clear H
               have H := H1
               clear H1
               by_cases c44 : x7_1 ≥ t359
               ·rw [if_pos c44] at H
                have c44b0 : decide (t359 ≤ x7_1) = true := decide_eq_true c44
                clear c44
                by_cases c45 : 0 ≤ x7_1
                ·rw [if_pos c45] at H
                 have c45b0 : decide (0 ≤ x7_1) = true := decide_eq_true c45
                 clear c45
                 by_cases c46 : x7_1 < (t365.length : Int)
                 ·rw [if_pos c46] at H
                  have c46b0 : decide (x7_1 < (t365.length : Int)) = true := decide_eq_true c46
                  clear c46
                  by_cases c47 : (rd t365 x7_1) > 0
                  ·rw [if_pos c47] at H
                   have c47b0 : decide (0 < (rd t365 x7_1)) = true := decide_eq_true c47
                   clear c47
                   obtain ⟨ji48, hji48⟩ : ∃ j_ : Int, (wrap64 (x7_1 - t359)) = j_ := ⟨_, rfl⟩
                   replace H : (if 0 ≤ (ji48) then (if (ji48) < (t365.length : Int) then (if (rd t365 (ji48)) > 0 then (if (rd t365 x7_1) = (rd t365 (ji48)) then (laws_FnStormCells.l0 kj30 t363 t365 ji30 (wrap64 (x7_1 + 1)) t358 t359 t360) else (some false)) else (laws_FnStormCells.l0 kj30 t363 t365 ji30 (wrap64 (x7_1 + 1)) t358 t359 t360)) else (none)) else (none)) = some r := by first | (rw [hji48] at H; exact H) | (simp only [hji48] at H ⊢; exact H)
                   have hji48w : (IntKind.i64.wrap (x7_1 - t359)) = ji48 := (i64_w _).trans hji48
                   by_cases c49 : 0 ≤ (ji48)
                   ·rw [if_pos c49] at H
                    have c49b0 : decide (0 ≤ (ji48)) = true := decide_eq_true c49
                    clear c49
                    by_cases c50 : (ji48) < (t365.length : Int)
                    ·rw [if_pos c50] at H
                     have c50b0 : decide ((ji48) < (t365.length : Int)) = true := decide_eq_true c50
                     clear c50
                     by_cases c51 : (rd t365 (ji48)) > 0
                     ·rw [if_pos c51] at H
                      have c51b0 : decide (0 < (rd t365 (ji48))) = true := decide_eq_true c51
                      clear c51
                      by_cases c52 : (rd t365 x7_1) = (rd t365 (ji48))
                      ·rw [if_pos c52] at H
                       have c52b0 : ((rd t365 x7_1) == (rd t365 (ji48))) = true := beq_iff_eq.mpr c52
                       have c52b1 : ((rd t365 x7_1) != (rd t365 (ji48))) = false := bne_eq_false_iff_eq.mpr c52
                       clear c52
                       have H' := Aside0.mk H
                       clear H
                       have hcz53_0 : wc.cell? ⟨gb364, 0, none⟩ = some (.int .i64 t358) := (blk_cell BK364.out 0).trans rfl
                       have hcz53_1 : wc.cell? ⟨gb364, 1, none⟩ = some (.int .i64 t359) := (blk_cell BK364.out 1).trans rfl
                       have hcz53_2 : wc.cell? ⟨gb364, 2, none⟩ = some (.slice Ao12 t360.length co12) := (blk_cell BK364.out 2).trans rfl
                       have hfz53_0 := blk_frozen BK364.out 0
                       have hfz53_1 := blk_frozen BK364.out 1
                       have hfz53_2 := blk_frozen BK364.out 2
                       have p381 : 0 ≤ (x7_1 : Int) := of_decide_eq_true (by first | (with_reducible assumption) | assumption)
                       have q381 : x7_1 < (t365.length : Int) := of_decide_eq_true (by first | (with_reducible assumption) | assumption)
                       obtain ⟨ad381, e381, hx381_0⟩ := Kd.at_int (Kd.R_reads' HO_5.out).2.2 x7_1 p381 q381
                       obtain rfl : ad376 = ad381 := (by injection e381)
                       replace p381 := eq_true p381
                       replace q381 := eq_true q381
                       have p382 : 0 ≤ ((ji48) : Int) := of_decide_eq_true (by first | (with_reducible assumption) | assumption)
                       have q382 : (ji48) < (t365.length : Int) := of_decide_eq_true (by first | (with_reducible assumption) | assumption)
                       obtain ⟨ad382, e382, hx382_0⟩ := Kd.at_int (Kd.R_reads' HO_5.out).2.2 (ji48) p382 q382
                       obtain rfl : ad376 = ad382 := (by injection e382)
                       replace p382 := eq_true p382
                       replace q382 := eq_true q382
                       have p383 : 0 ≤ (x7_1 : Int) := of_decide_eq_true (by first | (with_reducible assumption) | assumption)
                       have q383 : x7_1 < (t365.length : Int) := of_decide_eq_true (by first | (with_reducible assumption) | assumption)
                       obtain ⟨ad383, e383, hx383_0⟩ := Kd.at_int (Kd.R_reads' HO_5.out).2.2 x7_1 p383 q383
                       obtain rfl : ad376 = ad383 := (by injection e383)
                       replace p383 := eq_true p383
                       replace q383 := eq_true q383
                       have p384 : 0 ≤ ((ji48) : Int) := of_decide_eq_true (by first | (with_reducible assumption) | assumption)
                       have q384 : (ji48) < (t365.length : Int) := of_decide_eq_true (by first | (with_reducible assumption) | assumption)
                       obtain ⟨ad384, e384, hx384_0⟩ := Kd.at_int (Kd.R_reads' HO_5.out).2.2 (ji48) p384 q384
                       obtain rfl : ad376 = ad384 := (by injection e384)
                       replace p384 := eq_true p384
                       replace q384 := eq_true q384
                       go_wp2
                       repeat (go_quiet (fail); try go_wp2)
                       go_roundg kj30
                       case measure => have := HK1.out; have := HJ18.out; have := HJ30.out; omega
                       case rel => exact ⟨(ji30), (wrap64 (x7_1 + 1)), (by first | rfl | (simp; done) | (simp only [← hji30] <;> (first | rfl | simp)) | (simp [*]; done)), (by first | rfl | (simp; done) | (simp [*]; done)), H', ⟨by have := HK1.out; have := HJ18.out; have := HJ30.out; omega⟩, ⟨by (with_reducible repeat (first | apply Kd.R_alloc | apply Kd.R_drewN | apply Kd.R_drew)); exact HO_5.out⟩, ⟨by (with_reducible repeat (first | apply Kd.Q_alloc | apply Kd.Q_drewN | apply Kd.Q_drew)); exact HO_365002.out⟩, ⟨by (with_reducible repeat (first | refine blk_drewN ?_ _ | refine blk_drew ?_ | refine blk_alloc ?_ _)); exact BK364.out⟩, ⟨by repeat (first | (with_reducible first | exact HB.out | apply below_alloc | apply pw_below_drewN | apply below_drew1 | refine below_set ?_ GE364.out) | exact HB.out)⟩⟩
                      ·rw [if_neg c52] at H
                       have c52b0 : ((rd t365 x7_1) == (rd t365 (ji48))) = false := beq_eq_false_iff_ne.mpr c52
                       have c52b1 : ((rd t365 x7_1) != (rd t365 (ji48))) = true := bne_iff_ne.mpr c52
                       obtain rfl := Option.some.inj H
                       have hcz54_0 : wc.cell? ⟨gb364, 0, none⟩ = some (.int .i64 t358) := (blk_cell BK364.out 0).trans rfl
                       have hcz54_1 : wc.cell? ⟨gb364, 1, none⟩ = some (.int .i64 t359) := (blk_cell BK364.out 1).trans rfl
                       have hcz54_2 : wc.cell? ⟨gb364, 2, none⟩ = some (.slice Ao12 t360.length co12) := (blk_cell BK364.out 2).trans rfl
                       have hfz54_0 := blk_frozen BK364.out 0
                       have hfz54_1 := blk_frozen BK364.out 1
                       have hfz54_2 := blk_frozen BK364.out 2
                       have p381 : 0 ≤ (x7_1 : Int) := of_decide_eq_true (by first | (with_reducible assumption) | assumption)
                       have q381 : x7_1 < (t365.length : Int) := of_decide_eq_true (by first | (with_reducible assumption) | assumption)
                       obtain ⟨ad381, e381, hx381_0⟩ := Kd.at_int (Kd.R_reads' HO_5.out).2.2 x7_1 p381 q381
                       obtain rfl : ad376 = ad381 := (by injection e381)
                       replace p381 := eq_true p381
                       replace q381 := eq_true q381
                       have p382 : 0 ≤ ((ji48) : Int) := of_decide_eq_true (by first | (with_reducible assumption) | assumption)
                       have q382 : (ji48) < (t365.length : Int) := of_decide_eq_true (by first | (with_reducible assumption) | assumption)
                       obtain ⟨ad382, e382, hx382_0⟩ := Kd.at_int (Kd.R_reads' HO_5.out).2.2 (ji48) p382 q382
                       obtain rfl : ad376 = ad382 := (by injection e382)
                       replace p382 := eq_true p382
                       replace q382 := eq_true q382
                       have p383 : 0 ≤ (x7_1 : Int) := of_decide_eq_true (by first | (with_reducible assumption) | assumption)
                       have q383 : x7_1 < (t365.length : Int) := of_decide_eq_true (by first | (with_reducible assumption) | assumption)
                       obtain ⟨ad383, e383, hx383_0⟩ := Kd.at_int (Kd.R_reads' HO_5.out).2.2 x7_1 p383 q383
                       obtain rfl : ad376 = ad383 := (by injection e383)
                       replace p383 := eq_true p383
                       replace q383 := eq_true q383
                       have p384 : 0 ≤ ((ji48) : Int) := of_decide_eq_true (by first | (with_reducible assumption) | assumption)
                       have q384 : (ji48) < (t365.length : Int) := of_decide_eq_true (by first | (with_reducible assumption) | assumption)
                       obtain ⟨ad384, e384, hx384_0⟩ := Kd.at_int (Kd.R_reads' HO_5.out).2.2 (ji48) p384 q384
                       obtain rfl : ad376 = ad384 := (by injection e384)
                       replace p384 := eq_true p384
                       replace q384 := eq_true q384
                       go_wp2
                       repeat (go_quiet (fail); try go_wp2)
                       go_ret
                       exact ⟨by first | rfl | (simp [errW_none, errW_some] <;> rfl) | (simp only [← hji30, ← hji48]; first | rfl | (simp [errW_none, errW_some] <;> rfl)) | (simp [*, errW_none, errW_some] <;> rfl), by repeat (first | (with_reducible first | exact HB.out | apply below_alloc | apply pw_below_drewN | apply below_drew1 | refine below_set ?_ GE364.out) | exact HB.out)⟩
                     ·rw [if_neg c51] at H
                      have c51b0 : decide (0 < (rd t365 (ji48))) = false := decide_eq_false c51
                      clear c51
                      have H' := Aside0.mk H
                      clear H
                      have hcz55_0 : wc.cell? ⟨gb364, 0, none⟩ = some (.int .i64 t358) := (blk_cell BK364.out 0).trans rfl
                      have hcz55_1 : wc.cell? ⟨gb364, 1, none⟩ = some (.int .i64 t359) := (blk_cell BK364.out 1).trans rfl
                      have hcz55_2 : wc.cell? ⟨gb364, 2, none⟩ = some (.slice Ao12 t360.length co12) := (blk_cell BK364.out 2).trans rfl
                      have hfz55_0 := blk_frozen BK364.out 0
                      have hfz55_1 := blk_frozen BK364.out 1
                      have hfz55_2 := blk_frozen BK364.out 2
                      have p381 : 0 ≤ (x7_1 : Int) := of_decide_eq_true (by first | (with_reducible assumption) | assumption)
                      have q381 : x7_1 < (t365.length : Int) := of_decide_eq_true (by first | (with_reducible assumption) | assumption)
                      obtain ⟨ad381, e381, hx381_0⟩ := Kd.at_int (Kd.R_reads' HO_5.out).2.2 x7_1 p381 q381
                      obtain rfl : ad376 = ad381 := (by injection e381)
                      replace p381 := eq_true p381
                      replace q381 := eq_true q381
                      have p382 : 0 ≤ ((ji48) : Int) := of_decide_eq_true (by first | (with_reducible assumption) | assumption)
                      have q382 : (ji48) < (t365.length : Int) := of_decide_eq_true (by first | (with_reducible assumption) | assumption)
                      obtain ⟨ad382, e382, hx382_0⟩ := Kd.at_int (Kd.R_reads' HO_5.out).2.2 (ji48) p382 q382
                      obtain rfl : ad376 = ad382 := (by injection e382)
                      replace p382 := eq_true p382
                      replace q382 := eq_true q382
                      go_wp2
                      repeat (go_quiet (fail); try go_wp2)
                      go_roundg kj30
                      case measure => have := HK1.out; have := HJ18.out; have := HJ30.out; omega
                      case rel => exact ⟨(ji30), (wrap64 (x7_1 + 1)), (by first | rfl | (simp; done) | (simp only [← hji30] <;> (first | rfl | simp)) | (simp [*]; done)), (by first | rfl | (simp; done) | (simp [*]; done)), H', ⟨by have := HK1.out; have := HJ18.out; have := HJ30.out; omega⟩, ⟨by (with_reducible repeat (first | apply Kd.R_alloc | apply Kd.R_drewN | apply Kd.R_drew)); exact HO_5.out⟩, ⟨by (with_reducible repeat (first | apply Kd.Q_alloc | apply Kd.Q_drewN | apply Kd.Q_drew)); exact HO_365002.out⟩, ⟨by (with_reducible repeat (first | refine blk_drewN ?_ _ | refine blk_drew ?_ | refine blk_alloc ?_ _)); exact BK364.out⟩, ⟨by repeat (first | (with_reducible first | exact HB.out | apply below_alloc | apply pw_below_drewN | apply below_drew1 | refine below_set ?_ GE364.out) | exact HB.out)⟩⟩
                    ·rw [if_neg c50] at H
                     exact absurd H (by simp)
                   ·rw [if_neg c49] at H
                    exact absurd H (by simp)
                  ·rw [if_neg c47] at H
                   have c47b0 : decide (0 < (rd t365 x7_1)) = false := decide_eq_false c47
                   clear c47
                   have H' := Aside0.mk H
                   clear H
                   have hcz56_0 : wc.cell? ⟨gb364, 0, none⟩ = some (.int .i64 t358) := (blk_cell BK364.out 0).trans rfl
                   have hcz56_1 : wc.cell? ⟨gb364, 1, none⟩ = some (.int .i64 t359) := (blk_cell BK364.out 1).trans rfl
                   have hcz56_2 : wc.cell? ⟨gb364, 2, none⟩ = some (.slice Ao12 t360.length co12) := (blk_cell BK364.out 2).trans rfl
                   have hfz56_0 := blk_frozen BK364.out 0
                   have hfz56_1 := blk_frozen BK364.out 1
                   have hfz56_2 := blk_frozen BK364.out 2
                   have p381 : 0 ≤ (x7_1 : Int) := of_decide_eq_true (by first | (with_reducible assumption) | assumption)
                   have q381 : x7_1 < (t365.length : Int) := of_decide_eq_true (by first | (with_reducible assumption) | assumption)
                   obtain ⟨ad381, e381, hx381_0⟩ := Kd.at_int (Kd.R_reads' HO_5.out).2.2 x7_1 p381 q381
                   obtain rfl : ad376 = ad381 := (by injection e381)
                   replace p381 := eq_true p381
                   replace q381 := eq_true q381
                   go_wp2
                   repeat (go_quiet (fail); try go_wp2)
                   go_roundg kj30
                   case measure => have := HK1.out; have := HJ18.out; have := HJ30.out; omega
                   case rel => exact ⟨(ji30), (wrap64 (x7_1 + 1)), (by first | rfl | (simp; done) | (simp only [← hji30] <;> (first | rfl | simp)) | (simp [*]; done)), (by first | rfl | (simp; done) | (simp [*]; done)), H', ⟨by have := HK1.out; have := HJ18.out; have := HJ30.out; omega⟩, ⟨by (with_reducible repeat (first | apply Kd.R_alloc | apply Kd.R_drewN | apply Kd.R_drew)); exact HO_5.out⟩, ⟨by (with_reducible repeat (first | apply Kd.Q_alloc | apply Kd.Q_drewN | apply Kd.Q_drew)); exact HO_365002.out⟩, ⟨by (with_reducible repeat (first | refine blk_drewN ?_ _ | refine blk_drew ?_ | refine blk_alloc ?_ _)); exact BK364.out⟩, ⟨by repeat (first | (with_reducible first | exact HB.out | apply below_alloc | apply pw_below_drewN | apply below_drew1 | refine below_set ?_ GE364.out) | exact HB.out)⟩⟩
                 ·rw [if_neg c46] at H
                  exact absurd H (by simp)
                ·rw [if_neg c45] at H
                 exact absurd H (by simp)
               ·rw [if_neg c44] at H
                have c44b0 : decide (t359 ≤ x7_1) = false := decide_eq_false c44
                clear c44
                have H' := Aside0.mk H
                clear H
                have hcz57_0 : wc.cell? ⟨gb364, 0, none⟩ = some (.int .i64 t358) := (blk_cell BK364.out 0).trans rfl
                have hcz57_1 : wc.cell? ⟨gb364, 1, none⟩ = some (.int .i64 t359) := (blk_cell BK364.out 1).trans rfl
                have hcz57_2 : wc.cell? ⟨gb364, 2, none⟩ = some (.slice Ao12 t360.length co12) := (blk_cell BK364.out 2).trans rfl
                have hfz57_0 := blk_frozen BK364.out 0
                have hfz57_1 := blk_frozen BK364.out 1
                have hfz57_2 := blk_frozen BK364.out 2
                go_wp2
                repeat (go_quiet (fail); try go_wp2)
                go_roundg kj30
                case measure => have := HK1.out; have := HJ18.out; have := HJ30.out; omega
                case rel => exact ⟨(ji30), (wrap64 (x7_1 + 1)), (by first | rfl | (simp; done) | (simp only [← hji30] <;> (first | rfl | simp)) | (simp [*]; done)), (by first | rfl | (simp; done) | (simp [*]; done)), H', ⟨by have := HK1.out; have := HJ18.out; have := HJ30.out; omega⟩, ⟨by (with_reducible repeat (first | apply Kd.R_alloc | apply Kd.R_drewN | apply Kd.R_drew)); exact HO_5.out⟩, ⟨by (with_reducible repeat (first | apply Kd.Q_alloc | apply Kd.Q_drewN | apply Kd.Q_drew)); exact HO_365002.out⟩, ⟨by (with_reducible repeat (first | refine blk_drewN ?_ _ | refine blk_drew ?_ | refine blk_alloc ?_ _)); exact BK364.out⟩, ⟨by repeat (first | (with_reducible first | exact HB.out | apply below_alloc | apply pw_below_drewN | apply below_drew1 | refine below_set ?_ GE364.out) | exact HB.out)⟩⟩
           ·rw [if_neg c29] at H
            exact absurd H (by simp)
          ·rw [if_neg c28] at H
           exact absurd H (by simp)
      ·rw [if_neg c18] at H
       have c18b0 : decide (x7_1 < (t365.length : Int)) = false := decide_eq_false c18
       clear c18
       replace H := Option.bind_eq_some_iff.mp H
       obtain ⟨⟨t369, t370, t371⟩, A580, H⟩ := H
       replace H : (if t371 = true then (if t369 = 0 then (some (t370 == 0)) else (some false)) else (some false)) = some r := H
       have A58 := Aside0.mk A580
       clear A580
       by_cases c59 : t371 = true
       ·subst c59
        have H1 : (if t369 = 0 then (some (t370 == 0)) else (some false)) = some r := by rw [if_pos rfl] at H; exact H
        clear H
        have H := H1
        clear H1
        by_cases c60 : t369 = 0
        ·rw [if_pos c60] at H
         have c60b0 : (t369 == 0) = true := beq_iff_eq.mpr c60
         have c60b1 : (t369 != 0) = false := bne_eq_false_iff_eq.mpr c60
         clear c60
         obtain rfl := Option.some.inj H
         have hcz61_0 : wr.cell? ⟨gb364, 0, none⟩ = some (.int .i64 t358) := (blk_cell BK364.out 0).trans rfl
         have hcz61_1 : wr.cell? ⟨gb364, 1, none⟩ = some (.int .i64 t359) := (blk_cell BK364.out 1).trans rfl
         have hcz61_2 : wr.cell? ⟨gb364, 2, none⟩ = some (.slice Ao12 t360.length co12) := (blk_cell BK364.out 2).trans rfl
         have hfz61_0 := blk_frozen BK364.out 0
         have hfz61_1 := blk_frozen BK364.out 1
         have hfz61_2 := blk_frozen BK364.out 2
         go_wp2_with (first | (go_at_call 19; (with_reducible refine (impl_Moved.calls k1 t358 t359 _ _ t360 t363 t358 t359 _ _ t360 t369 t370 true _ ?side1 ?side2 ?side3 ?side4 A58.out).mono ?_); (case side1 => repeat (first | exact (Kd.Q_reads' HO_365002.out).2.2 | (with_reducible refine Kd.C_alloc ?_ _) | (with_reducible refine Kd.C_drewN ?_ _) | (with_reducible refine Kd.C_drew ?_))); (case side2 => exact (Kd.Q_reads' HO_365002.out).2.1); (case side3 => repeat (first | exact (Kd.Q_reads' HO_365002.out).2.2 | (with_reducible refine Kd.C_alloc ?_ _) | (with_reducible refine Kd.C_drewN ?_ _) | (with_reducible refine Kd.C_drew ?_))); (case side4 => exact (Kd.Q_reads' HO_365002.out).2.1); rintro e w62 ⟨rfl, hb⟩; have n0_ := Aside0.mk (Kd.R_below (by (with_reducible repeat (first | apply Kd.R_alloc | apply Kd.R_drewN | apply Kd.R_drew)); exact HO_5.out) hb); have n1_ := Aside0.mk (Kd.Q_below (by (with_reducible repeat (first | apply Kd.Q_alloc | apply Kd.Q_drewN | apply Kd.Q_drew)); exact HO_365002.out) hb); have n2_ := Aside0.mk (blk_below (g := gb364) (o := .cells #[.int .i64 t358, .int .i64 t359, .slice Ao12 t360.length co12] 27 (0, 0)) (by (with_reducible repeat (first | refine blk_drewN ?_ _ | refine blk_drew ?_ | refine blk_alloc ?_ _)); exact BK364.out) hb); have n3_ := Aside0.mk (below_step (by repeat (first | (with_reducible first | exact HB.out | apply below_alloc | apply pw_below_drewN | apply below_drew1 | refine below_set ?_ GE364.out) | exact HB.out)) hb); clear HO_5; clear HO_365002; clear BK364; clear HB; have HO_5 := n0_; have HO_365002 := n1_; have BK364 := n2_; have HB := n3_; clear n0_ n1_ n2_ n3_; (try clear hb); (try clear hb2); (try clear hk); (try clear hi)))
         repeat (go_quiet (first | (go_at_call 19; (with_reducible refine (impl_Moved.calls k1 t358 t359 _ _ t360 t363 t358 t359 _ _ t360 t369 t370 true _ ?side1 ?side2 ?side3 ?side4 A58.out).mono ?_); (case side1 => repeat (first | exact (Kd.Q_reads' HO_365002.out).2.2 | (with_reducible refine Kd.C_alloc ?_ _) | (with_reducible refine Kd.C_drewN ?_ _) | (with_reducible refine Kd.C_drew ?_))); (case side2 => exact (Kd.Q_reads' HO_365002.out).2.1); (case side3 => repeat (first | exact (Kd.Q_reads' HO_365002.out).2.2 | (with_reducible refine Kd.C_alloc ?_ _) | (with_reducible refine Kd.C_drewN ?_ _) | (with_reducible refine Kd.C_drew ?_))); (case side4 => exact (Kd.Q_reads' HO_365002.out).2.1); rintro e w62 ⟨rfl, hb⟩; have n0_ := Aside0.mk (Kd.R_below (by (with_reducible repeat (first | apply Kd.R_alloc | apply Kd.R_drewN | apply Kd.R_drew)); exact HO_5.out) hb); have n1_ := Aside0.mk (Kd.Q_below (by (with_reducible repeat (first | apply Kd.Q_alloc | apply Kd.Q_drewN | apply Kd.Q_drew)); exact HO_365002.out) hb); have n2_ := Aside0.mk (blk_below (g := gb364) (o := .cells #[.int .i64 t358, .int .i64 t359, .slice Ao12 t360.length co12] 27 (0, 0)) (by (with_reducible repeat (first | refine blk_drewN ?_ _ | refine blk_drew ?_ | refine blk_alloc ?_ _)); exact BK364.out) hb); have n3_ := Aside0.mk (below_step (by repeat (first | (with_reducible first | exact HB.out | apply below_alloc | apply pw_below_drewN | apply below_drew1 | refine below_set ?_ GE364.out) | exact HB.out)) hb); clear HO_5; clear HO_365002; clear BK364; clear HB; have HO_5 := n0_; have HO_365002 := n1_; have BK364 := n2_; have HB := n3_; clear n0_ n1_ n2_ n3_; (try clear hb); (try clear hb2); (try clear hk); (try clear hi))); try go_wp2_with (first | (go_at_call 19; (with_reducible refine (impl_Moved.calls k1 t358 t359 _ _ t360 t363 t358 t359 _ _ t360 t369 t370 true _ ?side1 ?side2 ?side3 ?side4 A58.out).mono ?_); (case side1 => repeat (first | exact (Kd.Q_reads' HO_365002.out).2.2 | (with_reducible refine Kd.C_alloc ?_ _) | (with_reducible refine Kd.C_drewN ?_ _) | (with_reducible refine Kd.C_drew ?_))); (case side2 => exact (Kd.Q_reads' HO_365002.out).2.1); (case side3 => repeat (first | exact (Kd.Q_reads' HO_365002.out).2.2 | (with_reducible refine Kd.C_alloc ?_ _) | (with_reducible refine Kd.C_drewN ?_ _) | (with_reducible refine Kd.C_drew ?_))); (case side4 => exact (Kd.Q_reads' HO_365002.out).2.1); rintro e w62 ⟨rfl, hb⟩; have n0_ := Aside0.mk (Kd.R_below (by (with_reducible repeat (first | apply Kd.R_alloc | apply Kd.R_drewN | apply Kd.R_drew)); exact HO_5.out) hb); have n1_ := Aside0.mk (Kd.Q_below (by (with_reducible repeat (first | apply Kd.Q_alloc | apply Kd.Q_drewN | apply Kd.Q_drew)); exact HO_365002.out) hb); have n2_ := Aside0.mk (blk_below (g := gb364) (o := .cells #[.int .i64 t358, .int .i64 t359, .slice Ao12 t360.length co12] 27 (0, 0)) (by (with_reducible repeat (first | refine blk_drewN ?_ _ | refine blk_drew ?_ | refine blk_alloc ?_ _)); exact BK364.out) hb); have n3_ := Aside0.mk (below_step (by repeat (first | (with_reducible first | exact HB.out | apply below_alloc | apply pw_below_drewN | apply below_drew1 | refine below_set ?_ GE364.out) | exact HB.out)) hb); clear HO_5; clear HO_365002; clear BK364; clear HB; have HO_5 := n0_; have HO_365002 := n1_; have BK364 := n2_; have HB := n3_; clear n0_ n1_ n2_ n3_; (try clear hb); (try clear hb2); (try clear hk); (try clear hi))))
         go_ret
         exact ⟨by first | rfl | (simp [errW_none, errW_some] <;> rfl) | (simp [*, errW_none, errW_some] <;> rfl), by repeat (first | (with_reducible first | exact HB.out | apply below_alloc | apply pw_below_drewN | apply below_drew1 | refine below_set ?_ GE364.out) | exact HB.out)⟩
        ·rw [if_neg c60] at H
         have c60b0 : (t369 == 0) = false := beq_eq_false_iff_ne.mpr c60
         have c60b1 : (t369 != 0) = true := bne_iff_ne.mpr c60
         obtain rfl := Option.some.inj H
         have hcz63_0 : wr.cell? ⟨gb364, 0, none⟩ = some (.int .i64 t358) := (blk_cell BK364.out 0).trans rfl
         have hcz63_1 : wr.cell? ⟨gb364, 1, none⟩ = some (.int .i64 t359) := (blk_cell BK364.out 1).trans rfl
         have hcz63_2 : wr.cell? ⟨gb364, 2, none⟩ = some (.slice Ao12 t360.length co12) := (blk_cell BK364.out 2).trans rfl
         have hfz63_0 := blk_frozen BK364.out 0
         have hfz63_1 := blk_frozen BK364.out 1
         have hfz63_2 := blk_frozen BK364.out 2
         go_wp2_with (first | (go_at_call 19; (with_reducible refine (impl_Moved.calls k1 t358 t359 _ _ t360 t363 t358 t359 _ _ t360 t369 t370 true _ ?side1 ?side2 ?side3 ?side4 A58.out).mono ?_); (case side1 => repeat (first | exact (Kd.Q_reads' HO_365002.out).2.2 | (with_reducible refine Kd.C_alloc ?_ _) | (with_reducible refine Kd.C_drewN ?_ _) | (with_reducible refine Kd.C_drew ?_))); (case side2 => exact (Kd.Q_reads' HO_365002.out).2.1); (case side3 => repeat (first | exact (Kd.Q_reads' HO_365002.out).2.2 | (with_reducible refine Kd.C_alloc ?_ _) | (with_reducible refine Kd.C_drewN ?_ _) | (with_reducible refine Kd.C_drew ?_))); (case side4 => exact (Kd.Q_reads' HO_365002.out).2.1); rintro e w64 ⟨rfl, hb⟩; have n0_ := Aside0.mk (Kd.R_below (by (with_reducible repeat (first | apply Kd.R_alloc | apply Kd.R_drewN | apply Kd.R_drew)); exact HO_5.out) hb); have n1_ := Aside0.mk (Kd.Q_below (by (with_reducible repeat (first | apply Kd.Q_alloc | apply Kd.Q_drewN | apply Kd.Q_drew)); exact HO_365002.out) hb); have n2_ := Aside0.mk (blk_below (g := gb364) (o := .cells #[.int .i64 t358, .int .i64 t359, .slice Ao12 t360.length co12] 27 (0, 0)) (by (with_reducible repeat (first | refine blk_drewN ?_ _ | refine blk_drew ?_ | refine blk_alloc ?_ _)); exact BK364.out) hb); have n3_ := Aside0.mk (below_step (by repeat (first | (with_reducible first | exact HB.out | apply below_alloc | apply pw_below_drewN | apply below_drew1 | refine below_set ?_ GE364.out) | exact HB.out)) hb); clear HO_5; clear HO_365002; clear BK364; clear HB; have HO_5 := n0_; have HO_365002 := n1_; have BK364 := n2_; have HB := n3_; clear n0_ n1_ n2_ n3_; (try clear hb); (try clear hb2); (try clear hk); (try clear hi)))
         repeat (go_quiet (first | (go_at_call 19; (with_reducible refine (impl_Moved.calls k1 t358 t359 _ _ t360 t363 t358 t359 _ _ t360 t369 t370 true _ ?side1 ?side2 ?side3 ?side4 A58.out).mono ?_); (case side1 => repeat (first | exact (Kd.Q_reads' HO_365002.out).2.2 | (with_reducible refine Kd.C_alloc ?_ _) | (with_reducible refine Kd.C_drewN ?_ _) | (with_reducible refine Kd.C_drew ?_))); (case side2 => exact (Kd.Q_reads' HO_365002.out).2.1); (case side3 => repeat (first | exact (Kd.Q_reads' HO_365002.out).2.2 | (with_reducible refine Kd.C_alloc ?_ _) | (with_reducible refine Kd.C_drewN ?_ _) | (with_reducible refine Kd.C_drew ?_))); (case side4 => exact (Kd.Q_reads' HO_365002.out).2.1); rintro e w64 ⟨rfl, hb⟩; have n0_ := Aside0.mk (Kd.R_below (by (with_reducible repeat (first | apply Kd.R_alloc | apply Kd.R_drewN | apply Kd.R_drew)); exact HO_5.out) hb); have n1_ := Aside0.mk (Kd.Q_below (by (with_reducible repeat (first | apply Kd.Q_alloc | apply Kd.Q_drewN | apply Kd.Q_drew)); exact HO_365002.out) hb); have n2_ := Aside0.mk (blk_below (g := gb364) (o := .cells #[.int .i64 t358, .int .i64 t359, .slice Ao12 t360.length co12] 27 (0, 0)) (by (with_reducible repeat (first | refine blk_drewN ?_ _ | refine blk_drew ?_ | refine blk_alloc ?_ _)); exact BK364.out) hb); have n3_ := Aside0.mk (below_step (by repeat (first | (with_reducible first | exact HB.out | apply below_alloc | apply pw_below_drewN | apply below_drew1 | refine below_set ?_ GE364.out) | exact HB.out)) hb); clear HO_5; clear HO_365002; clear BK364; clear HB; have HO_5 := n0_; have HO_365002 := n1_; have BK364 := n2_; have HB := n3_; clear n0_ n1_ n2_ n3_; (try clear hb); (try clear hb2); (try clear hk); (try clear hi))); try go_wp2_with (first | (go_at_call 19; (with_reducible refine (impl_Moved.calls k1 t358 t359 _ _ t360 t363 t358 t359 _ _ t360 t369 t370 true _ ?side1 ?side2 ?side3 ?side4 A58.out).mono ?_); (case side1 => repeat (first | exact (Kd.Q_reads' HO_365002.out).2.2 | (with_reducible refine Kd.C_alloc ?_ _) | (with_reducible refine Kd.C_drewN ?_ _) | (with_reducible refine Kd.C_drew ?_))); (case side2 => exact (Kd.Q_reads' HO_365002.out).2.1); (case side3 => repeat (first | exact (Kd.Q_reads' HO_365002.out).2.2 | (with_reducible refine Kd.C_alloc ?_ _) | (with_reducible refine Kd.C_drewN ?_ _) | (with_reducible refine Kd.C_drew ?_))); (case side4 => exact (Kd.Q_reads' HO_365002.out).2.1); rintro e w64 ⟨rfl, hb⟩; have n0_ := Aside0.mk (Kd.R_below (by (with_reducible repeat (first | apply Kd.R_alloc | apply Kd.R_drewN | apply Kd.R_drew)); exact HO_5.out) hb); have n1_ := Aside0.mk (Kd.Q_below (by (with_reducible repeat (first | apply Kd.Q_alloc | apply Kd.Q_drewN | apply Kd.Q_drew)); exact HO_365002.out) hb); have n2_ := Aside0.mk (blk_below (g := gb364) (o := .cells #[.int .i64 t358, .int .i64 t359, .slice Ao12 t360.length co12] 27 (0, 0)) (by (with_reducible repeat (first | refine blk_drewN ?_ _ | refine blk_drew ?_ | refine blk_alloc ?_ _)); exact BK364.out) hb); have n3_ := Aside0.mk (below_step (by repeat (first | (with_reducible first | exact HB.out | apply below_alloc | apply pw_below_drewN | apply below_drew1 | refine below_set ?_ GE364.out) | exact HB.out)) hb); clear HO_5; clear HO_365002; clear BK364; clear HB; have HO_5 := n0_; have HO_365002 := n1_; have BK364 := n2_; have HB := n3_; clear n0_ n1_ n2_ n3_; (try clear hb); (try clear hb2); (try clear hk); (try clear hi))))
         go_ret
         exact ⟨by first | rfl | (simp [errW_none, errW_some] <;> rfl) | (simp [*, errW_none, errW_some] <;> rfl), by repeat (first | (with_reducible first | exact HB.out | apply below_alloc | apply pw_below_drewN | apply below_drew1 | refine below_set ?_ GE364.out) | exact HB.out)⟩
       ·replace c59 := Bool.eq_false_iff.mpr c59
        subst c59
        have H1 : (some false) = some r := by rw [if_neg (show ¬ (false = true) by decide)] at H; exact H
        clear H
        have H := H1
        clear H1
        obtain rfl := Option.some.inj H
        have hcz65_0 : wr.cell? ⟨gb364, 0, none⟩ = some (.int .i64 t358) := (blk_cell BK364.out 0).trans rfl
        have hcz65_1 : wr.cell? ⟨gb364, 1, none⟩ = some (.int .i64 t359) := (blk_cell BK364.out 1).trans rfl
        have hcz65_2 : wr.cell? ⟨gb364, 2, none⟩ = some (.slice Ao12 t360.length co12) := (blk_cell BK364.out 2).trans rfl
        have hfz65_0 := blk_frozen BK364.out 0
        have hfz65_1 := blk_frozen BK364.out 1
        have hfz65_2 := blk_frozen BK364.out 2
        go_wp2_with (first | (go_at_call 19; (with_reducible refine (impl_Moved.calls k1 t358 t359 _ _ t360 t363 t358 t359 _ _ t360 t369 t370 false _ ?side1 ?side2 ?side3 ?side4 A58.out).mono ?_); (case side1 => repeat (first | exact (Kd.Q_reads' HO_365002.out).2.2 | (with_reducible refine Kd.C_alloc ?_ _) | (with_reducible refine Kd.C_drewN ?_ _) | (with_reducible refine Kd.C_drew ?_))); (case side2 => exact (Kd.Q_reads' HO_365002.out).2.1); (case side3 => repeat (first | exact (Kd.Q_reads' HO_365002.out).2.2 | (with_reducible refine Kd.C_alloc ?_ _) | (with_reducible refine Kd.C_drewN ?_ _) | (with_reducible refine Kd.C_drew ?_))); (case side4 => exact (Kd.Q_reads' HO_365002.out).2.1); rintro e w66 ⟨rfl, hb⟩; have n0_ := Aside0.mk (Kd.R_below (by (with_reducible repeat (first | apply Kd.R_alloc | apply Kd.R_drewN | apply Kd.R_drew)); exact HO_5.out) hb); have n1_ := Aside0.mk (Kd.Q_below (by (with_reducible repeat (first | apply Kd.Q_alloc | apply Kd.Q_drewN | apply Kd.Q_drew)); exact HO_365002.out) hb); have n2_ := Aside0.mk (blk_below (g := gb364) (o := .cells #[.int .i64 t358, .int .i64 t359, .slice Ao12 t360.length co12] 27 (0, 0)) (by (with_reducible repeat (first | refine blk_drewN ?_ _ | refine blk_drew ?_ | refine blk_alloc ?_ _)); exact BK364.out) hb); have n3_ := Aside0.mk (below_step (by repeat (first | (with_reducible first | exact HB.out | apply below_alloc | apply pw_below_drewN | apply below_drew1 | refine below_set ?_ GE364.out) | exact HB.out)) hb); clear HO_5; clear HO_365002; clear BK364; clear HB; have HO_5 := n0_; have HO_365002 := n1_; have BK364 := n2_; have HB := n3_; clear n0_ n1_ n2_ n3_; (try clear hb); (try clear hb2); (try clear hk); (try clear hi)))
        repeat (go_quiet (first | (go_at_call 19; (with_reducible refine (impl_Moved.calls k1 t358 t359 _ _ t360 t363 t358 t359 _ _ t360 t369 t370 false _ ?side1 ?side2 ?side3 ?side4 A58.out).mono ?_); (case side1 => repeat (first | exact (Kd.Q_reads' HO_365002.out).2.2 | (with_reducible refine Kd.C_alloc ?_ _) | (with_reducible refine Kd.C_drewN ?_ _) | (with_reducible refine Kd.C_drew ?_))); (case side2 => exact (Kd.Q_reads' HO_365002.out).2.1); (case side3 => repeat (first | exact (Kd.Q_reads' HO_365002.out).2.2 | (with_reducible refine Kd.C_alloc ?_ _) | (with_reducible refine Kd.C_drewN ?_ _) | (with_reducible refine Kd.C_drew ?_))); (case side4 => exact (Kd.Q_reads' HO_365002.out).2.1); rintro e w66 ⟨rfl, hb⟩; have n0_ := Aside0.mk (Kd.R_below (by (with_reducible repeat (first | apply Kd.R_alloc | apply Kd.R_drewN | apply Kd.R_drew)); exact HO_5.out) hb); have n1_ := Aside0.mk (Kd.Q_below (by (with_reducible repeat (first | apply Kd.Q_alloc | apply Kd.Q_drewN | apply Kd.Q_drew)); exact HO_365002.out) hb); have n2_ := Aside0.mk (blk_below (g := gb364) (o := .cells #[.int .i64 t358, .int .i64 t359, .slice Ao12 t360.length co12] 27 (0, 0)) (by (with_reducible repeat (first | refine blk_drewN ?_ _ | refine blk_drew ?_ | refine blk_alloc ?_ _)); exact BK364.out) hb); have n3_ := Aside0.mk (below_step (by repeat (first | (with_reducible first | exact HB.out | apply below_alloc | apply pw_below_drewN | apply below_drew1 | refine below_set ?_ GE364.out) | exact HB.out)) hb); clear HO_5; clear HO_365002; clear BK364; clear HB; have HO_5 := n0_; have HO_365002 := n1_; have BK364 := n2_; have HB := n3_; clear n0_ n1_ n2_ n3_; (try clear hb); (try clear hb2); (try clear hk); (try clear hi))); try go_wp2_with (first | (go_at_call 19; (with_reducible refine (impl_Moved.calls k1 t358 t359 _ _ t360 t363 t358 t359 _ _ t360 t369 t370 false _ ?side1 ?side2 ?side3 ?side4 A58.out).mono ?_); (case side1 => repeat (first | exact (Kd.Q_reads' HO_365002.out).2.2 | (with_reducible refine Kd.C_alloc ?_ _) | (with_reducible refine Kd.C_drewN ?_ _) | (with_reducible refine Kd.C_drew ?_))); (case side2 => exact (Kd.Q_reads' HO_365002.out).2.1); (case side3 => repeat (first | exact (Kd.Q_reads' HO_365002.out).2.2 | (with_reducible refine Kd.C_alloc ?_ _) | (with_reducible refine Kd.C_drewN ?_ _) | (with_reducible refine Kd.C_drew ?_))); (case side4 => exact (Kd.Q_reads' HO_365002.out).2.1); rintro e w66 ⟨rfl, hb⟩; have n0_ := Aside0.mk (Kd.R_below (by (with_reducible repeat (first | apply Kd.R_alloc | apply Kd.R_drewN | apply Kd.R_drew)); exact HO_5.out) hb); have n1_ := Aside0.mk (Kd.Q_below (by (with_reducible repeat (first | apply Kd.Q_alloc | apply Kd.Q_drewN | apply Kd.Q_drew)); exact HO_365002.out) hb); have n2_ := Aside0.mk (blk_below (g := gb364) (o := .cells #[.int .i64 t358, .int .i64 t359, .slice Ao12 t360.length co12] 27 (0, 0)) (by (with_reducible repeat (first | refine blk_drewN ?_ _ | refine blk_drew ?_ | refine blk_alloc ?_ _)); exact BK364.out) hb); have n3_ := Aside0.mk (below_step (by repeat (first | (with_reducible first | exact HB.out | apply below_alloc | apply pw_below_drewN | apply below_drew1 | refine below_set ?_ GE364.out) | exact HB.out)) hb); clear HO_5; clear HO_365002; clear BK364; clear HB; have HO_5 := n0_; have HO_365002 := n1_; have BK364 := n2_; have HB := n3_; clear n0_ n1_ n2_ n3_; (try clear hb); (try clear hb2); (try clear hk); (try clear hi))))
        go_ret
        exact ⟨by first | rfl | (simp [errW_none, errW_some] <;> rfl) | (simp [*, errW_none, errW_some] <;> rfl), by repeat (first | (with_reducible first | exact HB.out | apply below_alloc | apply pw_below_drewN | apply below_drew1 | refine below_set ?_ GE364.out) | exact HB.out)⟩
   ·rw [if_neg c8] at H
    have c8b0 : ((t365.length : Int) == (wrap64 (t358 * t359))) = false := beq_eq_false_iff_ne.mpr c8
    have c8b1 : ((t365.length : Int) != (wrap64 (t358 * t359))) = true := bne_iff_ne.mpr c8
    obtain rfl := Option.some.inj H
    go_enter Try.func4, Try.ntmps4
    go_wp2_with (first | (go_at_call 16; (with_reducible refine (laws_big.calls _ _ l0 false _ ?side1 ?side2 A2.out).mono ?_); (case side1 => repeat (first | exact HR0.out | (with_reducible refine Kd.C_alloc ?_ _) | (with_reducible refine Kd.C_drewN ?_ _) | (with_reducible refine Kd.C_drew ?_))); (case side2 => exact HC0.out); rintro e w' ⟨rfl, ⟨nd, rfl⟩⟩; (try first | exact ⟨rfl, _, World.drewN_drewN _ _ _⟩ | exact ⟨rfl, _, Eq.trans (World.drewN_drewN _ _ _) (congrArg (World.drewN _) (Nat.add_assoc _ _ _))⟩)) | (go_at_call 17; (with_reducible refine (spec_DrawCells.calls k _ _ l0 t358 t359 t360 t363 _ ?side1 ?side2 A4.out).mono ?_); (case side1 => repeat (first | exact HR0.out | (with_reducible refine Kd.C_alloc ?_ _) | (with_reducible refine Kd.C_drewN ?_ _) | (with_reducible refine Kd.C_drew ?_))); (case side2 => exact HC0.out); rintro e w67 ⟨v361, rfl, ho0, hb⟩; have n0_ := Aside0.mk (Kd.Q_lower ho0 (below_size (by repeat (first | (with_reducible first | exact HB.out | apply below_alloc | apply pw_below_drewN | apply below_drew1) | exact HB.out)))); have n1_ := Aside0.mk (below_step (by repeat (first | (with_reducible first | exact HB.out | apply below_alloc | apply pw_below_drewN | apply below_drew1) | exact HB.out)) hb); clear HB; have HO362 := n0_; have HB := n1_; clear n0_ n1_; (try clear hb); (try clear hb2); (try clear hk); (try clear hi); (try clear ho0)) | ((with_reducible refine gate_dst (N := 3) rfl ?_); refine box_event ?hg (N := 3) ?hd (cs := #[.int .i64 0, .int .i64 0, .slice none 0 0]) (t := 27) ?hr ?_; (case hd => rfl); (case hg => rfl); (case hr => first | (go_simp; done) | (go_simp; rfl)); intro gb364 hg w68 hbox hb; have n0_ := Aside0.mk (Kd.Q_below (by (with_reducible repeat (first | apply Kd.Q_alloc | apply Kd.Q_drewN | apply Kd.Q_drew)); exact HO362.out) hb); have n1_ := Aside0.mk (below_step (by repeat (first | (with_reducible first | exact HB.out | apply below_alloc | apply pw_below_drewN | apply below_drew1) | exact HB.out)) hb); have n2_ := Aside0.mk (hbox); have n3_ := Aside0.mk ((by rw [hg]; exact (below_size (by repeat (first | (with_reducible first | exact HB.out | apply below_alloc | apply pw_below_drewN | apply below_drew1) | exact HB.out))) : w.heap.size ≤ gb364)); have n4_ := Aside0.mk ((by rw [hg]; exact (below_size (by repeat (first | (with_reducible first | exact HB.out | apply below_alloc | apply pw_below_drewN | apply below_drew1) | exact HB.out))) : w.heap.size ≤ gb364)); clear HO362; clear HB; have HO362 := n0_; have HB := n1_; have BK364 := n2_; have GW364 := n3_; have GE364 := n4_; clear n0_ n1_ n2_ n3_ n4_; clear hb hbox hg; have hcz69_0 : w68.cell? ⟨gb364, 0, none⟩ = some (.int .i64 0) := (blk_cell BK364.out 0).trans rfl; have hcz69_1 : w68.cell? ⟨gb364, 1, none⟩ = some (.int .i64 0) := (blk_cell BK364.out 1).trans rfl; have hcz69_2 : w68.cell? ⟨gb364, 2, none⟩ = some (.slice none 0 0) := (blk_cell BK364.out 2).trans rfl; have hfz69_0 := blk_frozen BK364.out 0; have hfz69_1 := blk_frozen BK364.out 1; have hfz69_2 := blk_frozen BK364.out 2; obtain ⟨Ao70, co70, eo70, _⟩ := Kd.Q_slice HO362.out; subst eo70) | (go_at_call 10; (with_reducible refine (impl_Cells.calls k t358 t359 _ _ t360 t363 t365 _ ?side1 ?side2 A5.out).mono ?_); (case side1 => refine (Kd.Q_reads' (e := 2) (base := w.heap.size) (ok := fun k_ => True) (n := t360.length) (c := co70) ?_).2.2; exact (by (with_reducible repeat (first | apply Kd.Q_alloc | apply Kd.Q_drewN | apply Kd.Q_drew)); exact (Kd.Q_mono (Kd.Q_far (p := ⟨gb364, 2, none⟩) (Kd.Q_far (p := ⟨gb364, 1, none⟩) (Kd.Q_far (p := ⟨gb364, 0, none⟩) (Kd.Q_types HO362.out BK364.out (by decide)) (fun _ hk => hk.2) (.int .i64 t358)) (fun _ hk => hk.2) (.int .i64 t359)) (fun _ hk => hk.2) (.slice Ao70 t360.length co70)) (fun _ h_ => h_.1)))); (case side2 => exact (Kd.Q_reads' HO362.out).2.1); rintro e w71 ⟨v366, rfl, ho0, hb⟩; have n0_ := Aside0.mk (Kd.Q_elder' (by (with_reducible repeat (first | apply Kd.Q_alloc | apply Kd.Q_drewN | apply Kd.Q_drew)); exact (Kd.Q_mono (Kd.Q_far (p := ⟨gb364, 2, none⟩) (Kd.Q_far (p := ⟨gb364, 1, none⟩) (Kd.Q_far (p := ⟨gb364, 0, none⟩) (Kd.Q_types HO362.out BK364.out (by decide)) (fun _ hk => hk.2) (.int .i64 t358)) (fun _ hk => hk.2) (.int .i64 t359)) (fun _ hk => hk.2) (.slice Ao70 t360.length co70)) (fun _ h_ => h_.1))) (Kd.R_base ho0) hb); have n1_ := Aside0.mk (Kd.R_lower (Kd.R_new' ho0 (Kd.Q_lt (by (with_reducible repeat (first | apply Kd.Q_alloc | apply Kd.Q_drewN | apply Kd.Q_drew)); exact (Kd.Q_mono (Kd.Q_far (p := ⟨gb364, 2, none⟩) (Kd.Q_far (p := ⟨gb364, 1, none⟩) (Kd.Q_far (p := ⟨gb364, 0, none⟩) (Kd.Q_types HO362.out BK364.out (by decide)) (fun _ hk => hk.2) (.int .i64 t358)) (fun _ hk => hk.2) (.int .i64 t359)) (fun _ hk => hk.2) (.slice Ao70 t360.length co70)) (fun _ h_ => h_.1))))) (below_size (by repeat (first | (with_reducible first | exact HB.out | apply below_alloc | apply pw_below_drewN | apply below_drew1 | refine below_set ?_ GE364.out) | exact HB.out)))); have n2_ := Aside0.mk (blk_below (g := gb364) (o := .cells #[.int .i64 t358, .int .i64 t359, .slice Ao70 t360.length co70] 27 (0, 0)) (by (with_reducible repeat (first | refine blk_drewN ?_ _ | refine blk_drew ?_ | refine blk_alloc ?_ _)); refine blk_put (cs := #[.int .i64 t358, .int .i64 t359, .slice none 0 0]) ?_ 2 _ rfl; (with_reducible repeat (first | refine blk_drewN ?_ _ | refine blk_drew ?_ | refine blk_alloc ?_ _)); refine blk_put (cs := #[.int .i64 t358, .int .i64 0, .slice none 0 0]) ?_ 1 _ rfl; (with_reducible repeat (first | refine blk_drewN ?_ _ | refine blk_drew ?_ | refine blk_alloc ?_ _)); refine blk_put (cs := #[.int .i64 0, .int .i64 0, .slice none 0 0]) ?_ 0 _ rfl; (with_reducible repeat (first | refine blk_drewN ?_ _ | refine blk_drew ?_ | refine blk_alloc ?_ _)); exact BK364.out) hb); have n3_ := Aside0.mk (below_step (by repeat (first | (with_reducible first | exact HB.out | apply below_alloc | apply pw_below_drewN | apply below_drew1 | refine below_set ?_ GE364.out) | exact HB.out)) hb); clear HO362; clear BK364; clear HB; have HO362 := n0_; have HO367 := n1_; have BK364 := n2_; have HB := n3_; clear n0_ n1_ n2_ n3_; (try clear hb); (try clear hb2); (try clear hk); (try clear hi); (try clear ho0); have hcz72_0 : w71.cell? ⟨gb364, 0, none⟩ = some (.int .i64 t358) := (blk_cell BK364.out 0).trans rfl; have hcz72_1 : w71.cell? ⟨gb364, 1, none⟩ = some (.int .i64 t359) := (blk_cell BK364.out 1).trans rfl; have hcz72_2 : w71.cell? ⟨gb364, 2, none⟩ = some (.slice Ao70 t360.length co70) := (blk_cell BK364.out 2).trans rfl; have hfz72_0 := blk_frozen BK364.out 0; have hfz72_1 := blk_frozen BK364.out 1; have hfz72_2 := blk_frozen BK364.out 2) | (go_at_call 18; (with_reducible refine (spec_BoxOk.calls k t358 t359 _ _ t360 true _ ?side1 ?side2 A6.out).mono ?_); (case side1 => repeat (first | exact (Kd.Q_reads' HO362.out).2.2 | (with_reducible refine Kd.C_alloc ?_ _) | (with_reducible refine Kd.C_drewN ?_ _) | (with_reducible refine Kd.C_drew ?_))); (case side2 => exact (Kd.Q_reads' HO362.out).2.1); rintro e w73 ⟨rfl, hb⟩; have n0_ := Aside0.mk (Kd.Q_below (by (with_reducible repeat (first | apply Kd.Q_alloc | apply Kd.Q_drewN | apply Kd.Q_drew)); exact HO362.out) hb); have n1_ := Aside0.mk (Kd.R_below (by (with_reducible repeat (first | apply Kd.R_alloc | apply Kd.R_drewN | apply Kd.R_drew)); exact HO367.out) hb); have n2_ := Aside0.mk (blk_below (g := gb364) (o := .cells #[.int .i64 t358, .int .i64 t359, .slice Ao70 t360.length co70] 27 (0, 0)) (by (with_reducible repeat (first | refine blk_drewN ?_ _ | refine blk_drew ?_ | refine blk_alloc ?_ _)); exact BK364.out) hb); have n3_ := Aside0.mk (below_step (by repeat (first | (with_reducible first | exact HB.out | apply below_alloc | apply pw_below_drewN | apply below_drew1 | refine below_set ?_ GE364.out) | exact HB.out)) hb); clear HO362; clear HO367; clear BK364; clear HB; have HO362 := n0_; have HO367 := n1_; have BK364 := n2_; have HB := n3_; clear n0_ n1_ n2_ n3_; (try clear hb); (try clear hb2); (try clear hk); (try clear hi); obtain ⟨Ao74, co74, eo74⟩ := Kd.R_slice HO367.out; subst eo74; have hcz75_0 : w73.cell? ⟨gb364, 0, none⟩ = some (.int .i64 t358) := (blk_cell BK364.out 0).trans rfl; have hcz75_1 : w73.cell? ⟨gb364, 1, none⟩ = some (.int .i64 t359) := (blk_cell BK364.out 1).trans rfl; have hcz75_2 : w73.cell? ⟨gb364, 2, none⟩ = some (.slice Ao70 t360.length co70) := (blk_cell BK364.out 2).trans rfl; have hfz75_0 := blk_frozen BK364.out 0; have hfz75_1 := blk_frozen BK364.out 1; have hfz75_2 := blk_frozen BK364.out 2))
    repeat (go_quiet (first | (go_at_call 16; (with_reducible refine (laws_big.calls _ _ l0 false _ ?side1 ?side2 A2.out).mono ?_); (case side1 => repeat (first | exact HR0.out | (with_reducible refine Kd.C_alloc ?_ _) | (with_reducible refine Kd.C_drewN ?_ _) | (with_reducible refine Kd.C_drew ?_))); (case side2 => exact HC0.out); rintro e w' ⟨rfl, ⟨nd, rfl⟩⟩; (try first | exact ⟨rfl, _, World.drewN_drewN _ _ _⟩ | exact ⟨rfl, _, Eq.trans (World.drewN_drewN _ _ _) (congrArg (World.drewN _) (Nat.add_assoc _ _ _))⟩)) | (go_at_call 17; (with_reducible refine (spec_DrawCells.calls k _ _ l0 t358 t359 t360 t363 _ ?side1 ?side2 A4.out).mono ?_); (case side1 => repeat (first | exact HR0.out | (with_reducible refine Kd.C_alloc ?_ _) | (with_reducible refine Kd.C_drewN ?_ _) | (with_reducible refine Kd.C_drew ?_))); (case side2 => exact HC0.out); rintro e w67 ⟨v361, rfl, ho0, hb⟩; have n0_ := Aside0.mk (Kd.Q_lower ho0 (below_size (by repeat (first | (with_reducible first | exact HB.out | apply below_alloc | apply pw_below_drewN | apply below_drew1) | exact HB.out)))); have n1_ := Aside0.mk (below_step (by repeat (first | (with_reducible first | exact HB.out | apply below_alloc | apply pw_below_drewN | apply below_drew1) | exact HB.out)) hb); clear HB; have HO362 := n0_; have HB := n1_; clear n0_ n1_; (try clear hb); (try clear hb2); (try clear hk); (try clear hi); (try clear ho0)) | ((with_reducible refine gate_dst (N := 3) rfl ?_); refine box_event ?hg (N := 3) ?hd (cs := #[.int .i64 0, .int .i64 0, .slice none 0 0]) (t := 27) ?hr ?_; (case hd => rfl); (case hg => rfl); (case hr => first | (go_simp; done) | (go_simp; rfl)); intro gb364 hg w68 hbox hb; have n0_ := Aside0.mk (Kd.Q_below (by (with_reducible repeat (first | apply Kd.Q_alloc | apply Kd.Q_drewN | apply Kd.Q_drew)); exact HO362.out) hb); have n1_ := Aside0.mk (below_step (by repeat (first | (with_reducible first | exact HB.out | apply below_alloc | apply pw_below_drewN | apply below_drew1) | exact HB.out)) hb); have n2_ := Aside0.mk (hbox); have n3_ := Aside0.mk ((by rw [hg]; exact (below_size (by repeat (first | (with_reducible first | exact HB.out | apply below_alloc | apply pw_below_drewN | apply below_drew1) | exact HB.out))) : w.heap.size ≤ gb364)); have n4_ := Aside0.mk ((by rw [hg]; exact (below_size (by repeat (first | (with_reducible first | exact HB.out | apply below_alloc | apply pw_below_drewN | apply below_drew1) | exact HB.out))) : w.heap.size ≤ gb364)); clear HO362; clear HB; have HO362 := n0_; have HB := n1_; have BK364 := n2_; have GW364 := n3_; have GE364 := n4_; clear n0_ n1_ n2_ n3_ n4_; clear hb hbox hg; have hcz69_0 : w68.cell? ⟨gb364, 0, none⟩ = some (.int .i64 0) := (blk_cell BK364.out 0).trans rfl; have hcz69_1 : w68.cell? ⟨gb364, 1, none⟩ = some (.int .i64 0) := (blk_cell BK364.out 1).trans rfl; have hcz69_2 : w68.cell? ⟨gb364, 2, none⟩ = some (.slice none 0 0) := (blk_cell BK364.out 2).trans rfl; have hfz69_0 := blk_frozen BK364.out 0; have hfz69_1 := blk_frozen BK364.out 1; have hfz69_2 := blk_frozen BK364.out 2; obtain ⟨Ao70, co70, eo70, _⟩ := Kd.Q_slice HO362.out; subst eo70) | (go_at_call 10; (with_reducible refine (impl_Cells.calls k t358 t359 _ _ t360 t363 t365 _ ?side1 ?side2 A5.out).mono ?_); (case side1 => refine (Kd.Q_reads' (e := 2) (base := w.heap.size) (ok := fun k_ => True) (n := t360.length) (c := co70) ?_).2.2; exact (by (with_reducible repeat (first | apply Kd.Q_alloc | apply Kd.Q_drewN | apply Kd.Q_drew)); exact (Kd.Q_mono (Kd.Q_far (p := ⟨gb364, 2, none⟩) (Kd.Q_far (p := ⟨gb364, 1, none⟩) (Kd.Q_far (p := ⟨gb364, 0, none⟩) (Kd.Q_types HO362.out BK364.out (by decide)) (fun _ hk => hk.2) (.int .i64 t358)) (fun _ hk => hk.2) (.int .i64 t359)) (fun _ hk => hk.2) (.slice Ao70 t360.length co70)) (fun _ h_ => h_.1)))); (case side2 => exact (Kd.Q_reads' HO362.out).2.1); rintro e w71 ⟨v366, rfl, ho0, hb⟩; have n0_ := Aside0.mk (Kd.Q_elder' (by (with_reducible repeat (first | apply Kd.Q_alloc | apply Kd.Q_drewN | apply Kd.Q_drew)); exact (Kd.Q_mono (Kd.Q_far (p := ⟨gb364, 2, none⟩) (Kd.Q_far (p := ⟨gb364, 1, none⟩) (Kd.Q_far (p := ⟨gb364, 0, none⟩) (Kd.Q_types HO362.out BK364.out (by decide)) (fun _ hk => hk.2) (.int .i64 t358)) (fun _ hk => hk.2) (.int .i64 t359)) (fun _ hk => hk.2) (.slice Ao70 t360.length co70)) (fun _ h_ => h_.1))) (Kd.R_base ho0) hb); have n1_ := Aside0.mk (Kd.R_lower (Kd.R_new' ho0 (Kd.Q_lt (by (with_reducible repeat (first | apply Kd.Q_alloc | apply Kd.Q_drewN | apply Kd.Q_drew)); exact (Kd.Q_mono (Kd.Q_far (p := ⟨gb364, 2, none⟩) (Kd.Q_far (p := ⟨gb364, 1, none⟩) (Kd.Q_far (p := ⟨gb364, 0, none⟩) (Kd.Q_types HO362.out BK364.out (by decide)) (fun _ hk => hk.2) (.int .i64 t358)) (fun _ hk => hk.2) (.int .i64 t359)) (fun _ hk => hk.2) (.slice Ao70 t360.length co70)) (fun _ h_ => h_.1))))) (below_size (by repeat (first | (with_reducible first | exact HB.out | apply below_alloc | apply pw_below_drewN | apply below_drew1 | refine below_set ?_ GE364.out) | exact HB.out)))); have n2_ := Aside0.mk (blk_below (g := gb364) (o := .cells #[.int .i64 t358, .int .i64 t359, .slice Ao70 t360.length co70] 27 (0, 0)) (by (with_reducible repeat (first | refine blk_drewN ?_ _ | refine blk_drew ?_ | refine blk_alloc ?_ _)); refine blk_put (cs := #[.int .i64 t358, .int .i64 t359, .slice none 0 0]) ?_ 2 _ rfl; (with_reducible repeat (first | refine blk_drewN ?_ _ | refine blk_drew ?_ | refine blk_alloc ?_ _)); refine blk_put (cs := #[.int .i64 t358, .int .i64 0, .slice none 0 0]) ?_ 1 _ rfl; (with_reducible repeat (first | refine blk_drewN ?_ _ | refine blk_drew ?_ | refine blk_alloc ?_ _)); refine blk_put (cs := #[.int .i64 0, .int .i64 0, .slice none 0 0]) ?_ 0 _ rfl; (with_reducible repeat (first | refine blk_drewN ?_ _ | refine blk_drew ?_ | refine blk_alloc ?_ _)); exact BK364.out) hb); have n3_ := Aside0.mk (below_step (by repeat (first | (with_reducible first | exact HB.out | apply below_alloc | apply pw_below_drewN | apply below_drew1 | refine below_set ?_ GE364.out) | exact HB.out)) hb); clear HO362; clear BK364; clear HB; have HO362 := n0_; have HO367 := n1_; have BK364 := n2_; have HB := n3_; clear n0_ n1_ n2_ n3_; (try clear hb); (try clear hb2); (try clear hk); (try clear hi); (try clear ho0); have hcz72_0 : w71.cell? ⟨gb364, 0, none⟩ = some (.int .i64 t358) := (blk_cell BK364.out 0).trans rfl; have hcz72_1 : w71.cell? ⟨gb364, 1, none⟩ = some (.int .i64 t359) := (blk_cell BK364.out 1).trans rfl; have hcz72_2 : w71.cell? ⟨gb364, 2, none⟩ = some (.slice Ao70 t360.length co70) := (blk_cell BK364.out 2).trans rfl; have hfz72_0 := blk_frozen BK364.out 0; have hfz72_1 := blk_frozen BK364.out 1; have hfz72_2 := blk_frozen BK364.out 2) | (go_at_call 18; (with_reducible refine (spec_BoxOk.calls k t358 t359 _ _ t360 true _ ?side1 ?side2 A6.out).mono ?_); (case side1 => repeat (first | exact (Kd.Q_reads' HO362.out).2.2 | (with_reducible refine Kd.C_alloc ?_ _) | (with_reducible refine Kd.C_drewN ?_ _) | (with_reducible refine Kd.C_drew ?_))); (case side2 => exact (Kd.Q_reads' HO362.out).2.1); rintro e w73 ⟨rfl, hb⟩; have n0_ := Aside0.mk (Kd.Q_below (by (with_reducible repeat (first | apply Kd.Q_alloc | apply Kd.Q_drewN | apply Kd.Q_drew)); exact HO362.out) hb); have n1_ := Aside0.mk (Kd.R_below (by (with_reducible repeat (first | apply Kd.R_alloc | apply Kd.R_drewN | apply Kd.R_drew)); exact HO367.out) hb); have n2_ := Aside0.mk (blk_below (g := gb364) (o := .cells #[.int .i64 t358, .int .i64 t359, .slice Ao70 t360.length co70] 27 (0, 0)) (by (with_reducible repeat (first | refine blk_drewN ?_ _ | refine blk_drew ?_ | refine blk_alloc ?_ _)); exact BK364.out) hb); have n3_ := Aside0.mk (below_step (by repeat (first | (with_reducible first | exact HB.out | apply below_alloc | apply pw_below_drewN | apply below_drew1 | refine below_set ?_ GE364.out) | exact HB.out)) hb); clear HO362; clear HO367; clear BK364; clear HB; have HO362 := n0_; have HO367 := n1_; have BK364 := n2_; have HB := n3_; clear n0_ n1_ n2_ n3_; (try clear hb); (try clear hb2); (try clear hk); (try clear hi); obtain ⟨Ao74, co74, eo74⟩ := Kd.R_slice HO367.out; subst eo74; have hcz75_0 : w73.cell? ⟨gb364, 0, none⟩ = some (.int .i64 t358) := (blk_cell BK364.out 0).trans rfl; have hcz75_1 : w73.cell? ⟨gb364, 1, none⟩ = some (.int .i64 t359) := (blk_cell BK364.out 1).trans rfl; have hcz75_2 : w73.cell? ⟨gb364, 2, none⟩ = some (.slice Ao70 t360.length co70) := (blk_cell BK364.out 2).trans rfl; have hfz75_0 := blk_frozen BK364.out 0; have hfz75_1 := blk_frozen BK364.out 1; have hfz75_2 := blk_frozen BK364.out 2)); try go_wp2_with (first | (go_at_call 16; (with_reducible refine (laws_big.calls _ _ l0 false _ ?side1 ?side2 A2.out).mono ?_); (case side1 => repeat (first | exact HR0.out | (with_reducible refine Kd.C_alloc ?_ _) | (with_reducible refine Kd.C_drewN ?_ _) | (with_reducible refine Kd.C_drew ?_))); (case side2 => exact HC0.out); rintro e w' ⟨rfl, ⟨nd, rfl⟩⟩; (try first | exact ⟨rfl, _, World.drewN_drewN _ _ _⟩ | exact ⟨rfl, _, Eq.trans (World.drewN_drewN _ _ _) (congrArg (World.drewN _) (Nat.add_assoc _ _ _))⟩)) | (go_at_call 17; (with_reducible refine (spec_DrawCells.calls k _ _ l0 t358 t359 t360 t363 _ ?side1 ?side2 A4.out).mono ?_); (case side1 => repeat (first | exact HR0.out | (with_reducible refine Kd.C_alloc ?_ _) | (with_reducible refine Kd.C_drewN ?_ _) | (with_reducible refine Kd.C_drew ?_))); (case side2 => exact HC0.out); rintro e w67 ⟨v361, rfl, ho0, hb⟩; have n0_ := Aside0.mk (Kd.Q_lower ho0 (below_size (by repeat (first | (with_reducible first | exact HB.out | apply below_alloc | apply pw_below_drewN | apply below_drew1) | exact HB.out)))); have n1_ := Aside0.mk (below_step (by repeat (first | (with_reducible first | exact HB.out | apply below_alloc | apply pw_below_drewN | apply below_drew1) | exact HB.out)) hb); clear HB; have HO362 := n0_; have HB := n1_; clear n0_ n1_; (try clear hb); (try clear hb2); (try clear hk); (try clear hi); (try clear ho0)) | ((with_reducible refine gate_dst (N := 3) rfl ?_); refine box_event ?hg (N := 3) ?hd (cs := #[.int .i64 0, .int .i64 0, .slice none 0 0]) (t := 27) ?hr ?_; (case hd => rfl); (case hg => rfl); (case hr => first | (go_simp; done) | (go_simp; rfl)); intro gb364 hg w68 hbox hb; have n0_ := Aside0.mk (Kd.Q_below (by (with_reducible repeat (first | apply Kd.Q_alloc | apply Kd.Q_drewN | apply Kd.Q_drew)); exact HO362.out) hb); have n1_ := Aside0.mk (below_step (by repeat (first | (with_reducible first | exact HB.out | apply below_alloc | apply pw_below_drewN | apply below_drew1) | exact HB.out)) hb); have n2_ := Aside0.mk (hbox); have n3_ := Aside0.mk ((by rw [hg]; exact (below_size (by repeat (first | (with_reducible first | exact HB.out | apply below_alloc | apply pw_below_drewN | apply below_drew1) | exact HB.out))) : w.heap.size ≤ gb364)); have n4_ := Aside0.mk ((by rw [hg]; exact (below_size (by repeat (first | (with_reducible first | exact HB.out | apply below_alloc | apply pw_below_drewN | apply below_drew1) | exact HB.out))) : w.heap.size ≤ gb364)); clear HO362; clear HB; have HO362 := n0_; have HB := n1_; have BK364 := n2_; have GW364 := n3_; have GE364 := n4_; clear n0_ n1_ n2_ n3_ n4_; clear hb hbox hg; have hcz69_0 : w68.cell? ⟨gb364, 0, none⟩ = some (.int .i64 0) := (blk_cell BK364.out 0).trans rfl; have hcz69_1 : w68.cell? ⟨gb364, 1, none⟩ = some (.int .i64 0) := (blk_cell BK364.out 1).trans rfl; have hcz69_2 : w68.cell? ⟨gb364, 2, none⟩ = some (.slice none 0 0) := (blk_cell BK364.out 2).trans rfl; have hfz69_0 := blk_frozen BK364.out 0; have hfz69_1 := blk_frozen BK364.out 1; have hfz69_2 := blk_frozen BK364.out 2; obtain ⟨Ao70, co70, eo70, _⟩ := Kd.Q_slice HO362.out; subst eo70) | (go_at_call 10; (with_reducible refine (impl_Cells.calls k t358 t359 _ _ t360 t363 t365 _ ?side1 ?side2 A5.out).mono ?_); (case side1 => refine (Kd.Q_reads' (e := 2) (base := w.heap.size) (ok := fun k_ => True) (n := t360.length) (c := co70) ?_).2.2; exact (by (with_reducible repeat (first | apply Kd.Q_alloc | apply Kd.Q_drewN | apply Kd.Q_drew)); exact (Kd.Q_mono (Kd.Q_far (p := ⟨gb364, 2, none⟩) (Kd.Q_far (p := ⟨gb364, 1, none⟩) (Kd.Q_far (p := ⟨gb364, 0, none⟩) (Kd.Q_types HO362.out BK364.out (by decide)) (fun _ hk => hk.2) (.int .i64 t358)) (fun _ hk => hk.2) (.int .i64 t359)) (fun _ hk => hk.2) (.slice Ao70 t360.length co70)) (fun _ h_ => h_.1)))); (case side2 => exact (Kd.Q_reads' HO362.out).2.1); rintro e w71 ⟨v366, rfl, ho0, hb⟩; have n0_ := Aside0.mk (Kd.Q_elder' (by (with_reducible repeat (first | apply Kd.Q_alloc | apply Kd.Q_drewN | apply Kd.Q_drew)); exact (Kd.Q_mono (Kd.Q_far (p := ⟨gb364, 2, none⟩) (Kd.Q_far (p := ⟨gb364, 1, none⟩) (Kd.Q_far (p := ⟨gb364, 0, none⟩) (Kd.Q_types HO362.out BK364.out (by decide)) (fun _ hk => hk.2) (.int .i64 t358)) (fun _ hk => hk.2) (.int .i64 t359)) (fun _ hk => hk.2) (.slice Ao70 t360.length co70)) (fun _ h_ => h_.1))) (Kd.R_base ho0) hb); have n1_ := Aside0.mk (Kd.R_lower (Kd.R_new' ho0 (Kd.Q_lt (by (with_reducible repeat (first | apply Kd.Q_alloc | apply Kd.Q_drewN | apply Kd.Q_drew)); exact (Kd.Q_mono (Kd.Q_far (p := ⟨gb364, 2, none⟩) (Kd.Q_far (p := ⟨gb364, 1, none⟩) (Kd.Q_far (p := ⟨gb364, 0, none⟩) (Kd.Q_types HO362.out BK364.out (by decide)) (fun _ hk => hk.2) (.int .i64 t358)) (fun _ hk => hk.2) (.int .i64 t359)) (fun _ hk => hk.2) (.slice Ao70 t360.length co70)) (fun _ h_ => h_.1))))) (below_size (by repeat (first | (with_reducible first | exact HB.out | apply below_alloc | apply pw_below_drewN | apply below_drew1 | refine below_set ?_ GE364.out) | exact HB.out)))); have n2_ := Aside0.mk (blk_below (g := gb364) (o := .cells #[.int .i64 t358, .int .i64 t359, .slice Ao70 t360.length co70] 27 (0, 0)) (by (with_reducible repeat (first | refine blk_drewN ?_ _ | refine blk_drew ?_ | refine blk_alloc ?_ _)); refine blk_put (cs := #[.int .i64 t358, .int .i64 t359, .slice none 0 0]) ?_ 2 _ rfl; (with_reducible repeat (first | refine blk_drewN ?_ _ | refine blk_drew ?_ | refine blk_alloc ?_ _)); refine blk_put (cs := #[.int .i64 t358, .int .i64 0, .slice none 0 0]) ?_ 1 _ rfl; (with_reducible repeat (first | refine blk_drewN ?_ _ | refine blk_drew ?_ | refine blk_alloc ?_ _)); refine blk_put (cs := #[.int .i64 0, .int .i64 0, .slice none 0 0]) ?_ 0 _ rfl; (with_reducible repeat (first | refine blk_drewN ?_ _ | refine blk_drew ?_ | refine blk_alloc ?_ _)); exact BK364.out) hb); have n3_ := Aside0.mk (below_step (by repeat (first | (with_reducible first | exact HB.out | apply below_alloc | apply pw_below_drewN | apply below_drew1 | refine below_set ?_ GE364.out) | exact HB.out)) hb); clear HO362; clear BK364; clear HB; have HO362 := n0_; have HO367 := n1_; have BK364 := n2_; have HB := n3_; clear n0_ n1_ n2_ n3_; (try clear hb); (try clear hb2); (try clear hk); (try clear hi); (try clear ho0); have hcz72_0 : w71.cell? ⟨gb364, 0, none⟩ = some (.int .i64 t358) := (blk_cell BK364.out 0).trans rfl; have hcz72_1 : w71.cell? ⟨gb364, 1, none⟩ = some (.int .i64 t359) := (blk_cell BK364.out 1).trans rfl; have hcz72_2 : w71.cell? ⟨gb364, 2, none⟩ = some (.slice Ao70 t360.length co70) := (blk_cell BK364.out 2).trans rfl; have hfz72_0 := blk_frozen BK364.out 0; have hfz72_1 := blk_frozen BK364.out 1; have hfz72_2 := blk_frozen BK364.out 2) | (go_at_call 18; (with_reducible refine (spec_BoxOk.calls k t358 t359 _ _ t360 true _ ?side1 ?side2 A6.out).mono ?_); (case side1 => repeat (first | exact (Kd.Q_reads' HO362.out).2.2 | (with_reducible refine Kd.C_alloc ?_ _) | (with_reducible refine Kd.C_drewN ?_ _) | (with_reducible refine Kd.C_drew ?_))); (case side2 => exact (Kd.Q_reads' HO362.out).2.1); rintro e w73 ⟨rfl, hb⟩; have n0_ := Aside0.mk (Kd.Q_below (by (with_reducible repeat (first | apply Kd.Q_alloc | apply Kd.Q_drewN | apply Kd.Q_drew)); exact HO362.out) hb); have n1_ := Aside0.mk (Kd.R_below (by (with_reducible repeat (first | apply Kd.R_alloc | apply Kd.R_drewN | apply Kd.R_drew)); exact HO367.out) hb); have n2_ := Aside0.mk (blk_below (g := gb364) (o := .cells #[.int .i64 t358, .int .i64 t359, .slice Ao70 t360.length co70] 27 (0, 0)) (by (with_reducible repeat (first | refine blk_drewN ?_ _ | refine blk_drew ?_ | refine blk_alloc ?_ _)); exact BK364.out) hb); have n3_ := Aside0.mk (below_step (by repeat (first | (with_reducible first | exact HB.out | apply below_alloc | apply pw_below_drewN | apply below_drew1 | refine below_set ?_ GE364.out) | exact HB.out)) hb); clear HO362; clear HO367; clear BK364; clear HB; have HO362 := n0_; have HO367 := n1_; have BK364 := n2_; have HB := n3_; clear n0_ n1_ n2_ n3_; (try clear hb); (try clear hb2); (try clear hk); (try clear hi); obtain ⟨Ao74, co74, eo74⟩ := Kd.R_slice HO367.out; subst eo74; have hcz75_0 : w73.cell? ⟨gb364, 0, none⟩ = some (.int .i64 t358) := (blk_cell BK364.out 0).trans rfl; have hcz75_1 : w73.cell? ⟨gb364, 1, none⟩ = some (.int .i64 t359) := (blk_cell BK364.out 1).trans rfl; have hcz75_2 : w73.cell? ⟨gb364, 2, none⟩ = some (.slice Ao70 t360.length co70) := (blk_cell BK364.out 2).trans rfl; have hfz75_0 := blk_frozen BK364.out 0; have hfz75_1 := blk_frozen BK364.out 1; have hfz75_2 := blk_frozen BK364.out 2)))
    go_ret
    exact ⟨by first | rfl | (simp [errW_none, errW_some] <;> rfl) | (simp [*, errW_none, errW_some] <;> rfl), by repeat (first | (with_reducible first | exact HB.out | apply below_alloc | apply pw_below_drewN | apply below_drew1 | refine below_set ?_ GE364.out) | exact HB.out)⟩
  ·replace c7 := Bool.eq_false_iff.mpr c7
   subst c7
   have H1 : (some ((t365.length : Int) == 0)) = some r := by rw [if_neg (show ¬ (false = true) by decide)] at H; exact H
   clear H
   have H := H1
   clear H1
   obtain rfl := Option.some.inj H
   go_enter Try.func4, Try.ntmps4
   go_wp2_with (first | (go_at_call 16; (with_reducible refine (laws_big.calls _ _ l0 false _ ?side1 ?side2 A2.out).mono ?_); (case side1 => repeat (first | exact HR0.out | (with_reducible refine Kd.C_alloc ?_ _) | (with_reducible refine Kd.C_drewN ?_ _) | (with_reducible refine Kd.C_drew ?_))); (case side2 => exact HC0.out); rintro e w' ⟨rfl, ⟨nd, rfl⟩⟩; (try first | exact ⟨rfl, _, World.drewN_drewN _ _ _⟩ | exact ⟨rfl, _, Eq.trans (World.drewN_drewN _ _ _) (congrArg (World.drewN _) (Nat.add_assoc _ _ _))⟩)) | (go_at_call 17; (with_reducible refine (spec_DrawCells.calls k _ _ l0 t358 t359 t360 t363 _ ?side1 ?side2 A4.out).mono ?_); (case side1 => repeat (first | exact HR0.out | (with_reducible refine Kd.C_alloc ?_ _) | (with_reducible refine Kd.C_drewN ?_ _) | (with_reducible refine Kd.C_drew ?_))); (case side2 => exact HC0.out); rintro e w76 ⟨v361, rfl, ho0, hb⟩; have n0_ := Aside0.mk (Kd.Q_lower ho0 (below_size (by repeat (first | (with_reducible first | exact HB.out | apply below_alloc | apply pw_below_drewN | apply below_drew1) | exact HB.out)))); have n1_ := Aside0.mk (below_step (by repeat (first | (with_reducible first | exact HB.out | apply below_alloc | apply pw_below_drewN | apply below_drew1) | exact HB.out)) hb); clear HB; have HO362 := n0_; have HB := n1_; clear n0_ n1_; (try clear hb); (try clear hb2); (try clear hk); (try clear hi); (try clear ho0)) | ((with_reducible refine gate_dst (N := 3) rfl ?_); refine box_event ?hg (N := 3) ?hd (cs := #[.int .i64 0, .int .i64 0, .slice none 0 0]) (t := 27) ?hr ?_; (case hd => rfl); (case hg => rfl); (case hr => first | (go_simp; done) | (go_simp; rfl)); intro gb364 hg w77 hbox hb; have n0_ := Aside0.mk (Kd.Q_below (by (with_reducible repeat (first | apply Kd.Q_alloc | apply Kd.Q_drewN | apply Kd.Q_drew)); exact HO362.out) hb); have n1_ := Aside0.mk (below_step (by repeat (first | (with_reducible first | exact HB.out | apply below_alloc | apply pw_below_drewN | apply below_drew1) | exact HB.out)) hb); have n2_ := Aside0.mk (hbox); have n3_ := Aside0.mk ((by rw [hg]; exact (below_size (by repeat (first | (with_reducible first | exact HB.out | apply below_alloc | apply pw_below_drewN | apply below_drew1) | exact HB.out))) : w.heap.size ≤ gb364)); have n4_ := Aside0.mk ((by rw [hg]; exact (below_size (by repeat (first | (with_reducible first | exact HB.out | apply below_alloc | apply pw_below_drewN | apply below_drew1) | exact HB.out))) : w.heap.size ≤ gb364)); clear HO362; clear HB; have HO362 := n0_; have HB := n1_; have BK364 := n2_; have GW364 := n3_; have GE364 := n4_; clear n0_ n1_ n2_ n3_ n4_; clear hb hbox hg; have hcz78_0 : w77.cell? ⟨gb364, 0, none⟩ = some (.int .i64 0) := (blk_cell BK364.out 0).trans rfl; have hcz78_1 : w77.cell? ⟨gb364, 1, none⟩ = some (.int .i64 0) := (blk_cell BK364.out 1).trans rfl; have hcz78_2 : w77.cell? ⟨gb364, 2, none⟩ = some (.slice none 0 0) := (blk_cell BK364.out 2).trans rfl; have hfz78_0 := blk_frozen BK364.out 0; have hfz78_1 := blk_frozen BK364.out 1; have hfz78_2 := blk_frozen BK364.out 2; obtain ⟨Ao79, co79, eo79, _⟩ := Kd.Q_slice HO362.out; subst eo79) | (go_at_call 10; (with_reducible refine (impl_Cells.calls k t358 t359 _ _ t360 t363 t365 _ ?side1 ?side2 A5.out).mono ?_); (case side1 => refine (Kd.Q_reads' (e := 2) (base := w.heap.size) (ok := fun k_ => True) (n := t360.length) (c := co79) ?_).2.2; exact (by (with_reducible repeat (first | apply Kd.Q_alloc | apply Kd.Q_drewN | apply Kd.Q_drew)); exact (Kd.Q_mono (Kd.Q_far (p := ⟨gb364, 2, none⟩) (Kd.Q_far (p := ⟨gb364, 1, none⟩) (Kd.Q_far (p := ⟨gb364, 0, none⟩) (Kd.Q_types HO362.out BK364.out (by decide)) (fun _ hk => hk.2) (.int .i64 t358)) (fun _ hk => hk.2) (.int .i64 t359)) (fun _ hk => hk.2) (.slice Ao79 t360.length co79)) (fun _ h_ => h_.1)))); (case side2 => exact (Kd.Q_reads' HO362.out).2.1); rintro e w80 ⟨v366, rfl, ho0, hb⟩; have n0_ := Aside0.mk (Kd.Q_elder' (by (with_reducible repeat (first | apply Kd.Q_alloc | apply Kd.Q_drewN | apply Kd.Q_drew)); exact (Kd.Q_mono (Kd.Q_far (p := ⟨gb364, 2, none⟩) (Kd.Q_far (p := ⟨gb364, 1, none⟩) (Kd.Q_far (p := ⟨gb364, 0, none⟩) (Kd.Q_types HO362.out BK364.out (by decide)) (fun _ hk => hk.2) (.int .i64 t358)) (fun _ hk => hk.2) (.int .i64 t359)) (fun _ hk => hk.2) (.slice Ao79 t360.length co79)) (fun _ h_ => h_.1))) (Kd.R_base ho0) hb); have n1_ := Aside0.mk (Kd.R_lower (Kd.R_new' ho0 (Kd.Q_lt (by (with_reducible repeat (first | apply Kd.Q_alloc | apply Kd.Q_drewN | apply Kd.Q_drew)); exact (Kd.Q_mono (Kd.Q_far (p := ⟨gb364, 2, none⟩) (Kd.Q_far (p := ⟨gb364, 1, none⟩) (Kd.Q_far (p := ⟨gb364, 0, none⟩) (Kd.Q_types HO362.out BK364.out (by decide)) (fun _ hk => hk.2) (.int .i64 t358)) (fun _ hk => hk.2) (.int .i64 t359)) (fun _ hk => hk.2) (.slice Ao79 t360.length co79)) (fun _ h_ => h_.1))))) (below_size (by repeat (first | (with_reducible first | exact HB.out | apply below_alloc | apply pw_below_drewN | apply below_drew1 | refine below_set ?_ GE364.out) | exact HB.out)))); have n2_ := Aside0.mk (blk_below (g := gb364) (o := .cells #[.int .i64 t358, .int .i64 t359, .slice Ao79 t360.length co79] 27 (0, 0)) (by (with_reducible repeat (first | refine blk_drewN ?_ _ | refine blk_drew ?_ | refine blk_alloc ?_ _)); refine blk_put (cs := #[.int .i64 t358, .int .i64 t359, .slice none 0 0]) ?_ 2 _ rfl; (with_reducible repeat (first | refine blk_drewN ?_ _ | refine blk_drew ?_ | refine blk_alloc ?_ _)); refine blk_put (cs := #[.int .i64 t358, .int .i64 0, .slice none 0 0]) ?_ 1 _ rfl; (with_reducible repeat (first | refine blk_drewN ?_ _ | refine blk_drew ?_ | refine blk_alloc ?_ _)); refine blk_put (cs := #[.int .i64 0, .int .i64 0, .slice none 0 0]) ?_ 0 _ rfl; (with_reducible repeat (first | refine blk_drewN ?_ _ | refine blk_drew ?_ | refine blk_alloc ?_ _)); exact BK364.out) hb); have n3_ := Aside0.mk (below_step (by repeat (first | (with_reducible first | exact HB.out | apply below_alloc | apply pw_below_drewN | apply below_drew1 | refine below_set ?_ GE364.out) | exact HB.out)) hb); clear HO362; clear BK364; clear HB; have HO362 := n0_; have HO367 := n1_; have BK364 := n2_; have HB := n3_; clear n0_ n1_ n2_ n3_; (try clear hb); (try clear hb2); (try clear hk); (try clear hi); (try clear ho0); have hcz81_0 : w80.cell? ⟨gb364, 0, none⟩ = some (.int .i64 t358) := (blk_cell BK364.out 0).trans rfl; have hcz81_1 : w80.cell? ⟨gb364, 1, none⟩ = some (.int .i64 t359) := (blk_cell BK364.out 1).trans rfl; have hcz81_2 : w80.cell? ⟨gb364, 2, none⟩ = some (.slice Ao79 t360.length co79) := (blk_cell BK364.out 2).trans rfl; have hfz81_0 := blk_frozen BK364.out 0; have hfz81_1 := blk_frozen BK364.out 1; have hfz81_2 := blk_frozen BK364.out 2) | (go_at_call 18; (with_reducible refine (spec_BoxOk.calls k t358 t359 _ _ t360 false _ ?side1 ?side2 A6.out).mono ?_); (case side1 => repeat (first | exact (Kd.Q_reads' HO362.out).2.2 | (with_reducible refine Kd.C_alloc ?_ _) | (with_reducible refine Kd.C_drewN ?_ _) | (with_reducible refine Kd.C_drew ?_))); (case side2 => exact (Kd.Q_reads' HO362.out).2.1); rintro e w82 ⟨rfl, hb⟩; have n0_ := Aside0.mk (Kd.Q_below (by (with_reducible repeat (first | apply Kd.Q_alloc | apply Kd.Q_drewN | apply Kd.Q_drew)); exact HO362.out) hb); have n1_ := Aside0.mk (Kd.R_below (by (with_reducible repeat (first | apply Kd.R_alloc | apply Kd.R_drewN | apply Kd.R_drew)); exact HO367.out) hb); have n2_ := Aside0.mk (blk_below (g := gb364) (o := .cells #[.int .i64 t358, .int .i64 t359, .slice Ao79 t360.length co79] 27 (0, 0)) (by (with_reducible repeat (first | refine blk_drewN ?_ _ | refine blk_drew ?_ | refine blk_alloc ?_ _)); exact BK364.out) hb); have n3_ := Aside0.mk (below_step (by repeat (first | (with_reducible first | exact HB.out | apply below_alloc | apply pw_below_drewN | apply below_drew1 | refine below_set ?_ GE364.out) | exact HB.out)) hb); clear HO362; clear HO367; clear BK364; clear HB; have HO362 := n0_; have HO367 := n1_; have BK364 := n2_; have HB := n3_; clear n0_ n1_ n2_ n3_; (try clear hb); (try clear hb2); (try clear hk); (try clear hi); obtain ⟨Ao83, co83, eo83⟩ := Kd.R_slice HO367.out; subst eo83))
   repeat (go_quiet (first | (go_at_call 16; (with_reducible refine (laws_big.calls _ _ l0 false _ ?side1 ?side2 A2.out).mono ?_); (case side1 => repeat (first | exact HR0.out | (with_reducible refine Kd.C_alloc ?_ _) | (with_reducible refine Kd.C_drewN ?_ _) | (with_reducible refine Kd.C_drew ?_))); (case side2 => exact HC0.out); rintro e w' ⟨rfl, ⟨nd, rfl⟩⟩; (try first | exact ⟨rfl, _, World.drewN_drewN _ _ _⟩ | exact ⟨rfl, _, Eq.trans (World.drewN_drewN _ _ _) (congrArg (World.drewN _) (Nat.add_assoc _ _ _))⟩)) | (go_at_call 17; (with_reducible refine (spec_DrawCells.calls k _ _ l0 t358 t359 t360 t363 _ ?side1 ?side2 A4.out).mono ?_); (case side1 => repeat (first | exact HR0.out | (with_reducible refine Kd.C_alloc ?_ _) | (with_reducible refine Kd.C_drewN ?_ _) | (with_reducible refine Kd.C_drew ?_))); (case side2 => exact HC0.out); rintro e w76 ⟨v361, rfl, ho0, hb⟩; have n0_ := Aside0.mk (Kd.Q_lower ho0 (below_size (by repeat (first | (with_reducible first | exact HB.out | apply below_alloc | apply pw_below_drewN | apply below_drew1) | exact HB.out)))); have n1_ := Aside0.mk (below_step (by repeat (first | (with_reducible first | exact HB.out | apply below_alloc | apply pw_below_drewN | apply below_drew1) | exact HB.out)) hb); clear HB; have HO362 := n0_; have HB := n1_; clear n0_ n1_; (try clear hb); (try clear hb2); (try clear hk); (try clear hi); (try clear ho0)) | ((with_reducible refine gate_dst (N := 3) rfl ?_); refine box_event ?hg (N := 3) ?hd (cs := #[.int .i64 0, .int .i64 0, .slice none 0 0]) (t := 27) ?hr ?_; (case hd => rfl); (case hg => rfl); (case hr => first | (go_simp; done) | (go_simp; rfl)); intro gb364 hg w77 hbox hb; have n0_ := Aside0.mk (Kd.Q_below (by (with_reducible repeat (first | apply Kd.Q_alloc | apply Kd.Q_drewN | apply Kd.Q_drew)); exact HO362.out) hb); have n1_ := Aside0.mk (below_step (by repeat (first | (with_reducible first | exact HB.out | apply below_alloc | apply pw_below_drewN | apply below_drew1) | exact HB.out)) hb); have n2_ := Aside0.mk (hbox); have n3_ := Aside0.mk ((by rw [hg]; exact (below_size (by repeat (first | (with_reducible first | exact HB.out | apply below_alloc | apply pw_below_drewN | apply below_drew1) | exact HB.out))) : w.heap.size ≤ gb364)); have n4_ := Aside0.mk ((by rw [hg]; exact (below_size (by repeat (first | (with_reducible first | exact HB.out | apply below_alloc | apply pw_below_drewN | apply below_drew1) | exact HB.out))) : w.heap.size ≤ gb364)); clear HO362; clear HB; have HO362 := n0_; have HB := n1_; have BK364 := n2_; have GW364 := n3_; have GE364 := n4_; clear n0_ n1_ n2_ n3_ n4_; clear hb hbox hg; have hcz78_0 : w77.cell? ⟨gb364, 0, none⟩ = some (.int .i64 0) := (blk_cell BK364.out 0).trans rfl; have hcz78_1 : w77.cell? ⟨gb364, 1, none⟩ = some (.int .i64 0) := (blk_cell BK364.out 1).trans rfl; have hcz78_2 : w77.cell? ⟨gb364, 2, none⟩ = some (.slice none 0 0) := (blk_cell BK364.out 2).trans rfl; have hfz78_0 := blk_frozen BK364.out 0; have hfz78_1 := blk_frozen BK364.out 1; have hfz78_2 := blk_frozen BK364.out 2; obtain ⟨Ao79, co79, eo79, _⟩ := Kd.Q_slice HO362.out; subst eo79) | (go_at_call 10; (with_reducible refine (impl_Cells.calls k t358 t359 _ _ t360 t363 t365 _ ?side1 ?side2 A5.out).mono ?_); (case side1 => refine (Kd.Q_reads' (e := 2) (base := w.heap.size) (ok := fun k_ => True) (n := t360.length) (c := co79) ?_).2.2; exact (by (with_reducible repeat (first | apply Kd.Q_alloc | apply Kd.Q_drewN | apply Kd.Q_drew)); exact (Kd.Q_mono (Kd.Q_far (p := ⟨gb364, 2, none⟩) (Kd.Q_far (p := ⟨gb364, 1, none⟩) (Kd.Q_far (p := ⟨gb364, 0, none⟩) (Kd.Q_types HO362.out BK364.out (by decide)) (fun _ hk => hk.2) (.int .i64 t358)) (fun _ hk => hk.2) (.int .i64 t359)) (fun _ hk => hk.2) (.slice Ao79 t360.length co79)) (fun _ h_ => h_.1)))); (case side2 => exact (Kd.Q_reads' HO362.out).2.1); rintro e w80 ⟨v366, rfl, ho0, hb⟩; have n0_ := Aside0.mk (Kd.Q_elder' (by (with_reducible repeat (first | apply Kd.Q_alloc | apply Kd.Q_drewN | apply Kd.Q_drew)); exact (Kd.Q_mono (Kd.Q_far (p := ⟨gb364, 2, none⟩) (Kd.Q_far (p := ⟨gb364, 1, none⟩) (Kd.Q_far (p := ⟨gb364, 0, none⟩) (Kd.Q_types HO362.out BK364.out (by decide)) (fun _ hk => hk.2) (.int .i64 t358)) (fun _ hk => hk.2) (.int .i64 t359)) (fun _ hk => hk.2) (.slice Ao79 t360.length co79)) (fun _ h_ => h_.1))) (Kd.R_base ho0) hb); have n1_ := Aside0.mk (Kd.R_lower (Kd.R_new' ho0 (Kd.Q_lt (by (with_reducible repeat (first | apply Kd.Q_alloc | apply Kd.Q_drewN | apply Kd.Q_drew)); exact (Kd.Q_mono (Kd.Q_far (p := ⟨gb364, 2, none⟩) (Kd.Q_far (p := ⟨gb364, 1, none⟩) (Kd.Q_far (p := ⟨gb364, 0, none⟩) (Kd.Q_types HO362.out BK364.out (by decide)) (fun _ hk => hk.2) (.int .i64 t358)) (fun _ hk => hk.2) (.int .i64 t359)) (fun _ hk => hk.2) (.slice Ao79 t360.length co79)) (fun _ h_ => h_.1))))) (below_size (by repeat (first | (with_reducible first | exact HB.out | apply below_alloc | apply pw_below_drewN | apply below_drew1 | refine below_set ?_ GE364.out) | exact HB.out)))); have n2_ := Aside0.mk (blk_below (g := gb364) (o := .cells #[.int .i64 t358, .int .i64 t359, .slice Ao79 t360.length co79] 27 (0, 0)) (by (with_reducible repeat (first | refine blk_drewN ?_ _ | refine blk_drew ?_ | refine blk_alloc ?_ _)); refine blk_put (cs := #[.int .i64 t358, .int .i64 t359, .slice none 0 0]) ?_ 2 _ rfl; (with_reducible repeat (first | refine blk_drewN ?_ _ | refine blk_drew ?_ | refine blk_alloc ?_ _)); refine blk_put (cs := #[.int .i64 t358, .int .i64 0, .slice none 0 0]) ?_ 1 _ rfl; (with_reducible repeat (first | refine blk_drewN ?_ _ | refine blk_drew ?_ | refine blk_alloc ?_ _)); refine blk_put (cs := #[.int .i64 0, .int .i64 0, .slice none 0 0]) ?_ 0 _ rfl; (with_reducible repeat (first | refine blk_drewN ?_ _ | refine blk_drew ?_ | refine blk_alloc ?_ _)); exact BK364.out) hb); have n3_ := Aside0.mk (below_step (by repeat (first | (with_reducible first | exact HB.out | apply below_alloc | apply pw_below_drewN | apply below_drew1 | refine below_set ?_ GE364.out) | exact HB.out)) hb); clear HO362; clear BK364; clear HB; have HO362 := n0_; have HO367 := n1_; have BK364 := n2_; have HB := n3_; clear n0_ n1_ n2_ n3_; (try clear hb); (try clear hb2); (try clear hk); (try clear hi); (try clear ho0); have hcz81_0 : w80.cell? ⟨gb364, 0, none⟩ = some (.int .i64 t358) := (blk_cell BK364.out 0).trans rfl; have hcz81_1 : w80.cell? ⟨gb364, 1, none⟩ = some (.int .i64 t359) := (blk_cell BK364.out 1).trans rfl; have hcz81_2 : w80.cell? ⟨gb364, 2, none⟩ = some (.slice Ao79 t360.length co79) := (blk_cell BK364.out 2).trans rfl; have hfz81_0 := blk_frozen BK364.out 0; have hfz81_1 := blk_frozen BK364.out 1; have hfz81_2 := blk_frozen BK364.out 2) | (go_at_call 18; (with_reducible refine (spec_BoxOk.calls k t358 t359 _ _ t360 false _ ?side1 ?side2 A6.out).mono ?_); (case side1 => repeat (first | exact (Kd.Q_reads' HO362.out).2.2 | (with_reducible refine Kd.C_alloc ?_ _) | (with_reducible refine Kd.C_drewN ?_ _) | (with_reducible refine Kd.C_drew ?_))); (case side2 => exact (Kd.Q_reads' HO362.out).2.1); rintro e w82 ⟨rfl, hb⟩; have n0_ := Aside0.mk (Kd.Q_below (by (with_reducible repeat (first | apply Kd.Q_alloc | apply Kd.Q_drewN | apply Kd.Q_drew)); exact HO362.out) hb); have n1_ := Aside0.mk (Kd.R_below (by (with_reducible repeat (first | apply Kd.R_alloc | apply Kd.R_drewN | apply Kd.R_drew)); exact HO367.out) hb); have n2_ := Aside0.mk (blk_below (g := gb364) (o := .cells #[.int .i64 t358, .int .i64 t359, .slice Ao79 t360.length co79] 27 (0, 0)) (by (with_reducible repeat (first | refine blk_drewN ?_ _ | refine blk_drew ?_ | refine blk_alloc ?_ _)); exact BK364.out) hb); have n3_ := Aside0.mk (below_step (by repeat (first | (with_reducible first | exact HB.out | apply below_alloc | apply pw_below_drewN | apply below_drew1 | refine below_set ?_ GE364.out) | exact HB.out)) hb); clear HO362; clear HO367; clear BK364; clear HB; have HO362 := n0_; have HO367 := n1_; have BK364 := n2_; have HB := n3_; clear n0_ n1_ n2_ n3_; (try clear hb); (try clear hb2); (try clear hk); (try clear hi); obtain ⟨Ao83, co83, eo83⟩ := Kd.R_slice HO367.out; subst eo83)); try go_wp2_with (first | (go_at_call 16; (with_reducible refine (laws_big.calls _ _ l0 false _ ?side1 ?side2 A2.out).mono ?_); (case side1 => repeat (first | exact HR0.out | (with_reducible refine Kd.C_alloc ?_ _) | (with_reducible refine Kd.C_drewN ?_ _) | (with_reducible refine Kd.C_drew ?_))); (case side2 => exact HC0.out); rintro e w' ⟨rfl, ⟨nd, rfl⟩⟩; (try first | exact ⟨rfl, _, World.drewN_drewN _ _ _⟩ | exact ⟨rfl, _, Eq.trans (World.drewN_drewN _ _ _) (congrArg (World.drewN _) (Nat.add_assoc _ _ _))⟩)) | (go_at_call 17; (with_reducible refine (spec_DrawCells.calls k _ _ l0 t358 t359 t360 t363 _ ?side1 ?side2 A4.out).mono ?_); (case side1 => repeat (first | exact HR0.out | (with_reducible refine Kd.C_alloc ?_ _) | (with_reducible refine Kd.C_drewN ?_ _) | (with_reducible refine Kd.C_drew ?_))); (case side2 => exact HC0.out); rintro e w76 ⟨v361, rfl, ho0, hb⟩; have n0_ := Aside0.mk (Kd.Q_lower ho0 (below_size (by repeat (first | (with_reducible first | exact HB.out | apply below_alloc | apply pw_below_drewN | apply below_drew1) | exact HB.out)))); have n1_ := Aside0.mk (below_step (by repeat (first | (with_reducible first | exact HB.out | apply below_alloc | apply pw_below_drewN | apply below_drew1) | exact HB.out)) hb); clear HB; have HO362 := n0_; have HB := n1_; clear n0_ n1_; (try clear hb); (try clear hb2); (try clear hk); (try clear hi); (try clear ho0)) | ((with_reducible refine gate_dst (N := 3) rfl ?_); refine box_event ?hg (N := 3) ?hd (cs := #[.int .i64 0, .int .i64 0, .slice none 0 0]) (t := 27) ?hr ?_; (case hd => rfl); (case hg => rfl); (case hr => first | (go_simp; done) | (go_simp; rfl)); intro gb364 hg w77 hbox hb; have n0_ := Aside0.mk (Kd.Q_below (by (with_reducible repeat (first | apply Kd.Q_alloc | apply Kd.Q_drewN | apply Kd.Q_drew)); exact HO362.out) hb); have n1_ := Aside0.mk (below_step (by repeat (first | (with_reducible first | exact HB.out | apply below_alloc | apply pw_below_drewN | apply below_drew1) | exact HB.out)) hb); have n2_ := Aside0.mk (hbox); have n3_ := Aside0.mk ((by rw [hg]; exact (below_size (by repeat (first | (with_reducible first | exact HB.out | apply below_alloc | apply pw_below_drewN | apply below_drew1) | exact HB.out))) : w.heap.size ≤ gb364)); have n4_ := Aside0.mk ((by rw [hg]; exact (below_size (by repeat (first | (with_reducible first | exact HB.out | apply below_alloc | apply pw_below_drewN | apply below_drew1) | exact HB.out))) : w.heap.size ≤ gb364)); clear HO362; clear HB; have HO362 := n0_; have HB := n1_; have BK364 := n2_; have GW364 := n3_; have GE364 := n4_; clear n0_ n1_ n2_ n3_ n4_; clear hb hbox hg; have hcz78_0 : w77.cell? ⟨gb364, 0, none⟩ = some (.int .i64 0) := (blk_cell BK364.out 0).trans rfl; have hcz78_1 : w77.cell? ⟨gb364, 1, none⟩ = some (.int .i64 0) := (blk_cell BK364.out 1).trans rfl; have hcz78_2 : w77.cell? ⟨gb364, 2, none⟩ = some (.slice none 0 0) := (blk_cell BK364.out 2).trans rfl; have hfz78_0 := blk_frozen BK364.out 0; have hfz78_1 := blk_frozen BK364.out 1; have hfz78_2 := blk_frozen BK364.out 2; obtain ⟨Ao79, co79, eo79, _⟩ := Kd.Q_slice HO362.out; subst eo79) | (go_at_call 10; (with_reducible refine (impl_Cells.calls k t358 t359 _ _ t360 t363 t365 _ ?side1 ?side2 A5.out).mono ?_); (case side1 => refine (Kd.Q_reads' (e := 2) (base := w.heap.size) (ok := fun k_ => True) (n := t360.length) (c := co79) ?_).2.2; exact (by (with_reducible repeat (first | apply Kd.Q_alloc | apply Kd.Q_drewN | apply Kd.Q_drew)); exact (Kd.Q_mono (Kd.Q_far (p := ⟨gb364, 2, none⟩) (Kd.Q_far (p := ⟨gb364, 1, none⟩) (Kd.Q_far (p := ⟨gb364, 0, none⟩) (Kd.Q_types HO362.out BK364.out (by decide)) (fun _ hk => hk.2) (.int .i64 t358)) (fun _ hk => hk.2) (.int .i64 t359)) (fun _ hk => hk.2) (.slice Ao79 t360.length co79)) (fun _ h_ => h_.1)))); (case side2 => exact (Kd.Q_reads' HO362.out).2.1); rintro e w80 ⟨v366, rfl, ho0, hb⟩; have n0_ := Aside0.mk (Kd.Q_elder' (by (with_reducible repeat (first | apply Kd.Q_alloc | apply Kd.Q_drewN | apply Kd.Q_drew)); exact (Kd.Q_mono (Kd.Q_far (p := ⟨gb364, 2, none⟩) (Kd.Q_far (p := ⟨gb364, 1, none⟩) (Kd.Q_far (p := ⟨gb364, 0, none⟩) (Kd.Q_types HO362.out BK364.out (by decide)) (fun _ hk => hk.2) (.int .i64 t358)) (fun _ hk => hk.2) (.int .i64 t359)) (fun _ hk => hk.2) (.slice Ao79 t360.length co79)) (fun _ h_ => h_.1))) (Kd.R_base ho0) hb); have n1_ := Aside0.mk (Kd.R_lower (Kd.R_new' ho0 (Kd.Q_lt (by (with_reducible repeat (first | apply Kd.Q_alloc | apply Kd.Q_drewN | apply Kd.Q_drew)); exact (Kd.Q_mono (Kd.Q_far (p := ⟨gb364, 2, none⟩) (Kd.Q_far (p := ⟨gb364, 1, none⟩) (Kd.Q_far (p := ⟨gb364, 0, none⟩) (Kd.Q_types HO362.out BK364.out (by decide)) (fun _ hk => hk.2) (.int .i64 t358)) (fun _ hk => hk.2) (.int .i64 t359)) (fun _ hk => hk.2) (.slice Ao79 t360.length co79)) (fun _ h_ => h_.1))))) (below_size (by repeat (first | (with_reducible first | exact HB.out | apply below_alloc | apply pw_below_drewN | apply below_drew1 | refine below_set ?_ GE364.out) | exact HB.out)))); have n2_ := Aside0.mk (blk_below (g := gb364) (o := .cells #[.int .i64 t358, .int .i64 t359, .slice Ao79 t360.length co79] 27 (0, 0)) (by (with_reducible repeat (first | refine blk_drewN ?_ _ | refine blk_drew ?_ | refine blk_alloc ?_ _)); refine blk_put (cs := #[.int .i64 t358, .int .i64 t359, .slice none 0 0]) ?_ 2 _ rfl; (with_reducible repeat (first | refine blk_drewN ?_ _ | refine blk_drew ?_ | refine blk_alloc ?_ _)); refine blk_put (cs := #[.int .i64 t358, .int .i64 0, .slice none 0 0]) ?_ 1 _ rfl; (with_reducible repeat (first | refine blk_drewN ?_ _ | refine blk_drew ?_ | refine blk_alloc ?_ _)); refine blk_put (cs := #[.int .i64 0, .int .i64 0, .slice none 0 0]) ?_ 0 _ rfl; (with_reducible repeat (first | refine blk_drewN ?_ _ | refine blk_drew ?_ | refine blk_alloc ?_ _)); exact BK364.out) hb); have n3_ := Aside0.mk (below_step (by repeat (first | (with_reducible first | exact HB.out | apply below_alloc | apply pw_below_drewN | apply below_drew1 | refine below_set ?_ GE364.out) | exact HB.out)) hb); clear HO362; clear BK364; clear HB; have HO362 := n0_; have HO367 := n1_; have BK364 := n2_; have HB := n3_; clear n0_ n1_ n2_ n3_; (try clear hb); (try clear hb2); (try clear hk); (try clear hi); (try clear ho0); have hcz81_0 : w80.cell? ⟨gb364, 0, none⟩ = some (.int .i64 t358) := (blk_cell BK364.out 0).trans rfl; have hcz81_1 : w80.cell? ⟨gb364, 1, none⟩ = some (.int .i64 t359) := (blk_cell BK364.out 1).trans rfl; have hcz81_2 : w80.cell? ⟨gb364, 2, none⟩ = some (.slice Ao79 t360.length co79) := (blk_cell BK364.out 2).trans rfl; have hfz81_0 := blk_frozen BK364.out 0; have hfz81_1 := blk_frozen BK364.out 1; have hfz81_2 := blk_frozen BK364.out 2) | (go_at_call 18; (with_reducible refine (spec_BoxOk.calls k t358 t359 _ _ t360 false _ ?side1 ?side2 A6.out).mono ?_); (case side1 => repeat (first | exact (Kd.Q_reads' HO362.out).2.2 | (with_reducible refine Kd.C_alloc ?_ _) | (with_reducible refine Kd.C_drewN ?_ _) | (with_reducible refine Kd.C_drew ?_))); (case side2 => exact (Kd.Q_reads' HO362.out).2.1); rintro e w82 ⟨rfl, hb⟩; have n0_ := Aside0.mk (Kd.Q_below (by (with_reducible repeat (first | apply Kd.Q_alloc | apply Kd.Q_drewN | apply Kd.Q_drew)); exact HO362.out) hb); have n1_ := Aside0.mk (Kd.R_below (by (with_reducible repeat (first | apply Kd.R_alloc | apply Kd.R_drewN | apply Kd.R_drew)); exact HO367.out) hb); have n2_ := Aside0.mk (blk_below (g := gb364) (o := .cells #[.int .i64 t358, .int .i64 t359, .slice Ao79 t360.length co79] 27 (0, 0)) (by (with_reducible repeat (first | refine blk_drewN ?_ _ | refine blk_drew ?_ | refine blk_alloc ?_ _)); exact BK364.out) hb); have n3_ := Aside0.mk (below_step (by repeat (first | (with_reducible first | exact HB.out | apply below_alloc | apply pw_below_drewN | apply below_drew1 | refine below_set ?_ GE364.out) | exact HB.out)) hb); clear HO362; clear HO367; clear BK364; clear HB; have HO362 := n0_; have HO367 := n1_; have BK364 := n2_; have HB := n3_; clear n0_ n1_ n2_ n3_; (try clear hb); (try clear hb2); (try clear hk); (try clear hi); obtain ⟨Ao83, co83, eo83⟩ := Kd.R_slice HO367.out; subst eo83)))
   go_ret
   exact ⟨by first | rfl | (simp [errW_none, errW_some] <;> rfl) | (simp [*, errW_none, errW_some] <;> rfl), by repeat (first | (with_reducible first | exact HB.out | apply below_alloc | apply pw_below_drewN | apply below_drew1 | refine below_set ?_ GE364.out) | exact HB.out)⟩

/-- THE ONE PURE STATEMENT of laws_FnStormCells: yours. -/
def laws_FnStormCells.Pure : Prop := ∀ (l0 : List Int), l0.length ≤ maxLen → l0.length * 1 ≤ 140737488351232 → (∀ x ∈ l0, (Lit.int .u8 x).wf = true) → ∃ k, laws_FnStormCells.f k l0 = some true
theorem laws_FnStormCells.walk (P : laws_FnStormCells.Pure) (a0 : Option Addr) (len0 cap0 : Nat) (z0 : List Int) (w : World) (w0 : (a0 = none ∧ len0 = 0 ∧ cap0 = 0 ∧ z0 = []) ∨ ∃ x, a0 = some x ∧ len0 ≤ cap0 ∧ cap0 ≤ maxLen ∧ z0.length = cap0 ∧ (∀ i, i < z0.length → w.cell? (x.add i) = some (.int .u8 (z0.getD i 0))) ∧ ∀ n ∈ z0, (Lit.int .u8 n).wf = true) (y0 : len0 * 1 ≤ 140737488351232) :
  Calls Try.prog 4 #[.slice a0 len0 cap0] w fun e w' => e = .returned (.bool true) ∧ Below w.heap.size w w' := by
 obtain ⟨l0, rfl, hr0, hm0, hw0, hc0⟩ := ReadsInt.ofRowC w0
 obtain ⟨k, h⟩ := P l0 hm0 y0 hw0
 refine (laws_FnStormCells.calls k _ _ l0 true w (Kd.C_of_reads (d := (0 : Int)) (h1 := fun _ => rfl) hr0) hc0 h).mono ?_
 rintro e w' ⟨rfl, hd⟩
 exact ⟨rfl, hd⟩

end Go.Proofs.Ytcdghhihfjojaab.Q
