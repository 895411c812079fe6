/- Plain Lean functions with the same answers as the Go functions of this seat, and a proof for each that the Go code comes to just these answers; no condition. Written by a program of this session (the kit's printer, turned). -/
import Derived.Test.YteobnbichpadjaaQx0
import Derived.Test.YteobnbichpadjaaQx1
import Derived.Test.YteobnbichpadjaaQx2
import Derived.Test.YteobnbichpadjaaQx9
import Derived.Test.YteobnbichpadjaaQx12
import Derived.Test.YteobnbichpadjaaQx15
import Derived.Test.YteobnbichpadjaaQx16
import Derived.Test.YteobnbichpadjaaQx17
namespace Go.Proofs.Yteobnbichpadjaa.Q
open Go.RowKit Go.Proofs.YteobnbichpadjaaW.PrintWords Go.Proofs.YteobnbichpadjaaW.PrintLast Go.Proofs.YteobnbichpadjaaW.PrintMore Go.Proofs.YteobnbichpadjaaW.PrintFlt
attribute [local go_sem] cmp_lss cmp_leq cmp_gtr cmp_geq cmp_eql cmp_neq flt_l flt_r fgt_l fgt_r feq_l feq_r fne_l fne_r ord_lt ord_gt ord_eq ord_ne conv_int foi_fold run_store_flt
attribute [local go_sem] max2_int min2_int max_two min_two max_three min_three max_four min_four   -- for this text's walks alone
set_option linter.unusedVariables false
set_option linter.unusedSimpArgs false

attribute [local go_sem high] eqA30
/-! ### laws_FnTables: function 3 -/
mutual
def laws_FnTables.l0 : Nat → List (S34) → Int → List (S36) → Int → Int → Option (Bool)
 | 0, _, _, _, _, _ => none
 | k + 1, x3, x4, x5, x6, x7 => if x7 < (x3.length : Int) then (if 0 ≤ x7 then (if (rd_T34 x3 x7).f1 = true then (laws_FnTables.l0 k x3 x4 x5 (wrap64 (x6 + 1)) (wrap64 (x7 + 1))) else (laws_FnTables.l0 k x3 x4 x5 x6 (wrap64 (x7 + 1)))) else (none)) else ((impl_Table.f k x3 x4).bind fun bt204 => ((impl_Table.f k x3 (wrap64 ((mn x4 100) + 1))).bind fun bt209 => (laws_FnTables.l1 k x3 x5 x6 0 0 0 bt204.1 bt204.2.1 bt204.2.2.1 bt204.2.2.2 bt209.1 bt209.2.1 bt209.2.2.1 bt209.2.2.2)))
def laws_FnTables.l1 : Nat → List (S34) → List (S36) → Int → Int → Int → Int → Int → Int → Int → Int → Int → Int → Int → Int → Option (Bool)
 | 0, _, _, _, _, _, _, _, _, _, _, _, _, _, _ => none
 | k + 1, x3, x5, x6, x10, x11, x12, x209000, x209001, x209002, x209003, x214000, x214001, x214002, x214003 => if x12 < (x5.length : Int) then (if 0 ≤ x12 then (laws_FnTables.l1 k x3 x5 x6 (wrap64 (x10 + ((rd_T36 x5 x12).f0))) (wrap64 (x11 + ((rd_T36 x5 x12).f1))) (wrap64 (x12 + 1)) x209000 x209001 x209002 x209003 x214000 x214001 x214002 x214003) else (none)) else (if (x5.length : Int) = 11 then (if x10 = (x3.length : Int) then (if x11 = x6 then (if (wrap64 (x209000 + x209001)) = x6 then (if (wrap64 ((wrap64 ((wrap64 (x209000 + x209001)) + x209002)) + x209003)) = x10 then (if x214000 ≤ x209000 then (some (decide (x214002 ≤ x209002))) else (some false)) else (some false)) else (some false)) else (some false)) else (some false)) else (some false))
end
def laws_FnTables.f (k : Nat) (l0 : List Int) : Option (Bool) := (laws_big.f l0).bind fun t187 => (if t187 = true then (some true) else ((spec_DrawTable.f k l0).bind fun bt188 => ((impl_Reliable.f k bt188.1).bind fun t192 => ((spec_Reliable.f k bt188.1).bind fun t195 => (if (t195.length : Int) = 0 then (if (t192.length : Int) = 0 then ((impl_Table.f k bt188.1 bt188.2).bind fun bt198 => (if (bt198.1 == 0 && (bt198.2.1 == 0 && (bt198.2.2.1 == 0 && (bt198.2.2.2 == 0)))) = true then ((impl_Brier.f k bt188.1).bind fun t202 => (some (t202 == (-1)))) else (some false))) else (some false)) else (laws_FnTables.l0 k bt188.1 bt188.2 t192 0 0))))))
theorem laws_FnTables.mono_l : ∀ k, (∀ y0 y1 y2 y3 y4, LeO (laws_FnTables.l0 k y0 y1 y2 y3 y4) (laws_FnTables.l0 (k + 1) y0 y1 y2 y3 y4)) ∧ (∀ y0 y1 y2 y3 y4 y5 y6 y7 y8 y9 y10 y11 y12 y13, LeO (laws_FnTables.l1 k y0 y1 y2 y3 y4 y5 y6 y7 y8 y9 y10 y11 y12 y13) (laws_FnTables.l1 (k + 1) y0 y1 y2 y3 y4 y5 y6 y7 y8 y9 y10 y11 y12 y13))
 | 0 => ⟨fun _ _ _ _ _ r h => by simp [laws_FnTables.l0] at h, fun _ _ _ _ _ _ _ _ _ _ _ _ _ _ r h => by simp [laws_FnTables.l1] at h⟩
 | k + 1 => by
  obtain ⟨ih0, ih1⟩ := laws_FnTables.mono_l k
  refine ⟨?_, ?_⟩
  ·intro y0 y1 y2 y3 y4
   unfold laws_FnTables.l0
   repeat' first
   | (with_reducible exact ih0 _ _ _ _ _)
   | (with_reducible exact ih1 _ _ _ _ _ _ _ _ _ _ _ _ _ _)
   | (with_reducible exact impl_Brier.mono _ _)
   | (with_reducible exact impl_Reliable.mono _ _)
   | (with_reducible exact impl_Table.mono _ _ _)
   | (with_reducible exact spec_DrawTable.mono _ _)
   | (with_reducible exact spec_Reliable.mono _ _)
   | (with_reducible exact LeO.refl _)
   | (with_reducible exact LeO.none _)
   | (with_reducible refine LeO.ite ?_ ?_)
   | (with_reducible refine LeO.bind ?_ (fun _ => ?_))
   | exact ih0 _ _ _ _ _
   | exact ih1 _ _ _ _ _ _ _ _ _ _ _ _ _ _
   | exact impl_Brier.mono _ _
   | exact impl_Reliable.mono _ _
   | exact impl_Table.mono _ _ _
   | exact spec_DrawTable.mono _ _
   | exact spec_Reliable.mono _ _
   | exact LeO.none _
   | refine LeO.ite ?_ ?_
   | refine LeO.bind ?_ (fun _ => ?_)
  ·intro y0 y1 y2 y3 y4 y5 y6 y7 y8 y9 y10 y11 y12 y13
   unfold laws_FnTables.l1
   repeat' first
   | (with_reducible exact ih0 _ _ _ _ _)
   | (with_reducible exact ih1 _ _ _ _ _ _ _ _ _ _ _ _ _ _)
   | (with_reducible exact impl_Brier.mono _ _)
   | (with_reducible exact impl_Reliable.mono _ _)
   | (with_reducible exact impl_Table.mono _ _ _)
   | (with_reducible exact spec_DrawTable.mono _ _)
   | (with_reducible exact spec_Reliable.mono _ _)
   | (with_reducible exact LeO.refl _)
   | (with_reducible exact LeO.none _)
   | (with_reducible refine LeO.ite ?_ ?_)
   | (with_reducible refine LeO.bind ?_ (fun _ => ?_))
   | exact ih0 _ _ _ _ _
   | exact ih1 _ _ _ _ _ _ _ _ _ _ _ _ _ _
   | exact impl_Brier.mono _ _
   | exact impl_Reliable.mono _ _
   | exact impl_Table.mono _ _ _
   | exact spec_DrawTable.mono _ _
   | exact spec_Reliable.mono _ _
   | exact LeO.none _
   | refine LeO.ite ?_ ?_
   | refine LeO.bind ?_ (fun _ => ?_)
theorem laws_FnTables.mono : ∀ a0 k, LeO (laws_FnTables.f k a0) (laws_FnTables.f (k + 1) a0) := by
 intro a0 k
 obtain ⟨ih0, ih1⟩ := laws_FnTables.mono_l k
 unfold laws_FnTables.f
 repeat' first
   | (with_reducible exact ih0 _ _ _ _ _)
   | (with_reducible exact ih1 _ _ _ _ _ _ _ _ _ _ _ _ _ _)
   | (with_reducible exact impl_Brier.mono _ _)
   | (with_reducible exact impl_Reliable.mono _ _)
   | (with_reducible exact impl_Table.mono _ _ _)
   | (with_reducible exact spec_DrawTable.mono _ _)
   | (with_reducible exact spec_Reliable.mono _ _)
   | (with_reducible exact LeO.refl _)
   | (with_reducible exact LeO.none _)
   | (with_reducible refine LeO.ite ?_ ?_)
   | (with_reducible refine LeO.bind ?_ (fun _ => ?_))
   | exact ih0 _ _ _ _ _
   | exact ih1 _ _ _ _ _ _ _ _ _ _ _ _ _ _
   | exact impl_Brier.mono _ _
   | exact impl_Reliable.mono _ _
   | exact impl_Table.mono _ _ _
   | exact spec_DrawTable.mono _ _
   | exact spec_Reliable.mono _ _
   | exact LeO.none _
   | refine LeO.ite ?_ ?_
   | refine LeO.bind ?_ (fun _ => ?_)
set_option maxHeartbeats 8000000 in
set_option maxRecDepth 100000 in
theorem laws_FnTables.calls (k : Nat) (A0 : Option Addr) (c0 : Nat) (l0 : List Int) (r : Bool) (w : World) (hr0 : Kd.C (Kd.int .u8) w A0 l0.length l0) (hc0 : l0.length ≤ c0) (h : laws_FnTables.f k l0 = some r) :
  Calls Try.prog 3 #[.slice A0 l0.length c0] w fun e w' => e = .returned (.bool r) ∧ Below w.heap.size w w' := by
 have hu30 := Try.underlying30
 have HR0 := Aside0.mk hr0
 have HC0 := Aside0.mk hc0
 clear hr0 hc0
 have HB := Aside0.mk (Below.refl w.heap.size w)
 have H : ((laws_big.f l0).bind fun t187 => (if t187 = true then (some true) else ((spec_DrawTable.f k l0).bind fun bt188 => ((impl_Reliable.f k bt188.1).bind fun t192 => ((spec_Reliable.f k bt188.1).bind fun t195 => (if (t195.length : Int) = 0 then (if (t192.length : Int) = 0 then ((impl_Table.f k bt188.1 bt188.2).bind fun bt198 => (if (bt198.1 == 0 && (bt198.2.1 == 0 && (bt198.2.2.1 == 0 && (bt198.2.2.2 == 0)))) = true then ((impl_Brier.f k bt188.1).bind fun t202 => (some (t202 == (-1)))) else (some false))) else (some false)) else (laws_FnTables.l0 k bt188.1 bt188.2 t192 0 0))))))) = some r := h
 clear h
 replace H := Option.bind_eq_some_iff.mp H
 obtain ⟨t187, A20, H⟩ := H
 replace H : (if t187 = true then (some true) else ((spec_DrawTable.f k l0).bind fun bt188 => ((impl_Reliable.f k bt188.1).bind fun t192 => ((spec_Reliable.f k bt188.1).bind fun t195 => (if (t195.length : Int) = 0 then (if (t192.length : Int) = 0 then ((impl_Table.f k bt188.1 bt188.2).bind fun bt198 => (if (bt198.1 == 0 && (bt198.2.1 == 0 && (bt198.2.2.1 == 0 && (bt198.2.2.2 == 0)))) = true then ((impl_Brier.f k bt188.1).bind fun t202 => (some (t202 == (-1)))) else (some false))) else (some false)) else (laws_FnTables.l0 k bt188.1 bt188.2 t192 0 0)))))) = some r := H
 have A2 := Aside0.mk A20
 clear A20
 by_cases c3 : t187 = true
 ·subst c3
  have H1 : (some true) = some r := by rw [if_pos rfl] at H; exact H
  clear H
  have H := H1
  clear H1
  obtain rfl := Option.some.inj H
  go_enter Try.func3, Try.ntmps3
  go_wp2_with (first | ((with_reducible refine gate_callee (f := 9) rfl ?_); refine goesL_ (some 14) rfl rfl Try.func9 (by kernel_rfl) rfl #[.slice A0 l0.length c0] rfl (by (try simp only [List.map_toArray, List.map_cons, List.map_nil]); first | done | rfl | (simp only [List.length_drop, List.length_take]; rfl)) ?_; (with_reducible refine (laws_big.calls _ _ l0 true _ ?side1 ?side2 A2.out).mono ?_); (case side1 => repeat (first | exact HR0.out | (with_reducible refine Kd.C_alloc ?_ _) | (with_reducible refine Kd.C_drewN ?_ _) | (with_reducible refine Kd.C_drew ?_))); (case side2 => exact HC0.out); rintro e w' ⟨rfl, ⟨nd, rfl⟩⟩; refine ⟨_, rfl, ?_⟩))
  go_ret
  exact ⟨by first | rfl | (simp [errW_none, errW_some] <;> rfl) | (simp [*, errW_none, errW_some] <;> rfl), by repeat (first | (with_reducible first | exact HB.out | apply below_alloc | apply pw_below_drewN | apply below_drew1) | exact HB.out)⟩
 ·replace c3 := Bool.eq_false_iff.mpr c3
  subst c3
  have H1 : ((spec_DrawTable.f k l0).bind fun bt188 => ((impl_Reliable.f k bt188.1).bind fun t192 => ((spec_Reliable.f k bt188.1).bind fun t195 => (if (t195.length : Int) = 0 then (if (t192.length : Int) = 0 then ((impl_Table.f k bt188.1 bt188.2).bind fun bt198 => (if (bt198.1 == 0 && (bt198.2.1 == 0 && (bt198.2.2.1 == 0 && (bt198.2.2.2 == 0)))) = true then ((impl_Brier.f k bt188.1).bind fun t202 => (some (t202 == (-1)))) else (some false))) else (some false)) else (laws_FnTables.l0 k bt188.1 bt188.2 t192 0 0))))) = some r := by rw [if_neg (show ¬ (false = true) by decide)] at H; exact H
  clear H
  have H := H1
  clear H1
  replace H := Option.bind_eq_some_iff.mp H
  obtain ⟨⟨t188, t189⟩, A40, H⟩ := H
  replace H : ((impl_Reliable.f k t188).bind fun t192 => ((spec_Reliable.f k t188).bind fun t195 => (if (t195.length : Int) = 0 then (if (t192.length : Int) = 0 then ((impl_Table.f k t188 t189).bind fun bt198 => (if (bt198.1 == 0 && (bt198.2.1 == 0 && (bt198.2.2.1 == 0 && (bt198.2.2.2 == 0)))) = true then ((impl_Brier.f k t188).bind fun t202 => (some (t202 == (-1)))) else (some false))) else (some false)) else (laws_FnTables.l0 k t188 t189 t192 0 0)))) = some r := H
  have A4 := Aside0.mk A40
  clear A40
  replace H := Option.bind_eq_some_iff.mp H
  obtain ⟨t192, A50, H⟩ := H
  replace H : ((spec_Reliable.f k t188).bind fun t195 => (if (t195.length : Int) = 0 then (if (t192.length : Int) = 0 then ((impl_Table.f k t188 t189).bind fun bt198 => (if (bt198.1 == 0 && (bt198.2.1 == 0 && (bt198.2.2.1 == 0 && (bt198.2.2.2 == 0)))) = true then ((impl_Brier.f k t188).bind fun t202 => (some (t202 == (-1)))) else (some false))) else (some false)) else (laws_FnTables.l0 k t188 t189 t192 0 0))) = some r := H
  have A5 := Aside0.mk A50
  clear A50
  replace H := Option.bind_eq_some_iff.mp H
  obtain ⟨t195, A60, H⟩ := H
  replace H : (if (t195.length : Int) = 0 then (if (t192.length : Int) = 0 then ((impl_Table.f k t188 t189).bind fun bt198 => (if (bt198.1 == 0 && (bt198.2.1 == 0 && (bt198.2.2.1 == 0 && (bt198.2.2.2 == 0)))) = true then ((impl_Brier.f k t188).bind fun t202 => (some (t202 == (-1)))) else (some false))) else (some false)) else (laws_FnTables.l0 k t188 t189 t192 0 0)) = some r := H
  have A6 := Aside0.mk A60
  clear A60
  by_cases c7 : (t195.length : Int) = 0
  ·rw [if_pos c7] at H
   have c7b0 : ((t195.length : Int) == 0) = true := beq_iff_eq.mpr c7
   have c7b1 : ((t195.length : Int) != 0) = false := bne_eq_false_iff_eq.mpr c7
   clear c7
   by_cases c8 : (t192.length : Int) = 0
   ·rw [if_pos c8] at H
    have c8b0 : ((t192.length : Int) == 0) = true := beq_iff_eq.mpr c8
    have c8b1 : ((t192.length : Int) != 0) = false := bne_eq_false_iff_eq.mpr c8
    clear c8
    replace H := Option.bind_eq_some_iff.mp H
    obtain ⟨⟨t198, t199, t200, t201⟩, A90, H⟩ := H
    replace H : (if (t198 == 0 && (t199 == 0 && (t200 == 0 && (t201 == 0)))) = true then ((impl_Brier.f k t188).bind fun t202 => (some (t202 == (-1)))) else (some false)) = some r := H
    have A9 := Aside0.mk A90
    clear A90
    by_cases c10 : (t198 == 0 && (t199 == 0 && (t200 == 0 && (t201 == 0)))) = true
    ·rw [if_pos c10] at H
     have c10b0 : (t198 == 0 && (t199 == 0 && (t200 == 0 && (t201 == 0)))) = true := c10
     (try (have c10b1 : decide (t198 = 0 && (t199 == 0 && (t200 == 0 && (t201 == 0)))) = true := by simpa using c10))
     (try (have c10b2 : (t198 == 0 && (t199 == 0 && (t200 == 0 && (t201 == 0)))) = true := by simpa using c10))
     clear c10
     replace H := Option.bind_eq_some_iff.mp H
     obtain ⟨t202, A110, H⟩ := H
     replace H : (some (t202 == (-1))) = some r := H
     have A11 := Aside0.mk A110
     clear A110
     obtain rfl := Option.some.inj H
     go_enter Try.func3, Try.ntmps3
     go_wp2_with (first | ((with_reducible refine gate_callee (f := 9) rfl ?_); refine goesL_ (some 14) rfl rfl Try.func9 (by kernel_rfl) rfl #[.slice A0 l0.length c0] rfl (by (try simp only [List.map_toArray, List.map_cons, List.map_nil]); first | done | rfl | (simp only [List.length_drop, List.length_take]; rfl)) ?_; (with_reducible refine (laws_big.calls _ _ l0 false _ ?side1 ?side2 A2.out).mono ?_); (case side1 => repeat (first | exact HR0.out | (with_reducible refine Kd.C_alloc ?_ _) | (with_reducible refine Kd.C_drewN ?_ _) | (with_reducible refine Kd.C_drew ?_))); (case side2 => exact HC0.out); rintro e w' ⟨rfl, ⟨nd, rfl⟩⟩; refine ⟨_, rfl, ?_⟩) | ((with_reducible refine gate_callee (f := 10) rfl ?_); refine goesL_ (some 17) rfl rfl Try.func10 (by kernel_rfl) rfl #[.slice A0 l0.length c0] rfl (by (try simp only [List.map_toArray, List.map_cons, List.map_nil]); first | done | rfl | (simp only [List.length_drop, List.length_take]; rfl)) ?_; (with_reducible refine (spec_DrawTable.calls k _ _ l0 t188 t189 _ ?side1 ?side2 A4.out).mono ?_); (case side1 => repeat (first | exact HR0.out | (with_reducible refine Kd.C_alloc ?_ _) | (with_reducible refine Kd.C_drewN ?_ _) | (with_reducible refine Kd.C_drew ?_))); (case side2 => exact HC0.out); rintro e w12 ⟨v190, rfl, ho0, hb⟩; refine ⟨_, rfl, ?_⟩; have n0_ := Aside0.mk (Kd.R_lower ho0 (below_size (by repeat (first | (with_reducible first | exact HB.out | apply below_alloc | apply pw_below_drewN | apply below_drew1) | exact HB.out)))); have n1_ := Aside0.mk (below_step (by repeat (first | (with_reducible first | exact HB.out | apply below_alloc | apply pw_below_drewN | apply below_drew1) | exact HB.out)) hb); clear HB; have HO191 := n0_; have HB := n1_; clear n0_ n1_; (try clear hb); (try clear hb2); (try clear hk); (try clear hi); (try clear ho0); obtain ⟨Ao13, co13, eo13⟩ := Kd.R_slice HO191.out; subst eo13) | ((with_reducible refine gate_callee (f := 11) rfl ?_); refine goesL_ (some 21) rfl rfl Try.func11 (by kernel_rfl) rfl #[.slice Ao13 t188.length co13] rfl (by (try simp only [List.map_toArray, List.map_cons, List.map_nil]); first | done | rfl | (simp only [List.length_drop, List.length_take]; rfl)) ?_; (with_reducible refine (impl_Reliable.calls k _ _ t188 t192 _ ?side1 ?side2 A5.out).mono ?_); (case side1 => repeat (first | exact (Kd.R_reads' HO191.out).2.2 | (with_reducible refine Kd.C_alloc ?_ _) | (with_reducible refine Kd.C_drewN ?_ _) | (with_reducible refine Kd.C_drew ?_))); (case side2 => exact (Kd.R_reads' HO191.out).2.1); rintro e w14 ⟨v193, rfl, ho0, hb⟩; refine ⟨_, rfl, ?_⟩; have n0_ := Aside0.mk (Kd.R_below (by (with_reducible repeat (first | apply Kd.R_alloc | apply Kd.R_drewN | apply Kd.R_drew)); exact HO191.out) hb); have n1_ := Aside0.mk (Kd.R_lower ho0 (below_size (by repeat (first | (with_reducible first | exact HB.out | apply below_alloc | apply pw_below_drewN | apply below_drew1) | exact HB.out)))); have n2_ := Aside0.mk (below_step (by repeat (first | (with_reducible first | exact HB.out | apply below_alloc | apply pw_below_drewN | apply below_drew1) | exact HB.out)) hb); clear HO191; clear HB; have HO191 := n0_; have HO194 := n1_; have HB := n2_; clear n0_ n1_ n2_; (try clear hb); (try clear hb2); (try clear hk); (try clear hi); (try clear ho0)) | ((with_reducible refine gate_callee (f := 12) rfl ?_); refine goesL_ (some 23) rfl rfl Try.func12 (by kernel_rfl) rfl #[.slice Ao13 t188.length co13] rfl (by (try simp only [List.map_toArray, List.map_cons, List.map_nil]); first | done | rfl | (simp only [List.length_drop, List.length_take]; rfl)) ?_; (with_reducible refine (spec_Reliable.calls k _ _ t188 t195 _ ?side1 ?side2 A6.out).mono ?_); (case side1 => repeat (first | exact (Kd.R_reads' HO191.out).2.2 | (with_reducible refine Kd.C_alloc ?_ _) | (with_reducible refine Kd.C_drewN ?_ _) | (with_reducible refine Kd.C_drew ?_))); (case side2 => exact (Kd.R_reads' HO191.out).2.1); rintro e w15 ⟨v196, rfl, ho0, hb⟩; refine ⟨_, rfl, ?_⟩; have n0_ := Aside0.mk (Kd.R_below (by (with_reducible repeat (first | apply Kd.R_alloc | apply Kd.R_drewN | apply Kd.R_drew)); exact HO191.out) hb); have n1_ := Aside0.mk (Kd.R_elder' (by (with_reducible repeat (first | apply Kd.R_alloc | apply Kd.R_drewN | apply Kd.R_drew)); exact HO194.out) (Kd.R_base ho0) hb); have n2_ := Aside0.mk (Kd.R_lower (Kd.R_new' ho0 (Kd.R_lt (by (with_reducible repeat (first | apply Kd.R_alloc | apply Kd.R_drewN | apply Kd.R_drew)); exact HO194.out))) (below_size (by repeat (first | (with_reducible first | exact HB.out | apply below_alloc | apply pw_below_drewN | apply below_drew1) | exact HB.out)))); have n3_ := Aside0.mk (below_step (by repeat (first | (with_reducible first | exact HB.out | apply below_alloc | apply pw_below_drewN | apply below_drew1) | exact HB.out)) hb); clear HO191; clear HO194; clear HB; have HO191 := n0_; have HO194 := n1_; have HO197 := n2_; have HB := n3_; clear n0_ n1_ n2_ n3_; (try clear hb); (try clear hb2); (try clear hk); (try clear hi); (try clear ho0); obtain ⟨Ao16, co16, eo16⟩ := Kd.R_slice HO197.out; subst eo16; obtain ⟨Ao17, co17, eo17⟩ := Kd.R_slice HO194.out; subst eo17) | (go_at_call 13; (with_reducible refine (impl_Table.calls k _ _ t188 t189 t198 t199 t200 t201 _ ?side1 ?side2 A9.out).mono ?_); (case side1 => repeat (first | exact (Kd.R_reads' HO191.out).2.2 | (with_reducible refine Kd.C_alloc ?_ _) | (with_reducible refine Kd.C_drewN ?_ _) | (with_reducible refine Kd.C_drew ?_))); (case side2 => exact (Kd.R_reads' HO191.out).2.1); rintro e w18 ⟨rfl, hb⟩; have n0_ := Aside0.mk (Kd.R_below (by (with_reducible repeat (first | apply Kd.R_alloc | apply Kd.R_drewN | apply Kd.R_drew)); exact HO191.out) hb); have n1_ := Aside0.mk (Kd.R_below (by (with_reducible repeat (first | apply Kd.R_alloc | apply Kd.R_drewN | apply Kd.R_drew)); exact HO194.out) hb); have n2_ := Aside0.mk (Kd.R_below (by (with_reducible repeat (first | apply Kd.R_alloc | apply Kd.R_drewN | apply Kd.R_drew)); exact HO197.out) hb); have n3_ := Aside0.mk (below_step (by repeat (first | (with_reducible first | exact HB.out | apply below_alloc | apply pw_below_drewN | apply below_drew1) | exact HB.out)) hb); clear HO191; clear HO194; clear HO197; clear HB; have HO191 := n0_; have HO194 := n1_; have HO197 := n2_; have HB := n3_; clear n0_ n1_ n2_ n3_; (try clear hb); (try clear hb2); (try clear hk); (try clear hi)) | (go_at_call 14; (with_reducible refine (impl_Brier.calls k _ _ t188 t202 _ ?side1 ?side2 A11.out).mono ?_); (case side1 => repeat (first | exact (Kd.R_reads' HO191.out).2.2 | (with_reducible refine Kd.C_alloc ?_ _) | (with_reducible refine Kd.C_drewN ?_ _) | (with_reducible refine Kd.C_drew ?_))); (case side2 => exact (Kd.R_reads' HO191.out).2.1); rintro e w19 ⟨rfl, hb⟩; have n0_ := Aside0.mk (Kd.R_below (by (with_reducible repeat (first | apply Kd.R_alloc | apply Kd.R_drewN | apply Kd.R_drew)); exact HO191.out) hb); have n1_ := Aside0.mk (Kd.R_below (by (with_reducible repeat (first | apply Kd.R_alloc | apply Kd.R_drewN | apply Kd.R_drew)); exact HO194.out) hb); have n2_ := Aside0.mk (Kd.R_below (by (with_reducible repeat (first | apply Kd.R_alloc | apply Kd.R_drewN | apply Kd.R_drew)); exact HO197.out) hb); have n3_ := Aside0.mk (below_step (by repeat (first | (with_reducible first | exact HB.out | apply below_alloc | apply pw_below_drewN | apply below_drew1) | exact HB.out)) hb); clear HO191; clear HO194; clear HO197; clear HB; have HO191 := n0_; have HO194 := n1_; have HO197 := n2_; have HB := n3_; clear n0_ n1_ n2_ n3_; (try clear hb); (try clear hb2); (try clear hk); (try clear hi)))
     go_ret
     exact ⟨by first | rfl | (simp [errW_none, errW_some] <;> rfl) | (simp [*, errW_none, errW_some] <;> rfl), by repeat (first | (with_reducible first | exact HB.out | apply below_alloc | apply pw_below_drewN | apply below_drew1) | exact HB.out)⟩
    ·rw [if_neg c10] at H
     have c10b0 : (t198 == 0 && (t199 == 0 && (t200 == 0 && (t201 == 0)))) = false := by simpa using c10
     (try (have c10b1 : decide (t198 = 0 && (t199 == 0 && (t200 == 0 && (t201 == 0)))) = false := by simpa using c10))
     (try (have c10b2 : (t198 == 0 && (t199 == 0 && (t200 == 0 && (t201 == 0)))) = false := by simpa using c10))
     (try (have c10b3 : ¬ (t198 = 0 && (t199 == 0 && (t200 == 0 && (t201 == 0)))) := by simpa using c10))
     clear c10
     obtain rfl := Option.some.inj H
     go_enter Try.func3, Try.ntmps3
     go_wp2_with (first | ((with_reducible refine gate_callee (f := 9) rfl ?_); refine goesL_ (some 14) rfl rfl Try.func9 (by kernel_rfl) rfl #[.slice A0 l0.length c0] rfl (by (try simp only [List.map_toArray, List.map_cons, List.map_nil]); first | done | rfl | (simp only [List.length_drop, List.length_take]; rfl)) ?_; (with_reducible refine (laws_big.calls _ _ l0 false _ ?side1 ?side2 A2.out).mono ?_); (case side1 => repeat (first | exact HR0.out | (with_reducible refine Kd.C_alloc ?_ _) | (with_reducible refine Kd.C_drewN ?_ _) | (with_reducible refine Kd.C_drew ?_))); (case side2 => exact HC0.out); rintro e w' ⟨rfl, ⟨nd, rfl⟩⟩; refine ⟨_, rfl, ?_⟩) | ((with_reducible refine gate_callee (f := 10) rfl ?_); refine goesL_ (some 17) rfl rfl Try.func10 (by kernel_rfl) rfl #[.slice A0 l0.length c0] rfl (by (try simp only [List.map_toArray, List.map_cons, List.map_nil]); first | done | rfl | (simp only [List.length_drop, List.length_take]; rfl)) ?_; (with_reducible refine (spec_DrawTable.calls k _ _ l0 t188 t189 _ ?side1 ?side2 A4.out).mono ?_); (case side1 => repeat (first | exact HR0.out | (with_reducible refine Kd.C_alloc ?_ _) | (with_reducible refine Kd.C_drewN ?_ _) | (with_reducible refine Kd.C_drew ?_))); (case side2 => exact HC0.out); rintro e w20 ⟨v190, rfl, ho0, hb⟩; refine ⟨_, rfl, ?_⟩; have n0_ := Aside0.mk (Kd.R_lower ho0 (below_size (by repeat (first | (with_reducible first | exact HB.out | apply below_alloc | apply pw_below_drewN | apply below_drew1) | exact HB.out)))); have n1_ := Aside0.mk (below_step (by repeat (first | (with_reducible first | exact HB.out | apply below_alloc | apply pw_below_drewN | apply below_drew1) | exact HB.out)) hb); clear HB; have HO191 := n0_; have HB := n1_; clear n0_ n1_; (try clear hb); (try clear hb2); (try clear hk); (try clear hi); (try clear ho0); obtain ⟨Ao21, co21, eo21⟩ := Kd.R_slice HO191.out; subst eo21) | ((with_reducible refine gate_callee (f := 11) rfl ?_); refine goesL_ (some 21) rfl rfl Try.func11 (by kernel_rfl) rfl #[.slice Ao21 t188.length co21] rfl (by (try simp only [List.map_toArray, List.map_cons, List.map_nil]); first | done | rfl | (simp only [List.length_drop, List.length_take]; rfl)) ?_; (with_reducible refine (impl_Reliable.calls k _ _ t188 t192 _ ?side1 ?side2 A5.out).mono ?_); (case side1 => repeat (first | exact (Kd.R_reads' HO191.out).2.2 | (with_reducible refine Kd.C_alloc ?_ _) | (with_reducible refine Kd.C_drewN ?_ _) | (with_reducible refine Kd.C_drew ?_))); (case side2 => exact (Kd.R_reads' HO191.out).2.1); rintro e w22 ⟨v193, rfl, ho0, hb⟩; refine ⟨_, rfl, ?_⟩; have n0_ := Aside0.mk (Kd.R_below (by (with_reducible repeat (first | apply Kd.R_alloc | apply Kd.R_drewN | apply Kd.R_drew)); exact HO191.out) hb); have n1_ := Aside0.mk (Kd.R_lower ho0 (below_size (by repeat (first | (with_reducible first | exact HB.out | apply below_alloc | apply pw_below_drewN | apply below_drew1) | exact HB.out)))); have n2_ := Aside0.mk (below_step (by repeat (first | (with_reducible first | exact HB.out | apply below_alloc | apply pw_below_drewN | apply below_drew1) | exact HB.out)) hb); clear HO191; clear HB; have HO191 := n0_; have HO194 := n1_; have HB := n2_; clear n0_ n1_ n2_; (try clear hb); (try clear hb2); (try clear hk); (try clear hi); (try clear ho0)) | ((with_reducible refine gate_callee (f := 12) rfl ?_); refine goesL_ (some 23) rfl rfl Try.func12 (by kernel_rfl) rfl #[.slice Ao21 t188.length co21] rfl (by (try simp only [List.map_toArray, List.map_cons, List.map_nil]); first | done | rfl | (simp only [List.length_drop, List.length_take]; rfl)) ?_; (with_reducible refine (spec_Reliable.calls k _ _ t188 t195 _ ?side1 ?side2 A6.out).mono ?_); (case side1 => repeat (first | exact (Kd.R_reads' HO191.out).2.2 | (with_reducible refine Kd.C_alloc ?_ _) | (with_reducible refine Kd.C_drewN ?_ _) | (with_reducible refine Kd.C_drew ?_))); (case side2 => exact (Kd.R_reads' HO191.out).2.1); rintro e w23 ⟨v196, rfl, ho0, hb⟩; refine ⟨_, rfl, ?_⟩; have n0_ := Aside0.mk (Kd.R_below (by (with_reducible repeat (first | apply Kd.R_alloc | apply Kd.R_drewN | apply Kd.R_drew)); exact HO191.out) hb); have n1_ := Aside0.mk (Kd.R_elder' (by (with_reducible repeat (first | apply Kd.R_alloc | apply Kd.R_drewN | apply Kd.R_drew)); exact HO194.out) (Kd.R_base ho0) hb); have n2_ := Aside0.mk (Kd.R_lower (Kd.R_new' ho0 (Kd.R_lt (by (with_reducible repeat (first | apply Kd.R_alloc | apply Kd.R_drewN | apply Kd.R_drew)); exact HO194.out))) (below_size (by repeat (first | (with_reducible first | exact HB.out | apply below_alloc | apply pw_below_drewN | apply below_drew1) | exact HB.out)))); have n3_ := Aside0.mk (below_step (by repeat (first | (with_reducible first | exact HB.out | apply below_alloc | apply pw_below_drewN | apply below_drew1) | exact HB.out)) hb); clear HO191; clear HO194; clear HB; have HO191 := n0_; have HO194 := n1_; have HO197 := n2_; have HB := n3_; clear n0_ n1_ n2_ n3_; (try clear hb); (try clear hb2); (try clear hk); (try clear hi); (try clear ho0); obtain ⟨Ao24, co24, eo24⟩ := Kd.R_slice HO197.out; subst eo24; obtain ⟨Ao25, co25, eo25⟩ := Kd.R_slice HO194.out; subst eo25) | (go_at_call 13; (with_reducible refine (impl_Table.calls k _ _ t188 t189 t198 t199 t200 t201 _ ?side1 ?side2 A9.out).mono ?_); (case side1 => repeat (first | exact (Kd.R_reads' HO191.out).2.2 | (with_reducible refine Kd.C_alloc ?_ _) | (with_reducible refine Kd.C_drewN ?_ _) | (with_reducible refine Kd.C_drew ?_))); (case side2 => exact (Kd.R_reads' HO191.out).2.1); rintro e w26 ⟨rfl, hb⟩; have n0_ := Aside0.mk (Kd.R_below (by (with_reducible repeat (first | apply Kd.R_alloc | apply Kd.R_drewN | apply Kd.R_drew)); exact HO191.out) hb); have n1_ := Aside0.mk (Kd.R_below (by (with_reducible repeat (first | apply Kd.R_alloc | apply Kd.R_drewN | apply Kd.R_drew)); exact HO194.out) hb); have n2_ := Aside0.mk (Kd.R_below (by (with_reducible repeat (first | apply Kd.R_alloc | apply Kd.R_drewN | apply Kd.R_drew)); exact HO197.out) hb); have n3_ := Aside0.mk (below_step (by repeat (first | (with_reducible first | exact HB.out | apply below_alloc | apply pw_below_drewN | apply below_drew1) | exact HB.out)) hb); clear HO191; clear HO194; clear HO197; clear HB; have HO191 := n0_; have HO194 := n1_; have HO197 := n2_; have HB := n3_; clear n0_ n1_ n2_ n3_; (try clear hb); (try clear hb2); (try clear hk); (try clear hi)))
     go_ret
     exact ⟨by first | rfl | (simp [errW_none, errW_some] <;> rfl) | (simp [*, errW_none, errW_some] <;> rfl), by repeat (first | (with_reducible first | exact HB.out | apply below_alloc | apply pw_below_drewN | apply below_drew1) | exact HB.out)⟩
   ·rw [if_neg c8] at H
    have c8b0 : ((t192.length : Int) == 0) = false := beq_eq_false_iff_ne.mpr c8
    have c8b1 : ((t192.length : Int) != 0) = true := bne_iff_ne.mpr c8
    have c8b2 : ¬ (t192 = []) := fun h_ => c8 (by rw [h_]; rfl)
    obtain rfl := Option.some.inj H
    go_enter Try.func3, Try.ntmps3
    go_wp2_with (first | ((with_reducible refine gate_callee (f := 9) rfl ?_); refine goesL_ (some 14) rfl rfl Try.func9 (by kernel_rfl) rfl #[.slice A0 l0.length c0] rfl (by (try simp only [List.map_toArray, List.map_cons, List.map_nil]); first | done | rfl | (simp only [List.length_drop, List.length_take]; rfl)) ?_; (with_reducible refine (laws_big.calls _ _ l0 false _ ?side1 ?side2 A2.out).mono ?_); (case side1 => repeat (first | exact HR0.out | (with_reducible refine Kd.C_alloc ?_ _) | (with_reducible refine Kd.C_drewN ?_ _) | (with_reducible refine Kd.C_drew ?_))); (case side2 => exact HC0.out); rintro e w' ⟨rfl, ⟨nd, rfl⟩⟩; refine ⟨_, rfl, ?_⟩) | ((with_reducible refine gate_callee (f := 10) rfl ?_); refine goesL_ (some 17) rfl rfl Try.func10 (by kernel_rfl) rfl #[.slice A0 l0.length c0] rfl (by (try simp only [List.map_toArray, List.map_cons, List.map_nil]); first | done | rfl | (simp only [List.length_drop, List.length_take]; rfl)) ?_; (with_reducible refine (spec_DrawTable.calls k _ _ l0 t188 t189 _ ?side1 ?side2 A4.out).mono ?_); (case side1 => repeat (first | exact HR0.out | (with_reducible refine Kd.C_alloc ?_ _) | (with_reducible refine Kd.C_drewN ?_ _) | (with_reducible refine Kd.C_drew ?_))); (case side2 => exact HC0.out); rintro e w27 ⟨v190, rfl, ho0, hb⟩; refine ⟨_, rfl, ?_⟩; have n0_ := Aside0.mk (Kd.R_lower ho0 (below_size (by repeat (first | (with_reducible first | exact HB.out | apply below_alloc | apply pw_below_drewN | apply below_drew1) | exact HB.out)))); have n1_ := Aside0.mk (below_step (by repeat (first | (with_reducible first | exact HB.out | apply below_alloc | apply pw_below_drewN | apply below_drew1) | exact HB.out)) hb); clear HB; have HO191 := n0_; have HB := n1_; clear n0_ n1_; (try clear hb); (try clear hb2); (try clear hk); (try clear hi); (try clear ho0); obtain ⟨Ao28, co28, eo28⟩ := Kd.R_slice HO191.out; subst eo28) | ((with_reducible refine gate_callee (f := 11) rfl ?_); refine goesL_ (some 21) rfl rfl Try.func11 (by kernel_rfl) rfl #[.slice Ao28 t188.length co28] rfl (by (try simp only [List.map_toArray, List.map_cons, List.map_nil]); first | done | rfl | (simp only [List.length_drop, List.length_take]; rfl)) ?_; (with_reducible refine (impl_Reliable.calls k _ _ t188 t192 _ ?side1 ?side2 A5.out).mono ?_); (case side1 => repeat (first | exact (Kd.R_reads' HO191.out).2.2 | (with_reducible refine Kd.C_alloc ?_ _) | (with_reducible refine Kd.C_drewN ?_ _) | (with_reducible refine Kd.C_drew ?_))); (case side2 => exact (Kd.R_reads' HO191.out).2.1); rintro e w29 ⟨v193, rfl, ho0, hb⟩; refine ⟨_, rfl, ?_⟩; have n0_ := Aside0.mk (Kd.R_below (by (with_reducible repeat (first | apply Kd.R_alloc | apply Kd.R_drewN | apply Kd.R_drew)); exact HO191.out) hb); have n1_ := Aside0.mk (Kd.R_lower ho0 (below_size (by repeat (first | (with_reducible first | exact HB.out | apply below_alloc | apply pw_below_drewN | apply below_drew1) | exact HB.out)))); have n2_ := Aside0.mk (below_step (by repeat (first | (with_reducible first | exact HB.out | apply below_alloc | apply pw_below_drewN | apply below_drew1) | exact HB.out)) hb); clear HO191; clear HB; have HO191 := n0_; have HO194 := n1_; have HB := n2_; clear n0_ n1_ n2_; (try clear hb); (try clear hb2); (try clear hk); (try clear hi); (try clear ho0)) | ((with_reducible refine gate_callee (f := 12) rfl ?_); refine goesL_ (some 23) rfl rfl Try.func12 (by kernel_rfl) rfl #[.slice Ao28 t188.length co28] rfl (by (try simp only [List.map_toArray, List.map_cons, List.map_nil]); first | done | rfl | (simp only [List.length_drop, List.length_take]; rfl)) ?_; (with_reducible refine (spec_Reliable.calls k _ _ t188 t195 _ ?side1 ?side2 A6.out).mono ?_); (case side1 => repeat (first | exact (Kd.R_reads' HO191.out).2.2 | (with_reducible refine Kd.C_alloc ?_ _) | (with_reducible refine Kd.C_drewN ?_ _) | (with_reducible refine Kd.C_drew ?_))); (case side2 => exact (Kd.R_reads' HO191.out).2.1); rintro e w30 ⟨v196, rfl, ho0, hb⟩; refine ⟨_, rfl, ?_⟩; have n0_ := Aside0.mk (Kd.R_below (by (with_reducible repeat (first | apply Kd.R_alloc | apply Kd.R_drewN | apply Kd.R_drew)); exact HO191.out) hb); have n1_ := Aside0.mk (Kd.R_elder' (by (with_reducible repeat (first | apply Kd.R_alloc | apply Kd.R_drewN | apply Kd.R_drew)); exact HO194.out) (Kd.R_base ho0) hb); have n2_ := Aside0.mk (Kd.R_lower (Kd.R_new' ho0 (Kd.R_lt (by (with_reducible repeat (first | apply Kd.R_alloc | apply Kd.R_drewN | apply Kd.R_drew)); exact HO194.out))) (below_size (by repeat (first | (with_reducible first | exact HB.out | apply below_alloc | apply pw_below_drewN | apply below_drew1) | exact HB.out)))); have n3_ := Aside0.mk (below_step (by repeat (first | (with_reducible first | exact HB.out | apply below_alloc | apply pw_below_drewN | apply below_drew1) | exact HB.out)) hb); clear HO191; clear HO194; clear HB; have HO191 := n0_; have HO194 := n1_; have HO197 := n2_; have HB := n3_; clear n0_ n1_ n2_ n3_; (try clear hb); (try clear hb2); (try clear hk); (try clear hi); (try clear ho0); obtain ⟨Ao31, co31, eo31⟩ := Kd.R_slice HO197.out; subst eo31; obtain ⟨Ao32, co32, eo32⟩ := Kd.R_slice HO194.out; subst eo32))
    go_ret
    exact ⟨by first | rfl | (simp [errW_none, errW_some] <;> rfl) | (simp [*, errW_none, errW_some] <;> rfl), by repeat (first | (with_reducible first | exact HB.out | apply below_alloc | apply pw_below_drewN | apply below_drew1) | exact HB.out)⟩
  ·rw [if_neg c7] at H
   have c7b0 : ((t195.length : Int) == 0) = false := beq_eq_false_iff_ne.mpr c7
   have c7b1 : ((t195.length : Int) != 0) = true := bne_iff_ne.mpr c7
   have c7b2 : ¬ (t195 = []) := fun h_ => c7 (by rw [h_]; rfl)
   have H' := Aside0.mk H
   clear H
   go_enter Try.func3, Try.ntmps3
   go_wp2_with (first | ((with_reducible refine gate_callee (f := 9) rfl ?_); refine goesL_ (some 14) rfl rfl Try.func9 (by kernel_rfl) rfl #[.slice A0 l0.length c0] rfl (by (try simp only [List.map_toArray, List.map_cons, List.map_nil]); first | done | rfl | (simp only [List.length_drop, List.length_take]; rfl)) ?_; (with_reducible refine (laws_big.calls _ _ l0 false _ ?side1 ?side2 A2.out).mono ?_); (case side1 => repeat (first | exact HR0.out | (with_reducible refine Kd.C_alloc ?_ _) | (with_reducible refine Kd.C_drewN ?_ _) | (with_reducible refine Kd.C_drew ?_))); (case side2 => exact HC0.out); rintro e w' ⟨rfl, ⟨nd, rfl⟩⟩; refine ⟨_, rfl, ?_⟩) | ((with_reducible refine gate_callee (f := 10) rfl ?_); refine goesL_ (some 17) rfl rfl Try.func10 (by kernel_rfl) rfl #[.slice A0 l0.length c0] rfl (by (try simp only [List.map_toArray, List.map_cons, List.map_nil]); first | done | rfl | (simp only [List.length_drop, List.length_take]; rfl)) ?_; (with_reducible refine (spec_DrawTable.calls k _ _ l0 t188 t189 _ ?side1 ?side2 A4.out).mono ?_); (case side1 => repeat (first | exact HR0.out | (with_reducible refine Kd.C_alloc ?_ _) | (with_reducible refine Kd.C_drewN ?_ _) | (with_reducible refine Kd.C_drew ?_))); (case side2 => exact HC0.out); rintro e w33 ⟨v190, rfl, ho0, hb⟩; refine ⟨_, rfl, ?_⟩; have n0_ := Aside0.mk (Kd.R_lower ho0 (below_size (by repeat (first | (with_reducible first | exact HB.out | apply below_alloc | apply pw_below_drewN | apply below_drew1) | exact HB.out)))); have n1_ := Aside0.mk (below_step (by repeat (first | (with_reducible first | exact HB.out | apply below_alloc | apply pw_below_drewN | apply below_drew1) | exact HB.out)) hb); clear HB; have HO191 := n0_; have HB := n1_; clear n0_ n1_; (try clear hb); (try clear hb2); (try clear hk); (try clear hi); (try clear ho0); obtain ⟨Ao34, co34, eo34⟩ := Kd.R_slice HO191.out; subst eo34) | ((with_reducible refine gate_callee (f := 11) rfl ?_); refine goesL_ (some 21) rfl rfl Try.func11 (by kernel_rfl) rfl #[.slice Ao34 t188.length co34] rfl (by (try simp only [List.map_toArray, List.map_cons, List.map_nil]); first | done | rfl | (simp only [List.length_drop, List.length_take]; rfl)) ?_; (with_reducible refine (impl_Reliable.calls k _ _ t188 t192 _ ?side1 ?side2 A5.out).mono ?_); (case side1 => repeat (first | exact (Kd.R_reads' HO191.out).2.2 | (with_reducible refine Kd.C_alloc ?_ _) | (with_reducible refine Kd.C_drewN ?_ _) | (with_reducible refine Kd.C_drew ?_))); (case side2 => exact (Kd.R_reads' HO191.out).2.1); rintro e w35 ⟨v193, rfl, ho0, hb⟩; refine ⟨_, rfl, ?_⟩; have n0_ := Aside0.mk (Kd.R_below (by (with_reducible repeat (first | apply Kd.R_alloc | apply Kd.R_drewN | apply Kd.R_drew)); exact HO191.out) hb); have n1_ := Aside0.mk (Kd.R_lower ho0 (below_size (by repeat (first | (with_reducible first | exact HB.out | apply below_alloc | apply pw_below_drewN | apply below_drew1) | exact HB.out)))); have n2_ := Aside0.mk (below_step (by repeat (first | (with_reducible first | exact HB.out | apply below_alloc | apply pw_below_drewN | apply below_drew1) | exact HB.out)) hb); clear HO191; clear HB; have HO191 := n0_; have HO194 := n1_; have HB := n2_; clear n0_ n1_ n2_; (try clear hb); (try clear hb2); (try clear hk); (try clear hi); (try clear ho0)) | ((with_reducible refine gate_callee (f := 12) rfl ?_); refine goesL_ (some 23) rfl rfl Try.func12 (by kernel_rfl) rfl #[.slice Ao34 t188.length co34] rfl (by (try simp only [List.map_toArray, List.map_cons, List.map_nil]); first | done | rfl | (simp only [List.length_drop, List.length_take]; rfl)) ?_; (with_reducible refine (spec_Reliable.calls k _ _ t188 t195 _ ?side1 ?side2 A6.out).mono ?_); (case side1 => repeat (first | exact (Kd.R_reads' HO191.out).2.2 | (with_reducible refine Kd.C_alloc ?_ _) | (with_reducible refine Kd.C_drewN ?_ _) | (with_reducible refine Kd.C_drew ?_))); (case side2 => exact (Kd.R_reads' HO191.out).2.1); rintro e w36 ⟨v196, rfl, ho0, hb⟩; refine ⟨_, rfl, ?_⟩; have n0_ := Aside0.mk (Kd.R_below (by (with_reducible repeat (first | apply Kd.R_alloc | apply Kd.R_drewN | apply Kd.R_drew)); exact HO191.out) hb); have n1_ := Aside0.mk (Kd.R_elder' (by (with_reducible repeat (first | apply Kd.R_alloc | apply Kd.R_drewN | apply Kd.R_drew)); exact HO194.out) (Kd.R_base ho0) hb); have n2_ := Aside0.mk (Kd.R_lower (Kd.R_new' ho0 (Kd.R_lt (by (with_reducible repeat (first | apply Kd.R_alloc | apply Kd.R_drewN | apply Kd.R_drew)); exact HO194.out))) (below_size (by repeat (first | (with_reducible first | exact HB.out | apply below_alloc | apply pw_below_drewN | apply below_drew1) | exact HB.out)))); have n3_ := Aside0.mk (below_step (by repeat (first | (with_reducible first | exact HB.out | apply below_alloc | apply pw_below_drewN | apply below_drew1) | exact HB.out)) hb); clear HO191; clear HO194; clear HB; have HO191 := n0_; have HO194 := n1_; have HO197 := n2_; have HB := n3_; clear n0_ n1_ n2_ n3_; (try clear hb); (try clear hb2); (try clear hk); (try clear hi); (try clear ho0); obtain ⟨Ao37, co37, eo37⟩ := Kd.R_slice HO197.out; subst eo37))
   go_loopg [6, 7] k (fun kq v6 v7 w' => ∃ (x6_1 : Int) (x7_1 : Int), v6 = .int .i64 x6_1 ∧ v7 = .int .i64 x7_1 ∧ Aside0 (laws_FnTables.l0 kq t188 t189 t192 x6_1 x7_1 = some r) ∧ Aside0 (kq ≤ k) ∧ Aside0 (Kd.R k34 34 w' w.heap.size (fun _ => True) (.slice Ao34 t188.length co34) t188) ∧ Aside0 (Kd.R k36 36 w' w.heap.size (fun _ => True) v193 t192) ∧ Aside0 (Below w.heap.size w w'))
   case atStart => exact ⟨(0), (0), (by first | rfl | (simp; done) | (simp [*]; done)), (by first | rfl | (simp; done) | (simp [*]; done)), H', ⟨Nat.le_refl _⟩, ⟨by (with_reducible repeat (first | apply Kd.R_alloc | apply Kd.R_drewN | apply Kd.R_drew)); exact HO191.out⟩, ⟨by (with_reducible repeat (first | apply Kd.R_alloc | apply Kd.R_drewN | apply Kd.R_drew)); exact Kd.R_mono HO194.out (fun _ hk => trivial)⟩, ⟨by repeat (first | (with_reducible first | exact HB.out | apply below_alloc | apply pw_below_drewN | apply below_drew1) | exact HB.out)⟩⟩
   case round =>
    clear H'
    try clear c1
    try clear p2
    try clear c3
    try clear c7
    try clear c7b0
    try clear c7b1
    try clear c7b2
    try clear c8
    try clear c8b0
    try clear c8b1
    try clear c8b2
    try clear c9
    try clear c10
    try clear c10b0
    try clear c10b1
    try clear c10b2
    try clear c11
    try clear c12
    obtain ⟨x6_1, x7_1, rfl, rfl, HA, HK1, HO_3, HO_5, HB⟩ := hrel
    cases gk with
    | zero => exact absurd HA.out (by simp [laws_FnTables.l0])
    | succ k1 =>
     have H := HA.out
     clear HA
     simp only [laws_FnTables.l0] at H
     by_cases c38 : x7_1 < (t188.length : Int)
     ·rw [if_pos c38] at H
      have c38b0 : decide (x7_1 < (t188.length : Int)) = true := decide_eq_true c38
      clear c38
      by_cases c39 : 0 ≤ x7_1
      ·rw [if_pos c39] at H
       have c39b0 : decide (0 ≤ x7_1) = true := decide_eq_true c39
       clear c39
       obtain ⟨bq40, hbq40⟩ : ∃ b_ : Bool, b_ = ((rd_T34 t188 x7_1).f1) := ⟨_, rfl⟩
       replace H : (if bq40 = true then (laws_FnTables.l0 k1 t188 t189 t192 (wrap64 (x6_1 + 1)) (wrap64 (x7_1 + 1))) else (laws_FnTables.l0 k1 t188 t189 t192 x6_1 (wrap64 (x7_1 + 1)))) = some r := by rw [← hbq40] at H; exact H
       have Nbq40 := Aside0.mk hbq40
       clear hbq40
       by_cases c41 : bq40 = true
       ·subst c41
        have H1 : (laws_FnTables.l0 k1 t188 t189 t192 (wrap64 (x6_1 + 1)) (wrap64 (x7_1 + 1))) = some r := by rw [if_pos rfl] at H; exact H
        clear H
        have H := H1
        clear H1
        have H' := Aside0.mk H
        clear H
        have p203 : 0 ≤ (x7_1 : Int) := of_decide_eq_true (by first | (with_reducible assumption) | assumption)
        have q203 : x7_1 < (t188.length : Int) := of_decide_eq_true (by first | (with_reducible assumption) | assumption)
        obtain ⟨ad203, e203, hx203_0, hx203_1⟩ := at_T34 (Kd.R_reads' HO_3.out).2.2 x7_1 p203 q203
        (try rw [← Nbq40.out] at hx203_1)
        cases e203
        replace p203 := eq_true p203
        replace q203 := eq_true q203
        go_wp2
        go_roundg k1
        case measure => have := HK1.out; omega
        case rel => exact ⟨(wrap64 (x6_1 + 1)), (wrap64 (x7_1 + 1)), (by first | rfl | (simp; done) | (simp [*]; done)), (by first | rfl | (simp; done) | (simp [*]; done)), H', ⟨by have := HK1.out; omega⟩, ⟨by (with_reducible repeat (first | apply Kd.R_alloc | apply Kd.R_drewN | apply Kd.R_drew)); exact HO_3.out⟩, ⟨by (with_reducible repeat (first | apply Kd.R_alloc | apply Kd.R_drewN | apply Kd.R_drew)); exact HO_5.out⟩, ⟨by repeat (first | (with_reducible first | exact HB.out | apply below_alloc | apply pw_below_drewN | apply below_drew1) | exact HB.out)⟩⟩
       ·replace c41 := Bool.eq_false_iff.mpr c41
        subst c41
        have H1 : (laws_FnTables.l0 k1 t188 t189 t192 x6_1 (wrap64 (x7_1 + 1))) = some r := by rw [if_neg (show ¬ (false = true) by decide)] at H; exact H
        clear H
        have H := H1
        clear H1
        have H' := Aside0.mk H
        clear H
        have p203 : 0 ≤ (x7_1 : Int) := of_decide_eq_true (by first | (with_reducible assumption) | assumption)
        have q203 : x7_1 < (t188.length : Int) := of_decide_eq_true (by first | (with_reducible assumption) | assumption)
        obtain ⟨ad203, e203, hx203_0, hx203_1⟩ := at_T34 (Kd.R_reads' HO_3.out).2.2 x7_1 p203 q203
        (try rw [← Nbq40.out] at hx203_1)
        cases e203
        replace p203 := eq_true p203
        replace q203 := eq_true q203
        go_wp2
        go_roundg k1
        case measure => have := HK1.out; omega
        case rel => exact ⟨(x6_1), (wrap64 (x7_1 + 1)), (by first | rfl | (simp; done) | (simp [*]; done)), (by first | rfl | (simp; done) | (simp [*]; done)), H', ⟨by have := HK1.out; omega⟩, ⟨by (with_reducible repeat (first | apply Kd.R_alloc | apply Kd.R_drewN | apply Kd.R_drew)); exact HO_3.out⟩, ⟨by (with_reducible repeat (first | apply Kd.R_alloc | apply Kd.R_drewN | apply Kd.R_drew)); exact HO_5.out⟩, ⟨by repeat (first | (with_reducible first | exact HB.out | apply below_alloc | apply pw_below_drewN | apply below_drew1) | exact HB.out)⟩⟩
      ·rw [if_neg c39] at H
       exact absurd H (by simp)
     ·rw [if_neg c38] at H
      have c38b0 : decide (x7_1 < (t188.length : Int)) = false := decide_eq_false c38
      clear c38
      replace H := Option.bind_eq_some_iff.mp H
      obtain ⟨⟨t204, t205, t206, t207⟩, A420, H⟩ := H
      replace H : ((impl_Table.f k1 t188 (wrap64 ((mn t189 100) + 1))).bind fun bt209 => (laws_FnTables.l1 k1 t188 t192 x6_1 0 0 0 t204 t205 t206 t207 bt209.1 bt209.2.1 bt209.2.2.1 bt209.2.2.2)) = some r := H
      have A42 := Aside0.mk A420
      clear A420
      obtain ⟨ji43, hji43⟩ : ∃ j_ : Int, (mn t189 100) = j_ := ⟨_, rfl⟩
      replace H : ((impl_Table.f k1 t188 (wrap64 ((ji43) + 1))).bind fun bt209 => (laws_FnTables.l1 k1 t188 t192 x6_1 0 0 0 t204 t205 t206 t207 bt209.1 bt209.2.1 bt209.2.2.1 bt209.2.2.2)) = some r := by first | (rw [hji43] at H; exact H) | (simp only [hji43] at H ⊢; exact H)
      (try rw [hji43] at A42)
      have hji43_ : (if 100 < t189 then 100 else t189) = ji43 := hji43
      replace H := Option.bind_eq_some_iff.mp H
      obtain ⟨⟨t209, t210, t211, t212⟩, A440, H⟩ := H
      replace H : (laws_FnTables.l1 k1 t188 t192 x6_1 0 0 0 t204 t205 t206 t207 t209 t210 t211 t212) = some r := H
      have A44 := Aside0.mk A440
      clear A440
      have H' := Aside0.mk H
      clear H
      go_wp2_with (first | ((with_reducible refine gate_callee (f := 13) rfl ?_); refine goesL_ (some 56) rfl rfl Try.func13 (by kernel_rfl) rfl #[.slice Ao34 t188.length co34, .int .i64 t189] rfl (by (try simp only [List.map_toArray, List.map_cons, List.map_nil]); first | done | rfl | (simp only [List.length_drop, List.length_take]; rfl)) ?_; (with_reducible refine (impl_Table.calls k1 _ _ t188 t189 t204 t205 t206 t207 _ ?side1 ?side2 A42.out).mono ?_); (case side1 => repeat (first | exact (Kd.R_reads' HO_3.out).2.2 | (with_reducible refine Kd.C_alloc ?_ _) | (with_reducible refine Kd.C_drewN ?_ _) | (with_reducible refine Kd.C_drew ?_))); (case side2 => exact (Kd.R_reads' HO_3.out).2.1); rintro e w45 ⟨rfl, hb⟩; refine ⟨_, rfl, ?_⟩; have n0_ := Aside0.mk (Kd.R_below (by (with_reducible repeat (first | apply Kd.R_alloc | apply Kd.R_drewN | apply Kd.R_drew)); exact HO_3.out) hb); have n1_ := Aside0.mk (Kd.R_below (by (with_reducible repeat (first | apply Kd.R_alloc | apply Kd.R_drewN | apply Kd.R_drew)); exact HO_5.out) hb); have n2_ := Aside0.mk (below_step (by repeat (first | (with_reducible first | exact HB.out | apply below_alloc | apply pw_below_drewN | apply below_drew1) | exact HB.out)) hb); clear HO_3; clear HO_5; clear HB; have HO_3 := n0_; have HO_5 := n1_; have HB := n2_; clear n0_ n1_ n2_; (try clear hb); (try clear hb2); (try clear hk); (try clear hi)) | ((with_reducible refine gate_dst (N := 8) rfl ?_); (try (refine gate_guard (by rfl) ?_; dsimp only)); refine box_event ?hg (N := 8) ?hd (cs := #[.int .i64 0, .int .i64 0, .int .i64 0, .int .i64 0]) (t := 30) ?hr ?_; (case hd => rfl); (case hg => rfl); (case hr => first | (go_simp; done) | (go_simp; rfl)); intro gb208 hg w46 hbox hb; have n0_ := Aside0.mk (Kd.R_below (by (with_reducible repeat (first | apply Kd.R_alloc | apply Kd.R_drewN | apply Kd.R_drew)); exact HO_3.out) hb); have n1_ := Aside0.mk (Kd.R_below (by (with_reducible repeat (first | apply Kd.R_alloc | apply Kd.R_drewN | apply Kd.R_drew)); exact HO_5.out) hb); have n2_ := Aside0.mk (below_step (by repeat (first | (with_reducible first | exact HB.out | apply below_alloc | apply pw_below_drewN | apply below_drew1) | exact HB.out)) hb); have n3_ := Aside0.mk (hbox); have n4_ := Aside0.mk ((by rw [hg]; exact (below_size (by repeat (first | (with_reducible first | exact HB.out | apply below_alloc | apply pw_below_drewN | apply below_drew1) | exact HB.out))) : w.heap.size ≤ gb208)); have n5_ := Aside0.mk ((by rw [hg]; exact (below_size (by repeat (first | (with_reducible first | exact HB.out | apply below_alloc | apply pw_below_drewN | apply below_drew1) | exact HB.out))) : w.heap.size ≤ gb208)); clear HO_3; clear HO_5; clear HB; have HO_3 := n0_; have HO_5 := n1_; have HB := n2_; have BK208 := n3_; have GW208 := n4_; have GE208 := n5_; clear n0_ n1_ n2_ n3_ n4_ n5_; clear hb hbox hg; have hcz47_0 : w46.cell? ⟨gb208, 0, none⟩ = some (.int .i64 0) := (blk_cell BK208.out 0).trans rfl; have hcz47_1 : w46.cell? ⟨gb208, 1, none⟩ = some (.int .i64 0) := (blk_cell BK208.out 1).trans rfl; have hcz47_2 : w46.cell? ⟨gb208, 2, none⟩ = some (.int .i64 0) := (blk_cell BK208.out 2).trans rfl; have hcz47_3 : w46.cell? ⟨gb208, 3, none⟩ = some (.int .i64 0) := (blk_cell BK208.out 3).trans rfl; have hfz47_0 := blk_frozen BK208.out 0; have hfz47_1 := blk_frozen BK208.out 1; have hfz47_2 := blk_frozen BK208.out 2; have hfz47_3 := blk_frozen BK208.out 3) | ((with_reducible refine gate_callee (f := 13) rfl ?_); refine goesL_ (some 61) rfl rfl Try.func13 (by kernel_rfl) rfl #[.slice Ao34 t188.length co34, .int .i64 (wrap64 ((ji43) + 1))] rfl (by (try simp only [List.map_toArray, List.map_cons, List.map_nil]); first | done | (simp only [hji43]; rfl) | rfl | (simp only [List.length_drop, List.length_take]; rfl)) ?_; (with_reducible refine (impl_Table.calls k1 _ _ t188 (wrap64 ((ji43) + 1)) t209 t210 t211 t212 _ ?side1 ?side2 A44.out).mono ?_); (case side1 => refine (Kd.R_reads' (e := 34) (base := w.heap.size) (ok := fun k_ => True) (n := t188.length) (c := co34) ?_).2.2; exact (by (with_reducible repeat (first | apply Kd.R_alloc | apply Kd.R_drewN | apply Kd.R_drew)); exact (Kd.R_mono (Kd.R_far (p := ⟨gb208, 3, none⟩) (Kd.R_far (p := ⟨gb208, 2, none⟩) (Kd.R_far (p := ⟨gb208, 1, none⟩) (Kd.R_far (p := ⟨gb208, 0, none⟩) (Kd.R_types HO_3.out BK208.out (by decide)) (fun _ hk => hk.2) (.int .i64 t204)) (fun _ hk => hk.2) (.int .i64 t205)) (fun _ hk => hk.2) (.int .i64 t206)) (fun _ hk => hk.2) (.int .i64 t207)) (fun _ h_ => h_.1)))); (case side2 => exact (Kd.R_reads' HO_3.out).2.1); rintro e w48 ⟨rfl, hb⟩; refine ⟨_, rfl, ?_⟩; have n0_ := Aside0.mk (Kd.R_below (by (with_reducible repeat (first | apply Kd.R_alloc | apply Kd.R_drewN | apply Kd.R_drew)); exact (Kd.R_mono (Kd.R_far (p := ⟨gb208, 3, none⟩) (Kd.R_far (p := ⟨gb208, 2, none⟩) (Kd.R_far (p := ⟨gb208, 1, none⟩) (Kd.R_far (p := ⟨gb208, 0, none⟩) (Kd.R_types HO_3.out BK208.out (by decide)) (fun _ hk => hk.2) (.int .i64 t204)) (fun _ hk => hk.2) (.int .i64 t205)) (fun _ hk => hk.2) (.int .i64 t206)) (fun _ hk => hk.2) (.int .i64 t207)) (fun _ h_ => h_.1))) hb); have n1_ := Aside0.mk (Kd.R_below (by (with_reducible repeat (first | apply Kd.R_alloc | apply Kd.R_drewN | apply Kd.R_drew)); exact (Kd.R_mono (Kd.R_far (p := ⟨gb208, 3, none⟩) (Kd.R_far (p := ⟨gb208, 2, none⟩) (Kd.R_far (p := ⟨gb208, 1, none⟩) (Kd.R_far (p := ⟨gb208, 0, none⟩) (Kd.R_types HO_5.out BK208.out (by decide)) (fun _ hk => hk.2) (.int .i64 t204)) (fun _ hk => hk.2) (.int .i64 t205)) (fun _ hk => hk.2) (.int .i64 t206)) (fun _ hk => hk.2) (.int .i64 t207)) (fun _ h_ => h_.1))) hb); have n2_ := Aside0.mk (blk_below (g := gb208) (o := .cells #[.int .i64 t204, .int .i64 t205, .int .i64 t206, .int .i64 t207] 30 (0, 0)) (by (with_reducible repeat (first | refine blk_drewN ?_ _ | refine blk_drew ?_ | refine blk_alloc ?_ _)); refine blk_put (cs := #[.int .i64 t204, .int .i64 t205, .int .i64 t206, .int .i64 0]) ?_ 3 _ rfl; (with_reducible repeat (first | refine blk_drewN ?_ _ | refine blk_drew ?_ | refine blk_alloc ?_ _)); refine blk_put (cs := #[.int .i64 t204, .int .i64 t205, .int .i64 0, .int .i64 0]) ?_ 2 _ rfl; (with_reducible repeat (first | refine blk_drewN ?_ _ | refine blk_drew ?_ | refine blk_alloc ?_ _)); refine blk_put (cs := #[.int .i64 t204, .int .i64 0, .int .i64 0, .int .i64 0]) ?_ 1 _ rfl; (with_reducible repeat (first | refine blk_drewN ?_ _ | refine blk_drew ?_ | refine blk_alloc ?_ _)); refine blk_put (cs := #[.int .i64 0, .int .i64 0, .int .i64 0, .int .i64 0]) ?_ 0 _ rfl; (with_reducible repeat (first | refine blk_drewN ?_ _ | refine blk_drew ?_ | refine blk_alloc ?_ _)); exact BK208.out) hb); have n3_ := Aside0.mk (below_step (by repeat (first | (with_reducible first | exact HB.out | apply below_alloc | apply pw_below_drewN | apply below_drew1 | refine below_set ?_ GE208.out) | exact HB.out)) hb); clear HO_3; clear HO_5; clear BK208; clear HB; have HO_3 := n0_; have HO_5 := n1_; have BK208 := n2_; have HB := n3_; clear n0_ n1_ n2_ n3_; (try clear hb); (try clear hb2); (try clear hk); (try clear hi)) | ((with_reducible refine gate_dst (N := 9) rfl ?_); (try (refine gate_guard (by rfl) ?_; dsimp only)); refine box_event ?hg (N := 9) ?hd (cs := #[.int .i64 0, .int .i64 0, .int .i64 0, .int .i64 0]) (t := 30) ?hr ?_; (case hd => rfl); (case hg => rfl); (case hr => first | (go_simp; done) | (go_simp; rfl)); intro gb213 hg w49 hbox hb; have n0_ := Aside0.mk (Kd.R_below (by (with_reducible repeat (first | apply Kd.R_alloc | apply Kd.R_drewN | apply Kd.R_drew)); exact HO_3.out) hb); have n1_ := Aside0.mk (Kd.R_below (by (with_reducible repeat (first | apply Kd.R_alloc | apply Kd.R_drewN | apply Kd.R_drew)); exact HO_5.out) hb); have n2_ := Aside0.mk (blk_below (g := gb208) (o := .cells #[.int .i64 t204, .int .i64 t205, .int .i64 t206, .int .i64 t207] 30 (0, 0)) (by (with_reducible repeat (first | refine blk_drewN ?_ _ | refine blk_drew ?_ | refine blk_alloc ?_ _)); exact BK208.out) hb); have n3_ := Aside0.mk (below_step (by repeat (first | (with_reducible first | exact HB.out | apply below_alloc | apply pw_below_drewN | apply below_drew1 | refine below_set ?_ GE208.out) | exact HB.out)) hb); have n4_ := Aside0.mk (hbox); have n5_ := Aside0.mk ((by rw [hg]; exact (below_size (by repeat (first | (with_reducible first | exact HB.out | apply below_alloc | apply pw_below_drewN | apply below_drew1 | refine below_set ?_ GE208.out) | exact HB.out))) : w.heap.size ≤ gb213)); have n6_ := Aside0.mk ((by rw [hg]; exact (below_size (by repeat (first | (with_reducible first | exact HB.out | apply below_alloc | apply pw_below_drewN | apply below_drew1 | refine below_set ?_ GE208.out) | exact HB.out))) : w.heap.size ≤ gb213)); have n7_ := Aside0.mk ((by rw [hg]; exact Nat.ne_of_lt (blk_lt (g := gb208) (o := .cells #[.int .i64 t204, .int .i64 t205, .int .i64 t206, .int .i64 t207] 30 (0, 0)) (by (with_reducible repeat (first | refine blk_drewN ?_ _ | refine blk_drew ?_ | refine blk_alloc ?_ _)); exact BK208.out)) : gb208 ≠ gb213)); have n8_ := Aside0.mk ((by rw [hg]; exact Nat.ne_of_gt (blk_lt (g := gb208) (o := .cells #[.int .i64 t204, .int .i64 t205, .int .i64 t206, .int .i64 t207] 30 (0, 0)) (by (with_reducible repeat (first | refine blk_drewN ?_ _ | refine blk_drew ?_ | refine blk_alloc ?_ _)); exact BK208.out)) : gb213 ≠ gb208)); clear HO_3; clear HO_5; clear BK208; clear HB; have HO_3 := n0_; have HO_5 := n1_; have BK208 := n2_; have HB := n3_; have BK213 := n4_; have GW213 := n5_; have GE213 := n6_; have NB208_213 := n7_; have NB213_208 := n8_; clear n0_ n1_ n2_ n3_ n4_ n5_ n6_ n7_ n8_; clear hb hbox hg; have hnb50 := NB213_208.out; have hnc50 := NB208_213.out; have hcz51_0 : w49.cell? ⟨gb213, 0, none⟩ = some (.int .i64 0) := (blk_cell BK213.out 0).trans rfl; have hcz51_1 : w49.cell? ⟨gb213, 1, none⟩ = some (.int .i64 0) := (blk_cell BK213.out 1).trans rfl; have hcz51_2 : w49.cell? ⟨gb213, 2, none⟩ = some (.int .i64 0) := (blk_cell BK213.out 2).trans rfl; have hcz51_3 : w49.cell? ⟨gb213, 3, none⟩ = some (.int .i64 0) := (blk_cell BK213.out 3).trans rfl; have hfz51_0 := blk_frozen BK213.out 0; have hfz51_1 := blk_frozen BK213.out 1; have hfz51_2 := blk_frozen BK213.out 2; have hfz51_3 := blk_frozen BK213.out 3))
      go_loopg [10, 11, 12] k1 (fun kq v10 v11 v12 w' => ∃ (x10_2 : Int) (x11_2 : Int) (x12_2 : Int), v10 = .int .i64 x10_2 ∧ v11 = .int .i64 x11_2 ∧ v12 = .int .i64 x12_2 ∧ Aside0 (laws_FnTables.l1 kq t188 t192 x6_1 x10_2 x11_2 x12_2 t204 t205 t206 t207 t209 t210 t211 t212 = some r) ∧ Aside0 (kq ≤ k1) ∧ Aside0 (Kd.R k34 34 w' w.heap.size (fun _ => True) (.slice Ao34 t188.length co34) t188) ∧ Aside0 (Kd.R k36 36 w' w.heap.size (fun _ => True) v193 t192) ∧ Aside0 (w'.heap[gb208]? = some (.cells #[.int .i64 t204, .int .i64 t205, .int .i64 t206, .int .i64 t207] 30 (0, 0))) ∧ Aside0 (w'.heap[gb213]? = some (.cells #[.int .i64 t209, .int .i64 t210, .int .i64 t211, .int .i64 t212] 30 (0, 0))) ∧ Aside0 (Below w.heap.size w w'))
      case atStart => exact ⟨(0), (0), (0), (by first | rfl | (simp; done) | (simp [*]; done)), (by first | rfl | (simp; done) | (simp [*]; done)), (by first | rfl | (simp; done) | (simp [*]; done)), H', ⟨Nat.le_refl _⟩, ⟨by (with_reducible repeat (first | apply Kd.R_alloc | apply Kd.R_drewN | apply Kd.R_drew)); exact Kd.R_mono (Kd.R_far (p := ⟨gb213, 3, none⟩) (Kd.R_far (p := ⟨gb213, 2, none⟩) (Kd.R_far (p := ⟨gb213, 1, none⟩) (Kd.R_far (p := ⟨gb213, 0, none⟩) (Kd.R_types HO_3.out BK213.out (by decide)) (fun _ hk => hk.2) (.int .i64 t209)) (fun _ hk => hk.2) (.int .i64 t210)) (fun _ hk => hk.2) (.int .i64 t211)) (fun _ hk => hk.2) (.int .i64 t212)) (fun _ hk => trivial)⟩, ⟨by (with_reducible repeat (first | apply Kd.R_alloc | apply Kd.R_drewN | apply Kd.R_drew)); exact Kd.R_mono (Kd.R_far (p := ⟨gb213, 3, none⟩) (Kd.R_far (p := ⟨gb213, 2, none⟩) (Kd.R_far (p := ⟨gb213, 1, none⟩) (Kd.R_far (p := ⟨gb213, 0, none⟩) (Kd.R_types HO_5.out BK213.out (by decide)) (fun _ hk => hk.2) (.int .i64 t209)) (fun _ hk => hk.2) (.int .i64 t210)) (fun _ hk => hk.2) (.int .i64 t211)) (fun _ hk => hk.2) (.int .i64 t212)) (fun _ hk => trivial)⟩, ⟨by (with_reducible repeat (first | refine blk_drewN ?_ _ | refine blk_drew ?_ | refine blk_alloc ?_ _)); refine blk_far ?_ NB208_213.out _; (with_reducible repeat (first | refine blk_drewN ?_ _ | refine blk_drew ?_ | refine blk_alloc ?_ _)); refine blk_far ?_ NB208_213.out _; (with_reducible repeat (first | refine blk_drewN ?_ _ | refine blk_drew ?_ | refine blk_alloc ?_ _)); refine blk_far ?_ NB208_213.out _; (with_reducible repeat (first | refine blk_drewN ?_ _ | refine blk_drew ?_ | refine blk_alloc ?_ _)); refine blk_far ?_ NB208_213.out _; (with_reducible repeat (first | refine blk_drewN ?_ _ | refine blk_drew ?_ | refine blk_alloc ?_ _)); exact BK208.out⟩, ⟨by (with_reducible repeat (first | refine blk_drewN ?_ _ | refine blk_drew ?_ | refine blk_alloc ?_ _)); refine blk_put (cs := #[.int .i64 t209, .int .i64 t210, .int .i64 t211, .int .i64 0]) ?_ 3 _ rfl; (with_reducible repeat (first | refine blk_drewN ?_ _ | refine blk_drew ?_ | refine blk_alloc ?_ _)); refine blk_put (cs := #[.int .i64 t209, .int .i64 t210, .int .i64 0, .int .i64 0]) ?_ 2 _ rfl; (with_reducible repeat (first | refine blk_drewN ?_ _ | refine blk_drew ?_ | refine blk_alloc ?_ _)); refine blk_put (cs := #[.int .i64 t209, .int .i64 0, .int .i64 0, .int .i64 0]) ?_ 1 _ rfl; (with_reducible repeat (first | refine blk_drewN ?_ _ | refine blk_drew ?_ | refine blk_alloc ?_ _)); refine blk_put (cs := #[.int .i64 0, .int .i64 0, .int .i64 0, .int .i64 0]) ?_ 0 _ rfl; (with_reducible repeat (first | refine blk_drewN ?_ _ | refine blk_drew ?_ | refine blk_alloc ?_ _)); exact BK213.out⟩, ⟨by repeat (first | (with_reducible first | exact HB.out | apply below_alloc | apply pw_below_drewN | apply below_drew1 | refine below_set ?_ GE208.out | refine below_set ?_ GE213.out) | exact HB.out)⟩⟩
      case round =>
       clear H'
       try clear c1
       try clear p2
       try clear q2
       try clear hx2
       try clear c3
       try clear c4
       try clear q4
       try clear c5
       try clear p6
       try clear c7
       try clear c7b0
       try clear c7b1
       try clear c7b2
       try clear c8
       try clear c8b0
       try clear c8b1
       try clear c8b2
       try clear c9
       try clear c10
       try clear c10b0
       try clear c10b1
       try clear c10b2
       try clear c11
       try clear c12
       try clear c13
       try clear p20
       try clear q20
       try clear hx20
       try clear c38
       try clear c38b0
       try clear c39
       try clear c39b0
       try clear q40
       try clear c41
       try clear c50
       try clear hcz47_0
       try clear hcz47_1
       try clear hcz47_2
       try clear hcz47_3
       try clear hcz51_0
       try clear hcz51_1
       try clear hcz51_2
       try clear hcz51_3
       try clear hfz47_0
       try clear hfz47_1
       try clear hfz47_2
       try clear hfz47_3
       try clear hfz51_0
       try clear hfz51_1
       try clear hfz51_2
       try clear hfz51_3
       try clear hx203_0
       try clear hx203_1
       try clear p2
       try clear p203
       try clear q203
       obtain ⟨x10_2, x11_2, x12_2, rfl, rfl, rfl, HA, HK2, HO_3, HO_5, BK208, BK213, HB⟩ := hrel
       cases gk with
       | zero => exact absurd HA.out (by simp [laws_FnTables.l1])
       | succ k2 =>
        have H := HA.out
        clear HA
        simp only [laws_FnTables.l1] at H
        by_cases c52 : x12_2 < (t192.length : Int)
        ·rw [if_pos c52] at H
         have c52b0 : decide (x12_2 < (t192.length : Int)) = true := decide_eq_true c52
         clear c52
         by_cases c53 : 0 ≤ x12_2
         ·rw [if_pos c53] at H
          have c53b0 : decide (0 ≤ x12_2) = true := decide_eq_true c53
          clear c53
          have H' := Aside0.mk H
          clear H
          obtain ⟨Ao54, co54, eo54⟩ := Kd.R_slice HO_5.out
          subst eo54
          have p214 : 0 ≤ (x12_2 : Int) := of_decide_eq_true (by first | (with_reducible assumption) | assumption)
          have q214 : x12_2 < (t192.length : Int) := of_decide_eq_true (by first | (with_reducible assumption) | assumption)
          obtain ⟨ad214, e214, hx214_0, hx214_1⟩ := at_T36 (Kd.R_reads' HO_5.out).2.2 x12_2 p214 q214
          cases e214
          replace p214 := eq_true p214
          replace q214 := eq_true q214
          have p215 : 0 ≤ (x12_2 : Int) := of_decide_eq_true (by first | (with_reducible assumption) | assumption)
          have q215 : x12_2 < (t192.length : Int) := of_decide_eq_true (by first | (with_reducible assumption) | assumption)
          obtain ⟨ad215, e215, hx215_0, hx215_1⟩ := at_T36 (Kd.R_reads' HO_5.out).2.2 x12_2 p215 q215
          obtain rfl : ad214 = ad215 := (by injection e215)
          replace p215 := eq_true p215
          replace q215 := eq_true q215
          go_wp2
          go_roundg k2
          case measure => have := HK1.out; have := HK2.out; omega
          case rel => exact ⟨(wrap64 (x10_2 + ((rd_T36 t192 x12_2).f0))), (wrap64 (x11_2 + ((rd_T36 t192 x12_2).f1))), (wrap64 (x12_2 + 1)), (by first | rfl | (simp; done) | (simp [*]; done)), (by first | rfl | (simp; done) | (simp [*]; done)), (by first | rfl | (simp; done) | (simp [*]; done)), H', ⟨by have := HK1.out; have := HK2.out; omega⟩, ⟨by (with_reducible repeat (first | apply Kd.R_alloc | apply Kd.R_drewN | apply Kd.R_drew)); exact HO_3.out⟩, ⟨by (with_reducible repeat (first | apply Kd.R_alloc | apply Kd.R_drewN | apply Kd.R_drew)); exact HO_5.out⟩, ⟨by (with_reducible repeat (first | refine blk_drewN ?_ _ | refine blk_drew ?_ | refine blk_alloc ?_ _)); exact BK208.out⟩, ⟨by (with_reducible repeat (first | refine blk_drewN ?_ _ | refine blk_drew ?_ | refine blk_alloc ?_ _)); exact BK213.out⟩, ⟨by repeat (first | (with_reducible first | exact HB.out | apply below_alloc | apply pw_below_drewN | apply below_drew1 | refine below_set ?_ GE208.out | refine below_set ?_ GE213.out) | exact HB.out)⟩⟩
         ·rw [if_neg c53] at H
          exact absurd H (by simp)
        ·rw [if_neg c52] at H
         have c52b0 : decide (x12_2 < (t192.length : Int)) = false := decide_eq_false c52
         clear c52
         by_cases c55 : (t192.length : Int) = 11
         ·rw [if_pos c55] at H
          have c55b0 : ((t192.length : Int) == 11) = true := beq_iff_eq.mpr c55
          have c55b1 : ((t192.length : Int) != 11) = false := bne_eq_false_iff_eq.mpr c55
          clear c55
          by_cases c56 : x10_2 = (t188.length : Int)
          ·rw [if_pos c56] at H
           have c56b0 : (x10_2 == (t188.length : Int)) = true := beq_iff_eq.mpr c56
           have c56b1 : (x10_2 != (t188.length : Int)) = false := bne_eq_false_iff_eq.mpr c56
           clear c56
           by_cases c57 : x11_2 = x6_1
           ·rw [if_pos c57] at H
            have c57b0 : (x11_2 == x6_1) = true := beq_iff_eq.mpr c57
            have c57b1 : (x11_2 != x6_1) = false := bne_eq_false_iff_eq.mpr c57
            clear c57
            by_cases c58 : (wrap64 (t204 + t205)) = x6_1
            ·rw [if_pos c58] at H
             have c58b0 : ((wrap64 (t204 + t205)) == x6_1) = true := beq_iff_eq.mpr c58
             have c58b1 : ((wrap64 (t204 + t205)) != x6_1) = false := bne_eq_false_iff_eq.mpr c58
             clear c58
             by_cases c59 : (wrap64 ((wrap64 ((wrap64 (t204 + t205)) + t206)) + t207)) = x10_2
             ·rw [if_pos c59] at H
              have c59b0 : ((wrap64 ((wrap64 ((wrap64 (t204 + t205)) + t206)) + t207)) == x10_2) = true := beq_iff_eq.mpr c59
              have c59b1 : ((wrap64 ((wrap64 ((wrap64 (t204 + t205)) + t206)) + t207)) != x10_2) = false := bne_eq_false_iff_eq.mpr c59
              clear c59
              by_cases c60 : t209 ≤ t204
              ·rw [if_pos c60] at H
               have c60b0 : decide (t209 ≤ t204) = true := decide_eq_true c60
               clear c60
               obtain rfl := Option.some.inj H
               obtain ⟨Ao61, co61, eo61⟩ := Kd.R_slice HO_5.out
               subst eo61
               have hnb62 := NB208_213.out
               have hnc62 := NB213_208.out
               have hcz63_0 : wr.cell? ⟨gb208, 0, none⟩ = some (.int .i64 t204) := (blk_cell BK208.out 0).trans rfl
               have hcz63_1 : wr.cell? ⟨gb208, 1, none⟩ = some (.int .i64 t205) := (blk_cell BK208.out 1).trans rfl
               have hcz63_2 : wr.cell? ⟨gb208, 2, none⟩ = some (.int .i64 t206) := (blk_cell BK208.out 2).trans rfl
               have hcz63_3 : wr.cell? ⟨gb208, 3, none⟩ = some (.int .i64 t207) := (blk_cell BK208.out 3).trans rfl
               have hfz63_0 := blk_frozen BK208.out 0
               have hfz63_1 := blk_frozen BK208.out 1
               have hfz63_2 := blk_frozen BK208.out 2
               have hfz63_3 := blk_frozen BK208.out 3
               have hcz64_0 : wr.cell? ⟨gb213, 0, none⟩ = some (.int .i64 t209) := (blk_cell BK213.out 0).trans rfl
               have hcz64_1 : wr.cell? ⟨gb213, 1, none⟩ = some (.int .i64 t210) := (blk_cell BK213.out 1).trans rfl
               have hcz64_2 : wr.cell? ⟨gb213, 2, none⟩ = some (.int .i64 t211) := (blk_cell BK213.out 2).trans rfl
               have hcz64_3 : wr.cell? ⟨gb213, 3, none⟩ = some (.int .i64 t212) := (blk_cell BK213.out 3).trans rfl
               have hfz64_0 := blk_frozen BK213.out 0
               have hfz64_1 := blk_frozen BK213.out 1
               have hfz64_2 := blk_frozen BK213.out 2
               have hfz64_3 := blk_frozen BK213.out 3
               go_wp2
               go_ret
               exact ⟨by first | rfl | (simp [errW_none, errW_some] <;> rfl) | (simp only [← hji43]; first | rfl | (simp [errW_none, errW_some] <;> rfl)) | (simp [*, errW_none, errW_some] <;> rfl), by repeat (first | (with_reducible first | exact HB.out | apply below_alloc | apply pw_below_drewN | apply below_drew1 | refine below_set ?_ GE208.out | refine below_set ?_ GE213.out) | exact HB.out)⟩
              ·rw [if_neg c60] at H
               have c60b0 : decide (t209 ≤ t204) = false := decide_eq_false c60
               clear c60
               obtain rfl := Option.some.inj H
               obtain ⟨Ao65, co65, eo65⟩ := Kd.R_slice HO_5.out
               subst eo65
               have hnb66 := NB208_213.out
               have hnc66 := NB213_208.out
               have hcz67_0 : wr.cell? ⟨gb208, 0, none⟩ = some (.int .i64 t204) := (blk_cell BK208.out 0).trans rfl
               have hcz67_1 : wr.cell? ⟨gb208, 1, none⟩ = some (.int .i64 t205) := (blk_cell BK208.out 1).trans rfl
               have hcz67_2 : wr.cell? ⟨gb208, 2, none⟩ = some (.int .i64 t206) := (blk_cell BK208.out 2).trans rfl
               have hcz67_3 : wr.cell? ⟨gb208, 3, none⟩ = some (.int .i64 t207) := (blk_cell BK208.out 3).trans rfl
               have hfz67_0 := blk_frozen BK208.out 0
               have hfz67_1 := blk_frozen BK208.out 1
               have hfz67_2 := blk_frozen BK208.out 2
               have hfz67_3 := blk_frozen BK208.out 3
               have hcz68_0 : wr.cell? ⟨gb213, 0, none⟩ = some (.int .i64 t209) := (blk_cell BK213.out 0).trans rfl
               have hcz68_1 : wr.cell? ⟨gb213, 1, none⟩ = some (.int .i64 t210) := (blk_cell BK213.out 1).trans rfl
               have hcz68_2 : wr.cell? ⟨gb213, 2, none⟩ = some (.int .i64 t211) := (blk_cell BK213.out 2).trans rfl
               have hcz68_3 : wr.cell? ⟨gb213, 3, none⟩ = some (.int .i64 t212) := (blk_cell BK213.out 3).trans rfl
               have hfz68_0 := blk_frozen BK213.out 0
               have hfz68_1 := blk_frozen BK213.out 1
               have hfz68_2 := blk_frozen BK213.out 2
               have hfz68_3 := blk_frozen BK213.out 3
               go_wp2
               go_ret
               exact ⟨by first | rfl | (simp [errW_none, errW_some] <;> rfl) | (simp only [← hji43]; first | rfl | (simp [errW_none, errW_some] <;> rfl)) | (simp [*, errW_none, errW_some] <;> rfl), by repeat (first | (with_reducible first | exact HB.out | apply below_alloc | apply pw_below_drewN | apply below_drew1 | refine below_set ?_ GE208.out | refine below_set ?_ GE213.out) | exact HB.out)⟩
             ·rw [if_neg c59] at H
              have c59b0 : ((wrap64 ((wrap64 ((wrap64 (t204 + t205)) + t206)) + t207)) == x10_2) = false := beq_eq_false_iff_ne.mpr c59
              have c59b1 : ((wrap64 ((wrap64 ((wrap64 (t204 + t205)) + t206)) + t207)) != x10_2) = true := bne_iff_ne.mpr c59
              obtain rfl := Option.some.inj H
              obtain ⟨Ao69, co69, eo69⟩ := Kd.R_slice HO_5.out
              subst eo69
              have hnb70 := NB208_213.out
              have hnc70 := NB213_208.out
              have hcz71_0 : wr.cell? ⟨gb208, 0, none⟩ = some (.int .i64 t204) := (blk_cell BK208.out 0).trans rfl
              have hcz71_1 : wr.cell? ⟨gb208, 1, none⟩ = some (.int .i64 t205) := (blk_cell BK208.out 1).trans rfl
              have hcz71_2 : wr.cell? ⟨gb208, 2, none⟩ = some (.int .i64 t206) := (blk_cell BK208.out 2).trans rfl
              have hcz71_3 : wr.cell? ⟨gb208, 3, none⟩ = some (.int .i64 t207) := (blk_cell BK208.out 3).trans rfl
              have hfz71_0 := blk_frozen BK208.out 0
              have hfz71_1 := blk_frozen BK208.out 1
              have hfz71_2 := blk_frozen BK208.out 2
              have hfz71_3 := blk_frozen BK208.out 3
              go_wp2
              go_ret
              exact ⟨by first | rfl | (simp [errW_none, errW_some] <;> rfl) | (simp only [← hji43]; first | rfl | (simp [errW_none, errW_some] <;> rfl)) | (simp [*, errW_none, errW_some] <;> rfl), by repeat (first | (with_reducible first | exact HB.out | apply below_alloc | apply pw_below_drewN | apply below_drew1 | refine below_set ?_ GE208.out | refine below_set ?_ GE213.out) | exact HB.out)⟩
            ·rw [if_neg c58] at H
             have c58b0 : ((wrap64 (t204 + t205)) == x6_1) = false := beq_eq_false_iff_ne.mpr c58
             have c58b1 : ((wrap64 (t204 + t205)) != x6_1) = true := bne_iff_ne.mpr c58
             obtain rfl := Option.some.inj H
             obtain ⟨Ao72, co72, eo72⟩ := Kd.R_slice HO_5.out
             subst eo72
             have hnb73 := NB208_213.out
             have hnc73 := NB213_208.out
             have hcz74_0 : wr.cell? ⟨gb208, 0, none⟩ = some (.int .i64 t204) := (blk_cell BK208.out 0).trans rfl
             have hcz74_1 : wr.cell? ⟨gb208, 1, none⟩ = some (.int .i64 t205) := (blk_cell BK208.out 1).trans rfl
             have hcz74_2 : wr.cell? ⟨gb208, 2, none⟩ = some (.int .i64 t206) := (blk_cell BK208.out 2).trans rfl
             have hcz74_3 : wr.cell? ⟨gb208, 3, none⟩ = some (.int .i64 t207) := (blk_cell BK208.out 3).trans rfl
             have hfz74_0 := blk_frozen BK208.out 0
             have hfz74_1 := blk_frozen BK208.out 1
             have hfz74_2 := blk_frozen BK208.out 2
             have hfz74_3 := blk_frozen BK208.out 3
             go_wp2
             go_ret
             exact ⟨by first | rfl | (simp [errW_none, errW_some] <;> rfl) | (simp only [← hji43]; first | rfl | (simp [errW_none, errW_some] <;> rfl)) | (simp [*, errW_none, errW_some] <;> rfl), by repeat (first | (with_reducible first | exact HB.out | apply below_alloc | apply pw_below_drewN | apply below_drew1 | refine below_set ?_ GE208.out | refine below_set ?_ GE213.out) | exact HB.out)⟩
           ·rw [if_neg c57] at H
            have c57b0 : (x11_2 == x6_1) = false := beq_eq_false_iff_ne.mpr c57
            have c57b1 : (x11_2 != x6_1) = true := bne_iff_ne.mpr c57
            obtain rfl := Option.some.inj H
            obtain ⟨Ao75, co75, eo75⟩ := Kd.R_slice HO_5.out
            subst eo75
            go_wp2
            go_ret
            exact ⟨by first | rfl | (simp [errW_none, errW_some] <;> rfl) | (simp only [← hji43]; first | rfl | (simp [errW_none, errW_some] <;> rfl)) | (simp [*, errW_none, errW_some] <;> rfl), by repeat (first | (with_reducible first | exact HB.out | apply below_alloc | apply pw_below_drewN | apply below_drew1 | refine below_set ?_ GE208.out | refine below_set ?_ GE213.out) | exact HB.out)⟩
          ·rw [if_neg c56] at H
           have c56b0 : (x10_2 == (t188.length : Int)) = false := beq_eq_false_iff_ne.mpr c56
           have c56b1 : (x10_2 != (t188.length : Int)) = true := bne_iff_ne.mpr c56
           obtain rfl := Option.some.inj H
           obtain ⟨Ao76, co76, eo76⟩ := Kd.R_slice HO_5.out
           subst eo76
           go_wp2
           go_ret
           exact ⟨by first | rfl | (simp [errW_none, errW_some] <;> rfl) | (simp only [← hji43]; first | rfl | (simp [errW_none, errW_some] <;> rfl)) | (simp [*, errW_none, errW_some] <;> rfl), by repeat (first | (with_reducible first | exact HB.out | apply below_alloc | apply pw_below_drewN | apply below_drew1 | refine below_set ?_ GE208.out | refine below_set ?_ GE213.out) | exact HB.out)⟩
         ·rw [if_neg c55] at H
          have c55b0 : ((t192.length : Int) == 11) = false := beq_eq_false_iff_ne.mpr c55
          have c55b1 : ((t192.length : Int) != 11) = true := bne_iff_ne.mpr c55
          obtain rfl := Option.some.inj H
          obtain ⟨Ao77, co77, eo77⟩ := Kd.R_slice HO_5.out
          subst eo77
          go_wp2
          go_ret
          exact ⟨by first | rfl | (simp [errW_none, errW_some] <;> rfl) | (simp only [← hji43]; first | rfl | (simp [errW_none, errW_some] <;> rfl)) | (simp [*, errW_none, errW_some] <;> rfl), by repeat (first | (with_reducible first | exact HB.out | apply below_alloc | apply pw_below_drewN | apply below_drew1 | refine below_set ?_ GE208.out | refine below_set ?_ GE213.out) | exact HB.out)⟩

/-- THE ONE PURE STATEMENT of laws_FnTables: yours. -/
def laws_FnTables.Pure : Prop := ∀ (l0 : List Int), l0.length ≤ maxLen → l0.length * 1 ≤ 140737488351232 → (∀ x ∈ l0, (Lit.int .u8 x).wf = true) → ∃ k, laws_FnTables.f k l0 = some true
theorem laws_FnTables.walk (P : laws_FnTables.Pure) (a0 : Option Addr) (len0 cap0 : Nat) (z0 : List Int) (w : World) (w0 : (a0 = none ∧ len0 = 0 ∧ cap0 = 0 ∧ z0 = []) ∨ ∃ x, a0 = some x ∧ len0 ≤ cap0 ∧ cap0 ≤ maxLen ∧ z0.length = cap0 ∧ (∀ i, i < z0.length → w.cell? (x.add i) = some (.int .u8 (z0.getD i 0))) ∧ ∀ n ∈ z0, (Lit.int .u8 n).wf = true) (y0 : len0 * 1 ≤ 140737488351232) :
  Calls Try.prog 3 #[.slice a0 len0 cap0] w fun e w' => e = .returned (.bool true) ∧ Below w.heap.size w w' := by
 obtain ⟨l0, rfl, hr0, hm0, hw0, hc0⟩ := ReadsInt.ofRowC w0
 obtain ⟨k, h⟩ := P l0 hm0 y0 hw0
 refine (laws_FnTables.calls k _ _ l0 true w (Kd.C_of_reads (d := (0 : Int)) (h1 := fun _ => rfl) hr0) hc0 h).mono ?_
 rintro e w' ⟨rfl, hd⟩
 exact ⟨rfl, hd⟩

end Go.Proofs.Yteobnbichpadjaa.Q
