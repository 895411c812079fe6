/- Plain Lean functions with the same answers as the Go functions of this seat, and a proof for each that the Go code comes to just these answers; no condition. Written by a program of this session (the kit's printer, turned). -/
import Derived.Test.YtaophbkedbphnaaQx0
import Derived.Test.YtaophbkedbphnaaQx15
import Derived.Test.YtaophbkedbphnaaQx17
import Derived.Test.YtaophbkedbphnaaQx22
import Derived.Test.YtaophbkedbphnaaQx24
namespace Go.Proofs.Ytaophbkedbphnaa.Q
open Go.RowKit Go.Proofs.YtaophbkedbphnaaW.PrintWords Go.Proofs.YtaophbkedbphnaaW.PrintLast Go.Proofs.YtaophbkedbphnaaW.PrintMore Go.Proofs.YtaophbkedbphnaaW.PrintFlt
attribute [local go_sem] cmp_lss cmp_leq cmp_gtr cmp_geq cmp_eql cmp_neq flt_l flt_r fgt_l fgt_r feq_l feq_r fne_l fne_r ord_lt ord_gt ord_eq ord_ne conv_int foi_fold run_store_flt
attribute [local go_sem] max2_int min2_int max_two min_two max_three min_three max_four min_four   -- for this text's walks alone
set_option linter.unusedVariables false
set_option linter.unusedSimpArgs false

/-! ### spec_DrawAt: function 29 -/
def spec_DrawAt.j0 : Nat → List (Nat) → Int → Int → Int → Int → Int → Int → Int → Option (Int × Int × Int × Int × Int × (List (Nat)) × Int × Int)
 | 0, _, _, _, _, _, _, _, _ => none
 | k + 1, x8, x9, x10, x293000, x293001, x293002, x293003, x293004 => some (x293000, x293001, x293002, x293003, x293004, x8, x9, x10)
def spec_DrawAt.f (k : Nat) (l0 : List Int) : Option (Int × Int × Int × Int × Int × (List (Nat)) × Int × Int) := (spec_l1Open.f l0).bind fun bt280 => ((spec_l11DrawGrid.f k bt280.1 bt280.2).bind fun bt283 => ((spec_l1Rd_below.f bt280.1 bt283.2.2.2.2.2.2 (wrap64 (1 + (wrap64 ((mn bt283.1 64) * (mn bt283.2.2.2.2.1 300)))))).bind fun bt293 => ((spec_l1Rd_below.f bt280.1 bt293.2 (wrap64 (1 + (wrap64 ((mn bt283.2.1 64) * (mn bt283.2.2.2.2.1 300)))))).bind fun bt295 => ((spec_l1Rd_below.f bt280.1 bt295.2 8).bind fun bt297 => (if bt297.1 = 0 then ((spec_l1Rd_below.f bt280.1 bt297.2 4).bind fun bt299 => (spec_DrawAt.j0 k bt283.2.2.2.2.2.1 (wrap64 (bt283.2.2.1 + (wrap64 (bt299.1 * bt283.2.2.2.2.1)))) (wrap64 (bt283.2.2.2.1 + bt295.1)) bt283.1 bt283.2.1 bt283.2.2.1 bt283.2.2.2.1 bt283.2.2.2.2.1)) else (if bt297.1 = 1 then ((spec_l1Rd_below.f bt280.1 bt297.2 4).bind fun bt301 => (spec_DrawAt.j0 k bt283.2.2.2.2.2.1 (wrap64 (bt283.2.2.1 + bt293.1)) (wrap64 (bt283.2.2.2.1 + (wrap64 (bt301.1 * bt283.2.2.2.2.1)))) bt283.1 bt283.2.1 bt283.2.2.1 bt283.2.2.2.1 bt283.2.2.2.2.1)) else (if bt297.1 = 2 then ((spec_l1Rd_below.f bt280.1 bt297.2 4).bind fun bt303 => ((spec_l1Rd_below.f bt280.1 bt303.2 4).bind fun bt305 => (spec_DrawAt.j0 k bt283.2.2.2.2.2.1 (wrap64 (bt283.2.2.1 + (wrap64 (bt303.1 * bt283.2.2.2.2.1)))) (wrap64 (bt283.2.2.2.1 + (wrap64 (bt305.1 * bt283.2.2.2.2.1)))) bt283.1 bt283.2.1 bt283.2.2.1 bt283.2.2.2.1 bt283.2.2.2.2.1))) else (if bt297.1 = 3 then ((spec_l1Rd_number.f k bt280.1 bt297.2).bind fun bt307 => (spec_DrawAt.j0 k bt283.2.2.2.2.2.1 bt307.1 (wrap64 (bt283.2.2.2.1 + bt295.1)) bt283.1 bt283.2.1 bt283.2.2.1 bt283.2.2.2.1 bt283.2.2.2.2.1)) else (spec_DrawAt.j0 k bt283.2.2.2.2.2.1 (wrap64 (bt283.2.2.1 + bt293.1)) (wrap64 (bt283.2.2.2.1 + bt295.1)) bt283.1 bt283.2.1 bt283.2.2.1 bt283.2.2.2.1 bt283.2.2.2.2.1)))))))))
theorem spec_DrawAt.mono_l : ∀ k, (∀ y0 y1 y2 y3 y4 y5 y6 y7, LeO (spec_DrawAt.j0 k y0 y1 y2 y3 y4 y5 y6 y7) (spec_DrawAt.j0 (k + 1) y0 y1 y2 y3 y4 y5 y6 y7))
 | 0 => fun _ _ _ _ _ _ _ _ r h => by simp [spec_DrawAt.j0] at h
 | k + 1 => by
  have ih0 := spec_DrawAt.mono_l k
  ·intro y0 y1 y2 y3 y4 y5 y6 y7
   unfold spec_DrawAt.j0
   repeat' first
   | (with_reducible exact ih0 _ _ _ _ _ _ _ _)
   | (with_reducible exact spec_l11DrawGrid.mono _ _ _)
   | (with_reducible exact spec_l1Rd_number.mono _ _ _)
   | (with_reducible exact LeO.refl _)
   | (with_reducible exact LeO.none _)
   | (with_reducible refine LeO.ite ?_ ?_)
   | (with_reducible refine LeO.bind ?_ (fun _ => ?_))
   | exact ih0 _ _ _ _ _ _ _ _
   | exact spec_l11DrawGrid.mono _ _ _
   | exact spec_l1Rd_number.mono _ _ _
   | exact LeO.none _
   | refine LeO.ite ?_ ?_
   | refine LeO.bind ?_ (fun _ => ?_)
theorem spec_DrawAt.mono : ∀ a0 k, LeO (spec_DrawAt.f k a0) (spec_DrawAt.f (k + 1) a0) := by
 intro a0 k
 have ih0 := spec_DrawAt.mono_l k
 unfold spec_DrawAt.f
 repeat' first
   | (with_reducible exact ih0 _ _ _ _ _ _ _ _)
   | (with_reducible exact spec_l11DrawGrid.mono _ _ _)
   | (with_reducible exact spec_l1Rd_number.mono _ _ _)
   | (with_reducible exact LeO.refl _)
   | (with_reducible exact LeO.none _)
   | (with_reducible refine LeO.ite ?_ ?_)
   | (with_reducible refine LeO.bind ?_ (fun _ => ?_))
   | exact ih0 _ _ _ _ _ _ _ _
   | exact spec_l11DrawGrid.mono _ _ _
   | exact spec_l1Rd_number.mono _ _ _
   | exact LeO.none _
   | refine LeO.ite ?_ ?_
   | refine LeO.bind ?_ (fun _ => ?_)
def spec_DrawAt.T3 : Bool × List (List Nat × List Nat) := (true, [([], []), ([0], [0]), ([], []), ([], []), ([3], [3]), ([4], [4]), ([], []), ([6], [6]), ([7], [7]), ([5, 8], [5, 8]), ([9], [9]), ([2, 10], [2, 10]), ([1, 11], [1, 11]), ([12, 11, 0, 1, 2, 3, 4, 5, 6, 7, 8, 9, 10, 11, 12], [12])])
def spec_DrawAt.B3 : List Nat := [0, 1, 0, 0, 8, 24, 0, 64, 192, 504, 1016, 2044, 4095, 8191]
theorem spec_DrawAt.tab3 : rtab .any (opsOf Try.f29 3) = spec_DrawAt.T3 := by kernel_rfl
theorem spec_DrawAt.bits3 : waitsOk spec_DrawAt.T3.2 spec_DrawAt.B3 = true := by kernel_rfl
def spec_DrawAt.T4 : Bool × List (List Nat × List Nat) := (true, [([], []), ([0], [0]), ([], []), ([], []), ([3], [3]), ([4], [4]), ([], []), ([6], [6]), ([7], [7]), ([5, 8], [5, 8]), ([9], [9]), ([2, 10], [2, 10]), ([1, 11], [1, 11]), ([12, 11, 0, 1, 2, 3, 4, 5, 6, 7, 8, 9, 10, 11, 12], [12])])
def spec_DrawAt.B4 : List Nat := [0, 1, 0, 0, 8, 24, 0, 64, 192, 504, 1016, 2044, 4095, 8191]
theorem spec_DrawAt.tab4 : rtab .any (opsOf Try.f29 4) = spec_DrawAt.T4 := by kernel_rfl
theorem spec_DrawAt.bits4 : waitsOk spec_DrawAt.T4.2 spec_DrawAt.B4 = true := by kernel_rfl
def spec_DrawAt.T7 : Bool × List (List Nat × List Nat) := (true, [([], []), ([0], [0]), ([], []), ([2], [2]), ([], []), ([4], [4]), ([3, 5], [3, 5]), ([1, 6], [1, 6]), ([7, 3, 0, 1, 2, 3, 4, 5, 6, 7], [7])])
def spec_DrawAt.B7 : List Nat := [0, 1, 0, 4, 0, 16, 60, 127, 255]
theorem spec_DrawAt.tab7 : rtab .any (opsOf Try.f29 7) = spec_DrawAt.T7 := by kernel_rfl
theorem spec_DrawAt.bits7 : waitsOk spec_DrawAt.T7.2 spec_DrawAt.B7 = true := by kernel_rfl
def spec_DrawAt.T9 : Bool × List (List Nat × List Nat) := (true, [([], []), ([0], [0]), ([], []), ([2], [2]), ([], []), ([4], [4]), ([3, 5], [3, 5]), ([1, 6], [1, 6]), ([7, 3, 0, 1, 2, 3, 4, 5, 6, 7], [7])])
def spec_DrawAt.B9 : List Nat := [0, 1, 0, 4, 0, 16, 60, 127, 255]
theorem spec_DrawAt.tab9 : rtab .any (opsOf Try.f29 9) = spec_DrawAt.T9 := by kernel_rfl
theorem spec_DrawAt.bits9 : waitsOk spec_DrawAt.T9.2 spec_DrawAt.B9 = true := by kernel_rfl
def spec_DrawAt.T11 : Bool × List (List Nat × List Nat) := (true, [([], []), ([0], [0]), ([], []), ([2], [2]), ([], []), ([4], [4]), ([3, 5], [3, 5]), ([1, 6], [1, 6]), ([7, 3, 0, 1, 2, 3, 4, 5, 6, 7], [7])])
def spec_DrawAt.B11 : List Nat := [0, 1, 0, 4, 0, 16, 60, 127, 255]
theorem spec_DrawAt.tab11 : rtab .any (opsOf Try.f29 11) = spec_DrawAt.T11 := by kernel_rfl
theorem spec_DrawAt.bits11 : waitsOk spec_DrawAt.T11.2 spec_DrawAt.B11 = true := by kernel_rfl
def spec_DrawAt.T12 : Bool × List (List Nat × List Nat) := (true, [([], []), ([0], [0]), ([], []), ([2], [2]), ([], []), ([4], [4]), ([3, 5], [3, 5]), ([1, 6], [1, 6]), ([7, 3, 0, 1, 2, 3, 4, 5, 6, 7], [7])])
def spec_DrawAt.B12 : List Nat := [0, 1, 0, 4, 0, 16, 60, 127, 255]
theorem spec_DrawAt.tab12 : rtab .any (opsOf Try.f29 12) = spec_DrawAt.T12 := by kernel_rfl
theorem spec_DrawAt.bits12 : waitsOk spec_DrawAt.T12.2 spec_DrawAt.B12 = true := by kernel_rfl
set_option maxHeartbeats 8000000 in
set_option maxRecDepth 100000 in
theorem spec_DrawAt.calls (k : Nat) (A0 : Option Addr) (c0 : Nat) (l0 : List Int) (r1 : Int) (r2 : Int) (r3 : Int) (r4 : Int) (r5 : Int) (r6 : List (Nat)) (r7 : Int) (r8 : Int) (w : World) (hr0 : Kd.C (Kd.int .u8) w A0 l0.length l0) (hc0 : l0.length ≤ c0) (h : spec_DrawAt.f k l0 = some (r1, r2, r3, r4, r5, r6, r7, r8)) :
  Calls Try.prog 29 #[.slice A0 l0.length c0] w fun e w' => ∃ v5_ : Value, e = .returned (.tuple #[.agg #[.int .i64 r1, .int .i64 r2, .int .i64 r3, .int .i64 r4, .int .i64 r5], v5_, .int .i64 r7, .int .i64 r8]) ∧ Kd.R Kd.flt 33 w' w.heap.size (fun _ => True) v5_ r6 ∧ Below w.heap.size w w' := by
 have hu43 := Try.underlying43
 have HR0 := Aside0.mk hr0
 have HC0 := Aside0.mk hc0
 clear hr0 hc0
 have HB := Aside0.mk (Below.refl w.heap.size w)
 have H : ((spec_l1Open.f l0).bind fun bt280 => ((spec_l11DrawGrid.f k bt280.1 bt280.2).bind fun bt283 => ((spec_l1Rd_below.f bt280.1 bt283.2.2.2.2.2.2 (wrap64 (1 + (wrap64 ((mn bt283.1 64) * (mn bt283.2.2.2.2.1 300)))))).bind fun bt293 => ((spec_l1Rd_below.f bt280.1 bt293.2 (wrap64 (1 + (wrap64 ((mn bt283.2.1 64) * (mn bt283.2.2.2.2.1 300)))))).bind fun bt295 => ((spec_l1Rd_below.f bt280.1 bt295.2 8).bind fun bt297 => (if bt297.1 = 0 then ((spec_l1Rd_below.f bt280.1 bt297.2 4).bind fun bt299 => (spec_DrawAt.j0 k bt283.2.2.2.2.2.1 (wrap64 (bt283.2.2.1 + (wrap64 (bt299.1 * bt283.2.2.2.2.1)))) (wrap64 (bt283.2.2.2.1 + bt295.1)) bt283.1 bt283.2.1 bt283.2.2.1 bt283.2.2.2.1 bt283.2.2.2.2.1)) else (if bt297.1 = 1 then ((spec_l1Rd_below.f bt280.1 bt297.2 4).bind fun bt301 => (spec_DrawAt.j0 k bt283.2.2.2.2.2.1 (wrap64 (bt283.2.2.1 + bt293.1)) (wrap64 (bt283.2.2.2.1 + (wrap64 (bt301.1 * bt283.2.2.2.2.1)))) bt283.1 bt283.2.1 bt283.2.2.1 bt283.2.2.2.1 bt283.2.2.2.2.1)) else (if bt297.1 = 2 then ((spec_l1Rd_below.f bt280.1 bt297.2 4).bind fun bt303 => ((spec_l1Rd_below.f bt280.1 bt303.2 4).bind fun bt305 => (spec_DrawAt.j0 k bt283.2.2.2.2.2.1 (wrap64 (bt283.2.2.1 + (wrap64 (bt303.1 * bt283.2.2.2.2.1)))) (wrap64 (bt283.2.2.2.1 + (wrap64 (bt305.1 * bt283.2.2.2.2.1)))) bt283.1 bt283.2.1 bt283.2.2.1 bt283.2.2.2.1 bt283.2.2.2.2.1))) else (if bt297.1 = 3 then ((spec_l1Rd_number.f k bt280.1 bt297.2).bind fun bt307 => (spec_DrawAt.j0 k bt283.2.2.2.2.2.1 bt307.1 (wrap64 (bt283.2.2.2.1 + bt295.1)) bt283.1 bt283.2.1 bt283.2.2.1 bt283.2.2.2.1 bt283.2.2.2.2.1)) else (spec_DrawAt.j0 k bt283.2.2.2.2.2.1 (wrap64 (bt283.2.2.1 + bt293.1)) (wrap64 (bt283.2.2.2.1 + bt295.1)) bt283.1 bt283.2.1 bt283.2.2.1 bt283.2.2.2.1 bt283.2.2.2.2.1)))))))))) = some (r1, r2, r3, r4, r5, r6, r7, r8) := h
 clear h
 replace H := Option.bind_eq_some_iff.mp H
 obtain ⟨⟨t280, t281⟩, A20, H⟩ := H
 replace H : ((spec_l11DrawGrid.f k t280 t281).bind fun bt283 => ((spec_l1Rd_below.f t280 bt283.2.2.2.2.2.2 (wrap64 (1 + (wrap64 ((mn bt283.1 64) * (mn bt283.2.2.2.2.1 300)))))).bind fun bt293 => ((spec_l1Rd_below.f t280 bt293.2 (wrap64 (1 + (wrap64 ((mn bt283.2.1 64) * (mn bt283.2.2.2.2.1 300)))))).bind fun bt295 => ((spec_l1Rd_below.f t280 bt295.2 8).bind fun bt297 => (if bt297.1 = 0 then ((spec_l1Rd_below.f t280 bt297.2 4).bind fun bt299 => (spec_DrawAt.j0 k bt283.2.2.2.2.2.1 (wrap64 (bt283.2.2.1 + (wrap64 (bt299.1 * bt283.2.2.2.2.1)))) (wrap64 (bt283.2.2.2.1 + bt295.1)) bt283.1 bt283.2.1 bt283.2.2.1 bt283.2.2.2.1 bt283.2.2.2.2.1)) else (if bt297.1 = 1 then ((spec_l1Rd_below.f t280 bt297.2 4).bind fun bt301 => (spec_DrawAt.j0 k bt283.2.2.2.2.2.1 (wrap64 (bt283.2.2.1 + bt293.1)) (wrap64 (bt283.2.2.2.1 + (wrap64 (bt301.1 * bt283.2.2.2.2.1)))) bt283.1 bt283.2.1 bt283.2.2.1 bt283.2.2.2.1 bt283.2.2.2.2.1)) else (if bt297.1 = 2 then ((spec_l1Rd_below.f t280 bt297.2 4).bind fun bt303 => ((spec_l1Rd_below.f t280 bt303.2 4).bind fun bt305 => (spec_DrawAt.j0 k bt283.2.2.2.2.2.1 (wrap64 (bt283.2.2.1 + (wrap64 (bt303.1 * bt283.2.2.2.2.1)))) (wrap64 (bt283.2.2.2.1 + (wrap64 (bt305.1 * bt283.2.2.2.2.1)))) bt283.1 bt283.2.1 bt283.2.2.1 bt283.2.2.2.1 bt283.2.2.2.2.1))) else (if bt297.1 = 3 then ((spec_l1Rd_number.f k t280 bt297.2).bind fun bt307 => (spec_DrawAt.j0 k bt283.2.2.2.2.2.1 bt307.1 (wrap64 (bt283.2.2.2.1 + bt295.1)) bt283.1 bt283.2.1 bt283.2.2.1 bt283.2.2.2.1 bt283.2.2.2.2.1)) else (spec_DrawAt.j0 k bt283.2.2.2.2.2.1 (wrap64 (bt283.2.2.1 + bt293.1)) (wrap64 (bt283.2.2.2.1 + bt295.1)) bt283.1 bt283.2.1 bt283.2.2.1 bt283.2.2.2.1 bt283.2.2.2.2.1))))))))) = some (r1, r2, r3, r4, r5, r6, r7, r8) := H
 have A2 := Aside0.mk A20
 clear A20
 replace H := Option.bind_eq_some_iff.mp H
 obtain ⟨⟨t283, t284, t285, t286, t287, t288, t291⟩, A30, H⟩ := H
 replace H : ((spec_l1Rd_below.f t280 t291 (wrap64 (1 + (wrap64 ((mn t283 64) * (mn t287 300)))))).bind fun bt293 => ((spec_l1Rd_below.f t280 bt293.2 (wrap64 (1 + (wrap64 ((mn t284 64) * (mn t287 300)))))).bind fun bt295 => ((spec_l1Rd_below.f t280 bt295.2 8).bind fun bt297 => (if bt297.1 = 0 then ((spec_l1Rd_below.f t280 bt297.2 4).bind fun bt299 => (spec_DrawAt.j0 k t288 (wrap64 (t285 + (wrap64 (bt299.1 * t287)))) (wrap64 (t286 + bt295.1)) t283 t284 t285 t286 t287)) else (if bt297.1 = 1 then ((spec_l1Rd_below.f t280 bt297.2 4).bind fun bt301 => (spec_DrawAt.j0 k t288 (wrap64 (t285 + bt293.1)) (wrap64 (t286 + (wrap64 (bt301.1 * t287)))) t283 t284 t285 t286 t287)) else (if bt297.1 = 2 then ((spec_l1Rd_below.f t280 bt297.2 4).bind fun bt303 => ((spec_l1Rd_below.f t280 bt303.2 4).bind fun bt305 => (spec_DrawAt.j0 k t288 (wrap64 (t285 + (wrap64 (bt303.1 * t287)))) (wrap64 (t286 + (wrap64 (bt305.1 * t287)))) t283 t284 t285 t286 t287))) else (if bt297.1 = 3 then ((spec_l1Rd_number.f k t280 bt297.2).bind fun bt307 => (spec_DrawAt.j0 k t288 bt307.1 (wrap64 (t286 + bt295.1)) t283 t284 t285 t286 t287)) else (spec_DrawAt.j0 k t288 (wrap64 (t285 + bt293.1)) (wrap64 (t286 + bt295.1)) t283 t284 t285 t286 t287)))))))) = some (r1, r2, r3, r4, r5, r6, r7, r8) := H
 have A3 := Aside0.mk A30
 clear A30
 obtain ⟨ji4, hji4⟩ : ∃ j_ : Int, (mn t283 64) = j_ := ⟨_, rfl⟩
 replace H : ((spec_l1Rd_below.f t280 t291 (wrap64 (1 + (wrap64 ((ji4) * (mn t287 300)))))).bind fun bt293 => ((spec_l1Rd_below.f t280 bt293.2 (wrap64 (1 + (wrap64 ((mn t284 64) * (mn t287 300)))))).bind fun bt295 => ((spec_l1Rd_below.f t280 bt295.2 8).bind fun bt297 => (if bt297.1 = 0 then ((spec_l1Rd_below.f t280 bt297.2 4).bind fun bt299 => (spec_DrawAt.j0 k t288 (wrap64 (t285 + (wrap64 (bt299.1 * t287)))) (wrap64 (t286 + bt295.1)) t283 t284 t285 t286 t287)) else (if bt297.1 = 1 then ((spec_l1Rd_below.f t280 bt297.2 4).bind fun bt301 => (spec_DrawAt.j0 k t288 (wrap64 (t285 + bt293.1)) (wrap64 (t286 + (wrap64 (bt301.1 * t287)))) t283 t284 t285 t286 t287)) else (if bt297.1 = 2 then ((spec_l1Rd_below.f t280 bt297.2 4).bind fun bt303 => ((spec_l1Rd_below.f t280 bt303.2 4).bind fun bt305 => (spec_DrawAt.j0 k t288 (wrap64 (t285 + (wrap64 (bt303.1 * t287)))) (wrap64 (t286 + (wrap64 (bt305.1 * t287)))) t283 t284 t285 t286 t287))) else (if bt297.1 = 3 then ((spec_l1Rd_number.f k t280 bt297.2).bind fun bt307 => (spec_DrawAt.j0 k t288 bt307.1 (wrap64 (t286 + bt295.1)) t283 t284 t285 t286 t287)) else (spec_DrawAt.j0 k t288 (wrap64 (t285 + bt293.1)) (wrap64 (t286 + bt295.1)) t283 t284 t285 t286 t287)))))))) = some (r1, r2, r3, r4, r5, r6, r7, r8) := by first | (rw [hji4] at H; exact H) | (simp only [hji4] at H ⊢; exact H)
 (try rw [hji4] at A2)
 (try rw [hji4] at A3)
 (try (have hji4h : ji4 ≤ 64 := by (rw [← hji4]; unfold mn; (repeat' split) <;> omega)))
 (try (have hji4g : ji4 ≤ 64 := by omega))
 have hji4_ : (if 64 < t283 then 64 else t283) = ji4 := hji4
 obtain ⟨ji5, hji5⟩ : ∃ j_ : Int, (mn t287 300) = j_ := ⟨_, rfl⟩
 replace H : ((spec_l1Rd_below.f t280 t291 (wrap64 (1 + (wrap64 ((ji4) * (ji5)))))).bind fun bt293 => ((spec_l1Rd_below.f t280 bt293.2 (wrap64 (1 + (wrap64 ((mn t284 64) * (ji5)))))).bind fun bt295 => ((spec_l1Rd_below.f t280 bt295.2 8).bind fun bt297 => (if bt297.1 = 0 then ((spec_l1Rd_below.f t280 bt297.2 4).bind fun bt299 => (spec_DrawAt.j0 k t288 (wrap64 (t285 + (wrap64 (bt299.1 * t287)))) (wrap64 (t286 + bt295.1)) t283 t284 t285 t286 t287)) else (if bt297.1 = 1 then ((spec_l1Rd_below.f t280 bt297.2 4).bind fun bt301 => (spec_DrawAt.j0 k t288 (wrap64 (t285 + bt293.1)) (wrap64 (t286 + (wrap64 (bt301.1 * t287)))) t283 t284 t285 t286 t287)) else (if bt297.1 = 2 then ((spec_l1Rd_below.f t280 bt297.2 4).bind fun bt303 => ((spec_l1Rd_below.f t280 bt303.2 4).bind fun bt305 => (spec_DrawAt.j0 k t288 (wrap64 (t285 + (wrap64 (bt303.1 * t287)))) (wrap64 (t286 + (wrap64 (bt305.1 * t287)))) t283 t284 t285 t286 t287))) else (if bt297.1 = 3 then ((spec_l1Rd_number.f k t280 bt297.2).bind fun bt307 => (spec_DrawAt.j0 k t288 bt307.1 (wrap64 (t286 + bt295.1)) t283 t284 t285 t286 t287)) else (spec_DrawAt.j0 k t288 (wrap64 (t285 + bt293.1)) (wrap64 (t286 + bt295.1)) t283 t284 t285 t286 t287)))))))) = some (r1, r2, r3, r4, r5, r6, r7, r8) := by first | (rw [hji5] at H; exact H) | (simp only [hji5] at H ⊢; exact H)
 (try rw [hji5] at A2)
 (try rw [hji5] at A3)
 (try (have hji5h : ji5 ≤ 300 := by (rw [← hji5]; unfold mn; (repeat' split) <;> omega)))
 (try (have hji5g : ji5 ≤ 64 := by omega))
 have hji5_ : (if 300 < t287 then 300 else t287) = ji5 := hji5
 replace H := Option.bind_eq_some_iff.mp H
 obtain ⟨⟨t293, t294⟩, A60, H⟩ := H
 replace H : ((spec_l1Rd_below.f t280 t294 (wrap64 (1 + (wrap64 ((mn t284 64) * (ji5)))))).bind fun bt295 => ((spec_l1Rd_below.f t280 bt295.2 8).bind fun bt297 => (if bt297.1 = 0 then ((spec_l1Rd_below.f t280 bt297.2 4).bind fun bt299 => (spec_DrawAt.j0 k t288 (wrap64 (t285 + (wrap64 (bt299.1 * t287)))) (wrap64 (t286 + bt295.1)) t283 t284 t285 t286 t287)) else (if bt297.1 = 1 then ((spec_l1Rd_below.f t280 bt297.2 4).bind fun bt301 => (spec_DrawAt.j0 k t288 (wrap64 (t285 + t293)) (wrap64 (t286 + (wrap64 (bt301.1 * t287)))) t283 t284 t285 t286 t287)) else (if bt297.1 = 2 then ((spec_l1Rd_below.f t280 bt297.2 4).bind fun bt303 => ((spec_l1Rd_below.f t280 bt303.2 4).bind fun bt305 => (spec_DrawAt.j0 k t288 (wrap64 (t285 + (wrap64 (bt303.1 * t287)))) (wrap64 (t286 + (wrap64 (bt305.1 * t287)))) t283 t284 t285 t286 t287))) else (if bt297.1 = 3 then ((spec_l1Rd_number.f k t280 bt297.2).bind fun bt307 => (spec_DrawAt.j0 k t288 bt307.1 (wrap64 (t286 + bt295.1)) t283 t284 t285 t286 t287)) else (spec_DrawAt.j0 k t288 (wrap64 (t285 + t293)) (wrap64 (t286 + bt295.1)) t283 t284 t285 t286 t287))))))) = some (r1, r2, r3, r4, r5, r6, r7, r8) := H
 have A6 := Aside0.mk A60
 clear A60
 obtain ⟨ji7, hji7⟩ : ∃ j_ : Int, (mn t284 64) = j_ := ⟨_, rfl⟩
 replace H : ((spec_l1Rd_below.f t280 t294 (wrap64 (1 + (wrap64 ((ji7) * (ji5)))))).bind fun bt295 => ((spec_l1Rd_below.f t280 bt295.2 8).bind fun bt297 => (if bt297.1 = 0 then ((spec_l1Rd_below.f t280 bt297.2 4).bind fun bt299 => (spec_DrawAt.j0 k t288 (wrap64 (t285 + (wrap64 (bt299.1 * t287)))) (wrap64 (t286 + bt295.1)) t283 t284 t285 t286 t287)) else (if bt297.1 = 1 then ((spec_l1Rd_below.f t280 bt297.2 4).bind fun bt301 => (spec_DrawAt.j0 k t288 (wrap64 (t285 + t293)) (wrap64 (t286 + (wrap64 (bt301.1 * t287)))) t283 t284 t285 t286 t287)) else (if bt297.1 = 2 then ((spec_l1Rd_below.f t280 bt297.2 4).bind fun bt303 => ((spec_l1Rd_below.f t280 bt303.2 4).bind fun bt305 => (spec_DrawAt.j0 k t288 (wrap64 (t285 + (wrap64 (bt303.1 * t287)))) (wrap64 (t286 + (wrap64 (bt305.1 * t287)))) t283 t284 t285 t286 t287))) else (if bt297.1 = 3 then ((spec_l1Rd_number.f k t280 bt297.2).bind fun bt307 => (spec_DrawAt.j0 k t288 bt307.1 (wrap64 (t286 + bt295.1)) t283 t284 t285 t286 t287)) else (spec_DrawAt.j0 k t288 (wrap64 (t285 + t293)) (wrap64 (t286 + bt295.1)) t283 t284 t285 t286 t287))))))) = some (r1, r2, r3, r4, r5, r6, r7, r8) := by first | (rw [hji7] at H; exact H) | (simp only [hji7] at H ⊢; exact H)
 (try rw [hji7] at A2)
 (try rw [hji7] at A3)
 (try rw [hji7] at A6)
 (try (have hji7h : ji7 ≤ 64 := by (rw [← hji7]; unfold mn; (repeat' split) <;> omega)))
 (try (have hji7g : ji7 ≤ 64 := by omega))
 have hji7_ : (if 64 < t284 then 64 else t284) = ji7 := hji7
 replace H := Option.bind_eq_some_iff.mp H
 obtain ⟨⟨t295, t296⟩, A80, H⟩ := H
 replace H : ((spec_l1Rd_below.f t280 t296 8).bind fun bt297 => (if bt297.1 = 0 then ((spec_l1Rd_below.f t280 bt297.2 4).bind fun bt299 => (spec_DrawAt.j0 k t288 (wrap64 (t285 + (wrap64 (bt299.1 * t287)))) (wrap64 (t286 + t295)) t283 t284 t285 t286 t287)) else (if bt297.1 = 1 then ((spec_l1Rd_below.f t280 bt297.2 4).bind fun bt301 => (spec_DrawAt.j0 k t288 (wrap64 (t285 + t293)) (wrap64 (t286 + (wrap64 (bt301.1 * t287)))) t283 t284 t285 t286 t287)) else (if bt297.1 = 2 then ((spec_l1Rd_below.f t280 bt297.2 4).bind fun bt303 => ((spec_l1Rd_below.f t280 bt303.2 4).bind fun bt305 => (spec_DrawAt.j0 k t288 (wrap64 (t285 + (wrap64 (bt303.1 * t287)))) (wrap64 (t286 + (wrap64 (bt305.1 * t287)))) t283 t284 t285 t286 t287))) else (if bt297.1 = 3 then ((spec_l1Rd_number.f k t280 bt297.2).bind fun bt307 => (spec_DrawAt.j0 k t288 bt307.1 (wrap64 (t286 + t295)) t283 t284 t285 t286 t287)) else (spec_DrawAt.j0 k t288 (wrap64 (t285 + t293)) (wrap64 (t286 + t295)) t283 t284 t285 t286 t287)))))) = some (r1, r2, r3, r4, r5, r6, r7, r8) := H
 have A8 := Aside0.mk A80
 clear A80
 replace H := Option.bind_eq_some_iff.mp H
 obtain ⟨⟨t297, t298⟩, A90, H⟩ := H
 replace H : (if t297 = 0 then ((spec_l1Rd_below.f t280 t298 4).bind fun bt299 => (spec_DrawAt.j0 k t288 (wrap64 (t285 + (wrap64 (bt299.1 * t287)))) (wrap64 (t286 + t295)) t283 t284 t285 t286 t287)) else (if t297 = 1 then ((spec_l1Rd_below.f t280 t298 4).bind fun bt301 => (spec_DrawAt.j0 k t288 (wrap64 (t285 + t293)) (wrap64 (t286 + (wrap64 (bt301.1 * t287)))) t283 t284 t285 t286 t287)) else (if t297 = 2 then ((spec_l1Rd_below.f t280 t298 4).bind fun bt303 => ((spec_l1Rd_below.f t280 bt303.2 4).bind fun bt305 => (spec_DrawAt.j0 k t288 (wrap64 (t285 + (wrap64 (bt303.1 * t287)))) (wrap64 (t286 + (wrap64 (bt305.1 * t287)))) t283 t284 t285 t286 t287))) else (if t297 = 3 then ((spec_l1Rd_number.f k t280 t298).bind fun bt307 => (spec_DrawAt.j0 k t288 bt307.1 (wrap64 (t286 + t295)) t283 t284 t285 t286 t287)) else (spec_DrawAt.j0 k t288 (wrap64 (t285 + t293)) (wrap64 (t286 + t295)) t283 t284 t285 t286 t287))))) = some (r1, r2, r3, r4, r5, r6, r7, r8) := H
 have A9 := Aside0.mk A90
 clear A90
 have HC10 := Aside0.mk H
 clear H
 go_enter Try.func29, Try.ntmps29
 try go_wp2_with (first | ((with_reducible refine gate_dst (N := 2) rfl ?_); refine box_event ?hg (N := 2) ?hd (cs := #[.int .i64 0, .int .i64 0, .int .i64 0, .int .i64 0, .int .i64 0]) (t := 43) ?hr ?_; (case hd => rfl); (case hg => rfl); (case hr => first | (go_simp; done) | (go_simp; rfl)); intro gb279 hg w11 hbox hb; have n0_ := Aside0.mk (below_step (by repeat (first | (with_reducible first | exact HB.out | apply below_alloc | apply pw_below_drewN | apply below_drew1) | exact HB.out)) hb); have n1_ := Aside0.mk (hbox); have n2_ := Aside0.mk ((by rw [hg]; exact (below_size (by repeat (first | (with_reducible first | exact HB.out | apply below_alloc | apply pw_below_drewN | apply below_drew1) | exact HB.out))) : w.heap.size ≤ gb279)); have n3_ := Aside0.mk ((by rw [hg]; exact (below_size (by repeat (first | (with_reducible first | exact HB.out | apply below_alloc | apply pw_below_drewN | apply below_drew1) | exact HB.out))) : w.heap.size ≤ gb279)); clear HB; have HB := n0_; have BK279 := n1_; have GW279 := n2_; have GE279 := n3_; clear n0_ n1_ n2_ n3_; clear hb hbox hg) | ((with_reducible refine gate_callee (f := 54) rfl ?_); refine goesL_ (some 12) rfl rfl Try.func54 (by kernel_rfl) rfl #[.slice A0 l0.length c0] rfl (by (try simp only [List.map_toArray, List.map_cons, List.map_nil]); first | done | rfl | (simp only [List.length_drop, List.length_take]; rfl)) ?_; (with_reducible refine (spec_l1Open.calls _ _ l0 t280 t281 w _ ?side1 ?side2 ?side3 A2.out).mono ?_); (case side1 => repeat (first | (with_reducible first | exact HB.out | apply below_alloc | apply pw_below_drewN | apply below_drew1 | refine below_set ?_ GE279.out) | exact HB.out)); (case side2 => exact HR0.out); (case side3 => exact HC0.out); rintro e w12 ⟨g282, rfl, hi, hb, hb2⟩; refine ⟨_, rfl, ?_⟩; have n0_ := Aside0.mk (blk_below (g := gb279) (o := .cells #[.int .i64 0, .int .i64 0, .int .i64 0, .int .i64 0, .int .i64 0] 43 (0, 0)) (by (with_reducible repeat (first | refine blk_drewN ?_ _ | refine blk_drew ?_ | refine blk_alloc ?_ _)); exact BK279.out) hb2); have n1_ := Aside0.mk (hb); have n2_ := Aside0.mk (hi); have n3_ := Aside0.mk (IsS89.ne_blk hi (blk_below (g := gb279) (o := .cells #[.int .i64 0, .int .i64 0, .int .i64 0, .int .i64 0, .int .i64 0] 43 (0, 0)) (by (with_reducible repeat (first | refine blk_drewN ?_ _ | refine blk_drew ?_ | refine blk_alloc ?_ _)); exact BK279.out) hb2) (by decide)); have n4_ := Aside0.mk (Ne.symm (IsS89.ne_blk hi (blk_below (g := gb279) (o := .cells #[.int .i64 0, .int .i64 0, .int .i64 0, .int .i64 0, .int .i64 0] 43 (0, 0)) (by (with_reducible repeat (first | refine blk_drewN ?_ _ | refine blk_drew ?_ | refine blk_alloc ?_ _)); exact BK279.out) hb2) (by decide))); clear BK279; clear HB; have BK279 := n0_; have HB := n1_; have HI282 := n2_; have NB282_279 := n3_; have NB279_282 := n4_; clear n0_ n1_ n2_ n3_ n4_; (try clear hb); (try clear hb2); (try clear hk); (try clear hi)) | ((with_reducible refine gate_callee (f := 55) rfl ?_); refine goesL_ (some 15) rfl rfl Try.func55 (by kernel_rfl) rfl #[.pointer (some ⟨g282, 0, none⟩)] rfl (by (try simp only [List.map_toArray, List.map_cons, List.map_nil]); first | done | rfl | (simp only [List.length_drop, List.length_take]; rfl)) ?_; (with_reducible refine (spec_l11DrawGrid.calls k g282 t280 t281 t283 t284 t285 t286 t287 t288 t291 w _ ?side1 ?side2 A3.out).mono ?_); (case side1 => repeat (first | (with_reducible first | exact HI282.out | apply IsS89.alloc | apply IsS89.drewN | apply IsS89.drew | apply IsS89.set_1 | apply IsS89.far (hne := NB282_279.out)) | exact HI282.out)); (case side2 => repeat (first | (with_reducible first | exact HB.out | apply below_alloc | apply pw_below_drewN | apply below_drew1 | refine below_set ?_ (IsS89.ge HI282.out) | refine below_set ?_ GE279.out) | exact HB.out)); rintro e w13 ⟨v289, rfl, ho0, hi, hb, hk⟩; refine ⟨_, rfl, ?_⟩; have n0_ := Aside0.mk (KeepBut.blk hk (g' := gb279) (o := .cells #[.int .i64 0, .int .i64 0, .int .i64 0, .int .i64 0, .int .i64 0] 43 (0, 0)) (by (with_reducible repeat (first | refine blk_drewN ?_ _ | refine blk_drew ?_ | refine blk_alloc ?_ _)); exact BK279.out) NB279_282.out (by simp)); have n1_ := Aside0.mk (Kd.R_lower ho0 (below_size (by repeat (first | (with_reducible first | exact HB.out | apply below_alloc | apply pw_below_drewN | apply below_drew1 | refine below_set ?_ (IsS89.ge HI282.out) | refine below_set ?_ GE279.out) | exact HB.out)))); have n2_ := Aside0.mk (hb); have n3_ := Aside0.mk (hi); clear BK279; clear HB; clear HI282; have BK279 := n0_; have HO290 := n1_; have HB := n2_; have HI282 := n3_; clear n0_ n1_ n2_ n3_; (try clear hb); (try clear hb2); (try clear hk); (try clear hi); (try clear ho0)) | ((with_reducible refine gate_dst (N := 7) rfl ?_); refine box_event ?hg (N := 7) ?hd (cs := #[.int .i64 0, .int .i64 0, .int .i64 0, .int .i64 0, .int .i64 0]) (t := 43) ?hr ?_; (case hd => rfl); (case hg => rfl); (case hr => first | (go_simp; done) | (go_simp; rfl)); intro gb292 hg w14 hbox hb; have n0_ := Aside0.mk (Kd.R_below (by (with_reducible repeat (first | apply Kd.R_alloc | apply Kd.R_drewN | apply Kd.R_drew)); exact HO290.out) hb); have n1_ := Aside0.mk (blk_below (g := gb279) (o := .cells #[.int .i64 0, .int .i64 0, .int .i64 0, .int .i64 0, .int .i64 0] 43 (0, 0)) (by (with_reducible repeat (first | refine blk_drewN ?_ _ | refine blk_drew ?_ | refine blk_alloc ?_ _)); exact BK279.out) hb); have n2_ := Aside0.mk (IsS89.below (by repeat (first | (with_reducible first | exact HI282.out | apply IsS89.alloc | apply IsS89.drewN | apply IsS89.drew | apply IsS89.set_1 | apply IsS89.far (hne := NB282_279.out)) | exact HI282.out)) hb); have n3_ := Aside0.mk (below_step (by repeat (first | (with_reducible first | exact HB.out | apply below_alloc | apply pw_below_drewN | apply below_drew1 | refine below_set ?_ (IsS89.ge HI282.out) | refine below_set ?_ GE279.out) | exact HB.out)) hb); have n4_ := Aside0.mk (hbox); have n5_ := Aside0.mk ((by rw [hg]; exact (below_size (by repeat (first | (with_reducible first | exact HB.out | apply below_alloc | apply pw_below_drewN | apply below_drew1 | refine below_set ?_ (IsS89.ge HI282.out) | refine below_set ?_ GE279.out) | exact HB.out))) : w.heap.size ≤ gb292)); have n6_ := Aside0.mk ((by rw [hg]; exact (below_size (by repeat (first | (with_reducible first | exact HB.out | apply below_alloc | apply pw_below_drewN | apply below_drew1 | refine below_set ?_ (IsS89.ge HI282.out) | refine below_set ?_ GE279.out) | exact HB.out))) : w.heap.size ≤ gb292)); have n7_ := Aside0.mk ((by rw [hg]; exact Nat.ne_of_lt (blk_lt (g := gb279) (o := .cells #[.int .i64 0, .int .i64 0, .int .i64 0, .int .i64 0, .int .i64 0] 43 (0, 0)) (by (with_reducible repeat (first | refine blk_drewN ?_ _ | refine blk_drew ?_ | refine blk_alloc ?_ _)); exact BK279.out)) : gb279 ≠ gb292)); have n8_ := Aside0.mk ((by rw [hg]; exact Nat.ne_of_gt (blk_lt (g := gb279) (o := .cells #[.int .i64 0, .int .i64 0, .int .i64 0, .int .i64 0, .int .i64 0] 43 (0, 0)) (by (with_reducible repeat (first | refine blk_drewN ?_ _ | refine blk_drew ?_ | refine blk_alloc ?_ _)); exact BK279.out)) : gb292 ≠ gb279)); have n9_ := Aside0.mk ((by rw [hg]; exact Nat.ne_of_lt (IsS89.lt (show IsS89 w _ g282 t280 t291 from by repeat (first | (with_reducible first | exact HI282.out | apply IsS89.alloc | apply IsS89.drewN | apply IsS89.drew | apply IsS89.set_1 | apply IsS89.far (hne := NB282_279.out)) | exact HI282.out))) : g282 ≠ gb292)); have n10_ := Aside0.mk ((by rw [hg]; exact Nat.ne_of_gt (IsS89.lt (show IsS89 w _ g282 t280 t291 from by repeat (first | (with_reducible first | exact HI282.out | apply IsS89.alloc | apply IsS89.drewN | apply IsS89.drew | apply IsS89.set_1 | apply IsS89.far (hne := NB282_279.out)) | exact HI282.out))) : gb292 ≠ g282)); clear HO290; clear BK279; clear HI282; clear HB; have HO290 := n0_; have BK279 := n1_; have HI282 := n2_; have HB := n3_; have BK292 := n4_; have GW292 := n5_; have GE292 := n6_; have NB279_292 := n7_; have NB292_279 := n8_; have NB282_292 := n9_; have NB292_282 := n10_; clear n0_ n1_ n2_ n3_ n4_ n5_ n6_ n7_ n8_ n9_ n10_; clear hb hbox hg; have hnb15 := NB292_279.out; have hnc15 := NB279_292.out; have hnb16 := NB292_282.out; have hnc16 := NB282_292.out; have hcz17_0 : w14.cell? ⟨gb292, 0, none⟩ = some (.int .i64 0) := (blk_cell BK292.out 0).trans rfl; have hcz17_1 : w14.cell? ⟨gb292, 1, none⟩ = some (.int .i64 0) := (blk_cell BK292.out 1).trans rfl; have hcz17_2 : w14.cell? ⟨gb292, 2, none⟩ = some (.int .i64 0) := (blk_cell BK292.out 2).trans rfl; have hcz17_3 : w14.cell? ⟨gb292, 3, none⟩ = some (.int .i64 0) := (blk_cell BK292.out 3).trans rfl; have hcz17_4 : w14.cell? ⟨gb292, 4, none⟩ = some (.int .i64 0) := (blk_cell BK292.out 4).trans rfl; have hfz17_0 := blk_frozen BK292.out 0; have hfz17_1 := blk_frozen BK292.out 1; have hfz17_2 := blk_frozen BK292.out 2; have hfz17_3 := blk_frozen BK292.out 3; have hfz17_4 := blk_frozen BK292.out 4))
 have n0_ : Aside0 (Kd.R Kd.flt 33 (((((w14.setCell ⟨gb292, 0, none⟩ (.int .i64 t283)).setCell ⟨gb292, 1, none⟩ (.int .i64 t284)).setCell ⟨gb292, 2, none⟩ (.int .i64 t285)).setCell ⟨gb292, 3, none⟩ (.int .i64 t286)).setCell ⟨gb292, 4, none⟩ (.int .i64 t287)) w.heap.size (fun _ => True) v289 t288) := ⟨by (with_reducible repeat (first | apply Kd.R_alloc | apply Kd.R_drewN | apply Kd.R_drew)); exact Kd.R_mono (Kd.R_far (p := ⟨gb292, 4, none⟩) (Kd.R_far (p := ⟨gb292, 3, none⟩) (Kd.R_far (p := ⟨gb292, 2, none⟩) (Kd.R_far (p := ⟨gb292, 1, none⟩) (Kd.R_far (p := ⟨gb292, 0, none⟩) (Kd.R_types HO290.out BK292.out (by decide)) (fun _ hk => hk.2) (.int .i64 t283)) (fun _ hk => hk.2) (.int .i64 t284)) (fun _ hk => hk.2) (.int .i64 t285)) (fun _ hk => hk.2) (.int .i64 t286)) (fun _ hk => hk.2) (.int .i64 t287)) (fun _ hk => trivial)⟩
 have n1_ : Aside0 ((((((w14.setCell ⟨gb292, 0, none⟩ (.int .i64 t283)).setCell ⟨gb292, 1, none⟩ (.int .i64 t284)).setCell ⟨gb292, 2, none⟩ (.int .i64 t285)).setCell ⟨gb292, 3, none⟩ (.int .i64 t286)).setCell ⟨gb292, 4, none⟩ (.int .i64 t287)).heap[gb279]? = some (.cells #[.int .i64 0, .int .i64 0, .int .i64 0, .int .i64 0, .int .i64 0] 43 (0, 0))) := ⟨by (with_reducible repeat (first | refine blk_drewN ?_ _ | refine blk_drew ?_ | refine blk_alloc ?_ _)); refine blk_far ?_ NB279_292.out _; (with_reducible repeat (first | refine blk_drewN ?_ _ | refine blk_drew ?_ | refine blk_alloc ?_ _)); refine blk_far ?_ NB279_292.out _; (with_reducible repeat (first | refine blk_drewN ?_ _ | refine blk_drew ?_ | refine blk_alloc ?_ _)); refine blk_far ?_ NB279_292.out _; (with_reducible repeat (first | refine blk_drewN ?_ _ | refine blk_drew ?_ | refine blk_alloc ?_ _)); refine blk_far ?_ NB279_292.out _; (with_reducible repeat (first | refine blk_drewN ?_ _ | refine blk_drew ?_ | refine blk_alloc ?_ _)); refine blk_far ?_ NB279_292.out _; (with_reducible repeat (first | refine blk_drewN ?_ _ | refine blk_drew ?_ | refine blk_alloc ?_ _)); exact BK279.out⟩
 have n2_ : Aside0 ((((((w14.setCell ⟨gb292, 0, none⟩ (.int .i64 t283)).setCell ⟨gb292, 1, none⟩ (.int .i64 t284)).setCell ⟨gb292, 2, none⟩ (.int .i64 t285)).setCell ⟨gb292, 3, none⟩ (.int .i64 t286)).setCell ⟨gb292, 4, none⟩ (.int .i64 t287)).heap[gb292]? = some (.cells #[.int .i64 t283, .int .i64 t284, .int .i64 t285, .int .i64 t286, .int .i64 t287] 43 (0, 0))) := ⟨by (with_reducible repeat (first | refine blk_drewN ?_ _ | refine blk_drew ?_ | refine blk_alloc ?_ _)); refine blk_put (cs := #[.int .i64 t283, .int .i64 t284, .int .i64 t285, .int .i64 t286, .int .i64 0]) ?_ 4 _ rfl; (with_reducible repeat (first | refine blk_drewN ?_ _ | refine blk_drew ?_ | refine blk_alloc ?_ _)); refine blk_put (cs := #[.int .i64 t283, .int .i64 t284, .int .i64 t285, .int .i64 0, .int .i64 0]) ?_ 3 _ rfl; (with_reducible repeat (first | refine blk_drewN ?_ _ | refine blk_drew ?_ | refine blk_alloc ?_ _)); refine blk_put (cs := #[.int .i64 t283, .int .i64 t284, .int .i64 0, .int .i64 0, .int .i64 0]) ?_ 2 _ rfl; (with_reducible repeat (first | refine blk_drewN ?_ _ | refine blk_drew ?_ | refine blk_alloc ?_ _)); refine blk_put (cs := #[.int .i64 t283, .int .i64 0, .int .i64 0, .int .i64 0, .int .i64 0]) ?_ 1 _ rfl; (with_reducible repeat (first | refine blk_drewN ?_ _ | refine blk_drew ?_ | refine blk_alloc ?_ _)); refine blk_put (cs := #[.int .i64 0, .int .i64 0, .int .i64 0, .int .i64 0, .int .i64 0]) ?_ 0 _ rfl; (with_reducible repeat (first | refine blk_drewN ?_ _ | refine blk_drew ?_ | refine blk_alloc ?_ _)); exact BK292.out⟩
 have n3_ : Aside0 (IsS89 w (((((w14.setCell ⟨gb292, 0, none⟩ (.int .i64 t283)).setCell ⟨gb292, 1, none⟩ (.int .i64 t284)).setCell ⟨gb292, 2, none⟩ (.int .i64 t285)).setCell ⟨gb292, 3, none⟩ (.int .i64 t286)).setCell ⟨gb292, 4, none⟩ (.int .i64 t287)) g282 t280 t291) := ⟨by repeat (first | (with_reducible first | exact HI282.out | apply IsS89.alloc | apply IsS89.drewN | apply IsS89.drew | apply IsS89.set_1 | apply IsS89.far (hne := NB282_279.out) | apply IsS89.far (hne := NB282_292.out)) | exact HI282.out)⟩
 have n4_ : Aside0 (Below w.heap.size w (((((w14.setCell ⟨gb292, 0, none⟩ (.int .i64 t283)).setCell ⟨gb292, 1, none⟩ (.int .i64 t284)).setCell ⟨gb292, 2, none⟩ (.int .i64 t285)).setCell ⟨gb292, 3, none⟩ (.int .i64 t286)).setCell ⟨gb292, 4, none⟩ (.int .i64 t287))) := ⟨by repeat (first | (with_reducible first | exact HB.out | apply below_alloc | apply pw_below_drewN | apply below_drew1 | refine below_set ?_ (IsS89.ge HI282.out) | refine below_set ?_ GE279.out | refine below_set ?_ GE292.out) | exact HB.out)⟩
 (try clear HO290)
 (try clear BK279)
 (try clear BK292)
 (try clear HI282)
 (try clear HB)
 generalize (((((w14.setCell ⟨gb292, 0, none⟩ (.int .i64 t283)).setCell ⟨gb292, 1, none⟩ (.int .i64 t284)).setCell ⟨gb292, 2, none⟩ (.int .i64 t285)).setCell ⟨gb292, 3, none⟩ (.int .i64 t286)).setCell ⟨gb292, 4, none⟩ (.int .i64 t287)) = w18 at n0_ n1_ n2_ n3_ n4_ ⊢
 have HO290 := n0_
 have BK279 := n1_
 have BK292 := n2_
 have HI282 := n3_
 have HB := n4_
 clear n0_ n1_ n2_ n3_ n4_
 have n0_ := Aside0.mk (Kd.R_drew HO290.out)
 have n1_ := Aside0.mk (blk_drew BK279.out)
 have n2_ := Aside0.mk (blk_drew BK292.out)
 have n3_ := Aside0.mk (IsS89.drew HI282.out)
 have n4_ := Aside0.mk (below_drew1 HB.out)
 clear HO290
 clear BK279
 clear BK292
 clear HI282
 clear HB
 have HO290 := n0_
 have BK279 := n1_
 have BK292 := n2_
 have HI282 := n3_
 have HB := n4_
 clear n0_ n1_ n2_ n3_ n4_
 refine start_ (n := 14) (S := fun w' => w'.cell? ⟨gb292, 0, none⟩ = some (.int .i64 t283) ∧ w'.cell? ⟨gb292, 1, none⟩ = some (.int .i64 t284) ∧ w'.cell? ⟨gb292, 2, none⟩ = some (.int .i64 t285) ∧ w'.cell? ⟨gb292, 3, none⟩ = some (.int .i64 t286) ∧ w'.cell? ⟨gb292, 4, none⟩ = some (.int .i64 t287)) (ds := []) #[false, false, false, false, false, false, false, false, false, false, false, false, false, false] (by kernel_rfl) rfl rfl ⟨(blk_cell BK292.out 0).trans rfl, (blk_cell BK292.out 1).trans rfl, (blk_cell BK292.out 2).trans rfl, (blk_cell BK292.out 3).trans rfl, (blk_cell BK292.out 4).trans rfl⟩ (fun hHeld => ?_); refine with_tabW spec_DrawAt.tab3 spec_DrawAt.bits3 (fun HT_ HW_ => ?_)
 generalize w18.drew = w19 at HO290 BK279 BK292 HI282 HB hHeld ⊢
 refine pure_ (i := 0) (N := some 18) (v := ?_) (a' := ?_) #[true, false, false, false, false, false, false, false, false, false, false, false, false, false] rfl rfl (any_of HT_.out (by kernel_rfl)) (fun _ _ _ h => h) (Or.inl ⟨by rfl, ?_⟩) ?_ ?_
 rotate_left
 ·intro w'
  go_simp
  with_reducible rfl
 rotate_left
 ·simp only [Act.put, sqA, sqZ, sqS, i64_w, i32_w]
  rfl
 refine pure_ (i := 2) (N := some 20) (v := ?_) (a' := ?_) #[true, false, true, false, false, false, false, false, false, false, false, false, false, false] rfl rfl (any_of HT_.out (by kernel_rfl)) (fun _ _ _ h => h) (Or.inl ⟨by rfl, ?_⟩) ?_ ?_
 rotate_left
 ·intro w'
  go_simp
  with_reducible rfl
 rotate_left
 ·simp only [Act.put, sqA, sqZ, sqS, i64_w, i32_w]
  rfl
 refine pure_ (i := 3) (N := some 21) (v := ?_) (a' := ?_) #[true, false, true, true, false, false, false, false, false, false, false, false, false, false] rfl rfl (any_of HT_.out (by kernel_rfl)) (fun _ _ _ h => h) (Or.inl ⟨by rfl, ?_⟩) ?_ ?_
 rotate_left
 ·intro w'
  go_simp
  with_reducible rfl
 rotate_left
 ·simp only [Act.put, sqA, sqZ, sqS, i64_w, i32_w]
  rfl
 refine pure_ (i := 6) (N := some 24) (v := ?_) (a' := ?_) #[true, false, true, true, false, false, true, false, false, false, false, false, false, false] rfl rfl (any_of HT_.out (by kernel_rfl)) (fun _ _ _ h => h) (Or.inl ⟨by rfl, ?_⟩) ?_ ?_
 rotate_left
 ·intro w'
  go_simp
  with_reducible rfl
 rotate_left
 ·simp only [Act.put, sqA, sqZ, sqS, i64_w, i32_w]
  rfl
 refine take_ (i := 1) (N := some 19) (v := ?_) (a' := ?_) #[true, true, true, true, false, false, true, false, false, false, false, false, false, false] rfl rfl (take_ofW HT_.out HW_.out (by kernel_rfl)) (fun _ _ _ h => h) (Or.inl ⟨by rfl, ?_⟩) hHeld ?_ ?_
 rotate_left
 ·rintro w' ⟨s0, s1, s2, s3, s4⟩
  go_simp
  with_reducible rfl
 rotate_left
 ·simp only [Act.put, sqA, sqZ, sqS, i64_w, i32_w]
  rfl
 refine take_ (i := 4) (N := some 22) (v := ?_) (a' := ?_) #[true, true, true, true, true, false, true, false, false, false, false, false, false, false] rfl rfl (take_ofW HT_.out HW_.out (by kernel_rfl)) (fun _ _ _ h => h) (Or.inl ⟨by rfl, ?_⟩) hHeld ?_ ?_
 rotate_left
 ·rintro w' ⟨s0, s1, s2, s3, s4⟩
  go_simp
  with_reducible rfl
 rotate_left
 ·simp only [Act.put, sqA, sqZ, sqS, i64_w, i32_w]
  rfl
 refine pure_ (i := 5) (N := some 23) (v := ?_) (a' := ?_) #[true, true, true, true, true, true, true, false, false, false, false, false, false, false] rfl rfl (any_of HT_.out (by kernel_rfl)) (fun _ _ _ h => h) (Or.inl ⟨by rfl, ?_⟩) ?_ ?_
 rotate_left
 ·intro w'
  go_simp
  with_reducible rfl
 rotate_left
 ·simp only [Act.put, sqA, sqZ, sqS, i64_w, i32_w]
  rfl
 refine take_ (i := 7) (N := some 25) (v := ?_) (a' := ?_) #[true, true, true, true, true, true, true, true, false, false, false, false, false, false] rfl rfl (take_ofW HT_.out HW_.out (by kernel_rfl)) (fun _ _ _ h => h) (Or.inl ⟨by rfl, ?_⟩) hHeld ?_ ?_
 rotate_left
 ·rintro w' ⟨s0, s1, s2, s3, s4⟩
  go_simp
  with_reducible rfl
 rotate_left
 ·simp only [Act.put, sqA, sqZ, sqS, i64_w, i32_w]
  rfl
 refine pure_ (i := 8) (N := some 26) (v := ?_) (a' := ?_) #[true, true, true, true, true, true, true, true, true, false, false, false, false, false] rfl rfl (any_of HT_.out (by kernel_rfl)) (fun _ _ _ h => h) (Or.inl ⟨by rfl, ?_⟩) ?_ ?_
 rotate_left
 ·intro w'
  go_simp
  with_reducible rfl
 rotate_left
 ·simp only [Act.put, sqA, sqZ, sqS, i64_w, i32_w]
  rfl
 refine pure_ (i := 9) (N := some 27) (v := ?_) (a' := ?_) #[true, true, true, true, true, true, true, true, true, true, false, false, false, false] rfl rfl (any_of HT_.out (by kernel_rfl)) (fun _ _ _ h => h) (Or.inl ⟨by rfl, ?_⟩) ?_ ?_
 rotate_left
 ·intro w'
  go_simp
  with_reducible rfl
 rotate_left
 ·simp only [Act.put, sqA, sqZ, sqS, i64_w, i32_w]
  rfl
 refine pure_ (i := 10) (N := some 28) (v := ?_) (a' := ?_) #[true, true, true, true, true, true, true, true, true, true, true, false, false, false] rfl rfl (any_of HT_.out (by kernel_rfl)) (fun _ _ _ h => h) (Or.inl ⟨by rfl, ?_⟩) ?_ ?_
 rotate_left
 ·intro w'
  go_simp
  with_reducible rfl
 rotate_left
 ·simp only [Act.put, sqA, sqZ, sqS, i64_w, i32_w]
  rfl
 refine one_ (i := 11) (N := some 29) #[true, true, true, true, true, true, true, true, true, true, true, true, false, false] rfl rfl (one_of HT_.out (by kernel_rfl)) (by decide) (fun K hK => ?_)
 refine goes_ Try.func56 (by kernel_rfl) rfl #[.pointer (some ⟨g282, 0, none⟩), .int .i64 (wrap64 (1 + (wrap64 ((ji4) * (ji5)))))] (by rfl) rfl rfl (by (try simp only [List.map_toArray, List.map_cons, List.map_nil]); first | done | (simp only [hji4, hji5]; rfl) | rfl | (simp only [List.length_drop, List.length_take]; rfl)) ?_
 with_reducible refine (spec_l1Rd_below.calls g282 t280 t291 (wrap64 (1 + (wrap64 ((ji4) * (ji5))))) t293 t294 w _ ?side1 ?side2 A6.out).mono ?_
 (case side1 => repeat (first | (with_reducible first | exact HI282.out | apply IsS89.alloc | apply IsS89.drewN | apply IsS89.drew | apply IsS89.set_1 | apply IsS89.far (hne := NB282_279.out) | apply IsS89.far (hne := NB282_292.out)) | exact HI282.out))
 (case side2 => repeat (first | (with_reducible first | exact HB.out | apply below_alloc | apply pw_below_drewN | apply below_drew1 | refine below_set ?_ (IsS89.ge HI282.out) | refine below_set ?_ GE279.out | refine below_set ?_ GE292.out) | exact HB.out))
 rintro e w20 ⟨rfl, hi, hb, hk⟩
 refine ⟨_, rfl, ?_⟩
 have n0_ := Aside0.mk (KeepBut.blk hk (g' := gb279) (o := .cells #[.int .i64 0, .int .i64 0, .int .i64 0, .int .i64 0, .int .i64 0] 43 (0, 0)) (by (with_reducible repeat (first | refine blk_drewN ?_ _ | refine blk_drew ?_ | refine blk_alloc ?_ _)); exact BK279.out) NB279_282.out (by simp))
 have n1_ := Aside0.mk (Kd.R_mono (Kd.R_keep (IsS89.apart (show IsS89 w _ g282 t280 t291 from by repeat (first | (with_reducible first | exact HI282.out | apply IsS89.alloc | apply IsS89.drewN | apply IsS89.drew | apply IsS89.set_1 | apply IsS89.far (hne := NB282_279.out) | apply IsS89.far (hne := NB282_292.out)) | exact HI282.out)) (by (with_reducible repeat (first | apply Kd.R_alloc | apply Kd.R_drewN | apply Kd.R_drew)); exact HO290.out) (by decide)) hk (fun _ h => h.2)) (fun _ h => h.1))
 have n2_ := Aside0.mk (KeepBut.blk hk (g' := gb292) (o := .cells #[.int .i64 t283, .int .i64 t284, .int .i64 t285, .int .i64 t286, .int .i64 t287] 43 (0, 0)) (by (with_reducible repeat (first | refine blk_drewN ?_ _ | refine blk_drew ?_ | refine blk_alloc ?_ _)); exact BK292.out) NB292_282.out (by simp))
 have n3_ := Aside0.mk (hb)
 have n4_ := Aside0.mk (hi)
 clear BK279
 clear HO290
 clear BK292
 clear HB
 clear HI282
 have BK279 := n0_
 have HO290 := n1_
 have BK292 := n2_
 have HB := n3_
 have HI282 := n4_
 clear n0_ n1_ n2_ n3_ n4_
 (try clear hb)
 (try clear hb2)
 (try clear hk)
 (try clear hi)
 refine hK.out _ _ ⟨(blk_cell BK292.out 0).trans rfl, (blk_cell BK292.out 1).trans rfl, (blk_cell BK292.out 2).trans rfl, (blk_cell BK292.out 3).trans rfl, (blk_cell BK292.out 4).trans rfl⟩ (fun hHeld => ?_)
 clear hK K
 refine norm_ (a' := ?_) ?_ ?_
 rotate_left
 ·show Act.put _ (some 29) _ = _
  simp only [Act.put, sqA, sqZ, sqS, i64_w, i32_w]
  rfl
 refine pure_ (i := 12) (N := some 30) (v := ?_) (a' := ?_) #[true, true, true, true, true, true, true, true, true, true, true, true, true, false] rfl rfl (any_of HT_.out (by kernel_rfl)) (fun _ _ _ h => h) (Or.inl ⟨by rfl, ?_⟩) ?_ ?_
 rotate_left
 ·intro w'
  go_simp
  with_reducible rfl
 rotate_left
 ·simp only [Act.put, sqA, sqZ, sqS, i64_w, i32_w]
  rfl
 refine pure_ (i := 13) (N := some 9) (v := ?_) (a' := ?_) #[true, true, true, true, true, true, true, true, true, true, true, true, true, true] rfl rfl (any_of HT_.out (by kernel_rfl)) (fun _ _ _ h => h) (Or.inl ⟨by rfl, ?_⟩) ?_ ?_
 rotate_left
 ·intro w'
  go_simp
  with_reducible rfl
 rotate_left
 ·simp only [Act.put, sqA, sqZ, sqS, i64_w, i32_w]
  rfl
 refine done_ (done_of HT_.out (by kernel_rfl)) ?_
 try go_wp2
 have n0_ := Aside0.mk (Kd.R_drew HO290.out)
 have n1_ := Aside0.mk (blk_drew BK279.out)
 have n2_ := Aside0.mk (blk_drew BK292.out)
 have n3_ := Aside0.mk (IsS89.drew HI282.out)
 have n4_ := Aside0.mk (below_drew1 HB.out)
 clear HO290
 clear BK279
 clear BK292
 clear HI282
 clear HB
 have HO290 := n0_
 have BK279 := n1_
 have BK292 := n2_
 have HI282 := n3_
 have HB := n4_
 clear n0_ n1_ n2_ n3_ n4_
 refine start_ (n := 14) (S := fun w' => w'.cell? ⟨gb292, 0, none⟩ = some (.int .i64 t283) ∧ w'.cell? ⟨gb292, 1, none⟩ = some (.int .i64 t284) ∧ w'.cell? ⟨gb292, 2, none⟩ = some (.int .i64 t285) ∧ w'.cell? ⟨gb292, 3, none⟩ = some (.int .i64 t286) ∧ w'.cell? ⟨gb292, 4, none⟩ = some (.int .i64 t287)) (ds := []) #[false, false, false, false, false, false, false, false, false, false, false, false, false, false] (by kernel_rfl) rfl rfl ⟨(blk_cell BK292.out 0).trans rfl, (blk_cell BK292.out 1).trans rfl, (blk_cell BK292.out 2).trans rfl, (blk_cell BK292.out 3).trans rfl, (blk_cell BK292.out 4).trans rfl⟩ (fun hHeld => ?_); refine with_tabW spec_DrawAt.tab4 spec_DrawAt.bits4 (fun HT_ HW_ => ?_)
 generalize w20.drew = w21 at HO290 BK279 BK292 HI282 HB hHeld ⊢
 refine pure_ (i := 0) (N := some 31) (v := ?_) (a' := ?_) #[true, false, false, false, false, false, false, false, false, false, false, false, false, false] rfl rfl (any_of HT_.out (by kernel_rfl)) (fun _ _ _ h => h) (Or.inl ⟨by rfl, ?_⟩) ?_ ?_
 rotate_left
 ·intro w'
  go_simp
  with_reducible rfl
 rotate_left
 ·simp only [Act.put, sqA, sqZ, sqS, i64_w, i32_w]
  rfl
 refine pure_ (i := 2) (N := some 33) (v := ?_) (a' := ?_) #[true, false, true, false, false, false, false, false, false, false, false, false, false, false] rfl rfl (any_of HT_.out (by kernel_rfl)) (fun _ _ _ h => h) (Or.inl ⟨by rfl, ?_⟩) ?_ ?_
 rotate_left
 ·intro w'
  go_simp
  with_reducible rfl
 rotate_left
 ·simp only [Act.put, sqA, sqZ, sqS, i64_w, i32_w]
  rfl
 refine pure_ (i := 3) (N := some 34) (v := ?_) (a' := ?_) #[true, false, true, true, false, false, false, false, false, false, false, false, false, false] rfl rfl (any_of HT_.out (by kernel_rfl)) (fun _ _ _ h => h) (Or.inl ⟨by rfl, ?_⟩) ?_ ?_
 rotate_left
 ·intro w'
  go_simp
  with_reducible rfl
 rotate_left
 ·simp only [Act.put, sqA, sqZ, sqS, i64_w, i32_w]
  rfl
 refine pure_ (i := 6) (N := some 37) (v := ?_) (a' := ?_) #[true, false, true, true, false, false, true, false, false, false, false, false, false, false] rfl rfl (any_of HT_.out (by kernel_rfl)) (fun _ _ _ h => h) (Or.inl ⟨by rfl, ?_⟩) ?_ ?_
 rotate_left
 ·intro w'
  go_simp
  with_reducible rfl
 rotate_left
 ·simp only [Act.put, sqA, sqZ, sqS, i64_w, i32_w]
  rfl
 refine take_ (i := 1) (N := some 32) (v := ?_) (a' := ?_) #[true, true, true, true, false, false, true, false, false, false, false, false, false, false] rfl rfl (take_ofW HT_.out HW_.out (by kernel_rfl)) (fun _ _ _ h => h) (Or.inl ⟨by rfl, ?_⟩) hHeld ?_ ?_
 rotate_left
 ·rintro w' ⟨s0, s1, s2, s3, s4⟩
  go_simp
  with_reducible rfl
 rotate_left
 ·simp only [Act.put, sqA, sqZ, sqS, i64_w, i32_w]
  rfl
 refine take_ (i := 4) (N := some 35) (v := ?_) (a' := ?_) #[true, true, true, true, true, false, true, false, false, false, false, false, false, false] rfl rfl (take_ofW HT_.out HW_.out (by kernel_rfl)) (fun _ _ _ h => h) (Or.inl ⟨by rfl, ?_⟩) hHeld ?_ ?_
 rotate_left
 ·rintro w' ⟨s0, s1, s2, s3, s4⟩
  go_simp
  with_reducible rfl
 rotate_left
 ·simp only [Act.put, sqA, sqZ, sqS, i64_w, i32_w]
  rfl
 refine pure_ (i := 5) (N := some 36) (v := ?_) (a' := ?_) #[true, true, true, true, true, true, true, false, false, false, false, false, false, false] rfl rfl (any_of HT_.out (by kernel_rfl)) (fun _ _ _ h => h) (Or.inl ⟨by rfl, ?_⟩) ?_ ?_
 rotate_left
 ·intro w'
  go_simp
  with_reducible rfl
 rotate_left
 ·simp only [Act.put, sqA, sqZ, sqS, i64_w, i32_w]
  rfl
 refine take_ (i := 7) (N := some 38) (v := ?_) (a' := ?_) #[true, true, true, true, true, true, true, true, false, false, false, false, false, false] rfl rfl (take_ofW HT_.out HW_.out (by kernel_rfl)) (fun _ _ _ h => h) (Or.inl ⟨by rfl, ?_⟩) hHeld ?_ ?_
 rotate_left
 ·rintro w' ⟨s0, s1, s2, s3, s4⟩
  go_simp
  with_reducible rfl
 rotate_left
 ·simp only [Act.put, sqA, sqZ, sqS, i64_w, i32_w]
  rfl
 refine pure_ (i := 8) (N := some 39) (v := ?_) (a' := ?_) #[true, true, true, true, true, true, true, true, true, false, false, false, false, false] rfl rfl (any_of HT_.out (by kernel_rfl)) (fun _ _ _ h => h) (Or.inl ⟨by rfl, ?_⟩) ?_ ?_
 rotate_left
 ·intro w'
  go_simp
  with_reducible rfl
 rotate_left
 ·simp only [Act.put, sqA, sqZ, sqS, i64_w, i32_w]
  rfl
 refine pure_ (i := 9) (N := some 40) (v := ?_) (a' := ?_) #[true, true, true, true, true, true, true, true, true, true, false, false, false, false] rfl rfl (any_of HT_.out (by kernel_rfl)) (fun _ _ _ h => h) (Or.inl ⟨by rfl, ?_⟩) ?_ ?_
 rotate_left
 ·intro w'
  go_simp
  with_reducible rfl
 rotate_left
 ·simp only [Act.put, sqA, sqZ, sqS, i64_w, i32_w]
  rfl
 refine pure_ (i := 10) (N := some 41) (v := ?_) (a' := ?_) #[true, true, true, true, true, true, true, true, true, true, true, false, false, false] rfl rfl (any_of HT_.out (by kernel_rfl)) (fun _ _ _ h => h) (Or.inl ⟨by rfl, ?_⟩) ?_ ?_
 rotate_left
 ·intro w'
  go_simp
  with_reducible rfl
 rotate_left
 ·simp only [Act.put, sqA, sqZ, sqS, i64_w, i32_w]
  rfl
 refine one_ (i := 11) (N := some 42) #[true, true, true, true, true, true, true, true, true, true, true, true, false, false] rfl rfl (one_of HT_.out (by kernel_rfl)) (by decide) (fun K hK => ?_)
 refine goes_ Try.func56 (by kernel_rfl) rfl #[.pointer (some ⟨g282, 0, none⟩), .int .i64 (wrap64 (1 + (wrap64 ((ji7) * (ji5)))))] (by rfl) rfl rfl (by (try simp only [List.map_toArray, List.map_cons, List.map_nil]); first | done | (simp only [hji5, hji7]; rfl) | rfl | (simp only [List.length_drop, List.length_take]; rfl)) ?_
 with_reducible refine (spec_l1Rd_below.calls g282 t280 t294 (wrap64 (1 + (wrap64 ((ji7) * (ji5))))) t295 t296 w _ ?side1 ?side2 A8.out).mono ?_
 (case side1 => repeat (first | (with_reducible first | exact HI282.out | apply IsS89.alloc | apply IsS89.drewN | apply IsS89.drew | apply IsS89.set_1 | apply IsS89.far (hne := NB282_279.out) | apply IsS89.far (hne := NB282_292.out)) | exact HI282.out))
 (case side2 => repeat (first | (with_reducible first | exact HB.out | apply below_alloc | apply pw_below_drewN | apply below_drew1 | refine below_set ?_ (IsS89.ge HI282.out) | refine below_set ?_ GE279.out | refine below_set ?_ GE292.out) | exact HB.out))
 rintro e w22 ⟨rfl, hi, hb, hk⟩
 refine ⟨_, rfl, ?_⟩
 have n0_ := Aside0.mk (KeepBut.blk hk (g' := gb279) (o := .cells #[.int .i64 0, .int .i64 0, .int .i64 0, .int .i64 0, .int .i64 0] 43 (0, 0)) (by (with_reducible repeat (first | refine blk_drewN ?_ _ | refine blk_drew ?_ | refine blk_alloc ?_ _)); exact BK279.out) NB279_282.out (by simp))
 have n1_ := Aside0.mk (Kd.R_mono (Kd.R_keep (IsS89.apart (show IsS89 w _ g282 t280 t294 from by repeat (first | (with_reducible first | exact HI282.out | apply IsS89.alloc | apply IsS89.drewN | apply IsS89.drew | apply IsS89.set_1 | apply IsS89.far (hne := NB282_279.out) | apply IsS89.far (hne := NB282_292.out)) | exact HI282.out)) (by (with_reducible repeat (first | apply Kd.R_alloc | apply Kd.R_drewN | apply Kd.R_drew)); exact HO290.out) (by decide)) hk (fun _ h => h.2)) (fun _ h => h.1))
 have n2_ := Aside0.mk (KeepBut.blk hk (g' := gb292) (o := .cells #[.int .i64 t283, .int .i64 t284, .int .i64 t285, .int .i64 t286, .int .i64 t287] 43 (0, 0)) (by (with_reducible repeat (first | refine blk_drewN ?_ _ | refine blk_drew ?_ | refine blk_alloc ?_ _)); exact BK292.out) NB292_282.out (by simp))
 have n3_ := Aside0.mk (hb)
 have n4_ := Aside0.mk (hi)
 clear BK279
 clear HO290
 clear BK292
 clear HB
 clear HI282
 have BK279 := n0_
 have HO290 := n1_
 have BK292 := n2_
 have HB := n3_
 have HI282 := n4_
 clear n0_ n1_ n2_ n3_ n4_
 (try clear hb)
 (try clear hb2)
 (try clear hk)
 (try clear hi)
 refine hK.out _ _ ⟨(blk_cell BK292.out 0).trans rfl, (blk_cell BK292.out 1).trans rfl, (blk_cell BK292.out 2).trans rfl, (blk_cell BK292.out 3).trans rfl, (blk_cell BK292.out 4).trans rfl⟩ (fun hHeld => ?_)
 clear hK K
 refine norm_ (a' := ?_) ?_ ?_
 rotate_left
 ·show Act.put _ (some 42) _ = _
  simp only [Act.put, sqA, sqZ, sqS, i64_w, i32_w]
  rfl
 refine pure_ (i := 12) (N := some 43) (v := ?_) (a' := ?_) #[true, true, true, true, true, true, true, true, true, true, true, true, true, false] rfl rfl (any_of HT_.out (by kernel_rfl)) (fun _ _ _ h => h) (Or.inl ⟨by rfl, ?_⟩) ?_ ?_
 rotate_left
 ·intro w'
  go_simp
  with_reducible rfl
 rotate_left
 ·simp only [Act.put, sqA, sqZ, sqS, i64_w, i32_w]
  rfl
 refine pure_ (i := 13) (N := some 10) (v := ?_) (a' := ?_) #[true, true, true, true, true, true, true, true, true, true, true, true, true, true] rfl rfl (any_of HT_.out (by kernel_rfl)) (fun _ _ _ h => h) (Or.inl ⟨by rfl, ?_⟩) ?_ ?_
 rotate_left
 ·intro w'
  go_simp
  with_reducible rfl
 rotate_left
 ·simp only [Act.put, sqA, sqZ, sqS, i64_w, i32_w]
  rfl
 refine done_ (done_of HT_.out (by kernel_rfl)) ?_
 go_upto_block 0 with (first | ((with_reducible refine gate_callee (f := 56) rfl ?_); refine goesL_ (some 45) rfl rfl Try.func56 (by kernel_rfl) rfl #[.pointer (some ⟨g282, 0, none⟩), .int .i64 8] rfl (by (try simp only [List.map_toArray, List.map_cons, List.map_nil]); first | done | rfl | (simp only [List.length_drop, List.length_take]; rfl)) ?_; (with_reducible refine (spec_l1Rd_below.calls g282 t280 t296 8 t297 t298 w _ ?side1 ?side2 A9.out).mono ?_); (case side1 => repeat (first | (with_reducible first | exact HI282.out | apply IsS89.alloc | apply IsS89.drewN | apply IsS89.drew | apply IsS89.set_1 | apply IsS89.far (hne := NB282_279.out) | apply IsS89.far (hne := NB282_292.out)) | exact HI282.out)); (case side2 => repeat (first | (with_reducible first | exact HB.out | apply below_alloc | apply pw_below_drewN | apply below_drew1 | refine below_set ?_ (IsS89.ge HI282.out) | refine below_set ?_ GE279.out | refine below_set ?_ GE292.out) | exact HB.out)); rintro e w23 ⟨rfl, hi, hb, hk⟩; refine ⟨_, rfl, ?_⟩; have n0_ := Aside0.mk (KeepBut.blk hk (g' := gb279) (o := .cells #[.int .i64 0, .int .i64 0, .int .i64 0, .int .i64 0, .int .i64 0] 43 (0, 0)) (by (with_reducible repeat (first | refine blk_drewN ?_ _ | refine blk_drew ?_ | refine blk_alloc ?_ _)); exact BK279.out) NB279_282.out (by simp)); have n1_ := Aside0.mk (Kd.R_mono (Kd.R_keep (IsS89.apart (show IsS89 w _ g282 t280 t296 from by repeat (first | (with_reducible first | exact HI282.out | apply IsS89.alloc | apply IsS89.drewN | apply IsS89.drew | apply IsS89.set_1 | apply IsS89.far (hne := NB282_279.out) | apply IsS89.far (hne := NB282_292.out)) | exact HI282.out)) (by (with_reducible repeat (first | apply Kd.R_alloc | apply Kd.R_drewN | apply Kd.R_drew)); exact HO290.out) (by decide)) hk (fun _ h => h.2)) (fun _ h => h.1)); have n2_ := Aside0.mk (KeepBut.blk hk (g' := gb292) (o := .cells #[.int .i64 t283, .int .i64 t284, .int .i64 t285, .int .i64 t286, .int .i64 t287] 43 (0, 0)) (by (with_reducible repeat (first | refine blk_drewN ?_ _ | refine blk_drew ?_ | refine blk_alloc ?_ _)); exact BK292.out) NB292_282.out (by simp)); have n3_ := Aside0.mk (hb); have n4_ := Aside0.mk (hi); clear BK279; clear HO290; clear BK292; clear HB; clear HI282; have BK279 := n0_; have HO290 := n1_; have BK292 := n2_; have HB := n3_; have HI282 := n4_; clear n0_ n1_ n2_ n3_ n4_; (try clear hb); (try clear hb2); (try clear hk); (try clear hi)))
 (try simp only [Act.put, sqA, sqZ, sqS])
 go_cut [9, 10] (fun v9 v10 wc => ∃ (kq : Nat) (x9_9 : Int) (x10_9 : Int), v9 = .int .i64 x9_9 ∧ v10 = .int .i64 x10_9 ∧ Aside0 (spec_DrawAt.j0 kq t288 x9_9 x10_9 t283 t284 t285 t286 t287 = some (r1, r2, r3, r4, r5, r6, r7, r8)) ∧ Aside0 (kq ≤ k) ∧ Aside0 (Kd.R Kd.flt 33 wc w.heap.size (fun _ => True) v289 t288) ∧ Aside0 (wc.heap[gb279]? = some (.cells #[.int .i64 0, .int .i64 0, .int .i64 0, .int .i64 0, .int .i64 0] 43 (0, 0))) ∧ Aside0 (wc.heap[gb292]? = some (.cells #[.int .i64 t283, .int .i64 t284, .int .i64 t285, .int .i64 t286, .int .i64 t287] 43 (0, 0))) ∧ Aside0 (Below w.heap.size w wc))
 case first =>
  have H := HC10.out
  clear HC10
  by_cases c24 : t297 = 0
  ·rw [if_pos c24] at H
   have c24b0 : (t297 == 0) = true := beq_iff_eq.mpr c24
   have c24b1 : (t297 != 0) = false := bne_eq_false_iff_eq.mpr c24
   clear c24
   (first | rw [c24b0] | (simp only [i64_w, i32_w]; rw [c24b0]) | skip)
   replace H := Option.bind_eq_some_iff.mp H
   obtain ⟨⟨t299, t300⟩, A250, H⟩ := H
   replace H : (spec_DrawAt.j0 k t288 (wrap64 (t285 + (wrap64 (t299 * t287)))) (wrap64 (t286 + t295)) t283 t284 t285 t286 t287) = some (r1, r2, r3, r4, r5, r6, r7, r8) := H
   have A25 := Aside0.mk A250
   clear A250
   have H' := Aside0.mk H
   clear H
   try go_wp2
   have n0_ := Aside0.mk (Kd.R_drew HO290.out)
   have n1_ := Aside0.mk (blk_drew BK279.out)
   have n2_ := Aside0.mk (blk_drew BK292.out)
   have n3_ := Aside0.mk (IsS89.drew HI282.out)
   have n4_ := Aside0.mk (below_drew1 HB.out)
   clear HO290
   clear BK279
   clear BK292
   clear HI282
   clear HB
   have HO290 := n0_
   have BK279 := n1_
   have BK292 := n2_
   have HI282 := n3_
   have HB := n4_
   clear n0_ n1_ n2_ n3_ n4_
   refine start_ (n := 9) (S := fun w' => w'.cell? ⟨gb292, 0, none⟩ = some (.int .i64 t283) ∧ w'.cell? ⟨gb292, 1, none⟩ = some (.int .i64 t284) ∧ w'.cell? ⟨gb292, 2, none⟩ = some (.int .i64 t285) ∧ w'.cell? ⟨gb292, 3, none⟩ = some (.int .i64 t286) ∧ w'.cell? ⟨gb292, 4, none⟩ = some (.int .i64 t287)) (ds := []) #[false, false, false, false, false, false, false, false, false] (by kernel_rfl) rfl rfl ⟨(blk_cell BK292.out 0).trans rfl, (blk_cell BK292.out 1).trans rfl, (blk_cell BK292.out 2).trans rfl, (blk_cell BK292.out 3).trans rfl, (blk_cell BK292.out 4).trans rfl⟩ (fun hHeld => ?_); refine with_tabW spec_DrawAt.tab7 spec_DrawAt.bits7 (fun HT_ HW_ => ?_)
   generalize w23.drew = w26 at HO290 BK279 BK292 HI282 HB hHeld ⊢
   refine pure_ (i := 0) (N := some 48) (v := ?_) (a' := ?_) #[true, false, false, false, false, false, false, false, false] rfl rfl (any_of HT_.out (by kernel_rfl)) (fun _ _ _ h => h) (Or.inl ⟨by rfl, ?_⟩) ?_ ?_
   rotate_left
   ·intro w'
    go_simp
    with_reducible rfl
   rotate_left
   ·simp only [Act.put, sqA, sqZ, sqS, i64_w, i32_w]
    rfl
   refine pure_ (i := 2) (N := some 50) (v := ?_) (a' := ?_) #[true, false, true, false, false, false, false, false, false] rfl rfl (any_of HT_.out (by kernel_rfl)) (fun _ _ _ h => h) (Or.inl ⟨by rfl, ?_⟩) ?_ ?_
   rotate_left
   ·intro w'
    go_simp
    with_reducible rfl
   rotate_left
   ·simp only [Act.put, sqA, sqZ, sqS, i64_w, i32_w]
    rfl
   refine pure_ (i := 4) (N := some 52) (v := ?_) (a' := ?_) #[true, false, true, false, true, false, false, false, false] rfl rfl (any_of HT_.out (by kernel_rfl)) (fun _ _ _ h => h) (Or.inl ⟨by rfl, ?_⟩) ?_ ?_
   rotate_left
   ·intro w'
    go_simp
    with_reducible rfl
   rotate_left
   ·simp only [Act.put, sqA, sqZ, sqS, i64_w, i32_w]
    rfl
   refine take_ (i := 1) (N := some 49) (v := ?_) (a' := ?_) #[true, true, true, false, true, false, false, false, false] rfl rfl (take_ofW HT_.out HW_.out (by kernel_rfl)) (fun _ _ _ h => h) (Or.inl ⟨by rfl, ?_⟩) hHeld ?_ ?_
   rotate_left
   ·rintro w' ⟨s0, s1, s2, s3, s4⟩
    go_simp
    with_reducible rfl
   rotate_left
   ·simp only [Act.put, sqA, sqZ, sqS, i64_w, i32_w]
    rfl
   refine take_ (i := 5) (N := some 53) (v := ?_) (a' := ?_) #[true, true, true, false, true, true, false, false, false] rfl rfl (take_ofW HT_.out HW_.out (by kernel_rfl)) (fun _ _ _ h => h) (Or.inl ⟨by rfl, ?_⟩) hHeld ?_ ?_
   rotate_left
   ·rintro w' ⟨s0, s1, s2, s3, s4⟩
    go_simp
    with_reducible rfl
   rotate_left
   ·simp only [Act.put, sqA, sqZ, sqS, i64_w, i32_w]
    rfl
   refine one_ (i := 3) (N := some 51) #[true, true, true, true, true, true, false, false, false] rfl rfl (one_of HT_.out (by kernel_rfl)) (by decide) (fun K hK => ?_)
   refine goes_ Try.func56 (by kernel_rfl) rfl #[.pointer (some ⟨g282, 0, none⟩), .int .i64 4] (by rfl) rfl rfl (by (try simp only [List.map_toArray, List.map_cons, List.map_nil]); first | done | rfl | (simp only [List.length_drop, List.length_take]; rfl)) ?_
   with_reducible refine (spec_l1Rd_below.calls g282 t280 t298 4 t299 t300 w _ ?side1 ?side2 A25.out).mono ?_
   (case side1 => repeat (first | (with_reducible first | exact HI282.out | apply IsS89.alloc | apply IsS89.drewN | apply IsS89.drew | apply IsS89.set_1 | apply IsS89.far (hne := NB282_279.out) | apply IsS89.far (hne := NB282_292.out)) | exact HI282.out))
   (case side2 => repeat (first | (with_reducible first | exact HB.out | apply below_alloc | apply pw_below_drewN | apply below_drew1 | refine below_set ?_ (IsS89.ge HI282.out) | refine below_set ?_ GE279.out | refine below_set ?_ GE292.out) | exact HB.out))
   rintro e w27 ⟨rfl, hi, hb, hk⟩
   refine ⟨_, rfl, ?_⟩
   have n0_ := Aside0.mk (KeepBut.blk hk (g' := gb279) (o := .cells #[.int .i64 0, .int .i64 0, .int .i64 0, .int .i64 0, .int .i64 0] 43 (0, 0)) (by (with_reducible repeat (first | refine blk_drewN ?_ _ | refine blk_drew ?_ | refine blk_alloc ?_ _)); exact BK279.out) NB279_282.out (by simp))
   have n1_ := Aside0.mk (Kd.R_mono (Kd.R_keep (IsS89.apart (show IsS89 w _ g282 t280 t298 from by repeat (first | (with_reducible first | exact HI282.out | apply IsS89.alloc | apply IsS89.drewN | apply IsS89.drew | apply IsS89.set_1 | apply IsS89.far (hne := NB282_279.out) | apply IsS89.far (hne := NB282_292.out)) | exact HI282.out)) (by (with_reducible repeat (first | apply Kd.R_alloc | apply Kd.R_drewN | apply Kd.R_drew)); exact HO290.out) (by decide)) hk (fun _ h => h.2)) (fun _ h => h.1))
   have n2_ := Aside0.mk (KeepBut.blk hk (g' := gb292) (o := .cells #[.int .i64 t283, .int .i64 t284, .int .i64 t285, .int .i64 t286, .int .i64 t287] 43 (0, 0)) (by (with_reducible repeat (first | refine blk_drewN ?_ _ | refine blk_drew ?_ | refine blk_alloc ?_ _)); exact BK292.out) NB292_282.out (by simp))
   have n3_ := Aside0.mk (hb)
   have n4_ := Aside0.mk (hi)
   clear BK279
   clear HO290
   clear BK292
   clear HB
   clear HI282
   have BK279 := n0_
   have HO290 := n1_
   have BK292 := n2_
   have HB := n3_
   have HI282 := n4_
   clear n0_ n1_ n2_ n3_ n4_
   (try clear hb)
   (try clear hb2)
   (try clear hk)
   (try clear hi)
   refine hK.out _ _ ⟨(blk_cell BK292.out 0).trans rfl, (blk_cell BK292.out 1).trans rfl, (blk_cell BK292.out 2).trans rfl, (blk_cell BK292.out 3).trans rfl, (blk_cell BK292.out 4).trans rfl⟩ (fun hHeld => ?_)
   clear hK K
   refine norm_ (a' := ?_) ?_ ?_
   rotate_left
   ·show Act.put _ (some 51) _ = _
    simp only [Act.put, sqA, sqZ, sqS, i64_w, i32_w]
    rfl
   refine pure_ (i := 6) (N := some 54) (v := ?_) (a' := ?_) #[true, true, true, true, true, true, true, false, false] rfl rfl (any_of HT_.out (by kernel_rfl)) (fun _ _ _ h => h) (Or.inl ⟨by rfl, ?_⟩) ?_ ?_
   rotate_left
   ·intro w'
    go_simp
    with_reducible rfl
   rotate_left
   ·simp only [Act.put, sqA, sqZ, sqS, i64_w, i32_w]
    rfl
   refine pure_ (i := 7) (N := some 55) (v := ?_) (a' := ?_) #[true, true, true, true, true, true, true, true, false] rfl rfl (any_of HT_.out (by kernel_rfl)) (fun _ _ _ h => h) (Or.inl ⟨by rfl, ?_⟩) ?_ ?_
   rotate_left
   ·intro w'
    go_simp
    with_reducible rfl
   rotate_left
   ·simp only [Act.put, sqA, sqZ, sqS, i64_w, i32_w]
    rfl
   refine pure_ (i := 8) (N := some 9) (v := ?_) (a' := ?_) #[true, true, true, true, true, true, true, true, true] rfl rfl (any_of HT_.out (by kernel_rfl)) (fun _ _ _ h => h) (Or.inl ⟨by rfl, ?_⟩) ?_ ?_
   rotate_left
   ·intro w'
    go_simp
    with_reducible rfl
   rotate_left
   ·simp only [Act.put, sqA, sqZ, sqS, i64_w, i32_w]
    rfl
   refine done_ (done_of HT_.out (by kernel_rfl)) ?_
   try go_wp2
   go_meet
   case rel => exact ⟨_, (wrap64 (t285 + (wrap64 (t299 * t287)))), (wrap64 (t286 + t295)), (by first | rfl | (simp; done) | (simp [*]; done)), (by first | rfl | (simp; done) | (simp [*]; done)), H', ⟨by first | omega | exact Nat.le_refl _⟩, ⟨by (with_reducible repeat (first | apply Kd.R_alloc | apply Kd.R_drewN | apply Kd.R_drew)); exact HO290.out⟩, ⟨by (with_reducible repeat (first | refine blk_drewN ?_ _ | refine blk_drew ?_ | refine blk_alloc ?_ _)); exact BK279.out⟩, ⟨by (with_reducible repeat (first | refine blk_drewN ?_ _ | refine blk_drew ?_ | refine blk_alloc ?_ _)); exact BK292.out⟩, ⟨by repeat (first | (with_reducible first | exact HB.out | apply below_alloc | apply pw_below_drewN | apply below_drew1 | refine below_set ?_ (IsS89.ge HI282.out) | refine below_set ?_ GE279.out | refine below_set ?_ GE292.out) | exact HB.out)⟩⟩
  ·rw [if_neg c24] at H
   have c24b0 : (t297 == 0) = false := beq_eq_false_iff_ne.mpr c24
   have c24b1 : (t297 != 0) = true := bne_iff_ne.mpr c24
   (first | rw [c24b0] | (simp only [i64_w, i32_w]; rw [c24b0]) | skip)
   by_cases c28 : t297 = 1
   ·rw [if_pos c28] at H
    have c28b0 : (t297 == 1) = true := beq_iff_eq.mpr c28
    have c28b1 : (t297 != 1) = false := bne_eq_false_iff_eq.mpr c28
    clear c28
    replace H := Option.bind_eq_some_iff.mp H
    obtain ⟨⟨t301, t302⟩, A290, H⟩ := H
    replace H : (spec_DrawAt.j0 k t288 (wrap64 (t285 + t293)) (wrap64 (t286 + (wrap64 (t301 * t287)))) t283 t284 t285 t286 t287) = some (r1, r2, r3, r4, r5, r6, r7, r8) := H
    have A29 := Aside0.mk A290
    clear A290
    have H' := Aside0.mk H
    clear H
    try go_wp2
    have n0_ := Aside0.mk (Kd.R_drew HO290.out)
    have n1_ := Aside0.mk (blk_drew BK279.out)
    have n2_ := Aside0.mk (blk_drew BK292.out)
    have n3_ := Aside0.mk (IsS89.drew HI282.out)
    have n4_ := Aside0.mk (below_drew1 HB.out)
    clear HO290
    clear BK279
    clear BK292
    clear HI282
    clear HB
    have HO290 := n0_
    have BK279 := n1_
    have BK292 := n2_
    have HI282 := n3_
    have HB := n4_
    clear n0_ n1_ n2_ n3_ n4_
    refine start_ (n := 9) (S := fun w' => w'.cell? ⟨gb292, 0, none⟩ = some (.int .i64 t283) ∧ w'.cell? ⟨gb292, 1, none⟩ = some (.int .i64 t284) ∧ w'.cell? ⟨gb292, 2, none⟩ = some (.int .i64 t285) ∧ w'.cell? ⟨gb292, 3, none⟩ = some (.int .i64 t286) ∧ w'.cell? ⟨gb292, 4, none⟩ = some (.int .i64 t287)) (ds := []) #[false, false, false, false, false, false, false, false, false] (by kernel_rfl) rfl rfl ⟨(blk_cell BK292.out 0).trans rfl, (blk_cell BK292.out 1).trans rfl, (blk_cell BK292.out 2).trans rfl, (blk_cell BK292.out 3).trans rfl, (blk_cell BK292.out 4).trans rfl⟩ (fun hHeld => ?_); refine with_tabW spec_DrawAt.tab9 spec_DrawAt.bits9 (fun HT_ HW_ => ?_)
    generalize w23.drew = w30 at HO290 BK279 BK292 HI282 HB hHeld ⊢
    refine pure_ (i := 0) (N := some 58) (v := ?_) (a' := ?_) #[true, false, false, false, false, false, false, false, false] rfl rfl (any_of HT_.out (by kernel_rfl)) (fun _ _ _ h => h) (Or.inl ⟨by rfl, ?_⟩) ?_ ?_
    rotate_left
    ·intro w'
     go_simp
     with_reducible rfl
    rotate_left
    ·simp only [Act.put, sqA, sqZ, sqS, i64_w, i32_w]
     rfl
    refine pure_ (i := 2) (N := some 60) (v := ?_) (a' := ?_) #[true, false, true, false, false, false, false, false, false] rfl rfl (any_of HT_.out (by kernel_rfl)) (fun _ _ _ h => h) (Or.inl ⟨by rfl, ?_⟩) ?_ ?_
    rotate_left
    ·intro w'
     go_simp
     with_reducible rfl
    rotate_left
    ·simp only [Act.put, sqA, sqZ, sqS, i64_w, i32_w]
     rfl
    refine pure_ (i := 4) (N := some 62) (v := ?_) (a' := ?_) #[true, false, true, false, true, false, false, false, false] rfl rfl (any_of HT_.out (by kernel_rfl)) (fun _ _ _ h => h) (Or.inl ⟨by rfl, ?_⟩) ?_ ?_
    rotate_left
    ·intro w'
     go_simp
     with_reducible rfl
    rotate_left
    ·simp only [Act.put, sqA, sqZ, sqS, i64_w, i32_w]
     rfl
    refine take_ (i := 1) (N := some 59) (v := ?_) (a' := ?_) #[true, true, true, false, true, false, false, false, false] rfl rfl (take_ofW HT_.out HW_.out (by kernel_rfl)) (fun _ _ _ h => h) (Or.inl ⟨by rfl, ?_⟩) hHeld ?_ ?_
    rotate_left
    ·rintro w' ⟨s0, s1, s2, s3, s4⟩
     go_simp
     with_reducible rfl
    rotate_left
    ·simp only [Act.put, sqA, sqZ, sqS, i64_w, i32_w]
     rfl
    refine take_ (i := 5) (N := some 63) (v := ?_) (a' := ?_) #[true, true, true, false, true, true, false, false, false] rfl rfl (take_ofW HT_.out HW_.out (by kernel_rfl)) (fun _ _ _ h => h) (Or.inl ⟨by rfl, ?_⟩) hHeld ?_ ?_
    rotate_left
    ·rintro w' ⟨s0, s1, s2, s3, s4⟩
     go_simp
     with_reducible rfl
    rotate_left
    ·simp only [Act.put, sqA, sqZ, sqS, i64_w, i32_w]
     rfl
    refine one_ (i := 3) (N := some 61) #[true, true, true, true, true, true, false, false, false] rfl rfl (one_of HT_.out (by kernel_rfl)) (by decide) (fun K hK => ?_)
    refine goes_ Try.func56 (by kernel_rfl) rfl #[.pointer (some ⟨g282, 0, none⟩), .int .i64 4] (by rfl) rfl rfl (by (try simp only [List.map_toArray, List.map_cons, List.map_nil]); first | done | rfl | (simp only [List.length_drop, List.length_take]; rfl)) ?_
    with_reducible refine (spec_l1Rd_below.calls g282 t280 t298 4 t301 t302 w _ ?side1 ?side2 A29.out).mono ?_
    (case side1 => repeat (first | (with_reducible first | exact HI282.out | apply IsS89.alloc | apply IsS89.drewN | apply IsS89.drew | apply IsS89.set_1 | apply IsS89.far (hne := NB282_279.out) | apply IsS89.far (hne := NB282_292.out)) | exact HI282.out))
    (case side2 => repeat (first | (with_reducible first | exact HB.out | apply below_alloc | apply pw_below_drewN | apply below_drew1 | refine below_set ?_ (IsS89.ge HI282.out) | refine below_set ?_ GE279.out | refine below_set ?_ GE292.out) | exact HB.out))
    rintro e w31 ⟨rfl, hi, hb, hk⟩
    refine ⟨_, rfl, ?_⟩
    have n0_ := Aside0.mk (KeepBut.blk hk (g' := gb279) (o := .cells #[.int .i64 0, .int .i64 0, .int .i64 0, .int .i64 0, .int .i64 0] 43 (0, 0)) (by (with_reducible repeat (first | refine blk_drewN ?_ _ | refine blk_drew ?_ | refine blk_alloc ?_ _)); exact BK279.out) NB279_282.out (by simp))
    have n1_ := Aside0.mk (Kd.R_mono (Kd.R_keep (IsS89.apart (show IsS89 w _ g282 t280 t298 from by repeat (first | (with_reducible first | exact HI282.out | apply IsS89.alloc | apply IsS89.drewN | apply IsS89.drew | apply IsS89.set_1 | apply IsS89.far (hne := NB282_279.out) | apply IsS89.far (hne := NB282_292.out)) | exact HI282.out)) (by (with_reducible repeat (first | apply Kd.R_alloc | apply Kd.R_drewN | apply Kd.R_drew)); exact HO290.out) (by decide)) hk (fun _ h => h.2)) (fun _ h => h.1))
    have n2_ := Aside0.mk (KeepBut.blk hk (g' := gb292) (o := .cells #[.int .i64 t283, .int .i64 t284, .int .i64 t285, .int .i64 t286, .int .i64 t287] 43 (0, 0)) (by (with_reducible repeat (first | refine blk_drewN ?_ _ | refine blk_drew ?_ | refine blk_alloc ?_ _)); exact BK292.out) NB292_282.out (by simp))
    have n3_ := Aside0.mk (hb)
    have n4_ := Aside0.mk (hi)
    clear BK279
    clear HO290
    clear BK292
    clear HB
    clear HI282
    have BK279 := n0_
    have HO290 := n1_
    have BK292 := n2_
    have HB := n3_
    have HI282 := n4_
    clear n0_ n1_ n2_ n3_ n4_
    (try clear hb)
    (try clear hb2)
    (try clear hk)
    (try clear hi)
    refine hK.out _ _ ⟨(blk_cell BK292.out 0).trans rfl, (blk_cell BK292.out 1).trans rfl, (blk_cell BK292.out 2).trans rfl, (blk_cell BK292.out 3).trans rfl, (blk_cell BK292.out 4).trans rfl⟩ (fun hHeld => ?_)
    clear hK K
    refine norm_ (a' := ?_) ?_ ?_
    rotate_left
    ·show Act.put _ (some 61) _ = _
     simp only [Act.put, sqA, sqZ, sqS, i64_w, i32_w]
     rfl
    refine pure_ (i := 6) (N := some 64) (v := ?_) (a' := ?_) #[true, true, true, true, true, true, true, false, false] rfl rfl (any_of HT_.out (by kernel_rfl)) (fun _ _ _ h => h) (Or.inl ⟨by rfl, ?_⟩) ?_ ?_
    rotate_left
    ·intro w'
     go_simp
     with_reducible rfl
    rotate_left
    ·simp only [Act.put, sqA, sqZ, sqS, i64_w, i32_w]
     rfl
    refine pure_ (i := 7) (N := some 65) (v := ?_) (a' := ?_) #[true, true, true, true, true, true, true, true, false] rfl rfl (any_of HT_.out (by kernel_rfl)) (fun _ _ _ h => h) (Or.inl ⟨by rfl, ?_⟩) ?_ ?_
    rotate_left
    ·intro w'
     go_simp
     with_reducible rfl
    rotate_left
    ·simp only [Act.put, sqA, sqZ, sqS, i64_w, i32_w]
     rfl
    refine pure_ (i := 8) (N := some 10) (v := ?_) (a' := ?_) #[true, true, true, true, true, true, true, true, true] rfl rfl (any_of HT_.out (by kernel_rfl)) (fun _ _ _ h => h) (Or.inl ⟨by rfl, ?_⟩) ?_ ?_
    rotate_left
    ·intro w'
     go_simp
     with_reducible rfl
    rotate_left
    ·simp only [Act.put, sqA, sqZ, sqS, i64_w, i32_w]
     rfl
    refine done_ (done_of HT_.out (by kernel_rfl)) ?_
    try go_wp2
    go_meet
    case rel => exact ⟨_, (wrap64 (t285 + t293)), (wrap64 (t286 + (wrap64 (t301 * t287)))), (by first | rfl | (simp; done) | (simp [*]; done)), (by first | rfl | (simp; done) | (simp [*]; done)), H', ⟨by first | omega | exact Nat.le_refl _⟩, ⟨by (with_reducible repeat (first | apply Kd.R_alloc | apply Kd.R_drewN | apply Kd.R_drew)); exact HO290.out⟩, ⟨by (with_reducible repeat (first | refine blk_drewN ?_ _ | refine blk_drew ?_ | refine blk_alloc ?_ _)); exact BK279.out⟩, ⟨by (with_reducible repeat (first | refine blk_drewN ?_ _ | refine blk_drew ?_ | refine blk_alloc ?_ _)); exact BK292.out⟩, ⟨by repeat (first | (with_reducible first | exact HB.out | apply below_alloc | apply pw_below_drewN | apply below_drew1 | refine below_set ?_ (IsS89.ge HI282.out) | refine below_set ?_ GE279.out | refine below_set ?_ GE292.out) | exact HB.out)⟩⟩
   ·rw [if_neg c28] at H
    have c28b0 : (t297 == 1) = false := beq_eq_false_iff_ne.mpr c28
    have c28b1 : (t297 != 1) = true := bne_iff_ne.mpr c28
    by_cases c32 : t297 = 2
    ·rw [if_pos c32] at H
     have c32b0 : (t297 == 2) = true := beq_iff_eq.mpr c32
     have c32b1 : (t297 != 2) = false := bne_eq_false_iff_eq.mpr c32
     clear c32
     replace H := Option.bind_eq_some_iff.mp H
     obtain ⟨⟨t303, t304⟩, A330, H⟩ := H
     replace H : ((spec_l1Rd_below.f t280 t304 4).bind fun bt305 => (spec_DrawAt.j0 k t288 (wrap64 (t285 + (wrap64 (t303 * t287)))) (wrap64 (t286 + (wrap64 (bt305.1 * t287)))) t283 t284 t285 t286 t287)) = some (r1, r2, r3, r4, r5, r6, r7, r8) := H
     have A33 := Aside0.mk A330
     clear A330
     replace H := Option.bind_eq_some_iff.mp H
     obtain ⟨⟨t305, t306⟩, A340, H⟩ := H
     replace H : (spec_DrawAt.j0 k t288 (wrap64 (t285 + (wrap64 (t303 * t287)))) (wrap64 (t286 + (wrap64 (t305 * t287)))) t283 t284 t285 t286 t287) = some (r1, r2, r3, r4, r5, r6, r7, r8) := H
     have A34 := Aside0.mk A340
     clear A340
     have H' := Aside0.mk H
     clear H
     try go_wp2
     have n0_ := Aside0.mk (Kd.R_drew HO290.out)
     have n1_ := Aside0.mk (blk_drew BK279.out)
     have n2_ := Aside0.mk (blk_drew BK292.out)
     have n3_ := Aside0.mk (IsS89.drew HI282.out)
     have n4_ := Aside0.mk (below_drew1 HB.out)
     clear HO290
     clear BK279
     clear BK292
     clear HI282
     clear HB
     have HO290 := n0_
     have BK279 := n1_
     have BK292 := n2_
     have HI282 := n3_
     have HB := n4_
     clear n0_ n1_ n2_ n3_ n4_
     refine start_ (n := 9) (S := fun w' => w'.cell? ⟨gb292, 0, none⟩ = some (.int .i64 t283) ∧ w'.cell? ⟨gb292, 1, none⟩ = some (.int .i64 t284) ∧ w'.cell? ⟨gb292, 2, none⟩ = some (.int .i64 t285) ∧ w'.cell? ⟨gb292, 3, none⟩ = some (.int .i64 t286) ∧ w'.cell? ⟨gb292, 4, none⟩ = some (.int .i64 t287)) (ds := []) #[false, false, false, false, false, false, false, false, false] (by kernel_rfl) rfl rfl ⟨(blk_cell BK292.out 0).trans rfl, (blk_cell BK292.out 1).trans rfl, (blk_cell BK292.out 2).trans rfl, (blk_cell BK292.out 3).trans rfl, (blk_cell BK292.out 4).trans rfl⟩ (fun hHeld => ?_); refine with_tabW spec_DrawAt.tab11 spec_DrawAt.bits11 (fun HT_ HW_ => ?_)
     generalize w23.drew = w35 at HO290 BK279 BK292 HI282 HB hHeld ⊢
     refine pure_ (i := 0) (N := some 68) (v := ?_) (a' := ?_) #[true, false, false, false, false, false, false, false, false] rfl rfl (any_of HT_.out (by kernel_rfl)) (fun _ _ _ h => h) (Or.inl ⟨by rfl, ?_⟩) ?_ ?_
     rotate_left
     ·intro w'
      go_simp
      with_reducible rfl
     rotate_left
     ·simp only [Act.put, sqA, sqZ, sqS, i64_w, i32_w]
      rfl
     refine pure_ (i := 2) (N := some 70) (v := ?_) (a' := ?_) #[true, false, true, false, false, false, false, false, false] rfl rfl (any_of HT_.out (by kernel_rfl)) (fun _ _ _ h => h) (Or.inl ⟨by rfl, ?_⟩) ?_ ?_
     rotate_left
     ·intro w'
      go_simp
      with_reducible rfl
     rotate_left
     ·simp only [Act.put, sqA, sqZ, sqS, i64_w, i32_w]
      rfl
     refine pure_ (i := 4) (N := some 72) (v := ?_) (a' := ?_) #[true, false, true, false, true, false, false, false, false] rfl rfl (any_of HT_.out (by kernel_rfl)) (fun _ _ _ h => h) (Or.inl ⟨by rfl, ?_⟩) ?_ ?_
     rotate_left
     ·intro w'
      go_simp
      with_reducible rfl
     rotate_left
     ·simp only [Act.put, sqA, sqZ, sqS, i64_w, i32_w]
      rfl
     refine take_ (i := 1) (N := some 69) (v := ?_) (a' := ?_) #[true, true, true, false, true, false, false, false, false] rfl rfl (take_ofW HT_.out HW_.out (by kernel_rfl)) (fun _ _ _ h => h) (Or.inl ⟨by rfl, ?_⟩) hHeld ?_ ?_
     rotate_left
     ·rintro w' ⟨s0, s1, s2, s3, s4⟩
      go_simp
      with_reducible rfl
     rotate_left
     ·simp only [Act.put, sqA, sqZ, sqS, i64_w, i32_w]
      rfl
     refine take_ (i := 5) (N := some 73) (v := ?_) (a' := ?_) #[true, true, true, false, true, true, false, false, false] rfl rfl (take_ofW HT_.out HW_.out (by kernel_rfl)) (fun _ _ _ h => h) (Or.inl ⟨by rfl, ?_⟩) hHeld ?_ ?_
     rotate_left
     ·rintro w' ⟨s0, s1, s2, s3, s4⟩
      go_simp
      with_reducible rfl
     rotate_left
     ·simp only [Act.put, sqA, sqZ, sqS, i64_w, i32_w]
      rfl
     refine one_ (i := 3) (N := some 71) #[true, true, true, true, true, true, false, false, false] rfl rfl (one_of HT_.out (by kernel_rfl)) (by decide) (fun K hK => ?_)
     refine goes_ Try.func56 (by kernel_rfl) rfl #[.pointer (some ⟨g282, 0, none⟩), .int .i64 4] (by rfl) rfl rfl (by (try simp only [List.map_toArray, List.map_cons, List.map_nil]); first | done | rfl | (simp only [List.length_drop, List.length_take]; rfl)) ?_
     with_reducible refine (spec_l1Rd_below.calls g282 t280 t298 4 t303 t304 w _ ?side1 ?side2 A33.out).mono ?_
     (case side1 => repeat (first | (with_reducible first | exact HI282.out | apply IsS89.alloc | apply IsS89.drewN | apply IsS89.drew | apply IsS89.set_1 | apply IsS89.far (hne := NB282_279.out) | apply IsS89.far (hne := NB282_292.out)) | exact HI282.out))
     (case side2 => repeat (first | (with_reducible first | exact HB.out | apply below_alloc | apply pw_below_drewN | apply below_drew1 | refine below_set ?_ (IsS89.ge HI282.out) | refine below_set ?_ GE279.out | refine below_set ?_ GE292.out) | exact HB.out))
     rintro e w36 ⟨rfl, hi, hb, hk⟩
     refine ⟨_, rfl, ?_⟩
     have n0_ := Aside0.mk (KeepBut.blk hk (g' := gb279) (o := .cells #[.int .i64 0, .int .i64 0, .int .i64 0, .int .i64 0, .int .i64 0] 43 (0, 0)) (by (with_reducible repeat (first | refine blk_drewN ?_ _ | refine blk_drew ?_ | refine blk_alloc ?_ _)); exact BK279.out) NB279_282.out (by simp))
     have n1_ := Aside0.mk (Kd.R_mono (Kd.R_keep (IsS89.apart (show IsS89 w _ g282 t280 t298 from by repeat (first | (with_reducible first | exact HI282.out | apply IsS89.alloc | apply IsS89.drewN | apply IsS89.drew | apply IsS89.set_1 | apply IsS89.far (hne := NB282_279.out) | apply IsS89.far (hne := NB282_292.out)) | exact HI282.out)) (by (with_reducible repeat (first | apply Kd.R_alloc | apply Kd.R_drewN | apply Kd.R_drew)); exact HO290.out) (by decide)) hk (fun _ h => h.2)) (fun _ h => h.1))
     have n2_ := Aside0.mk (KeepBut.blk hk (g' := gb292) (o := .cells #[.int .i64 t283, .int .i64 t284, .int .i64 t285, .int .i64 t286, .int .i64 t287] 43 (0, 0)) (by (with_reducible repeat (first | refine blk_drewN ?_ _ | refine blk_drew ?_ | refine blk_alloc ?_ _)); exact BK292.out) NB292_282.out (by simp))
     have n3_ := Aside0.mk (hb)
     have n4_ := Aside0.mk (hi)
     clear BK279
     clear HO290
     clear BK292
     clear HB
     clear HI282
     have BK279 := n0_
     have HO290 := n1_
     have BK292 := n2_
     have HB := n3_
     have HI282 := n4_
     clear n0_ n1_ n2_ n3_ n4_
     (try clear hb)
     (try clear hb2)
     (try clear hk)
     (try clear hi)
     refine hK.out _ _ ⟨(blk_cell BK292.out 0).trans rfl, (blk_cell BK292.out 1).trans rfl, (blk_cell BK292.out 2).trans rfl, (blk_cell BK292.out 3).trans rfl, (blk_cell BK292.out 4).trans rfl⟩ (fun hHeld => ?_)
     clear hK K
     refine norm_ (a' := ?_) ?_ ?_
     rotate_left
     ·show Act.put _ (some 71) _ = _
      simp only [Act.put, sqA, sqZ, sqS, i64_w, i32_w]
      rfl
     refine pure_ (i := 6) (N := some 74) (v := ?_) (a' := ?_) #[true, true, true, true, true, true, true, false, false] rfl rfl (any_of HT_.out (by kernel_rfl)) (fun _ _ _ h => h) (Or.inl ⟨by rfl, ?_⟩) ?_ ?_
     rotate_left
     ·intro w'
      go_simp
      with_reducible rfl
     rotate_left
     ·simp only [Act.put, sqA, sqZ, sqS, i64_w, i32_w]
      rfl
     refine pure_ (i := 7) (N := some 75) (v := ?_) (a' := ?_) #[true, true, true, true, true, true, true, true, false] rfl rfl (any_of HT_.out (by kernel_rfl)) (fun _ _ _ h => h) (Or.inl ⟨by rfl, ?_⟩) ?_ ?_
     rotate_left
     ·intro w'
      go_simp
      with_reducible rfl
     rotate_left
     ·simp only [Act.put, sqA, sqZ, sqS, i64_w, i32_w]
      rfl
     refine pure_ (i := 8) (N := some 9) (v := ?_) (a' := ?_) #[true, true, true, true, true, true, true, true, true] rfl rfl (any_of HT_.out (by kernel_rfl)) (fun _ _ _ h => h) (Or.inl ⟨by rfl, ?_⟩) ?_ ?_
     rotate_left
     ·intro w'
      go_simp
      with_reducible rfl
     rotate_left
     ·simp only [Act.put, sqA, sqZ, sqS, i64_w, i32_w]
      rfl
     refine done_ (done_of HT_.out (by kernel_rfl)) ?_
     try go_wp2
     have n0_ := Aside0.mk (Kd.R_drew HO290.out)
     have n1_ := Aside0.mk (blk_drew BK279.out)
     have n2_ := Aside0.mk (blk_drew BK292.out)
     have n3_ := Aside0.mk (IsS89.drew HI282.out)
     have n4_ := Aside0.mk (below_drew1 HB.out)
     clear HO290
     clear BK279
     clear BK292
     clear HI282
     clear HB
     have HO290 := n0_
     have BK279 := n1_
     have BK292 := n2_
     have HI282 := n3_
     have HB := n4_
     clear n0_ n1_ n2_ n3_ n4_
     refine start_ (n := 9) (S := fun w' => w'.cell? ⟨gb292, 0, none⟩ = some (.int .i64 t283) ∧ w'.cell? ⟨gb292, 1, none⟩ = some (.int .i64 t284) ∧ w'.cell? ⟨gb292, 2, none⟩ = some (.int .i64 t285) ∧ w'.cell? ⟨gb292, 3, none⟩ = some (.int .i64 t286) ∧ w'.cell? ⟨gb292, 4, none⟩ = some (.int .i64 t287)) (ds := []) #[false, false, false, false, false, false, false, false, false] (by kernel_rfl) rfl rfl ⟨(blk_cell BK292.out 0).trans rfl, (blk_cell BK292.out 1).trans rfl, (blk_cell BK292.out 2).trans rfl, (blk_cell BK292.out 3).trans rfl, (blk_cell BK292.out 4).trans rfl⟩ (fun hHeld => ?_); refine with_tabW spec_DrawAt.tab12 spec_DrawAt.bits12 (fun HT_ HW_ => ?_)
     generalize w36.drew = w37 at HO290 BK279 BK292 HI282 HB hHeld ⊢
     refine pure_ (i := 0) (N := some 76) (v := ?_) (a' := ?_) #[true, false, false, false, false, false, false, false, false] rfl rfl (any_of HT_.out (by kernel_rfl)) (fun _ _ _ h => h) (Or.inl ⟨by rfl, ?_⟩) ?_ ?_
     rotate_left
     ·intro w'
      go_simp
      with_reducible rfl
     rotate_left
     ·simp only [Act.put, sqA, sqZ, sqS, i64_w, i32_w]
      rfl
     refine pure_ (i := 2) (N := some 78) (v := ?_) (a' := ?_) #[true, false, true, false, false, false, false, false, false] rfl rfl (any_of HT_.out (by kernel_rfl)) (fun _ _ _ h => h) (Or.inl ⟨by rfl, ?_⟩) ?_ ?_
     rotate_left
     ·intro w'
      go_simp
      with_reducible rfl
     rotate_left
     ·simp only [Act.put, sqA, sqZ, sqS, i64_w, i32_w]
      rfl
     refine pure_ (i := 4) (N := some 80) (v := ?_) (a' := ?_) #[true, false, true, false, true, false, false, false, false] rfl rfl (any_of HT_.out (by kernel_rfl)) (fun _ _ _ h => h) (Or.inl ⟨by rfl, ?_⟩) ?_ ?_
     rotate_left
     ·intro w'
      go_simp
      with_reducible rfl
     rotate_left
     ·simp only [Act.put, sqA, sqZ, sqS, i64_w, i32_w]
      rfl
     refine take_ (i := 1) (N := some 77) (v := ?_) (a' := ?_) #[true, true, true, false, true, false, false, false, false] rfl rfl (take_ofW HT_.out HW_.out (by kernel_rfl)) (fun _ _ _ h => h) (Or.inl ⟨by rfl, ?_⟩) hHeld ?_ ?_
     rotate_left
     ·rintro w' ⟨s0, s1, s2, s3, s4⟩
      go_simp
      with_reducible rfl
     rotate_left
     ·simp only [Act.put, sqA, sqZ, sqS, i64_w, i32_w]
      rfl
     refine take_ (i := 5) (N := some 81) (v := ?_) (a' := ?_) #[true, true, true, false, true, true, false, false, false] rfl rfl (take_ofW HT_.out HW_.out (by kernel_rfl)) (fun _ _ _ h => h) (Or.inl ⟨by rfl, ?_⟩) hHeld ?_ ?_
     rotate_left
     ·rintro w' ⟨s0, s1, s2, s3, s4⟩
      go_simp
      with_reducible rfl
     rotate_left
     ·simp only [Act.put, sqA, sqZ, sqS, i64_w, i32_w]
      rfl
     refine one_ (i := 3) (N := some 79) #[true, true, true, true, true, true, false, false, false] rfl rfl (one_of HT_.out (by kernel_rfl)) (by decide) (fun K hK => ?_)
     refine goes_ Try.func56 (by kernel_rfl) rfl #[.pointer (some ⟨g282, 0, none⟩), .int .i64 4] (by rfl) rfl rfl (by (try simp only [List.map_toArray, List.map_cons, List.map_nil]); first | done | rfl | (simp only [List.length_drop, List.length_take]; rfl)) ?_
     with_reducible refine (spec_l1Rd_below.calls g282 t280 t304 4 t305 t306 w _ ?side1 ?side2 A34.out).mono ?_
     (case side1 => repeat (first | (with_reducible first | exact HI282.out | apply IsS89.alloc | apply IsS89.drewN | apply IsS89.drew | apply IsS89.set_1 | apply IsS89.far (hne := NB282_279.out) | apply IsS89.far (hne := NB282_292.out)) | exact HI282.out))
     (case side2 => repeat (first | (with_reducible first | exact HB.out | apply below_alloc | apply pw_below_drewN | apply below_drew1 | refine below_set ?_ (IsS89.ge HI282.out) | refine below_set ?_ GE279.out | refine below_set ?_ GE292.out) | exact HB.out))
     rintro e w38 ⟨rfl, hi, hb, hk⟩
     refine ⟨_, rfl, ?_⟩
     have n0_ := Aside0.mk (KeepBut.blk hk (g' := gb279) (o := .cells #[.int .i64 0, .int .i64 0, .int .i64 0, .int .i64 0, .int .i64 0] 43 (0, 0)) (by (with_reducible repeat (first | refine blk_drewN ?_ _ | refine blk_drew ?_ | refine blk_alloc ?_ _)); exact BK279.out) NB279_282.out (by simp))
     have n1_ := Aside0.mk (Kd.R_mono (Kd.R_keep (IsS89.apart (show IsS89 w _ g282 t280 t304 from by repeat (first | (with_reducible first | exact HI282.out | apply IsS89.alloc | apply IsS89.drewN | apply IsS89.drew | apply IsS89.set_1 | apply IsS89.far (hne := NB282_279.out) | apply IsS89.far (hne := NB282_292.out)) | exact HI282.out)) (by (with_reducible repeat (first | apply Kd.R_alloc | apply Kd.R_drewN | apply Kd.R_drew)); exact HO290.out) (by decide)) hk (fun _ h => h.2)) (fun _ h => h.1))
     have n2_ := Aside0.mk (KeepBut.blk hk (g' := gb292) (o := .cells #[.int .i64 t283, .int .i64 t284, .int .i64 t285, .int .i64 t286, .int .i64 t287] 43 (0, 0)) (by (with_reducible repeat (first | refine blk_drewN ?_ _ | refine blk_drew ?_ | refine blk_alloc ?_ _)); exact BK292.out) NB292_282.out (by simp))
     have n3_ := Aside0.mk (hb)
     have n4_ := Aside0.mk (hi)
     clear BK279
     clear HO290
     clear BK292
     clear HB
     clear HI282
     have BK279 := n0_
     have HO290 := n1_
     have BK292 := n2_
     have HB := n3_
     have HI282 := n4_
     clear n0_ n1_ n2_ n3_ n4_
     (try clear hb)
     (try clear hb2)
     (try clear hk)
     (try clear hi)
     refine hK.out _ _ ⟨(blk_cell BK292.out 0).trans rfl, (blk_cell BK292.out 1).trans rfl, (blk_cell BK292.out 2).trans rfl, (blk_cell BK292.out 3).trans rfl, (blk_cell BK292.out 4).trans rfl⟩ (fun hHeld => ?_)
     clear hK K
     refine norm_ (a' := ?_) ?_ ?_
     rotate_left
     ·show Act.put _ (some 79) _ = _
      simp only [Act.put, sqA, sqZ, sqS, i64_w, i32_w]
      rfl
     refine pure_ (i := 6) (N := some 82) (v := ?_) (a' := ?_) #[true, true, true, true, true, true, true, false, false] rfl rfl (any_of HT_.out (by kernel_rfl)) (fun _ _ _ h => h) (Or.inl ⟨by rfl, ?_⟩) ?_ ?_
     rotate_left
     ·intro w'
      go_simp
      with_reducible rfl
     rotate_left
     ·simp only [Act.put, sqA, sqZ, sqS, i64_w, i32_w]
      rfl
     refine pure_ (i := 7) (N := some 83) (v := ?_) (a' := ?_) #[true, true, true, true, true, true, true, true, false] rfl rfl (any_of HT_.out (by kernel_rfl)) (fun _ _ _ h => h) (Or.inl ⟨by rfl, ?_⟩) ?_ ?_
     rotate_left
     ·intro w'
      go_simp
      with_reducible rfl
     rotate_left
     ·simp only [Act.put, sqA, sqZ, sqS, i64_w, i32_w]
      rfl
     refine pure_ (i := 8) (N := some 10) (v := ?_) (a' := ?_) #[true, true, true, true, true, true, true, true, true] rfl rfl (any_of HT_.out (by kernel_rfl)) (fun _ _ _ h => h) (Or.inl ⟨by rfl, ?_⟩) ?_ ?_
     rotate_left
     ·intro w'
      go_simp
      with_reducible rfl
     rotate_left
     ·simp only [Act.put, sqA, sqZ, sqS, i64_w, i32_w]
      rfl
     refine done_ (done_of HT_.out (by kernel_rfl)) ?_
     try go_wp2
     go_meet
     case rel => exact ⟨_, (wrap64 (t285 + (wrap64 (t303 * t287)))), (wrap64 (t286 + (wrap64 (t305 * t287)))), (by first | rfl | (simp; done) | (simp [*]; done)), (by first | rfl | (simp; done) | (simp [*]; done)), H', ⟨by first | omega | exact Nat.le_refl _⟩, ⟨by (with_reducible repeat (first | apply Kd.R_alloc | apply Kd.R_drewN | apply Kd.R_drew)); exact HO290.out⟩, ⟨by (with_reducible repeat (first | refine blk_drewN ?_ _ | refine blk_drew ?_ | refine blk_alloc ?_ _)); exact BK279.out⟩, ⟨by (with_reducible repeat (first | refine blk_drewN ?_ _ | refine blk_drew ?_ | refine blk_alloc ?_ _)); exact BK292.out⟩, ⟨by repeat (first | (with_reducible first | exact HB.out | apply below_alloc | apply pw_below_drewN | apply below_drew1 | refine below_set ?_ (IsS89.ge HI282.out) | refine below_set ?_ GE279.out | refine below_set ?_ GE292.out) | exact HB.out)⟩⟩
    ·rw [if_neg c32] at H
     have c32b0 : (t297 == 2) = false := beq_eq_false_iff_ne.mpr c32
     have c32b1 : (t297 != 2) = true := bne_iff_ne.mpr c32
     by_cases c39 : t297 = 3
     ·rw [if_pos c39] at H
      have c39b0 : (t297 == 3) = true := beq_iff_eq.mpr c39
      have c39b1 : (t297 != 3) = false := bne_eq_false_iff_eq.mpr c39
      clear c39
      replace H := Option.bind_eq_some_iff.mp H
      obtain ⟨⟨t307, t308⟩, A400, H⟩ := H
      replace H : (spec_DrawAt.j0 k t288 t307 (wrap64 (t286 + t295)) t283 t284 t285 t286 t287) = some (r1, r2, r3, r4, r5, r6, r7, r8) := H
      have A40 := Aside0.mk A400
      clear A400
      have H' := Aside0.mk H
      clear H
      go_wp2_with (first | ((with_reducible refine gate_callee (f := 57) rfl ?_); refine goesL_ (some 87) rfl rfl Try.func57 (by kernel_rfl) rfl #[.pointer (some ⟨g282, 0, none⟩)] rfl (by (try simp only [List.map_toArray, List.map_cons, List.map_nil]); first | done | rfl | (simp only [List.length_drop, List.length_take]; rfl)) ?_; (with_reducible refine (spec_l1Rd_number.calls k g282 t280 t298 t307 t308 w _ ?side1 ?side2 A40.out).mono ?_); (case side1 => repeat (first | (with_reducible first | exact HI282.out | apply IsS89.alloc | apply IsS89.drewN | apply IsS89.drew | apply IsS89.set_1 | apply IsS89.far (hne := NB282_279.out) | apply IsS89.far (hne := NB282_292.out)) | exact HI282.out)); (case side2 => repeat (first | (with_reducible first | exact HB.out | apply below_alloc | apply pw_below_drewN | apply below_drew1 | refine below_set ?_ (IsS89.ge HI282.out) | refine below_set ?_ GE279.out | refine below_set ?_ GE292.out) | exact HB.out)); rintro e w41 ⟨rfl, hi, hb, hk⟩; refine ⟨_, rfl, ?_⟩; have n0_ := Aside0.mk (KeepBut.blk hk (g' := gb279) (o := .cells #[.int .i64 0, .int .i64 0, .int .i64 0, .int .i64 0, .int .i64 0] 43 (0, 0)) (by (with_reducible repeat (first | refine blk_drewN ?_ _ | refine blk_drew ?_ | refine blk_alloc ?_ _)); exact BK279.out) NB279_282.out (by simp)); have n1_ := Aside0.mk (Kd.R_mono (Kd.R_keep (IsS89.apart (show IsS89 w _ g282 t280 t298 from by repeat (first | (with_reducible first | exact HI282.out | apply IsS89.alloc | apply IsS89.drewN | apply IsS89.drew | apply IsS89.set_1 | apply IsS89.far (hne := NB282_279.out) | apply IsS89.far (hne := NB282_292.out)) | exact HI282.out)) (by (with_reducible repeat (first | apply Kd.R_alloc | apply Kd.R_drewN | apply Kd.R_drew)); exact HO290.out) (by decide)) hk (fun _ h => h.2)) (fun _ h => h.1)); have n2_ := Aside0.mk (KeepBut.blk hk (g' := gb292) (o := .cells #[.int .i64 t283, .int .i64 t284, .int .i64 t285, .int .i64 t286, .int .i64 t287] 43 (0, 0)) (by (with_reducible repeat (first | refine blk_drewN ?_ _ | refine blk_drew ?_ | refine blk_alloc ?_ _)); exact BK292.out) NB292_282.out (by simp)); have n3_ := Aside0.mk (hb); have n4_ := Aside0.mk (hi); clear BK279; clear HO290; clear BK292; clear HB; clear HI282; have BK279 := n0_; have HO290 := n1_; have BK292 := n2_; have HB := n3_; have HI282 := n4_; clear n0_ n1_ n2_ n3_ n4_; (try clear hb); (try clear hb2); (try clear hk); (try clear hi)))
      go_meet
      case rel => exact ⟨_, (t307), (wrap64 (t286 + t295)), (by first | rfl | (simp; done) | (simp [*]; done)), (by first | rfl | (simp; done) | (simp [*]; done)), H', ⟨by first | omega | exact Nat.le_refl _⟩, ⟨by (with_reducible repeat (first | apply Kd.R_alloc | apply Kd.R_drewN | apply Kd.R_drew)); exact HO290.out⟩, ⟨by (with_reducible repeat (first | refine blk_drewN ?_ _ | refine blk_drew ?_ | refine blk_alloc ?_ _)); exact BK279.out⟩, ⟨by (with_reducible repeat (first | refine blk_drewN ?_ _ | refine blk_drew ?_ | refine blk_alloc ?_ _)); exact BK292.out⟩, ⟨by repeat (first | (with_reducible first | exact HB.out | apply below_alloc | apply pw_below_drewN | apply below_drew1 | refine below_set ?_ (IsS89.ge HI282.out) | refine below_set ?_ GE279.out | refine below_set ?_ GE292.out) | exact HB.out)⟩⟩
     ·rw [if_neg c39] at H
      have c39b0 : (t297 == 3) = false := beq_eq_false_iff_ne.mpr c39
      have c39b1 : (t297 != 3) = true := bne_iff_ne.mpr c39
      have H' := Aside0.mk H
      clear H
      go_wp2
      go_meet
      case rel => exact ⟨_, (wrap64 (t285 + t293)), (wrap64 (t286 + t295)), (by first | rfl | (simp; done) | (simp [*]; done)), (by first | rfl | (simp; done) | (simp [*]; done)), H', ⟨by first | omega | exact Nat.le_refl _⟩, ⟨by (with_reducible repeat (first | apply Kd.R_alloc | apply Kd.R_drewN | apply Kd.R_drew)); exact HO290.out⟩, ⟨by (with_reducible repeat (first | refine blk_drewN ?_ _ | refine blk_drew ?_ | refine blk_alloc ?_ _)); exact BK279.out⟩, ⟨by (with_reducible repeat (first | refine blk_drewN ?_ _ | refine blk_drew ?_ | refine blk_alloc ?_ _)); exact BK292.out⟩, ⟨by repeat (first | (with_reducible first | exact HB.out | apply below_alloc | apply pw_below_drewN | apply below_drew1 | refine below_set ?_ (IsS89.ge HI282.out) | refine below_set ?_ GE279.out | refine below_set ?_ GE292.out) | exact HB.out)⟩⟩
 case rest =>
  clear HC10
  try clear c2
  try clear p2
  try clear c3
  try clear c5
  try clear p6
  try clear c24
  try clear c24b0
  try clear c24b1
  try clear c28
  try clear c28b0
  try clear c28b1
  try clear c32
  try clear c32b0
  try clear c32b1
  try clear c39
  try clear c39b0
  try clear c39b1
  obtain ⟨kq, x9_9, x10_9, rfl, rfl, HA, HJ9, HO_8, BK279, BK292, HB⟩ := hcut
  cases kq with
  | zero => exact absurd HA.out (by simp [spec_DrawAt.j0])
  | succ kj9 =>
   have H := HA.out
   clear HA
   simp only [spec_DrawAt.j0] at H
   simp only [Option.some.injEq, Prod.mk.injEq] at H
   obtain ⟨rfl, rfl, rfl, rfl, rfl, rfl, rfl, rfl⟩ := H
   have hnb42 := NB292_279.out
   have hnc42 := NB279_292.out
   have hcz43_0 : wc.cell? ⟨gb292, 0, none⟩ = some (.int .i64 t283) := (blk_cell BK292.out 0).trans rfl
   have hcz43_1 : wc.cell? ⟨gb292, 1, none⟩ = some (.int .i64 t284) := (blk_cell BK292.out 1).trans rfl
   have hcz43_2 : wc.cell? ⟨gb292, 2, none⟩ = some (.int .i64 t285) := (blk_cell BK292.out 2).trans rfl
   have hcz43_3 : wc.cell? ⟨gb292, 3, none⟩ = some (.int .i64 t286) := (blk_cell BK292.out 3).trans rfl
   have hcz43_4 : wc.cell? ⟨gb292, 4, none⟩ = some (.int .i64 t287) := (blk_cell BK292.out 4).trans rfl
   have hfz43_0 := blk_frozen BK292.out 0
   have hfz43_1 := blk_frozen BK292.out 1
   have hfz43_2 := blk_frozen BK292.out 2
   have hfz43_3 := blk_frozen BK292.out 3
   have hfz43_4 := blk_frozen BK292.out 4
   have hcz44_0 : wc.cell? ⟨gb279, 0, none⟩ = some (.int .i64 0) := (blk_cell BK279.out 0).trans rfl
   have hcz44_1 : wc.cell? ⟨gb279, 1, none⟩ = some (.int .i64 0) := (blk_cell BK279.out 1).trans rfl
   have hcz44_2 : wc.cell? ⟨gb279, 2, none⟩ = some (.int .i64 0) := (blk_cell BK279.out 2).trans rfl
   have hcz44_3 : wc.cell? ⟨gb279, 3, none⟩ = some (.int .i64 0) := (blk_cell BK279.out 3).trans rfl
   have hcz44_4 : wc.cell? ⟨gb279, 4, none⟩ = some (.int .i64 0) := (blk_cell BK279.out 4).trans rfl
   have hfz44_0 := blk_frozen BK279.out 0
   have hfz44_1 := blk_frozen BK279.out 1
   have hfz44_2 := blk_frozen BK279.out 2
   have hfz44_3 := blk_frozen BK279.out 3
   have hfz44_4 := blk_frozen BK279.out 4
   go_wp2
   refine bodyPost_ret (results_list (rs := [.cell 2 43, .tmp 3, .tmp 4, .tmp 5]) rfl (by simp) (.cell gb279 43 #[.int .i64 t283, .int .i64 t284, .int .i64 t285, .int .i64 t286, .int .i64 t287] (0, 0) _ rfl (by (with_reducible repeat (first | refine blk_drewN ?_ _ | refine blk_drew ?_ | refine blk_alloc ?_ _)); refine blk_put (cs := #[.int .i64 t283, .int .i64 t284, .int .i64 t285, .int .i64 t286, .int .i64 0]) ?_ 4 _ rfl; (with_reducible repeat (first | refine blk_drewN ?_ _ | refine blk_drew ?_ | refine blk_alloc ?_ _)); refine blk_put (cs := #[.int .i64 t283, .int .i64 t284, .int .i64 t285, .int .i64 0, .int .i64 0]) ?_ 3 _ rfl; (with_reducible repeat (first | refine blk_drewN ?_ _ | refine blk_drew ?_ | refine blk_alloc ?_ _)); refine blk_put (cs := #[.int .i64 t283, .int .i64 t284, .int .i64 0, .int .i64 0, .int .i64 0]) ?_ 2 _ rfl; (with_reducible repeat (first | refine blk_drewN ?_ _ | refine blk_drew ?_ | refine blk_alloc ?_ _)); refine blk_put (cs := #[.int .i64 t283, .int .i64 0, .int .i64 0, .int .i64 0, .int .i64 0]) ?_ 1 _ rfl; (with_reducible repeat (first | refine blk_drewN ?_ _ | refine blk_drew ?_ | refine blk_alloc ?_ _)); refine blk_put (cs := #[.int .i64 0, .int .i64 0, .int .i64 0, .int .i64 0, .int .i64 0]) ?_ 0 _ rfl; (with_reducible repeat (first | refine blk_drewN ?_ _ | refine blk_drew ?_ | refine blk_alloc ?_ _)); exact BK279.out) Try.underlying43 rfl (by kernel_rfl) (.tmp (.tmp (.tmp .nil))))) rfl ?_
   exact ⟨_, by first | rfl | (simp [errW_none, errW_some] <;> rfl) | (simp only [← hji4, ← hji5, ← hji7]; first | rfl | (simp [errW_none, errW_some] <;> rfl)) | (simp [*, errW_none, errW_some] <;> rfl), by (with_reducible repeat (first | apply Kd.R_alloc | apply Kd.R_drewN | apply Kd.R_drew)); exact Kd.R_mono (Kd.R_far (p := ⟨gb279, 4, none⟩) (Kd.R_far (p := ⟨gb279, 3, none⟩) (Kd.R_far (p := ⟨gb279, 2, none⟩) (Kd.R_far (p := ⟨gb279, 1, none⟩) (Kd.R_far (p := ⟨gb279, 0, none⟩) (Kd.R_types HO_8.out BK279.out (by decide)) (fun _ hk => hk.2) (.int .i64 t283)) (fun _ hk => hk.2) (.int .i64 t284)) (fun _ hk => hk.2) (.int .i64 t285)) (fun _ hk => hk.2) (.int .i64 t286)) (fun _ hk => hk.2) (.int .i64 t287)) (fun _ hk => trivial), by repeat (first | (with_reducible first | exact HB.out | apply below_alloc | apply pw_below_drewN | apply below_drew1 | refine below_set ?_ GE279.out | refine below_set ?_ GE292.out) | exact HB.out)⟩

end Go.Proofs.Ytaophbkedbphnaa.Q
