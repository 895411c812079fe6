/- Plain Lean functions with the same answers as the Go functions of this seat, and a proof for each that the Go code comes to just these answers; no condition. Written by a program of this session (the kit's printer, turned). -/
import Derived.Test.YtcdghhihfjojaaaQx0
import Derived.Test.YtcdghhihfjojaaaQx4
import Derived.Test.YtcdghhihfjojaaaQx5
import Derived.Test.YtcdghhihfjojaaaQx8
import Derived.Test.YtcdghhihfjojaaaBits
namespace Go.Proofs.Ytcdghhihfjojaaa.Q
open Go.RowKit Go.Proofs.YtcdghhihfjojaaaW.PrintWords Go.Proofs.YtcdghhihfjojaaaW.PrintLast Go.Proofs.YtcdghhihfjojaaaW.PrintMore Go.Proofs.YtcdghhihfjojaaaW.PrintFlt
attribute [local go_sem] cmp_lss cmp_leq cmp_gtr cmp_geq cmp_eql cmp_neq flt_l flt_r fgt_l fgt_r feq_l feq_r fne_l fne_r ord_lt ord_gt ord_eq ord_ne conv_int conv_flt foi_fold run_store_flt
attribute [local go_sem] max2_int min2_int max_two min_two max_three min_three max_four min_four   -- for this text's walks alone
set_option linter.unusedVariables false
set_option linter.unusedSimpArgs false

/-! ### impl_PackRuns: function 15 -/
mutual
def impl_PackRuns.l0 : Nat → List Int → List Int → Int → Int → Option (List Int × Bool)
 | 0, _, _, _, _ => none
 | k + 1, x0, x4, x5, x6 => if x6 < (x0.length : Int) then (if 0 ≤ x6 then (if x6 ≤ (mn (wrap64 (x6 + 16)) (x0.length : Int)) then (if (mn (wrap64 (x6 + 16)) (x0.length : Int)) ≤ (x0.length : Int) then (impl_PackRuns.l1 k x0 x4 x5 x6 (([] : List Int)) ((x0.take ((mn (wrap64 (x6 + 16)) (x0.length : Int)) : Int).toNat).drop (x6 : Int).toNat) (((x0.take ((mn (wrap64 (x6 + 16)) (x0.length : Int)) : Int).toNat).drop (x6 : Int).toNat).length : Int) 0) else (none)) else (none)) else (none)) else (some (x4, true))
def impl_PackRuns.l1 : Nat → List Int → List Int → Int → Int → List Int → List Int → Int → Int → Option (List Int × Bool)
 | 0, _, _, _, _, _, _, _, _ => none
 | k + 1, x0, x4, x5, x6, x7, x44, x45, x46 => if x46 < x45 then (if 0 ≤ x46 then (if x46 < (x44.length : Int) then (if x7.length < 17592186044416 then (impl_PackRuns.l1 k x0 x4 (rd x44 x46) x6 (x7 ++ [wrap64 ((rd x44 x46) - x5)]) x44 x45 (wrap64 (x46 + 1))) else (none)) else (none)) else (none)) else (if 0 < (x7.length : Int) then (impl_PackRuns.l2 k x0 x4 x5 x6 x7 (rd x7 0) (rd x7 0) x7 (x7.length : Int) 0) else (none))
def impl_PackRuns.l2 : Nat → List Int → List Int → Int → Int → List Int → Int → Int → List Int → Int → Int → Option (List Int × Bool)
 | 0, _, _, _, _, _, _, _, _, _, _ => none
 | k + 1, x0, x4, x5, x6, x7, x10, x11, x64, x65, x66 => if x66 < x65 then (if 0 ≤ x66 then (if x66 < (x64.length : Int) then (impl_PackRuns.l2 k x0 x4 x5 x6 x7 (mn x10 (rd x64 x66)) (mx x11 (rd x64 x66)) x64 x65 (wrap64 (x66 + 1))) else (none)) else (none)) else (impl_PackRuns.l3 k x0 x4 x5 x6 x7 x10 x11 0)
def impl_PackRuns.l3 : Nat → List Int → List Int → Int → Int → List Int → Int → Int → Int → Option (List Int × Bool)
 | 0, _, _, _, _, _, _, _, _ => none
 | k + 1, x0, x4, x5, x6, x7, x10, x11, x14 => if 0 ≤ x14 then (if (shr .i64 (wrap64 (x11 - x10)) x14) > 0 then (impl_PackRuns.l3 k x0 x4 x5 x6 x7 x10 x11 (wrap64 (x14 + 1))) else (impl_PackRuns.l4 k x0 x4 x5 x6 x7 x10 x14 5)) else (none)
def impl_PackRuns.l4 : Nat → List Int → List Int → Int → Int → List Int → Int → Int → Int → Option (List Int × Bool)
 | 0, _, _, _, _, _, _, _, _ => none
 | k + 1, x0, x4, x5, x6, x7, x10, x14, x15 => if x15 ≥ 0 then (if 0 ≤ (wrap64 (8 * x15)) then (if x4.length < 140737488355328 then (impl_PackRuns.l4 k x0 (x4 ++ [(shr .i64 (wrap64 (x10 + 4398046511104)) (wrap64 (8 * x15))) % 256]) x5 x6 x7 x10 x14 (wrap64 (x15 - 1))) else (none)) else (none)) else (if x4.length < 140737488355328 then (impl_PackRuns.l5 k x0 (x4 ++ [(x14) % 256]) x5 x6 x10 x14 (([] : List Int)) x7 (x7.length : Int) 0) else (none))
def impl_PackRuns.l5 : Nat → List Int → List Int → Int → Int → Int → Int → List Int → List Int → Int → Int → Option (List Int × Bool)
 | 0, _, _, _, _, _, _, _, _, _, _ => none
 | k + 1, x0, x4, x5, x6, x10, x14, x16, x105, x106, x107 => if x107 < x106 then (if 0 ≤ x107 then (if x107 < (x105.length : Int) then ((impl_put.f k x16 (IntKind.u64.wrap (wrap64 ((rd x105 x107) - x10))) x14).bind fun t195 => (impl_PackRuns.l5 k x0 x4 x5 x6 x10 x14 t195 x105 x106 (wrap64 (x107 + 1)))) else (none)) else (none)) else ((impl_pack.f k x16).bind fun t198 => (if x4.length + t198.length < 140737488355328 then (impl_PackRuns.l0 k x0 (x4 ++ t198) x5 (wrap64 (x6 + 16))) else (none)))
end
def impl_PackRuns.f (k : Nat) (l0 : List Int) : Option (List Int × Bool) := (impl_within.f k l0 1099511627776).bind fun t170 => (if t170 = true then (impl_PackRuns.l0 k l0 (([((l0.length : Int) / 256) % 256, ((l0.length : Int)) % 256] : List Int)) 0 0) else (some (([] : List Int), false)))
theorem impl_PackRuns.mono_l : ∀ k, (∀ y0 y1 y2 y3, LeO (impl_PackRuns.l0 k y0 y1 y2 y3) (impl_PackRuns.l0 (k + 1) y0 y1 y2 y3)) ∧ (∀ y0 y1 y2 y3 y4 y5 y6 y7, LeO (impl_PackRuns.l1 k y0 y1 y2 y3 y4 y5 y6 y7) (impl_PackRuns.l1 (k + 1) y0 y1 y2 y3 y4 y5 y6 y7)) ∧ (∀ y0 y1 y2 y3 y4 y5 y6 y7 y8 y9, LeO (impl_PackRuns.l2 k y0 y1 y2 y3 y4 y5 y6 y7 y8 y9) (impl_PackRuns.l2 (k + 1) y0 y1 y2 y3 y4 y5 y6 y7 y8 y9)) ∧ (∀ y0 y1 y2 y3 y4 y5 y6 y7, LeO (impl_PackRuns.l3 k y0 y1 y2 y3 y4 y5 y6 y7) (impl_PackRuns.l3 (k + 1) y0 y1 y2 y3 y4 y5 y6 y7)) ∧ (∀ y0 y1 y2 y3 y4 y5 y6 y7, LeO (impl_PackRuns.l4 k y0 y1 y2 y3 y4 y5 y6 y7) (impl_PackRuns.l4 (k + 1) y0 y1 y2 y3 y4 y5 y6 y7)) ∧ (∀ y0 y1 y2 y3 y4 y5 y6 y7 y8 y9, LeO (impl_PackRuns.l5 k y0 y1 y2 y3 y4 y5 y6 y7 y8 y9) (impl_PackRuns.l5 (k + 1) y0 y1 y2 y3 y4 y5 y6 y7 y8 y9))
 | 0 => ⟨fun _ _ _ _ r h => by simp [impl_PackRuns.l0] at h, fun _ _ _ _ _ _ _ _ r h => by simp [impl_PackRuns.l1] at h, fun _ _ _ _ _ _ _ _ _ _ r h => by simp [impl_PackRuns.l2] at h, fun _ _ _ _ _ _ _ _ r h => by simp [impl_PackRuns.l3] at h, fun _ _ _ _ _ _ _ _ r h => by simp [impl_PackRuns.l4] at h, fun _ _ _ _ _ _ _ _ _ _ r h => by simp [impl_PackRuns.l5] at h⟩
 | k + 1 => by
  obtain ⟨ih0, ih1, ih2, ih3, ih4, ih5⟩ := impl_PackRuns.mono_l k
  refine ⟨?_, ?_, ?_, ?_, ?_, ?_⟩
  ·intro y0 y1 y2 y3
   unfold impl_PackRuns.l0
   repeat' first
   | (with_reducible exact ih0 _ _ _ _)
   | (with_reducible exact ih1 _ _ _ _ _ _ _ _)
   | (with_reducible exact ih2 _ _ _ _ _ _ _ _ _ _)
   | (with_reducible exact ih3 _ _ _ _ _ _ _ _)
   | (with_reducible exact ih4 _ _ _ _ _ _ _ _)
   | (with_reducible exact ih5 _ _ _ _ _ _ _ _ _ _)
   | (with_reducible exact impl_within.mono _ _ _)
   | (with_reducible exact impl_pack.mono _ _)
   | (with_reducible exact impl_put.mono _ _ _ _)
   | (with_reducible exact LeO.refl _)
   | (with_reducible exact LeO.none _)
   | (with_reducible refine LeO.ite ?_ ?_)
   | (with_reducible refine LeO.bind ?_ (fun _ => ?_))
   | exact ih0 _ _ _ _
   | exact ih1 _ _ _ _ _ _ _ _
   | exact ih2 _ _ _ _ _ _ _ _ _ _
   | exact ih3 _ _ _ _ _ _ _ _
   | exact ih4 _ _ _ _ _ _ _ _
   | exact ih5 _ _ _ _ _ _ _ _ _ _
   | exact impl_within.mono _ _ _
   | exact impl_pack.mono _ _
   | exact impl_put.mono _ _ _ _
   | exact LeO.none _
   | refine LeO.ite ?_ ?_
   | refine LeO.bind ?_ (fun _ => ?_)
  ·intro y0 y1 y2 y3 y4 y5 y6 y7
   unfold impl_PackRuns.l1
   repeat' first
   | (with_reducible exact ih0 _ _ _ _)
   | (with_reducible exact ih1 _ _ _ _ _ _ _ _)
   | (with_reducible exact ih2 _ _ _ _ _ _ _ _ _ _)
   | (with_reducible exact ih3 _ _ _ _ _ _ _ _)
   | (with_reducible exact ih4 _ _ _ _ _ _ _ _)
   | (with_reducible exact ih5 _ _ _ _ _ _ _ _ _ _)
   | (with_reducible exact impl_within.mono _ _ _)
   | (with_reducible exact impl_pack.mono _ _)
   | (with_reducible exact impl_put.mono _ _ _ _)
   | (with_reducible exact LeO.refl _)
   | (with_reducible exact LeO.none _)
   | (with_reducible refine LeO.ite ?_ ?_)
   | (with_reducible refine LeO.bind ?_ (fun _ => ?_))
   | exact ih0 _ _ _ _
   | exact ih1 _ _ _ _ _ _ _ _
   | exact ih2 _ _ _ _ _ _ _ _ _ _
   | exact ih3 _ _ _ _ _ _ _ _
   | exact ih4 _ _ _ _ _ _ _ _
   | exact ih5 _ _ _ _ _ _ _ _ _ _
   | exact impl_within.mono _ _ _
   | exact impl_pack.mono _ _
   | exact impl_put.mono _ _ _ _
   | exact LeO.none _
   | refine LeO.ite ?_ ?_
   | refine LeO.bind ?_ (fun _ => ?_)
  ·intro y0 y1 y2 y3 y4 y5 y6 y7 y8 y9
   unfold impl_PackRuns.l2
   repeat' first
   | (with_reducible exact ih0 _ _ _ _)
   | (with_reducible exact ih1 _ _ _ _ _ _ _ _)
   | (with_reducible exact ih2 _ _ _ _ _ _ _ _ _ _)
   | (with_reducible exact ih3 _ _ _ _ _ _ _ _)
   | (with_reducible exact ih4 _ _ _ _ _ _ _ _)
   | (with_reducible exact ih5 _ _ _ _ _ _ _ _ _ _)
   | (with_reducible exact impl_within.mono _ _ _)
   | (with_reducible exact impl_pack.mono _ _)
   | (with_reducible exact impl_put.mono _ _ _ _)
   | (with_reducible exact LeO.refl _)
   | (with_reducible exact LeO.none _)
   | (with_reducible refine LeO.ite ?_ ?_)
   | (with_reducible refine LeO.bind ?_ (fun _ => ?_))
   | exact ih0 _ _ _ _
   | exact ih1 _ _ _ _ _ _ _ _
   | exact ih2 _ _ _ _ _ _ _ _ _ _
   | exact ih3 _ _ _ _ _ _ _ _
   | exact ih4 _ _ _ _ _ _ _ _
   | exact ih5 _ _ _ _ _ _ _ _ _ _
   | exact impl_within.mono _ _ _
   | exact impl_pack.mono _ _
   | exact impl_put.mono _ _ _ _
   | exact LeO.none _
   | refine LeO.ite ?_ ?_
   | refine LeO.bind ?_ (fun _ => ?_)
  ·intro y0 y1 y2 y3 y4 y5 y6 y7
   unfold impl_PackRuns.l3
   repeat' first
   | (with_reducible exact ih0 _ _ _ _)
   | (with_reducible exact ih1 _ _ _ _ _ _ _ _)
   | (with_reducible exact ih2 _ _ _ _ _ _ _ _ _ _)
   | (with_reducible exact ih3 _ _ _ _ _ _ _ _)
   | (with_reducible exact ih4 _ _ _ _ _ _ _ _)
   | (with_reducible exact ih5 _ _ _ _ _ _ _ _ _ _)
   | (with_reducible exact impl_within.mono _ _ _)
   | (with_reducible exact impl_pack.mono _ _)
   | (with_reducible exact impl_put.mono _ _ _ _)
   | (with_reducible exact LeO.refl _)
   | (with_reducible exact LeO.none _)
   | (with_reducible refine LeO.ite ?_ ?_)
   | (with_reducible refine LeO.bind ?_ (fun _ => ?_))
   | exact ih0 _ _ _ _
   | exact ih1 _ _ _ _ _ _ _ _
   | exact ih2 _ _ _ _ _ _ _ _ _ _
   | exact ih3 _ _ _ _ _ _ _ _
   | exact ih4 _ _ _ _ _ _ _ _
   | exact ih5 _ _ _ _ _ _ _ _ _ _
   | exact impl_within.mono _ _ _
   | exact impl_pack.mono _ _
   | exact impl_put.mono _ _ _ _
   | exact LeO.none _
   | refine LeO.ite ?_ ?_
   | refine LeO.bind ?_ (fun _ => ?_)
  ·intro y0 y1 y2 y3 y4 y5 y6 y7
   unfold impl_PackRuns.l4
   repeat' first
   | (with_reducible exact ih0 _ _ _ _)
   | (with_reducible exact ih1 _ _ _ _ _ _ _ _)
   | (with_reducible exact ih2 _ _ _ _ _ _ _ _ _ _)
   | (with_reducible exact ih3 _ _ _ _ _ _ _ _)
   | (with_reducible exact ih4 _ _ _ _ _ _ _ _)
   | (with_reducible exact ih5 _ _ _ _ _ _ _ _ _ _)
   | (with_reducible exact impl_within.mono _ _ _)
   | (with_reducible exact impl_pack.mono _ _)
   | (with_reducible exact impl_put.mono _ _ _ _)
   | (with_reducible exact LeO.refl _)
   | (with_reducible exact LeO.none _)
   | (with_reducible refine LeO.ite ?_ ?_)
   | (with_reducible refine LeO.bind ?_ (fun _ => ?_))
   | exact ih0 _ _ _ _
   | exact ih1 _ _ _ _ _ _ _ _
   | exact ih2 _ _ _ _ _ _ _ _ _ _
   | exact ih3 _ _ _ _ _ _ _ _
   | exact ih4 _ _ _ _ _ _ _ _
   | exact ih5 _ _ _ _ _ _ _ _ _ _
   | exact impl_within.mono _ _ _
   | exact impl_pack.mono _ _
   | exact impl_put.mono _ _ _ _
   | exact LeO.none _
   | refine LeO.ite ?_ ?_
   | refine LeO.bind ?_ (fun _ => ?_)
  ·intro y0 y1 y2 y3 y4 y5 y6 y7 y8 y9
   unfold impl_PackRuns.l5
   repeat' first
   | (with_reducible exact ih0 _ _ _ _)
   | (with_reducible exact ih1 _ _ _ _ _ _ _ _)
   | (with_reducible exact ih2 _ _ _ _ _ _ _ _ _ _)
   | (with_reducible exact ih3 _ _ _ _ _ _ _ _)
   | (with_reducible exact ih4 _ _ _ _ _ _ _ _)
   | (with_reducible exact ih5 _ _ _ _ _ _ _ _ _ _)
   | (with_reducible exact impl_within.mono _ _ _)
   | (with_reducible exact impl_pack.mono _ _)
   | (with_reducible exact impl_put.mono _ _ _ _)
   | (with_reducible exact LeO.refl _)
   | (with_reducible exact LeO.none _)
   | (with_reducible refine LeO.ite ?_ ?_)
   | (with_reducible refine LeO.bind ?_ (fun _ => ?_))
   | exact ih0 _ _ _ _
   | exact ih1 _ _ _ _ _ _ _ _
   | exact ih2 _ _ _ _ _ _ _ _ _ _
   | exact ih3 _ _ _ _ _ _ _ _
   | exact ih4 _ _ _ _ _ _ _ _
   | exact ih5 _ _ _ _ _ _ _ _ _ _
   | exact impl_within.mono _ _ _
   | exact impl_pack.mono _ _
   | exact impl_put.mono _ _ _ _
   | exact LeO.none _
   | refine LeO.ite ?_ ?_
   | refine LeO.bind ?_ (fun _ => ?_)
theorem impl_PackRuns.mono : ∀ a0 k, LeO (impl_PackRuns.f k a0) (impl_PackRuns.f (k + 1) a0) := by
 intro a0 k
 obtain ⟨ih0, ih1, ih2, ih3, ih4, ih5⟩ := impl_PackRuns.mono_l k
 unfold impl_PackRuns.f
 repeat' first
   | (with_reducible exact ih0 _ _ _ _)
   | (with_reducible exact ih1 _ _ _ _ _ _ _ _)
   | (with_reducible exact ih2 _ _ _ _ _ _ _ _ _ _)
   | (with_reducible exact ih3 _ _ _ _ _ _ _ _)
   | (with_reducible exact ih4 _ _ _ _ _ _ _ _)
   | (with_reducible exact ih5 _ _ _ _ _ _ _ _ _ _)
   | (with_reducible exact impl_within.mono _ _ _)
   | (with_reducible exact impl_pack.mono _ _)
   | (with_reducible exact impl_put.mono _ _ _ _)
   | (with_reducible exact LeO.refl _)
   | (with_reducible exact LeO.none _)
   | (with_reducible refine LeO.ite ?_ ?_)
   | (with_reducible refine LeO.bind ?_ (fun _ => ?_))
   | exact ih0 _ _ _ _
   | exact ih1 _ _ _ _ _ _ _ _
   | exact ih2 _ _ _ _ _ _ _ _ _ _
   | exact ih3 _ _ _ _ _ _ _ _
   | exact ih4 _ _ _ _ _ _ _ _
   | exact ih5 _ _ _ _ _ _ _ _ _ _
   | exact impl_within.mono _ _ _
   | exact impl_pack.mono _ _
   | exact impl_put.mono _ _ _ _
   | exact LeO.none _
   | refine LeO.ite ?_ ?_
   | refine LeO.bind ?_ (fun _ => ?_)
set_option maxHeartbeats 8000000 in
set_option maxRecDepth 100000 in
theorem impl_PackRuns.calls (k : Nat) (A0 : Option Addr) (c0 : Nat) (l0 : List Int) (r1 : List Int) (r2 : Bool) (w : World) (hr0 : Kd.C (Kd.int .i64) w A0 l0.length l0) (hc0 : l0.length ≤ c0) (h : impl_PackRuns.f k l0 = some (r1, r2)) :
  Calls Try.prog 15 #[.slice A0 l0.length c0] w fun e w' => ∃ v0_ : Value, e = .returned (.tuple #[v0_, .bool r2]) ∧ Kd.R (Kd.int .u8) 5 w' w.heap.size (fun _ => True) v0_ r1 ∧ Below w.heap.size w w' := by
 have HR0 := Aside0.mk hr0
 have HC0 := Aside0.mk hc0
 clear hr0 hc0
 have HB := Aside0.mk (Below.refl w.heap.size w)
 have H : ((impl_within.f k l0 1099511627776).bind fun t170 => (if t170 = true then (impl_PackRuns.l0 k l0 (([((l0.length : Int) / 256) % 256, ((l0.length : Int)) % 256] : List Int)) 0 0) else (some (([] : List Int), false)))) = some (r1, r2) := h
 clear h
 replace H := Option.bind_eq_some_iff.mp H
 obtain ⟨t170, A20, H⟩ := H
 replace H : (if t170 = true then (impl_PackRuns.l0 k l0 (([((l0.length : Int) / 256) % 256, ((l0.length : Int)) % 256] : List Int)) 0 0) else (some (([] : List Int), false))) = some (r1, r2) := H
 have A2 := Aside0.mk A20
 clear A20
 by_cases c3 : t170 = true
 ·subst c3
  have H1 : (impl_PackRuns.l0 k l0 (([((l0.length : Int) / 256) % 256, ((l0.length : Int)) % 256] : List Int)) 0 0) = some (r1, r2) := by rw [if_pos rfl] at H; exact H
  clear H
  have H := H1
  clear H1
  obtain ⟨y171, hy171⟩ : ∃ y_ : List Int, y_ = (([((l0.length : Int) / 256) % 256, ((l0.length : Int)) % 256] : List Int)) := ⟨_, rfl⟩
  replace H : (impl_PackRuns.l0 k l0 y171 0 0) = some (r1, r2) := by first | (rw [hy171]; with_reducible exact H) | (have H2_ := (Option.bind_some _ _).symm.trans H; rw [hy171]; with_reducible exact H2_) | (have H2_ := (Option.bind_some _ _).symm.trans H; with_reducible exact H2_) | with_reducible exact H | (rw [hy171]; exact H) | exact H
  have Ny171 := Aside0.mk hy171
  clear hy171
  have H' := Aside0.mk H
  clear H
  go_enter Try.func15, Try.ntmps15
  go_wp2_with (first | (go_at_call 39; (with_reducible refine (impl_within.calls k _ _ l0 1099511627776 true _ ?side1 ?side2 A2.out).mono ?_); (case side1 => repeat (first | exact HR0.out | (with_reducible refine Kd.C_alloc ?_ _) | (with_reducible refine Kd.C_drewN ?_ _) | (with_reducible refine Kd.C_drew ?_))); (case side2 => exact HC0.out); rintro e w' ⟨rfl, ⟨nd, rfl⟩⟩; (try first | exact ⟨rfl, _, World.drewN_drewN _ _ _⟩ | exact ⟨rfl, _, Eq.trans (World.drewN_drewN _ _ _) (congrArg (World.drewN _) (Nat.add_assoc _ _ _))⟩)) | ((with_reducible refine gate_dst (N := 29) rfl ?_); refine Kd.R_lit (Kd.int .u8) _ 5 ?hg (N := 29) ?hd (xs := ([((l0.length : Int) / 256) % 256, ((l0.length : Int)) % 256] : List Int)) (inner := [.int .u8 (((l0.length : Int) / 256) % 256), .int .u8 (((l0.length : Int)) % 256)]) (ok := fun _ => True) (okp := fun _ => True) ?hr ?hp (fun _ hk => hk) trivial (Below.refl _ _) (Nat.le_refl _) (by simp) ?_; (case hd => rfl); (case hg => rfl); (case hr => first | (go_simp; done) | (go_simp; rfl)); (case hp => exact (Reps.one (show Kd.M (Kd.int .u8) _ _ _ (((l0.length : Int) / 256) % 256) [.int .u8 (((l0.length : Int) / 256) % 256)] from rfl) (Reps.one (show Kd.M (Kd.int .u8) _ _ _ (((l0.length : Int)) % 256) [.int .u8 (((l0.length : Int)) % 256)] from rfl) (Reps.none _ _)))); intro v172 w4 ho5 hb hg_ hnew_; clear hg_ hnew_; (first | rw [← Ny171.out] at ho5 | (simp only [Int.reduceToNat] at ho5; rw [← Ny171.out] at ho5)); have n0_ := Aside0.mk (Kd.R_lower ho5 (below_size (by repeat (first | (with_reducible first | exact HB.out | apply below_alloc | apply pw_below_drewN | apply below_drew1) | exact HB.out)))); have n1_ := Aside0.mk (below_step (by repeat (first | (with_reducible first | exact HB.out | apply below_alloc | apply pw_below_drewN | apply below_drew1) | exact HB.out)) hb); clear HB; have HO173 := n0_; have HB := n1_; clear n0_ n1_; clear hb ho5))
  repeat (go_quiet (first | (go_at_call 39; (with_reducible refine (impl_within.calls k _ _ l0 1099511627776 true _ ?side1 ?side2 A2.out).mono ?_); (case side1 => repeat (first | exact HR0.out | (with_reducible refine Kd.C_alloc ?_ _) | (with_reducible refine Kd.C_drewN ?_ _) | (with_reducible refine Kd.C_drew ?_))); (case side2 => exact HC0.out); rintro e w' ⟨rfl, ⟨nd, rfl⟩⟩; (try first | exact ⟨rfl, _, World.drewN_drewN _ _ _⟩ | exact ⟨rfl, _, Eq.trans (World.drewN_drewN _ _ _) (congrArg (World.drewN _) (Nat.add_assoc _ _ _))⟩)) | ((with_reducible refine gate_dst (N := 29) rfl ?_); refine Kd.R_lit (Kd.int .u8) _ 5 ?hg (N := 29) ?hd (xs := ([((l0.length : Int) / 256) % 256, ((l0.length : Int)) % 256] : List Int)) (inner := [.int .u8 (((l0.length : Int) / 256) % 256), .int .u8 (((l0.length : Int)) % 256)]) (ok := fun _ => True) (okp := fun _ => True) ?hr ?hp (fun _ hk => hk) trivial (Below.refl _ _) (Nat.le_refl _) (by simp) ?_; (case hd => rfl); (case hg => rfl); (case hr => first | (go_simp; done) | (go_simp; rfl)); (case hp => exact (Reps.one (show Kd.M (Kd.int .u8) _ _ _ (((l0.length : Int) / 256) % 256) [.int .u8 (((l0.length : Int) / 256) % 256)] from rfl) (Reps.one (show Kd.M (Kd.int .u8) _ _ _ (((l0.length : Int)) % 256) [.int .u8 (((l0.length : Int)) % 256)] from rfl) (Reps.none _ _)))); intro v172 w4 ho5 hb hg_ hnew_; clear hg_ hnew_; (first | rw [← Ny171.out] at ho5 | (simp only [Int.reduceToNat] at ho5; rw [← Ny171.out] at ho5)); have n0_ := Aside0.mk (Kd.R_lower ho5 (below_size (by repeat (first | (with_reducible first | exact HB.out | apply below_alloc | apply pw_below_drewN | apply below_drew1) | exact HB.out)))); have n1_ := Aside0.mk (below_step (by repeat (first | (with_reducible first | exact HB.out | apply below_alloc | apply pw_below_drewN | apply below_drew1) | exact HB.out)) hb); clear HB; have HO173 := n0_; have HB := n1_; clear n0_ n1_; clear hb ho5)); try go_wp2_with (first | (go_at_call 39; (with_reducible refine (impl_within.calls k _ _ l0 1099511627776 true _ ?side1 ?side2 A2.out).mono ?_); (case side1 => repeat (first | exact HR0.out | (with_reducible refine Kd.C_alloc ?_ _) | (with_reducible refine Kd.C_drewN ?_ _) | (with_reducible refine Kd.C_drew ?_))); (case side2 => exact HC0.out); rintro e w' ⟨rfl, ⟨nd, rfl⟩⟩; (try first | exact ⟨rfl, _, World.drewN_drewN _ _ _⟩ | exact ⟨rfl, _, Eq.trans (World.drewN_drewN _ _ _) (congrArg (World.drewN _) (Nat.add_assoc _ _ _))⟩)) | ((with_reducible refine gate_dst (N := 29) rfl ?_); refine Kd.R_lit (Kd.int .u8) _ 5 ?hg (N := 29) ?hd (xs := ([((l0.length : Int) / 256) % 256, ((l0.length : Int)) % 256] : List Int)) (inner := [.int .u8 (((l0.length : Int) / 256) % 256), .int .u8 (((l0.length : Int)) % 256)]) (ok := fun _ => True) (okp := fun _ => True) ?hr ?hp (fun _ hk => hk) trivial (Below.refl _ _) (Nat.le_refl _) (by simp) ?_; (case hd => rfl); (case hg => rfl); (case hr => first | (go_simp; done) | (go_simp; rfl)); (case hp => exact (Reps.one (show Kd.M (Kd.int .u8) _ _ _ (((l0.length : Int) / 256) % 256) [.int .u8 (((l0.length : Int) / 256) % 256)] from rfl) (Reps.one (show Kd.M (Kd.int .u8) _ _ _ (((l0.length : Int)) % 256) [.int .u8 (((l0.length : Int)) % 256)] from rfl) (Reps.none _ _)))); intro v172 w4 ho5 hb hg_ hnew_; clear hg_ hnew_; (first | rw [← Ny171.out] at ho5 | (simp only [Int.reduceToNat] at ho5; rw [← Ny171.out] at ho5)); have n0_ := Aside0.mk (Kd.R_lower ho5 (below_size (by repeat (first | (with_reducible first | exact HB.out | apply below_alloc | apply pw_below_drewN | apply below_drew1) | exact HB.out)))); have n1_ := Aside0.mk (below_step (by repeat (first | (with_reducible first | exact HB.out | apply below_alloc | apply pw_below_drewN | apply below_drew1) | exact HB.out)) hb); clear HB; have HO173 := n0_; have HB := n1_; clear n0_ n1_; clear hb ho5)))
  go_loopg [4, 5, 6] k (fun kq v4 v5 v6 w' => ∃ (x4_1 : List Int) (x5_1 : Int) (x6_1 : Int), v5 = .int .i64 x5_1 ∧ v6 = .int .i64 x6_1 ∧ Aside0 (impl_PackRuns.l0 kq l0 x4_1 x5_1 x6_1 = some (r1, r2)) ∧ Aside0 (kq ≤ k) ∧ Aside0 (Kd.R (Kd.int .u8) 5 w' w.heap.size (fun _ => True) v4 x4_1) ∧ Aside0 (Below w.heap.size w w'))
  case atStart => exact ⟨(y171), (0), (0), (by first | rfl | (simp; done) | (simp [*]; done)), (by first | rfl | (simp; done) | (simp [*]; done)), H', ⟨Nat.le_refl _⟩, ⟨by (with_reducible repeat (first | apply Kd.R_alloc | apply Kd.R_drewN | apply Kd.R_drew)); exact HO173.out⟩, ⟨by repeat (first | (with_reducible first | exact HB.out | apply below_alloc | apply pw_below_drewN | apply below_drew1) | exact HB.out)⟩⟩
  case round =>
   clear H'
   try clear c1
   try clear p2
   try clear c3
   obtain ⟨x4_1, x5_1, x6_1, rfl, rfl, HA, HK1, HO_4, HB⟩ := hrel
   cases gk with
   | zero => exact absurd HA.out (by simp [impl_PackRuns.l0])
   | succ k1 =>
    have H := HA.out
    clear HA
    simp only [impl_PackRuns.l0] at H
    by_cases c6 : x6_1 < (l0.length : Int)
    ·rw [if_pos c6] at H
     have c6b0 : decide (x6_1 < (l0.length : Int)) = true := decide_eq_true c6
     clear c6
     obtain ⟨y174, hy174⟩ : ∃ y_ : List Int, y_ = (([] : List Int)) := ⟨_, rfl⟩
     replace H : (if 0 ≤ x6_1 then (if x6_1 ≤ (mn (wrap64 (x6_1 + 16)) (l0.length : Int)) then (if (mn (wrap64 (x6_1 + 16)) (l0.length : Int)) ≤ (l0.length : Int) then (impl_PackRuns.l1 k1 l0 x4_1 x5_1 x6_1 y174 ((l0.take ((mn (wrap64 (x6_1 + 16)) (l0.length : Int)) : Int).toNat).drop (x6_1 : Int).toNat) (((l0.take ((mn (wrap64 (x6_1 + 16)) (l0.length : Int)) : Int).toNat).drop (x6_1 : Int).toNat).length : Int) 0) else (none)) else (none)) else (none)) = some (r1, r2) := by first | (rw [hy174]; with_reducible exact H) | (have H2_ := (Option.bind_some _ _).symm.trans H; rw [hy174]; with_reducible exact H2_) | (have H2_ := (Option.bind_some _ _).symm.trans H; with_reducible exact H2_) | with_reducible exact H | (rw [hy174]; exact H) | exact H
     have Ny174 := Aside0.mk hy174
     clear hy174
     obtain ⟨ji7, hji7⟩ : ∃ j_ : Int, (mn (wrap64 (x6_1 + 16)) (l0.length : Int)) = j_ := ⟨_, rfl⟩
     replace H : (if 0 ≤ x6_1 then (if x6_1 ≤ (ji7) then (if (ji7) ≤ (l0.length : Int) then (impl_PackRuns.l1 k1 l0 x4_1 x5_1 x6_1 y174 ((l0.take ((ji7) : Int).toNat).drop (x6_1 : Int).toNat) (((l0.take ((ji7) : Int).toNat).drop (x6_1 : Int).toNat).length : Int) 0) else (none)) else (none)) else (none)) = some (r1, r2) := by first | (rw [hji7] at H; exact H) | (simp only [hji7] at H ⊢; exact H)
     have hji7_ : (if (l0.length : Int) < (wrap64 (x6_1 + 16)) then (l0.length : Int) else (wrap64 (x6_1 + 16))) = ji7 := hji7
     by_cases c8 : 0 ≤ x6_1
     ·rw [if_pos c8] at H
      have c8b0 := eq_true c8
      have c8b1 : decide (0 ≤ x6_1) = true := decide_eq_true c8
      clear c8
      by_cases c9 : x6_1 ≤ (ji7)
      ·rw [if_pos c9] at H
       have c9b0 := eq_true c9
       have c9b1 : decide (x6_1 ≤ (ji7)) = true := decide_eq_true c9
       clear c9
       by_cases c10 : (ji7) ≤ (l0.length : Int)
       ·rw [if_pos c10] at H
        have c10b0 := eq_true c10
        have c10b1 : decide ((ji7) ≤ (l0.length : Int)) = true := decide_eq_true c10
        have HCL := Aside0.mk (show ((l0.take ((ji7) : Int).toNat).drop (x6_1 : Int).toNat).length = ji7.toNat - x6_1.toNat from by rw [List.length_drop, List.length_take]; omega)
        clear c10
        have H' := Aside0.mk H
        clear H
        go_wp2_with (first | ((with_reducible refine gate_dst (N := 36) rfl ?_); refine Kd.R_lit (Kd.int .i64) _ 2 ?hg (N := 36) ?hd (xs := ([] : List Int)) (inner := []) (ok := fun _ => True) (okp := fun _ => True) ?hr ?hp (fun _ hk => hk) trivial (Below.refl _ _) (Nat.le_refl _) (by simp) ?_; (case hd => rfl); (case hg => rfl); (case hr => first | (go_simp; done) | (go_simp; rfl)); (case hp => exact (Reps.none _ _)); intro v175 w11 ho12 hb hg_ hnew_; clear hg_ hnew_; (first | rw [← Ny174.out] at ho12 | (simp only [Int.reduceToNat] at ho12; rw [← Ny174.out] at ho12)); have n0_ := Aside0.mk (Kd.R_below (by (with_reducible repeat (first | apply Kd.R_alloc | apply Kd.R_drewN | apply Kd.R_drew)); exact HO_4.out) hb); have n1_ := Aside0.mk (Kd.R_lower ho12 (below_size (by repeat (first | (with_reducible first | exact HB.out | apply below_alloc | apply pw_below_drewN | apply below_drew1) | exact HB.out)))); have n2_ := Aside0.mk (below_step (by repeat (first | (with_reducible first | exact HB.out | apply below_alloc | apply pw_below_drewN | apply below_drew1) | exact HB.out)) hb); clear HO_4; clear HB; have HO_4 := n0_; have HO176 := n1_; have HB := n2_; clear n0_ n1_ n2_; clear hb ho12; obtain ⟨i013, hi013, _, hsz13, _⟩ := info_parts info2; obtain ⟨A13, hcut13, hA13, hC13⟩ := print_mid_of (P := Try.prog) (Value.int .i64) 0 23 2 .i64 .i64 Try.underlying23 hi013 hsz13 A0 c0 l0 x6_1 (ji7) (of_decide_eq_true (by first | (with_reducible assumption) | assumption)) (by first | omega | exact of_decide_eq_true (by first | (with_reducible assumption) | assumption)) (of_decide_eq_true (by first | (with_reducible assumption) | assumption)) HC0.out; have HR177 := Aside0.mk (Kd.C_of_reads (h1 := fun _ => rfl) (hA13 _ (Kd.reads_of_C HR0.out))); have HC177 := Aside0.mk hC13; clear hA13 hC13 hi013 hsz13))
        repeat (go_quiet (first | ((with_reducible refine gate_dst (N := 36) rfl ?_); refine Kd.R_lit (Kd.int .i64) _ 2 ?hg (N := 36) ?hd (xs := ([] : List Int)) (inner := []) (ok := fun _ => True) (okp := fun _ => True) ?hr ?hp (fun _ hk => hk) trivial (Below.refl _ _) (Nat.le_refl _) (by simp) ?_; (case hd => rfl); (case hg => rfl); (case hr => first | (go_simp; done) | (go_simp; rfl)); (case hp => exact (Reps.none _ _)); intro v175 w11 ho12 hb hg_ hnew_; clear hg_ hnew_; (first | rw [← Ny174.out] at ho12 | (simp only [Int.reduceToNat] at ho12; rw [← Ny174.out] at ho12)); have n0_ := Aside0.mk (Kd.R_below (by (with_reducible repeat (first | apply Kd.R_alloc | apply Kd.R_drewN | apply Kd.R_drew)); exact HO_4.out) hb); have n1_ := Aside0.mk (Kd.R_lower ho12 (below_size (by repeat (first | (with_reducible first | exact HB.out | apply below_alloc | apply pw_below_drewN | apply below_drew1) | exact HB.out)))); have n2_ := Aside0.mk (below_step (by repeat (first | (with_reducible first | exact HB.out | apply below_alloc | apply pw_below_drewN | apply below_drew1) | exact HB.out)) hb); clear HO_4; clear HB; have HO_4 := n0_; have HO176 := n1_; have HB := n2_; clear n0_ n1_ n2_; clear hb ho12; obtain ⟨i013, hi013, _, hsz13, _⟩ := info_parts info2; obtain ⟨A13, hcut13, hA13, hC13⟩ := print_mid_of (P := Try.prog) (Value.int .i64) 0 23 2 .i64 .i64 Try.underlying23 hi013 hsz13 A0 c0 l0 x6_1 (ji7) (of_decide_eq_true (by first | (with_reducible assumption) | assumption)) (by first | omega | exact of_decide_eq_true (by first | (with_reducible assumption) | assumption)) (of_decide_eq_true (by first | (with_reducible assumption) | assumption)) HC0.out; have HR177 := Aside0.mk (Kd.C_of_reads (h1 := fun _ => rfl) (hA13 _ (Kd.reads_of_C HR0.out))); have HC177 := Aside0.mk hC13; clear hA13 hC13 hi013 hsz13)); try go_wp2_with (first | ((with_reducible refine gate_dst (N := 36) rfl ?_); refine Kd.R_lit (Kd.int .i64) _ 2 ?hg (N := 36) ?hd (xs := ([] : List Int)) (inner := []) (ok := fun _ => True) (okp := fun _ => True) ?hr ?hp (fun _ hk => hk) trivial (Below.refl _ _) (Nat.le_refl _) (by simp) ?_; (case hd => rfl); (case hg => rfl); (case hr => first | (go_simp; done) | (go_simp; rfl)); (case hp => exact (Reps.none _ _)); intro v175 w11 ho12 hb hg_ hnew_; clear hg_ hnew_; (first | rw [← Ny174.out] at ho12 | (simp only [Int.reduceToNat] at ho12; rw [← Ny174.out] at ho12)); have n0_ := Aside0.mk (Kd.R_below (by (with_reducible repeat (first | apply Kd.R_alloc | apply Kd.R_drewN | apply Kd.R_drew)); exact HO_4.out) hb); have n1_ := Aside0.mk (Kd.R_lower ho12 (below_size (by repeat (first | (with_reducible first | exact HB.out | apply below_alloc | apply pw_below_drewN | apply below_drew1) | exact HB.out)))); have n2_ := Aside0.mk (below_step (by repeat (first | (with_reducible first | exact HB.out | apply below_alloc | apply pw_below_drewN | apply below_drew1) | exact HB.out)) hb); clear HO_4; clear HB; have HO_4 := n0_; have HO176 := n1_; have HB := n2_; clear n0_ n1_ n2_; clear hb ho12; obtain ⟨i013, hi013, _, hsz13, _⟩ := info_parts info2; obtain ⟨A13, hcut13, hA13, hC13⟩ := print_mid_of (P := Try.prog) (Value.int .i64) 0 23 2 .i64 .i64 Try.underlying23 hi013 hsz13 A0 c0 l0 x6_1 (ji7) (of_decide_eq_true (by first | (with_reducible assumption) | assumption)) (by first | omega | exact of_decide_eq_true (by first | (with_reducible assumption) | assumption)) (of_decide_eq_true (by first | (with_reducible assumption) | assumption)) HC0.out; have HR177 := Aside0.mk (Kd.C_of_reads (h1 := fun _ => rfl) (hA13 _ (Kd.reads_of_C HR0.out))); have HC177 := Aside0.mk hC13; clear hA13 hC13 hi013 hsz13)))
        go_loopg [5, 7, 46] k1 (fun kq v5 v7 v46 w' => ∃ (x5_2 : Int) (x7_2 : List Int) (x46_2 : Int), v5 = .int .i64 x5_2 ∧ v46 = .int .i64 x46_2 ∧ Aside0 (impl_PackRuns.l1 kq l0 x4_1 x5_2 x6_1 x7_2 ((l0.take ((ji7) : Int).toNat).drop (x6_1 : Int).toNat) (((l0.take ((ji7) : Int).toNat).drop (x6_1 : Int).toNat).length : Int) x46_2 = some (r1, r2)) ∧ Aside0 (kq ≤ k1) ∧ Aside0 (Kd.R (Kd.int .u8) 5 w' w.heap.size (fun _ => True) u4 x4_1) ∧ Aside0 (Kd.R (Kd.int .i64) 2 w' w.heap.size (fun _ => True) v7 x7_2) ∧ Aside0 (Below w.heap.size w w'))
        case atStart => exact ⟨(x5_1), (y174), (0), (by first | rfl | (simp; done) | (simp [*]; done)), (by first | rfl | (simp; done) | (simp [*]; done)), H', ⟨Nat.le_refl _⟩, ⟨by (with_reducible repeat (first | apply Kd.R_alloc | apply Kd.R_drewN | apply Kd.R_drew)); exact HO_4.out⟩, ⟨by (with_reducible repeat (first | apply Kd.R_alloc | apply Kd.R_drewN | apply Kd.R_drew)); exact HO176.out⟩, ⟨by repeat (first | (with_reducible first | exact HB.out | apply below_alloc | apply pw_below_drewN | apply below_drew1) | exact HB.out)⟩⟩
        case round =>
         clear H'
         try clear c1
         try clear p2
         try clear c3
         try clear c6
         try clear c6b0
         try clear p6
         try clear c8
         try clear c8b0
         try clear c8b1
         try clear c9
         try clear c9b0
         try clear c9b1
         try clear c10
         try clear c10b0
         try clear c10b1
         try clear p2
         obtain ⟨x5_2, x7_2, x46_2, rfl, rfl, HA, HK2, HO_4, HO_7, HB⟩ := hrel
         cases gk with
         | zero => exact absurd HA.out (by simp [impl_PackRuns.l1])
         | succ k2 =>
          have H := HA.out
          clear HA
          simp only [impl_PackRuns.l1] at H
          by_cases c14 : x46_2 < (((l0.take ((ji7) : Int).toNat).drop (x6_1 : Int).toNat).length : Int)
          ·rw [if_pos c14] at H
           have c14b0 : decide (x46_2 < (((l0.take ((ji7) : Int).toNat).drop (x6_1 : Int).toNat).length : Int)) = true := decide_eq_true c14
           have c14b9 : decide (x46_2 < ((ji7.toNat - x6_1.toNat : Nat) : Int)) = true := by rw [← HCL.out]; exact c14b0
           clear c14
           by_cases c15 : 0 ≤ x46_2
           ·rw [if_pos c15] at H
            have c15b0 : decide (0 ≤ x46_2) = true := decide_eq_true c15
            clear c15
            by_cases c16 : x46_2 < (((l0.take ((ji7) : Int).toNat).drop (x6_1 : Int).toNat).length : Int)
            ·rw [if_pos c16] at H
             have c16b0 : decide (x46_2 < (((l0.take ((ji7) : Int).toNat).drop (x6_1 : Int).toNat).length : Int)) = true := decide_eq_true c16
             have c16b9 : decide (x46_2 < ((ji7.toNat - x6_1.toNat : Nat) : Int)) = true := by rw [← HCL.out]; exact c16b0
             clear c16
             by_cases c17 : x7_2.length < 17592186044416
             ·rw [if_pos c17] at H
              have LMc17 := Aside0.mk c17
              clear c17
              obtain ⟨y179, hy179⟩ : ∃ y_ : List Int, y_ = (x7_2 ++ [wrap64 ((rd ((l0.take ((ji7) : Int).toNat).drop (x6_1 : Int).toNat) x46_2) - x5_2)]) := ⟨_, rfl⟩
              replace H : (impl_PackRuns.l1 k2 l0 x4_1 (rd ((l0.take ((ji7) : Int).toNat).drop (x6_1 : Int).toNat) x46_2) x6_1 y179 ((l0.take ((ji7) : Int).toNat).drop (x6_1 : Int).toNat) (((l0.take ((ji7) : Int).toNat).drop (x6_1 : Int).toNat).length : Int) (wrap64 (x46_2 + 1))) = some (r1, r2) := by first | (rw [hy179]; with_reducible exact H) | (have H2_ := (Option.bind_some _ _).symm.trans H; rw [hy179]; with_reducible exact H2_) | (have H2_ := (Option.bind_some _ _).symm.trans H; with_reducible exact H2_) | with_reducible exact H | (rw [hy179]; exact H) | exact H
              have Ny179 := Aside0.mk hy179
              clear hy179
              have H' := Aside0.mk H
              clear H
              have p178 : 0 ≤ (x46_2 : Int) := of_decide_eq_true (by first | (with_reducible assumption) | assumption)
              have q178 : x46_2 < (((l0.take ((ji7) : Int).toNat).drop (x6_1 : Int).toNat).length : Int) := of_decide_eq_true (by first | (with_reducible assumption) | assumption)
              obtain ⟨ad178, e178, hx178_0⟩ := Kd.at_int HR177.out x46_2 p178 q178
              cases e178
              replace hx178_0 := (HB.out.cell (World.block_lt_of_cell? w _ hx178_0)).trans hx178_0
              replace p178 := eq_true p178
              replace q178 := eq_true q178
              have q178b : (x46_2 < ((ji7.toNat - x6_1.toNat : Nat) : Int)) = True := by rw [← HCL.out]; exact q178
              go_wp2_with (first | ((with_reducible refine gate_builtin (b := .append) (xs := #[.tmp 50, .tmp 54]) rfl ?_); at_builtin; refine Kd.R_append (Kd.int .i64) (w0 := w) w.heap.size rfl (.tmp 50) (.tmp 54) 23 2 (.int .i64 0) 8 rfl Try.underlying23 info2 rfl (by decide) (by omega) u7 x7_2 (wrap64 ((rd ((l0.take ((ji7) : Int).toNat).drop (x6_1 : Int).toNat) x46_2) - x5_2)) [.int .i64 (wrap64 ((rd ((l0.take ((ji7) : Int).toNat).drop (x6_1 : Int).toNat) x46_2) - x5_2))] (fun _ => True) (fun _ => False) rfl rfl ?aP (fun _ hk => hk.elim) ?aF ?aO ?aB ?aS ?aL ?_; (case aP => exact rfl); (case aB => exact (by repeat (first | (with_reducible first | exact HB.out | apply below_alloc | apply pw_below_drewN | apply below_drew1) | exact HB.out))); (case aF => exact (fun _ _ => trivial)); (case aO => exact (by (with_reducible repeat (first | apply Kd.R_alloc | apply Kd.R_drewN | apply Kd.R_drew)); exact HO_7.out)); (case aS => exact (below_size (by repeat (first | (with_reducible first | exact HB.out | apply below_alloc | apply pw_below_drewN | apply below_drew1) | exact HB.out)))); (case aL => have := LMc17.out; omega); intro v180 w18 ho hb hg hat; rw [← Ny179.out] at ho; have n0_ := Aside0.mk (Kd.R_over' (by (with_reducible repeat (first | apply Kd.R_alloc | apply Kd.R_drewN | apply Kd.R_drew)); exact HO_4.out) (Kd.R_typed (by (with_reducible repeat (first | apply Kd.R_alloc | apply Kd.R_drewN | apply Kd.R_drew)); exact HO_7.out)) (by decide) hg); have n1_ := Aside0.mk (hb); have n2_ := Aside0.mk (ho); clear HO_4; clear HB; clear HO_7; have HO_4 := n0_; have HB := n1_; have HO181 := n2_; clear n0_ n1_ n2_; clear ho hb hg hat))
              repeat (go_quiet (first | ((with_reducible refine gate_builtin (b := .append) (xs := #[.tmp 50, .tmp 54]) rfl ?_); at_builtin; refine Kd.R_append (Kd.int .i64) (w0 := w) w.heap.size rfl (.tmp 50) (.tmp 54) 23 2 (.int .i64 0) 8 rfl Try.underlying23 info2 rfl (by decide) (by omega) u7 x7_2 (wrap64 ((rd ((l0.take ((ji7) : Int).toNat).drop (x6_1 : Int).toNat) x46_2) - x5_2)) [.int .i64 (wrap64 ((rd ((l0.take ((ji7) : Int).toNat).drop (x6_1 : Int).toNat) x46_2) - x5_2))] (fun _ => True) (fun _ => False) rfl rfl ?aP (fun _ hk => hk.elim) ?aF ?aO ?aB ?aS ?aL ?_; (case aP => exact rfl); (case aB => exact (by repeat (first | (with_reducible first | exact HB.out | apply below_alloc | apply pw_below_drewN | apply below_drew1) | exact HB.out))); (case aF => exact (fun _ _ => trivial)); (case aO => exact (by (with_reducible repeat (first | apply Kd.R_alloc | apply Kd.R_drewN | apply Kd.R_drew)); exact HO_7.out)); (case aS => exact (below_size (by repeat (first | (with_reducible first | exact HB.out | apply below_alloc | apply pw_below_drewN | apply below_drew1) | exact HB.out)))); (case aL => have := LMc17.out; omega); intro v180 w18 ho hb hg hat; rw [← Ny179.out] at ho; have n0_ := Aside0.mk (Kd.R_over' (by (with_reducible repeat (first | apply Kd.R_alloc | apply Kd.R_drewN | apply Kd.R_drew)); exact HO_4.out) (Kd.R_typed (by (with_reducible repeat (first | apply Kd.R_alloc | apply Kd.R_drewN | apply Kd.R_drew)); exact HO_7.out)) (by decide) hg); have n1_ := Aside0.mk (hb); have n2_ := Aside0.mk (ho); clear HO_4; clear HB; clear HO_7; have HO_4 := n0_; have HB := n1_; have HO181 := n2_; clear n0_ n1_ n2_; clear ho hb hg hat)); try go_wp2_with (first | ((with_reducible refine gate_builtin (b := .append) (xs := #[.tmp 50, .tmp 54]) rfl ?_); at_builtin; refine Kd.R_append (Kd.int .i64) (w0 := w) w.heap.size rfl (.tmp 50) (.tmp 54) 23 2 (.int .i64 0) 8 rfl Try.underlying23 info2 rfl (by decide) (by omega) u7 x7_2 (wrap64 ((rd ((l0.take ((ji7) : Int).toNat).drop (x6_1 : Int).toNat) x46_2) - x5_2)) [.int .i64 (wrap64 ((rd ((l0.take ((ji7) : Int).toNat).drop (x6_1 : Int).toNat) x46_2) - x5_2))] (fun _ => True) (fun _ => False) rfl rfl ?aP (fun _ hk => hk.elim) ?aF ?aO ?aB ?aS ?aL ?_; (case aP => exact rfl); (case aB => exact (by repeat (first | (with_reducible first | exact HB.out | apply below_alloc | apply pw_below_drewN | apply below_drew1) | exact HB.out))); (case aF => exact (fun _ _ => trivial)); (case aO => exact (by (with_reducible repeat (first | apply Kd.R_alloc | apply Kd.R_drewN | apply Kd.R_drew)); exact HO_7.out)); (case aS => exact (below_size (by repeat (first | (with_reducible first | exact HB.out | apply below_alloc | apply pw_below_drewN | apply below_drew1) | exact HB.out)))); (case aL => have := LMc17.out; omega); intro v180 w18 ho hb hg hat; rw [← Ny179.out] at ho; have n0_ := Aside0.mk (Kd.R_over' (by (with_reducible repeat (first | apply Kd.R_alloc | apply Kd.R_drewN | apply Kd.R_drew)); exact HO_4.out) (Kd.R_typed (by (with_reducible repeat (first | apply Kd.R_alloc | apply Kd.R_drewN | apply Kd.R_drew)); exact HO_7.out)) (by decide) hg); have n1_ := Aside0.mk (hb); have n2_ := Aside0.mk (ho); clear HO_4; clear HB; clear HO_7; have HO_4 := n0_; have HB := n1_; have HO181 := n2_; clear n0_ n1_ n2_; clear ho hb hg hat)))
              go_roundg k2
              case measure => have := HK1.out; have := HK2.out; omega
              case rel => exact ⟨(rd ((l0.take ((ji7) : Int).toNat).drop (x6_1 : Int).toNat) x46_2), (y179), (wrap64 (x46_2 + 1)), (by first | rfl | (simp; done) | (simp only [← hji7] <;> (first | rfl | simp)) | (simp [*]; done)), (by first | rfl | (simp; done) | (simp [*]; done)), H', ⟨by have := HK1.out; have := HK2.out; omega⟩, ⟨by (with_reducible repeat (first | apply Kd.R_alloc | apply Kd.R_drewN | apply Kd.R_drew)); exact HO_4.out⟩, ⟨by (with_reducible repeat (first | apply Kd.R_alloc | apply Kd.R_drewN | apply Kd.R_drew)); exact HO181.out⟩, ⟨by repeat (first | (with_reducible first | exact HB.out | apply below_alloc | apply pw_below_drewN | apply below_drew1) | exact HB.out)⟩⟩
             ·rw [if_neg c17] at H
              exact absurd H (by simp)
            ·rw [if_neg c16] at H
             exact absurd H (by simp)
           ·rw [if_neg c15] at H
            exact absurd H (by simp)
          ·rw [if_neg c14] at H
           have c14b0 : decide (x46_2 < (((l0.take ((ji7) : Int).toNat).drop (x6_1 : Int).toNat).length : Int)) = false := decide_eq_false c14
           have c14b9 : decide (x46_2 < ((ji7.toNat - x6_1.toNat : Nat) : Int)) = false := by rw [← HCL.out]; exact c14b0
           clear c14
           by_cases c19 : 0 < (x7_2.length : Int)
           ·rw [if_pos c19] at H
            have c19b0 : decide (0 < (x7_2.length : Int)) = true := decide_eq_true c19
            have c19b1 : decide (0 < x7_2.length) = true := decide_eq_true (by omega)
            clear c19
            have H' := Aside0.mk H
            clear H
            obtain ⟨Ao20, co20, eo20⟩ := Kd.R_slice HO_7.out
            subst eo20
            have p182 : 0 ≤ (0 : Int) := (by omega)
            have q182 : 0 < (x7_2.length : Int) := of_decide_eq_true (by first | (with_reducible assumption) | assumption)
            obtain ⟨ad182, e182, hx182_0⟩ := Kd.at_int (Kd.R_reads' HO_7.out).2.2 0 p182 q182
            cases e182
            have qi182 : (0 < x7_2.length) = True := eq_true (by omega)
            (try rw [show ((0 : Int)).toNat = 0 from rfl] at hx182_0)
            (try rw [Addr.add_zero'] at hx182_0)
            replace p182 := eq_true p182
            replace q182 := eq_true q182
            have p183 : 0 ≤ (0 : Int) := (by omega)
            have q183 : 0 < (x7_2.length : Int) := of_decide_eq_true (by first | (with_reducible assumption) | assumption)
            obtain ⟨ad183, e183, hx183_0⟩ := Kd.at_int (Kd.R_reads' HO_7.out).2.2 0 p183 q183
            obtain rfl : ad182 = ad183 := (by injection e183)
            have qi183 : (0 < x7_2.length) = True := eq_true (by omega)
            (try rw [show ((0 : Int)).toNat = 0 from rfl] at hx183_0)
            (try rw [Addr.add_zero'] at hx183_0)
            replace p183 := eq_true p183
            replace q183 := eq_true q183
            go_wp2
            repeat (go_quiet (fail); try go_wp2)
            go_loopg [10, 11, 66] k2 (fun kq v10 v11 v66 w' => ∃ (x10_3 : Int) (x11_3 : Int) (x66_3 : Int), v10 = .int .i64 x10_3 ∧ v11 = .int .i64 x11_3 ∧ v66 = .int .i64 x66_3 ∧ Aside0 (impl_PackRuns.l2 kq l0 x4_1 x5_2 x6_1 x7_2 x10_3 x11_3 x7_2 (x7_2.length : Int) x66_3 = some (r1, r2)) ∧ Aside0 (kq ≤ k2) ∧ Aside0 (Kd.R (Kd.int .u8) 5 w' w.heap.size (fun _ => True) u4 x4_1) ∧ Aside0 (Kd.R (Kd.int .i64) 2 w' w.heap.size (fun _ => True) (.slice (some ad182) x7_2.length co20) x7_2) ∧ Aside0 (Kd.R (Kd.int .i64) 2 w' w.heap.size (fun _ => True) (.slice (some ad182) x7_2.length co20) x7_2) ∧ Aside0 (Below w.heap.size w w'))
            case atStart => exact ⟨(rd x7_2 0), (rd x7_2 0), (0), (by first | rfl | (simp; done) | (simp [*]; done)), (by first | rfl | (simp; done) | (simp [*]; done)), (by first | rfl | (simp; done) | (simp [*]; done)), H', ⟨Nat.le_refl _⟩, ⟨by (with_reducible repeat (first | apply Kd.R_alloc | apply Kd.R_drewN | apply Kd.R_drew)); exact HO_4.out⟩, ⟨by (with_reducible repeat (first | apply Kd.R_alloc | apply Kd.R_drewN | apply Kd.R_drew)); exact HO_7.out⟩, ⟨by (with_reducible repeat (first | apply Kd.R_alloc | apply Kd.R_drewN | apply Kd.R_drew)); exact HO_7.out⟩, ⟨by repeat (first | (with_reducible first | exact HB.out | apply below_alloc | apply pw_below_drewN | apply below_drew1) | exact HB.out)⟩⟩
            case round =>
             clear H'
             try clear c1
             try clear p1
             try clear q1
             try clear hx1
             try clear qi1
             try clear p2
             try clear c3
             try clear c6
             try clear c6b0
             try clear p6
             try clear c8
             try clear c8b0
             try clear c8b1
             try clear c9
             try clear c9b0
             try clear c9b1
             try clear c10
             try clear c10b0
             try clear c10b1
             try clear c14
             try clear c14b0
             try clear c15
             try clear c15b0
             try clear c16
             try clear c16b0
             try clear c17
             try clear p17
             try clear q17
             try clear hx17
             try clear p18
             try clear q18
             try clear hx18
             try clear qi18
             try clear c19
             try clear c19b0
             try clear c19b1
             try clear hx178_0
             try clear hx182_0
             try clear hx183_0
             try clear p178
             try clear p182
             try clear p183
             try clear p2
             try clear p6
             try clear q178
             try clear q182
             try clear q183
             obtain ⟨x10_3, x11_3, x66_3, rfl, rfl, rfl, HA, HK3, HO_4, HO_7, HO_64, HB⟩ := hrel
             cases gk with
             | zero => exact absurd HA.out (by simp [impl_PackRuns.l2])
             | succ k3 =>
              have H := HA.out
              clear HA
              simp only [impl_PackRuns.l2] at H
              by_cases c21 : x66_3 < (x7_2.length : Int)
              ·rw [if_pos c21] at H
               have c21b0 : decide (x66_3 < (x7_2.length : Int)) = true := decide_eq_true c21
               clear c21
               by_cases c22 : 0 ≤ x66_3
               ·rw [if_pos c22] at H
                have c22b0 : decide (0 ≤ x66_3) = true := decide_eq_true c22
                clear c22
                by_cases c23 : x66_3 < (x7_2.length : Int)
                ·rw [if_pos c23] at H
                 have c23b0 : decide (x66_3 < (x7_2.length : Int)) = true := decide_eq_true c23
                 clear c23
                 obtain ⟨ji24, hji24⟩ : ∃ j_ : Int, (mn x10_3 (rd x7_2 x66_3)) = j_ := ⟨_, rfl⟩
                 replace H : (impl_PackRuns.l2 k3 l0 x4_1 x5_2 x6_1 x7_2 ji24 (mx x11_3 (rd x7_2 x66_3)) x7_2 (x7_2.length : Int) (wrap64 (x66_3 + 1))) = some (r1, r2) := by first | (rw [hji24] at H; exact H) | (simp only [hji24] at H ⊢; exact H)
                 have hji24_ : (if (rd x7_2 x66_3) < x10_3 then (rd x7_2 x66_3) else x10_3) = ji24 := hji24
                 obtain ⟨ji25, hji25⟩ : ∃ j_ : Int, (mx x11_3 (rd x7_2 x66_3)) = j_ := ⟨_, rfl⟩
                 replace H : (impl_PackRuns.l2 k3 l0 x4_1 x5_2 x6_1 x7_2 ji24 ji25 x7_2 (x7_2.length : Int) (wrap64 (x66_3 + 1))) = some (r1, r2) := by first | (rw [hji25] at H; exact H) | (simp only [hji25] at H ⊢; exact H)
                 have hji25_ : (if x11_3 < (rd x7_2 x66_3) then (rd x7_2 x66_3) else x11_3) = ji25 := hji25
                 have H' := Aside0.mk H
                 clear H
                 have p184 : 0 ≤ (x66_3 : Int) := of_decide_eq_true (by first | (with_reducible assumption) | assumption)
                 have q184 : x66_3 < (x7_2.length : Int) := of_decide_eq_true (by first | (with_reducible assumption) | assumption)
                 obtain ⟨ad184, e184, hx184_0⟩ := Kd.at_int (Kd.R_reads' HO_64.out).2.2 x66_3 p184 q184
                 obtain rfl : ad182 = ad184 := (by injection e184)
                 replace p184 := eq_true p184
                 replace q184 := eq_true q184
                 go_wp2
                 repeat (go_quiet (fail); try go_wp2)
                 go_roundg k3
                 case measure => have := HK1.out; have := HK2.out; have := HK3.out; omega
                 case rel => exact ⟨(ji24), (ji25), (wrap64 (x66_3 + 1)), (by first | rfl | (simp; done) | (simp only [← hji24] <;> (first | rfl | simp)) | (simp [*]; done)), (by first | rfl | (simp; done) | (simp only [← hji25] <;> (first | rfl | simp)) | (simp [*]; done)), (by first | rfl | (simp; done) | (simp [*]; done)), H', ⟨by have := HK1.out; have := HK2.out; have := HK3.out; omega⟩, ⟨by (with_reducible repeat (first | apply Kd.R_alloc | apply Kd.R_drewN | apply Kd.R_drew)); exact HO_4.out⟩, ⟨by (with_reducible repeat (first | apply Kd.R_alloc | apply Kd.R_drewN | apply Kd.R_drew)); exact HO_7.out⟩, ⟨by (with_reducible repeat (first | apply Kd.R_alloc | apply Kd.R_drewN | apply Kd.R_drew)); exact HO_64.out⟩, ⟨by repeat (first | (with_reducible first | exact HB.out | apply below_alloc | apply pw_below_drewN | apply below_drew1) | exact HB.out)⟩⟩
                ·rw [if_neg c23] at H
                 exact absurd H (by simp)
               ·rw [if_neg c22] at H
                exact absurd H (by simp)
              ·rw [if_neg c21] at H
               have c21b0 : decide (x66_3 < (x7_2.length : Int)) = false := decide_eq_false c21
               clear c21
               have H' := Aside0.mk H
               clear H
               go_wp2
               repeat (go_quiet (fail); try go_wp2)
               go_loopg [14] k3 (fun kq v14 w' => ∃ (x14_4 : Int), v14 = .int .i64 x14_4 ∧ Aside0 (impl_PackRuns.l3 kq l0 x4_1 x5_2 x6_1 x7_2 x10_3 x11_3 x14_4 = some (r1, r2)) ∧ Aside0 (kq ≤ k3) ∧ Aside0 (Kd.R (Kd.int .u8) 5 w' w.heap.size (fun _ => True) u4 x4_1) ∧ Aside0 (Kd.R (Kd.int .i64) 2 w' w.heap.size (fun _ => True) (.slice (some ad182) x7_2.length co20) x7_2) ∧ Aside0 (Below w.heap.size w w'))
               case atStart => exact ⟨(0), (by first | rfl | (simp; done) | (simp [*]; done)), H', ⟨Nat.le_refl _⟩, ⟨by (with_reducible repeat (first | apply Kd.R_alloc | apply Kd.R_drewN | apply Kd.R_drew)); exact HO_4.out⟩, ⟨by (with_reducible repeat (first | apply Kd.R_alloc | apply Kd.R_drewN | apply Kd.R_drew)); exact HO_7.out⟩, ⟨by repeat (first | (with_reducible first | exact HB.out | apply below_alloc | apply pw_below_drewN | apply below_drew1) | exact HB.out)⟩⟩
               case round =>
                clear H'
                try clear c1
                try clear p1
                try clear q1
                try clear hx1
                try clear qi1
                try clear c2
                try clear p2
                try clear c3
                try clear c6
                try clear c6b0
                try clear p6
                try clear c8
                try clear c8b0
                try clear c8b1
                try clear c9
                try clear c9b0
                try clear c9b1
                try clear c10
                try clear c10b0
                try clear c10b1
                try clear c14
                try clear c14b0
                try clear c15
                try clear c15b0
                try clear c16
                try clear c16b0
                try clear c17
                try clear p17
                try clear q17
                try clear hx17
                try clear p18
                try clear q18
                try clear hx18
                try clear qi18
                try clear c19
                try clear c19b0
                try clear c19b1
                try clear c21
                try clear c21b0
                try clear c22
                try clear c22b0
                try clear c23
                try clear c23b0
                try clear hx178_0
                try clear hx182_0
                try clear hx183_0
                try clear hx184_0
                try clear p1
                try clear p17
                try clear p178
                try clear p18
                try clear p182
                try clear p183
                try clear p184
                try clear p2
                try clear p6
                try clear q1
                try clear q17
                try clear q178
                try clear q18
                try clear q182
                try clear q183
                try clear q184
                obtain ⟨x14_4, rfl, HA, HK4, HO_4, HO_7, HB⟩ := hrel
                cases gk with
                | zero => exact absurd HA.out (by simp [impl_PackRuns.l3])
                | succ k4 =>
                 have H := HA.out
                 clear HA
                 simp only [impl_PackRuns.l3] at H
                 by_cases c26 : 0 ≤ x14_4
                 ·rw [if_pos c26] at H
                  have c26b0 := eq_true c26
                  have c26b1 : decide (0 ≤ x14_4) = true := decide_eq_true c26
                  clear c26
                  obtain ⟨ji27, hji27⟩ : ∃ j_ : Int, (shr .i64 (wrap64 (x11_3 - x10_3)) x14_4) = j_ := ⟨_, rfl⟩
                  replace H : (if (ji27) > 0 then (impl_PackRuns.l3 k4 l0 x4_1 x5_2 x6_1 x7_2 x10_3 x11_3 (wrap64 (x14_4 + 1))) else (impl_PackRuns.l4 k4 l0 x4_1 x5_2 x6_1 x7_2 x10_3 x14_4 5)) = some (r1, r2) := by first | (rw [hji27] at H; exact H) | (simp only [hji27] at H ⊢; exact H)
                  have hji27_ : ((wrap64 (x11_3 - x10_3)) / 2 ^ min x14_4.toNat 64) = ji27 := hji27
                  have hji27z : x14_4 ≤ 64 → ((wrap64 (x11_3 - x10_3)) / 2 ^ x14_4.toNat) = ji27 := shr_small hji27
                  by_cases c28 : (ji27) > 0
                  ·rw [if_pos c28] at H
                   have c28b0 : decide (0 < (ji27)) = true := decide_eq_true c28
                   clear c28
                   have H' := Aside0.mk H
                   clear H
                   go_wp2
                   repeat (go_quiet (fail); try go_wp2)
                   go_roundg k4
                   case measure => have := HK1.out; have := HK2.out; have := HK3.out; have := HK4.out; omega
                   case rel => exact ⟨(wrap64 (x14_4 + 1)), (by first | rfl | (simp; done) | (simp [*]; done)), H', ⟨by have := HK1.out; have := HK2.out; have := HK3.out; have := HK4.out; omega⟩, ⟨by (with_reducible repeat (first | apply Kd.R_alloc | apply Kd.R_drewN | apply Kd.R_drew)); exact HO_4.out⟩, ⟨by (with_reducible repeat (first | apply Kd.R_alloc | apply Kd.R_drewN | apply Kd.R_drew)); exact HO_7.out⟩, ⟨by repeat (first | (with_reducible first | exact HB.out | apply below_alloc | apply pw_below_drewN | apply below_drew1) | exact HB.out)⟩⟩
                  ·rw [if_neg c28] at H
                   have c28b0 : decide (0 < (ji27)) = false := decide_eq_false c28
                   clear c28
                   have H' := Aside0.mk H
                   clear H
                   go_wp2
                   repeat (go_quiet (fail); try go_wp2)
                   go_loopg [4, 15] k4 (fun kq v4 v15 w' => ∃ (x4_5 : List Int) (x15_5 : Int), v15 = .int .i64 x15_5 ∧ Aside0 (impl_PackRuns.l4 kq l0 x4_5 x5_2 x6_1 x7_2 x10_3 x14_4 x15_5 = some (r1, r2)) ∧ Aside0 (kq ≤ k4) ∧ Aside0 (Kd.R (Kd.int .u8) 5 w' w.heap.size (fun _ => True) v4 x4_5) ∧ Aside0 (Kd.R (Kd.int .i64) 2 w' w.heap.size (fun _ => True) (.slice (some ad182) x7_2.length co20) x7_2) ∧ Aside0 (Below w.heap.size w w'))
                   case atStart => exact ⟨(x4_1), (5), (by first | rfl | (simp; done) | (simp [*]; done)), H', ⟨Nat.le_refl _⟩, ⟨by (with_reducible repeat (first | apply Kd.R_alloc | apply Kd.R_drewN | apply Kd.R_drew)); exact HO_4.out⟩, ⟨by (with_reducible repeat (first | apply Kd.R_alloc | apply Kd.R_drewN | apply Kd.R_drew)); exact HO_7.out⟩, ⟨by repeat (first | (with_reducible first | exact HB.out | apply below_alloc | apply pw_below_drewN | apply below_drew1) | exact HB.out)⟩⟩
                   case round =>
                    clear H'
                    try clear c1
                    try clear p1
                    try clear q1
                    try clear hx1
                    try clear qi1
                    try clear c2
                    try clear p2
                    try clear c3
                    try clear c6
                    try clear c6b0
                    try clear p6
                    try clear c8
                    try clear c8b0
                    try clear c8b1
                    try clear c9
                    try clear c9b0
                    try clear c9b1
                    try clear c10
                    try clear c10b0
                    try clear c10b1
                    try clear c14
                    try clear c14b0
                    try clear c15
                    try clear c15b0
                    try clear c16
                    try clear c16b0
                    try clear c17
                    try clear p17
                    try clear q17
                    try clear hx17
                    try clear p18
                    try clear q18
                    try clear hx18
                    try clear qi18
                    try clear c19
                    try clear c19b0
                    try clear c19b1
                    try clear c21
                    try clear c21b0
                    try clear c22
                    try clear c22b0
                    try clear c23
                    try clear c23b0
                    try clear c26
                    try clear c26b0
                    try clear c26b1
                    try clear c28
                    try clear c28b0
                    try clear hx178_0
                    try clear hx182_0
                    try clear hx183_0
                    try clear hx184_0
                    try clear p1
                    try clear p17
                    try clear p178
                    try clear p18
                    try clear p182
                    try clear p183
                    try clear p184
                    try clear p2
                    try clear p6
                    try clear q1
                    try clear q17
                    try clear q178
                    try clear q18
                    try clear q182
                    try clear q183
                    try clear q184
                    obtain ⟨x4_5, x15_5, rfl, HA, HK5, HO_4, HO_7, HB⟩ := hrel
                    cases gk with
                    | zero => exact absurd HA.out (by simp [impl_PackRuns.l4])
                    | succ k5 =>
                     have H := HA.out
                     clear HA
                     simp only [impl_PackRuns.l4] at H
                     by_cases c29 : x15_5 ≥ 0
                     ·rw [if_pos c29] at H
                      have c29b0 : decide (0 ≤ x15_5) = true := decide_eq_true c29
                      clear c29
                      obtain ⟨ji30, hji30⟩ : ∃ j_ : Int, (wrap64 (8 * x15_5)) = j_ := ⟨_, rfl⟩
                      replace H : (if 0 ≤ (ji30) then (if x4_5.length < 140737488355328 then (impl_PackRuns.l4 k5 l0 (x4_5 ++ [(shr .i64 (wrap64 (x10_3 + 4398046511104)) (ji30)) % 256]) x5_2 x6_1 x7_2 x10_3 x14_4 (wrap64 (x15_5 - 1))) else (none)) else (none)) = some (r1, r2) := by first | (rw [hji30] at H; exact H) | (simp only [hji30] at H ⊢; exact H)
                      have hji30w : (IntKind.i64.wrap (8 * x15_5)) = ji30 := (i64_w _).trans hji30
                      by_cases c31 : 0 ≤ (ji30)
                      ·rw [if_pos c31] at H
                       have c31b0 := eq_true c31
                       have c31b1 : decide (0 ≤ (ji30)) = true := decide_eq_true c31
                       clear c31
                       obtain ⟨ji32, hji32⟩ : ∃ j_ : Int, (shr .i64 (wrap64 (x10_3 + 4398046511104)) (ji30)) = j_ := ⟨_, rfl⟩
                       replace H : (if x4_5.length < 140737488355328 then (impl_PackRuns.l4 k5 l0 (x4_5 ++ [(ji32) % 256]) x5_2 x6_1 x7_2 x10_3 x14_4 (wrap64 (x15_5 - 1))) else (none)) = some (r1, r2) := by first | (rw [hji32] at H; exact H) | (simp only [hji32] at H ⊢; exact H)
                       have hji32_ : ((wrap64 (x10_3 + 4398046511104)) / 2 ^ min (ji30).toNat 64) = ji32 := hji32
                       have hji32z : (ji30) ≤ 64 → ((wrap64 (x10_3 + 4398046511104)) / 2 ^ (ji30).toNat) = ji32 := shr_small hji32
                       by_cases c33 : x4_5.length < 140737488355328
                       ·rw [if_pos c33] at H
                        have LMc33 := Aside0.mk c33
                        clear c33
                        obtain ⟨y185, hy185⟩ : ∃ y_ : List Int, y_ = (x4_5 ++ [(ji32) % 256]) := ⟨_, rfl⟩
                        replace H : (impl_PackRuns.l4 k5 l0 y185 x5_2 x6_1 x7_2 x10_3 x14_4 (wrap64 (x15_5 - 1))) = some (r1, r2) := by first | (rw [hy185]; with_reducible exact H) | (have H2_ := (Option.bind_some _ _).symm.trans H; rw [hy185]; with_reducible exact H2_) | (have H2_ := (Option.bind_some _ _).symm.trans H; with_reducible exact H2_) | with_reducible exact H | (rw [hy185]; exact H) | exact H
                        have Ny185 := Aside0.mk hy185
                        clear hy185
                        have H' := Aside0.mk H
                        clear H
                        go_wp2_with (first | ((with_reducible refine gate_builtin (b := .append) (xs := #[.tmp 89, .tmp 96]) rfl ?_); at_builtin; refine Kd.R_append (Kd.int .u8) (w0 := w) w.heap.size rfl (.tmp 89) (.tmp 96) 32 5 (.int .u8 0) 1 rfl Try.underlying32 info5 rfl (by decide) (by omega) u4 x4_5 ((ji32) % 256) [.int .u8 ((ji32) % 256)] (fun _ => True) (fun _ => False) rfl rfl ?aP (fun _ hk => hk.elim) ?aF ?aO ?aB ?aS ?aL ?_; (case aP => exact rfl); (case aB => exact (by repeat (first | (with_reducible first | exact HB.out | apply below_alloc | apply pw_below_drewN | apply below_drew1) | exact HB.out))); (case aF => exact (fun _ _ => trivial)); (case aO => exact (by (with_reducible repeat (first | apply Kd.R_alloc | apply Kd.R_drewN | apply Kd.R_drew)); exact HO_4.out)); (case aS => exact (below_size (by repeat (first | (with_reducible first | exact HB.out | apply below_alloc | apply pw_below_drewN | apply below_drew1) | exact HB.out)))); (case aL => have := LMc33.out; omega); intro v186 w34 ho hb hg hat; rw [← Ny185.out] at ho; have n0_ := Aside0.mk (Kd.R_over' (by (with_reducible repeat (first | apply Kd.R_alloc | apply Kd.R_drewN | apply Kd.R_drew)); exact HO_7.out) (Kd.R_typed (by (with_reducible repeat (first | apply Kd.R_alloc | apply Kd.R_drewN | apply Kd.R_drew)); exact HO_4.out)) (by decide) hg); have n1_ := Aside0.mk (hb); have n2_ := Aside0.mk (ho); clear HO_7; clear HB; clear HO_4; have HO_7 := n0_; have HB := n1_; have HO187 := n2_; clear n0_ n1_ n2_; clear ho hb hg hat))
                        repeat (go_quiet (first | ((with_reducible refine gate_builtin (b := .append) (xs := #[.tmp 89, .tmp 96]) rfl ?_); at_builtin; refine Kd.R_append (Kd.int .u8) (w0 := w) w.heap.size rfl (.tmp 89) (.tmp 96) 32 5 (.int .u8 0) 1 rfl Try.underlying32 info5 rfl (by decide) (by omega) u4 x4_5 ((ji32) % 256) [.int .u8 ((ji32) % 256)] (fun _ => True) (fun _ => False) rfl rfl ?aP (fun _ hk => hk.elim) ?aF ?aO ?aB ?aS ?aL ?_; (case aP => exact rfl); (case aB => exact (by repeat (first | (with_reducible first | exact HB.out | apply below_alloc | apply pw_below_drewN | apply below_drew1) | exact HB.out))); (case aF => exact (fun _ _ => trivial)); (case aO => exact (by (with_reducible repeat (first | apply Kd.R_alloc | apply Kd.R_drewN | apply Kd.R_drew)); exact HO_4.out)); (case aS => exact (below_size (by repeat (first | (with_reducible first | exact HB.out | apply below_alloc | apply pw_below_drewN | apply below_drew1) | exact HB.out)))); (case aL => have := LMc33.out; omega); intro v186 w34 ho hb hg hat; rw [← Ny185.out] at ho; have n0_ := Aside0.mk (Kd.R_over' (by (with_reducible repeat (first | apply Kd.R_alloc | apply Kd.R_drewN | apply Kd.R_drew)); exact HO_7.out) (Kd.R_typed (by (with_reducible repeat (first | apply Kd.R_alloc | apply Kd.R_drewN | apply Kd.R_drew)); exact HO_4.out)) (by decide) hg); have n1_ := Aside0.mk (hb); have n2_ := Aside0.mk (ho); clear HO_7; clear HB; clear HO_4; have HO_7 := n0_; have HB := n1_; have HO187 := n2_; clear n0_ n1_ n2_; clear ho hb hg hat)); try go_wp2_with (first | ((with_reducible refine gate_builtin (b := .append) (xs := #[.tmp 89, .tmp 96]) rfl ?_); at_builtin; refine Kd.R_append (Kd.int .u8) (w0 := w) w.heap.size rfl (.tmp 89) (.tmp 96) 32 5 (.int .u8 0) 1 rfl Try.underlying32 info5 rfl (by decide) (by omega) u4 x4_5 ((ji32) % 256) [.int .u8 ((ji32) % 256)] (fun _ => True) (fun _ => False) rfl rfl ?aP (fun _ hk => hk.elim) ?aF ?aO ?aB ?aS ?aL ?_; (case aP => exact rfl); (case aB => exact (by repeat (first | (with_reducible first | exact HB.out | apply below_alloc | apply pw_below_drewN | apply below_drew1) | exact HB.out))); (case aF => exact (fun _ _ => trivial)); (case aO => exact (by (with_reducible repeat (first | apply Kd.R_alloc | apply Kd.R_drewN | apply Kd.R_drew)); exact HO_4.out)); (case aS => exact (below_size (by repeat (first | (with_reducible first | exact HB.out | apply below_alloc | apply pw_below_drewN | apply below_drew1) | exact HB.out)))); (case aL => have := LMc33.out; omega); intro v186 w34 ho hb hg hat; rw [← Ny185.out] at ho; have n0_ := Aside0.mk (Kd.R_over' (by (with_reducible repeat (first | apply Kd.R_alloc | apply Kd.R_drewN | apply Kd.R_drew)); exact HO_7.out) (Kd.R_typed (by (with_reducible repeat (first | apply Kd.R_alloc | apply Kd.R_drewN | apply Kd.R_drew)); exact HO_4.out)) (by decide) hg); have n1_ := Aside0.mk (hb); have n2_ := Aside0.mk (ho); clear HO_7; clear HB; clear HO_4; have HO_7 := n0_; have HB := n1_; have HO187 := n2_; clear n0_ n1_ n2_; clear ho hb hg hat)))
                        go_roundg k5
                        case measure => have := HK1.out; have := HK2.out; have := HK3.out; have := HK4.out; have := HK5.out; omega
                        case rel => exact ⟨(y185), (wrap64 (x15_5 - 1)), (by first | rfl | (simp; done) | (simp [*]; done)), H', ⟨by have := HK1.out; have := HK2.out; have := HK3.out; have := HK4.out; have := HK5.out; omega⟩, ⟨by (with_reducible repeat (first | apply Kd.R_alloc | apply Kd.R_drewN | apply Kd.R_drew)); exact HO187.out⟩, ⟨by (with_reducible repeat (first | apply Kd.R_alloc | apply Kd.R_drewN | apply Kd.R_drew)); exact HO_7.out⟩, ⟨by repeat (first | (with_reducible first | exact HB.out | apply below_alloc | apply pw_below_drewN | apply below_drew1) | exact HB.out)⟩⟩
                       ·rw [if_neg c33] at H
                        exact absurd H (by simp)
                      ·rw [if_neg c31] at H
                       exact absurd H (by simp)
                     ·rw [if_neg c29] at H
                      have c29b0 : decide (0 ≤ x15_5) = false := decide_eq_false c29
                      clear c29
                      by_cases c35 : x4_5.length < 140737488355328
                      ·rw [if_pos c35] at H
                       have LMc35 := Aside0.mk c35
                       clear c35
                       obtain ⟨y188, hy188⟩ : ∃ y_ : List Int, y_ = (x4_5 ++ [(x14_4) % 256]) := ⟨_, rfl⟩
                       replace H : (impl_PackRuns.l5 k5 l0 y188 x5_2 x6_1 x10_3 x14_4 (([] : List Int)) x7_2 (x7_2.length : Int) 0) = some (r1, r2) := by first | (rw [hy188]; with_reducible exact H) | (have H2_ := (Option.bind_some _ _).symm.trans H; rw [hy188]; with_reducible exact H2_) | (have H2_ := (Option.bind_some _ _).symm.trans H; with_reducible exact H2_) | with_reducible exact H | (rw [hy188]; exact H) | exact H
                       have Ny188 := Aside0.mk hy188
                       clear hy188
                       obtain ⟨y191, hy191⟩ : ∃ y_ : List Int, y_ = (([] : List Int)) := ⟨_, rfl⟩
                       replace H : (impl_PackRuns.l5 k5 l0 y188 x5_2 x6_1 x10_3 x14_4 y191 x7_2 (x7_2.length : Int) 0) = some (r1, r2) := by first | (rw [hy191]; with_reducible exact H) | (have H2_ := (Option.bind_some _ _).symm.trans H; rw [hy191]; with_reducible exact H2_) | (have H2_ := (Option.bind_some _ _).symm.trans H; with_reducible exact H2_) | with_reducible exact H | (rw [hy191]; exact H) | exact H
                       have Ny191 := Aside0.mk hy191
                       clear hy191
                       have H' := Aside0.mk H
                       clear H
                       go_wp2_with (first | ((with_reducible refine gate_builtin (b := .append) (xs := #[.tmp 98, .tmp 101]) rfl ?_); at_builtin; refine Kd.R_append (Kd.int .u8) (w0 := w) w.heap.size rfl (.tmp 98) (.tmp 101) 32 5 (.int .u8 0) 1 rfl Try.underlying32 info5 rfl (by decide) (by omega) u4 x4_5 ((x14_4) % 256) [.int .u8 ((x14_4) % 256)] (fun _ => True) (fun _ => False) rfl rfl ?aP (fun _ hk => hk.elim) ?aF ?aO ?aB ?aS ?aL ?_; (case aP => exact rfl); (case aB => exact (by repeat (first | (with_reducible first | exact HB.out | apply below_alloc | apply pw_below_drewN | apply below_drew1) | exact HB.out))); (case aF => exact (fun _ _ => trivial)); (case aO => exact (by (with_reducible repeat (first | apply Kd.R_alloc | apply Kd.R_drewN | apply Kd.R_drew)); exact HO_4.out)); (case aS => exact (below_size (by repeat (first | (with_reducible first | exact HB.out | apply below_alloc | apply pw_below_drewN | apply below_drew1) | exact HB.out)))); (case aL => have := LMc35.out; omega); intro v189 w36 ho hb hg hat; rw [← Ny188.out] at ho; have n0_ := Aside0.mk (Kd.R_over' (by (with_reducible repeat (first | apply Kd.R_alloc | apply Kd.R_drewN | apply Kd.R_drew)); exact HO_7.out) (Kd.R_typed (by (with_reducible repeat (first | apply Kd.R_alloc | apply Kd.R_drewN | apply Kd.R_drew)); exact HO_4.out)) (by decide) hg); have n1_ := Aside0.mk (hb); have n2_ := Aside0.mk (ho); clear HO_7; clear HB; clear HO_4; have HO_7 := n0_; have HB := n1_; have HO190 := n2_; clear n0_ n1_ n2_; clear ho hb hg hat))
                       obtain ⟨gb_, hg_⟩ : ∃ g, g = w36.heap.size := ⟨_, rfl⟩
                       obtain ⟨wb_, hwb_⟩ : ∃ W, W = w36.alloc (.cells #[.slice none 0 0, .int .i64 0] 72) := ⟨_, rfl⟩
                       have FBT := Aside0.mk (show Bt wb_ gb_ y191 from by rw [hwb_, hg_, Ny191.out]; exact ⟨_, blk_new _ _, Kd.R_nil _ _ _ _ _⟩)
                       have FBW := Aside0.mk (show Below w36.heap.size w36 wb_ from by rw [hwb_]; exact (Below.refl _ _).alloc (Nat.le_refl _) _)
                       have GEQ := Aside0.mk hg_
                       rw [← hg_, ← hwb_]
                       clear hg_ hwb_
                       go_loopg [107] k5 (fun kq v107 w' => ∃ (x16_6 : List Int) (x107_6 : Int), v107 = .int .i64 x107_6 ∧ Aside0 (impl_PackRuns.l5 kq l0 y188 x5_2 x6_1 x10_3 x14_4 x16_6 x7_2 (x7_2.length : Int) x107_6 = some (r1, r2)) ∧ Aside0 (kq ≤ k5) ∧ Aside0 (Bt w' gb_ x16_6) ∧ Aside0 (Below w36.heap.size w36 w'))
                       case atStart => exact ⟨(y191), (0), (by first | rfl | (simp; done) | (simp [*]; done)), H', ⟨Nat.le_refl _⟩, FBT, FBW⟩
                       case round =>
                        clear H'
                        clear FBT FBW
                        try clear c1
                        try clear p1
                        try clear q1
                        try clear hx1
                        try clear qi1
                        try clear c2
                        try clear p2
                        try clear c3
                        try clear c6
                        try clear c6b0
                        try clear p6
                        try clear c8
                        try clear c8b0
                        try clear c8b1
                        try clear c9
                        try clear c9b0
                        try clear c9b1
                        try clear c10
                        try clear c10b0
                        try clear c10b1
                        try clear c14
                        try clear c14b0
                        try clear c15
                        try clear c15b0
                        try clear c16
                        try clear c16b0
                        try clear c17
                        try clear p17
                        try clear q17
                        try clear hx17
                        try clear p18
                        try clear q18
                        try clear hx18
                        try clear qi18
                        try clear c19
                        try clear c19b0
                        try clear c19b1
                        try clear c21
                        try clear c21b0
                        try clear c22
                        try clear c22b0
                        try clear c23
                        try clear c23b0
                        try clear c26
                        try clear c26b0
                        try clear c26b1
                        try clear c28
                        try clear c28b0
                        try clear c29
                        try clear c29b0
                        try clear c31
                        try clear c31b0
                        try clear c31b1
                        try clear c33
                        try clear c35
                        try clear hx178_0
                        try clear hx182_0
                        try clear hx183_0
                        try clear hx184_0
                        try clear p1
                        try clear p17
                        try clear p178
                        try clear p18
                        try clear p182
                        try clear p183
                        try clear p184
                        try clear p2
                        try clear p6
                        try clear q1
                        try clear q17
                        try clear q178
                        try clear q18
                        try clear q182
                        try clear q183
                        try clear q184
                        obtain ⟨x16_6, x107_6, rfl, HA, HK6, HBT, HBW⟩ := hrel
                        have HO_105 := Aside0.mk (Kd.R_below HO_7.out HBW.out)
                        cases gk with
                        | zero => exact absurd HA.out (by simp [impl_PackRuns.l5])
                        | succ k6 =>
                         have H := HA.out
                         clear HA
                         simp only [impl_PackRuns.l5] at H
                         by_cases c39 : x107_6 < (x7_2.length : Int)
                         ·rw [if_pos c39] at H
                          have c39b0 : decide (x107_6 < (x7_2.length : Int)) = true := decide_eq_true c39
                          clear c39
                          by_cases c40 : 0 ≤ x107_6
                          ·rw [if_pos c40] at H
                           have c40b0 : decide (0 ≤ x107_6) = true := decide_eq_true c40
                           clear c40
                           by_cases c41 : x107_6 < (x7_2.length : Int)
                           ·rw [if_pos c41] at H
                            have c41b0 : decide (x107_6 < (x7_2.length : Int)) = true := decide_eq_true c41
                            clear c41
                            replace H := Option.bind_eq_some_iff.mp H
                            obtain ⟨t195, A420, H⟩ := H
                            replace H : (impl_PackRuns.l5 k6 l0 y188 x5_2 x6_1 x10_3 x14_4 t195 x7_2 (x7_2.length : Int) (wrap64 (x107_6 + 1))) = some (r1, r2) := H
                            have A42 := Aside0.mk A420
                            clear A420
                            have H' := Aside0.mk H
                            clear H
                            have p194 : 0 ≤ (x107_6 : Int) := of_decide_eq_true (by first | (with_reducible assumption) | assumption)
                            have q194 : x107_6 < (x7_2.length : Int) := of_decide_eq_true (by first | (with_reducible assumption) | assumption)
                            obtain ⟨ad194, e194, hx194_0⟩ := Kd.at_int (Kd.R_reads' HO_105.out).2.2 x107_6 p194 q194
                            obtain rfl : ad182 = ad194 := (by injection e194)
                            replace p194 := eq_true p194
                            replace q194 := eq_true q194
                            go_wp2_with (first | (go_at_call 40; refine (impl_put.calls k6 gb_ x16_6 (IntKind.u64.wrap (wrap64 ((rd x7_2 x107_6) - x10_3))) x14_4 t195 _ HBT.out A42.out).mono ?_; rintro e w44 ⟨rfl, hbt_, hbw_⟩; have HBT2 := Aside0.mk hbt_; have HBW2 := Aside0.mk (HBW.out.trans (GEQ.out ▸ hbw_)); clear hbt_ hbw_))
                            go_roundg k6
                            case measure => have := HK1.out; have := HK2.out; have := HK3.out; have := HK4.out; have := HK5.out; have := HK6.out; omega
                            case rel => exact ⟨(t195), (wrap64 (x107_6 + 1)), (by first | rfl | (simp; done) | (simp [*]; done)), H', ⟨by have := HK1.out; have := HK2.out; have := HK3.out; have := HK4.out; have := HK5.out; have := HK6.out; omega⟩, HBT2, HBW2⟩
                           ·rw [if_neg c41] at H
                            exact absurd H (by simp)
                          ·rw [if_neg c40] at H
                           exact absurd H (by simp)
                         ·rw [if_neg c39] at H
                          have c39b0 : decide (x107_6 < (x7_2.length : Int)) = false := decide_eq_false c39
                          clear c39
                          replace H := Option.bind_eq_some_iff.mp H
                          obtain ⟨t198, A450, H⟩ := H
                          replace H : (if y188.length + t198.length < 140737488355328 then (impl_PackRuns.l0 k6 l0 (y188 ++ t198) x5_2 (wrap64 (x6_1 + 16))) else (none)) = some (r1, r2) := H
                          have A45 := Aside0.mk A450
                          clear A450
                          by_cases c46 : y188.length + t198.length < 140737488355328
                          ·rw [if_pos c46] at H
                           have LMc46 := Aside0.mk c46
                           clear c46
                           obtain ⟨y201, hy201⟩ : ∃ y_ : List Int, y_ = (y188 ++ t198) := ⟨_, rfl⟩
                           replace H : (impl_PackRuns.l0 k6 l0 y201 x5_2 (wrap64 (x6_1 + 16))) = some (r1, r2) := by first | (rw [hy201]; with_reducible exact H) | (have H2_ := (Option.bind_some _ _).symm.trans H; rw [hy201]; with_reducible exact H2_) | (have H2_ := (Option.bind_some _ _).symm.trans H; with_reducible exact H2_) | with_reducible exact H | (rw [hy201]; exact H) | exact H
                           have Ny201 := Aside0.mk hy201
                           clear hy201
                           have H' := Aside0.mk H
                           clear H
                           have hpk_ : pk x16_6 = t198 := Option.some.inj A45.out
                           subst hpk_
                           obtain ⟨vd_, hh_, hR_⟩ := HBT.out
                           obtain ⟨Ad_, cd_, ed_⟩ := Kd.R_slice hR_
                           subst ed_
                           have d0_ := blk_cell hh_ 0
                           simp only [List.getElem?_toArray, List.getElem?_cons_zero] at d0_
                           have HRD := Aside0.mk hR_
                           clear hh_ hR_
                           have HOW := Aside0.mk (Kd.R_below HO190.out HBW.out)
                           have HBO := Aside0.mk (below_step HB.out HBW.out)
                           go_wp2_with (first | ((with_reducible refine gate_builtin (b := .append) (xs := #[.tmp 119, .tmp 123]) rfl ?_); at_builtin; refine Kd.R_append_rows (Kd.int .u8) (w0 := w) w.heap.size rfl (.tmp 119) (.tmp 123) 32 5 (.int .u8 0) 1 rfl Try.underlying32 info5 rfl (by decide) (by omega) v189 y188 (pk x16_6) _ _ _ (fun _ => True) (fun _ => False) rfl rfl HOW.out (Kd.R_reads' HRD.out).2.2 (fun _ _ h => h) (fun _ h => h.elim) (fun _ _ => trivial) HBO.out HBO.out.size ?aL ?_; (case aL => have := LMc46.out; omega); intro v202 w49 ho hb hg hat; rw [← Ny201.out] at ho; have n3_ := Aside0.mk (hb); have n4_ := Aside0.mk (ho); clear HB; have HB := n3_; have HO203 := n4_; clear n3_ n4_; clear ho hb hg hat))
                           go_roundg k6
                           case measure => have := HK1.out; have := HK2.out; have := HK3.out; have := HK4.out; have := HK5.out; have := HK6.out; omega
                           case rel => exact ⟨(y201), (x5_2), (wrap64 (x6_1 + 16)), (by first | rfl | (simp; done) | (simp [*]; done)), (by first | rfl | (simp; done) | (simp [*]; done)), H', ⟨by have := HK1.out; have := HK2.out; have := HK3.out; have := HK4.out; have := HK5.out; have := HK6.out; omega⟩, ⟨by (with_reducible repeat (first | apply Kd.R_alloc | apply Kd.R_drewN | apply Kd.R_drew)); exact Kd.R_mono HO203.out (fun _ hk => trivial)⟩, ⟨by repeat (first | (with_reducible first | exact HB.out | apply below_alloc | apply pw_below_drewN | apply below_drew1) | exact HB.out)⟩⟩
                          ·rw [if_neg c46] at H
                           exact absurd H (by simp)
                      ·rw [if_neg c35] at H
                       exact absurd H (by simp)
                 ·rw [if_neg c26] at H
                  exact absurd H (by simp)
           ·rw [if_neg c19] at H
            exact absurd H (by simp)
       ·rw [if_neg c10] at H
        exact absurd H (by simp)
      ·rw [if_neg c9] at H
       exact absurd H (by simp)
     ·rw [if_neg c8] at H
      exact absurd H (by simp)
    ·rw [if_neg c6] at H
     have c6b0 : decide (x6_1 < (l0.length : Int)) = false := decide_eq_false c6
     clear c6
     simp only [Option.some.injEq, Prod.mk.injEq] at H
     obtain ⟨rfl, rfl⟩ := H
     go_wp2
     repeat (go_quiet (fail); try go_wp2)
     go_ret2
     exact ⟨_, by first | rfl | (simp [errW_none, errW_some] <;> rfl) | (simp [*, errW_none, errW_some] <;> rfl), by (with_reducible repeat (first | apply Kd.R_alloc | apply Kd.R_drewN | apply Kd.R_drew)); exact HO_4.out, by repeat (first | (with_reducible first | exact HB.out | apply below_alloc | apply pw_below_drewN | apply below_drew1) | exact HB.out)⟩
 ·replace c3 := Bool.eq_false_iff.mpr c3
  subst c3
  have H1 : (some (([] : List Int), false)) = some (r1, r2) := by rw [if_neg (show ¬ (false = true) by decide)] at H; exact H
  clear H
  have H := H1
  clear H1
  simp only [Option.some.injEq, Prod.mk.injEq] at H
  obtain ⟨rfl, rfl⟩ := H
  go_enter Try.func15, Try.ntmps15
  go_wp2_with (first | (go_at_call 39; (with_reducible refine (impl_within.calls k _ _ l0 1099511627776 false _ ?side1 ?side2 A2.out).mono ?_); (case side1 => repeat (first | exact HR0.out | (with_reducible refine Kd.C_alloc ?_ _) | (with_reducible refine Kd.C_drewN ?_ _) | (with_reducible refine Kd.C_drew ?_))); (case side2 => exact HC0.out); rintro e w' ⟨rfl, ⟨nd, rfl⟩⟩; (try first | exact ⟨rfl, _, World.drewN_drewN _ _ _⟩ | exact ⟨rfl, _, Eq.trans (World.drewN_drewN _ _ _) (congrArg (World.drewN _) (Nat.add_assoc _ _ _))⟩)))
  repeat (go_quiet (first | (go_at_call 39; (with_reducible refine (impl_within.calls k _ _ l0 1099511627776 false _ ?side1 ?side2 A2.out).mono ?_); (case side1 => repeat (first | exact HR0.out | (with_reducible refine Kd.C_alloc ?_ _) | (with_reducible refine Kd.C_drewN ?_ _) | (with_reducible refine Kd.C_drew ?_))); (case side2 => exact HC0.out); rintro e w' ⟨rfl, ⟨nd, rfl⟩⟩; (try first | exact ⟨rfl, _, World.drewN_drewN _ _ _⟩ | exact ⟨rfl, _, Eq.trans (World.drewN_drewN _ _ _) (congrArg (World.drewN _) (Nat.add_assoc _ _ _))⟩))); try go_wp2_with (first | (go_at_call 39; (with_reducible refine (impl_within.calls k _ _ l0 1099511627776 false _ ?side1 ?side2 A2.out).mono ?_); (case side1 => repeat (first | exact HR0.out | (with_reducible refine Kd.C_alloc ?_ _) | (with_reducible refine Kd.C_drewN ?_ _) | (with_reducible refine Kd.C_drew ?_))); (case side2 => exact HC0.out); rintro e w' ⟨rfl, ⟨nd, rfl⟩⟩; (try first | exact ⟨rfl, _, World.drewN_drewN _ _ _⟩ | exact ⟨rfl, _, Eq.trans (World.drewN_drewN _ _ _) (congrArg (World.drewN _) (Nat.add_assoc _ _ _))⟩))))
  go_ret2
  exact ⟨_, by first | rfl | (simp [errW_none, errW_some] <;> rfl) | (simp [*, errW_none, errW_some] <;> rfl), by first | exact Kd.R_nil _ _ _ _ _ | exact Kd.N_nil _ _ _ _ _ | exact Kd.V_nil _ _ _ _ _ | exact Kd.Q_nil _ _ _ _ _ | exact Kd.S_nil _ _ _ _ _, by repeat (first | (with_reducible first | exact HB.out | apply below_alloc | apply pw_below_drewN | apply below_drew1) | exact HB.out)⟩

end Go.Proofs.Ytcdghhihfjojaaa.Q
