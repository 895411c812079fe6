/- Plain Lean functions with the same answers as the Go functions of this seat, and a proof for each that the Go code comes to just these answers; no condition. Written by a program of this session (the kit's printer, turned). -/
import Derived.Test.YtcdghhihfjojaabDoorQx0
import Derived.Test.YtcdghhihfjojaabDoorQx11
import Derived.Test.YtcdghhihfjojaabDoorQx12
namespace Go.Proofs.YtcdghhihfjojaabDoor.Q
open Go.RowKit Go.Proofs.YtcdghhihfjojaabDoorW.PrintWords Go.Proofs.YtcdghhihfjojaabDoorW.PrintLast Go.Proofs.YtcdghhihfjojaabDoorW.PrintMore Go.Proofs.YtcdghhihfjojaabDoorW.PrintFlt
attribute [local go_sem] cmp_lss cmp_leq cmp_gtr cmp_geq cmp_eql cmp_neq flt_l flt_r fgt_l fgt_r feq_l feq_r fne_l fne_r ord_lt ord_gt ord_eq ord_ne conv_int conv_flt foi_fold run_store_flt
attribute [local go_sem] max2_int min2_int max_two min_two max_three min_three max_four min_four   -- for this text's walks alone
set_option linter.unusedVariables false
set_option linter.unusedSimpArgs false

/-! ### impl_Laid: function 8 -/
mutual
def impl_Laid.j0 : Nat → Bool → Int → Int → Int → ByteArray → ByteArray → Int → Int → Int → Int → ByteArray → ByteArray → Int → Option (Int × Int × Int × ByteArray × ByteArray × Int)
 | 0, _, _, _, _, _, _, _, _, _, _, _, _, _ => none
 | k + 1, x13, x135000, x135001, x135002, x135003, x135004, x135005, x136000, x136001, x136002, x136003, x136004, x136005 => if x13 = true then (some (0, 0, 0, (⟨#[]⟩ : ByteArray), (⟨#[]⟩ : ByteArray), 0)) else ((impl_said.f x136000 x136001 x136002 x136003 x136004 x136005).bind fun bt139 => (if bt139.1 = true then (impl_Laid.j1 k x136000 x136001 x135002 x135003 x135004 x135005 x136000 x136001 x136002 x136003 x136004 x136005 bt139.1 bt139.2.1 bt139.2.2.1 bt139.2.2.2) else (impl_Laid.j1 k x135000 x135001 x135002 x135003 x135004 x135005 x136000 x136001 x136002 x136003 x136004 x136005 bt139.1 bt139.2.1 bt139.2.2.1 bt139.2.2.2)))
def impl_Laid.j1 : Nat → Int → Int → Int → ByteArray → ByteArray → Int → Int → Int → Int → ByteArray → ByteArray → Int → Bool → Bool → Bool → Bool → Option (Int × Int × Int × ByteArray × ByteArray × Int)
 | 0, _, _, _, _, _, _, _, _, _, _, _, _, _, _, _, _ => none
 | k + 1, x135000, x135001, x135002, x135003, x135004, x135005, x136000, x136001, x136002, x136003, x136004, x136005, x144000, x144001, x144002, x144003 => if x144001 = true then (impl_Laid.j2 k x135000 x135001 x136002 x135003 x135004 x135005 x136000 x136001 x136002 x136003 x136004 x136005 x144000 x144001 x144002 x144003) else (impl_Laid.j2 k x135000 x135001 x135002 x135003 x135004 x135005 x136000 x136001 x136002 x136003 x136004 x136005 x144000 x144001 x144002 x144003)
def impl_Laid.j2 : Nat → Int → Int → Int → ByteArray → ByteArray → Int → Int → Int → Int → ByteArray → ByteArray → Int → Bool → Bool → Bool → Bool → Option (Int × Int × Int × ByteArray × ByteArray × Int)
 | 0, _, _, _, _, _, _, _, _, _, _, _, _, _, _, _, _ => none
 | k + 1, x135000, x135001, x135002, x135003, x135004, x135005, x136000, x136001, x136002, x136003, x136004, x136005, x144000, x144001, x144002, x144003 => if x144002 = true then (if x144003 = true then (some (x135000, x135001, x135002, x136003, x136004, x136005)) else (some (x135000, x135001, x135002, x136003, x135004, x135005))) else (if x144003 = true then (some (x135000, x135001, x135002, x135003, x136004, x136005)) else (some (x135000, x135001, x135002, x135003, x135004, x135005)))
end
def impl_Laid.f (k : Nat) (a0_0 : Int) (a0_1 : Int) (a0_2 : Int) (a0_3 : ByteArray) (a0_4 : ByteArray) (a0_5 : Int) (a1_0 : Int) (a1_1 : Int) (a1_2 : Int) (a1_3 : ByteArray) (a1_4 : ByteArray) (a1_5 : Int) (l2 : List (List ByteArray)) (l3 : List (List ByteArray)) : Option (Int × Int × Int × ByteArray × ByteArray × Int) := (impl_SkyOk.f k a0_0 a0_1 a0_2 a0_3 a0_4 a0_5 l2 l3).bind fun t137 => (if t137 = true then ((impl_SkyOk.f k a1_0 a1_1 a1_2 a1_3 a1_4 a1_5 l2 l3).bind fun t138 => (impl_Laid.j0 k (!t138) a0_0 a0_1 a0_2 a0_3 a0_4 a0_5 a1_0 a1_1 a1_2 a1_3 a1_4 a1_5)) else (impl_Laid.j0 k true a0_0 a0_1 a0_2 a0_3 a0_4 a0_5 a1_0 a1_1 a1_2 a1_3 a1_4 a1_5))
theorem impl_Laid.mono_l : ∀ k, (∀ y0 y1 y2 y3 y4 y5 y6 y7 y8 y9 y10 y11 y12, LeO (impl_Laid.j0 k y0 y1 y2 y3 y4 y5 y6 y7 y8 y9 y10 y11 y12) (impl_Laid.j0 (k + 1) y0 y1 y2 y3 y4 y5 y6 y7 y8 y9 y10 y11 y12)) ∧ (∀ y0 y1 y2 y3 y4 y5 y6 y7 y8 y9 y10 y11 y12 y13 y14 y15, LeO (impl_Laid.j1 k y0 y1 y2 y3 y4 y5 y6 y7 y8 y9 y10 y11 y12 y13 y14 y15) (impl_Laid.j1 (k + 1) y0 y1 y2 y3 y4 y5 y6 y7 y8 y9 y10 y11 y12 y13 y14 y15)) ∧ (∀ y0 y1 y2 y3 y4 y5 y6 y7 y8 y9 y10 y11 y12 y13 y14 y15, LeO (impl_Laid.j2 k y0 y1 y2 y3 y4 y5 y6 y7 y8 y9 y10 y11 y12 y13 y14 y15) (impl_Laid.j2 (k + 1) y0 y1 y2 y3 y4 y5 y6 y7 y8 y9 y10 y11 y12 y13 y14 y15))
 | 0 => ⟨fun _ _ _ _ _ _ _ _ _ _ _ _ _ r h => by simp [impl_Laid.j0] at h, fun _ _ _ _ _ _ _ _ _ _ _ _ _ _ _ _ r h => by simp [impl_Laid.j1] at h, fun _ _ _ _ _ _ _ _ _ _ _ _ _ _ _ _ r h => by simp [impl_Laid.j2] at h⟩
 | k + 1 => by
  obtain ⟨ih0, ih1, ih2⟩ := impl_Laid.mono_l k
  refine ⟨?_, ?_, ?_⟩
  ·intro y0 y1 y2 y3 y4 y5 y6 y7 y8 y9 y10 y11 y12
   unfold impl_Laid.j0
   repeat' first
   | (with_reducible exact ih0 _ _ _ _ _ _ _ _ _ _ _ _ _)
   | (with_reducible exact ih1 _ _ _ _ _ _ _ _ _ _ _ _ _ _ _ _)
   | (with_reducible exact ih2 _ _ _ _ _ _ _ _ _ _ _ _ _ _ _ _)
   | (with_reducible exact impl_SkyOk.mono _ _ _ _ _ _ _ _ _)
   | (with_reducible exact LeO.refl _)
   | (with_reducible exact LeO.none _)
   | (with_reducible refine LeO.ite ?_ ?_)
   | (with_reducible refine LeO.bind ?_ (fun _ => ?_))
   | exact ih0 _ _ _ _ _ _ _ _ _ _ _ _ _
   | exact ih1 _ _ _ _ _ _ _ _ _ _ _ _ _ _ _ _
   | exact ih2 _ _ _ _ _ _ _ _ _ _ _ _ _ _ _ _
   | exact impl_SkyOk.mono _ _ _ _ _ _ _ _ _
   | exact LeO.none _
   | refine LeO.ite ?_ ?_
   | refine LeO.bind ?_ (fun _ => ?_)
  ·intro y0 y1 y2 y3 y4 y5 y6 y7 y8 y9 y10 y11 y12 y13 y14 y15
   unfold impl_Laid.j1
   repeat' first
   | (with_reducible exact ih0 _ _ _ _ _ _ _ _ _ _ _ _ _)
   | (with_reducible exact ih1 _ _ _ _ _ _ _ _ _ _ _ _ _ _ _ _)
   | (with_reducible exact ih2 _ _ _ _ _ _ _ _ _ _ _ _ _ _ _ _)
   | (with_reducible exact impl_SkyOk.mono _ _ _ _ _ _ _ _ _)
   | (with_reducible exact LeO.refl _)
   | (with_reducible exact LeO.none _)
   | (with_reducible refine LeO.ite ?_ ?_)
   | (with_reducible refine LeO.bind ?_ (fun _ => ?_))
   | exact ih0 _ _ _ _ _ _ _ _ _ _ _ _ _
   | exact ih1 _ _ _ _ _ _ _ _ _ _ _ _ _ _ _ _
   | exact ih2 _ _ _ _ _ _ _ _ _ _ _ _ _ _ _ _
   | exact impl_SkyOk.mono _ _ _ _ _ _ _ _ _
   | exact LeO.none _
   | refine LeO.ite ?_ ?_
   | refine LeO.bind ?_ (fun _ => ?_)
  ·intro y0 y1 y2 y3 y4 y5 y6 y7 y8 y9 y10 y11 y12 y13 y14 y15
   unfold impl_Laid.j2
   repeat' first
   | (with_reducible exact ih0 _ _ _ _ _ _ _ _ _ _ _ _ _)
   | (with_reducible exact ih1 _ _ _ _ _ _ _ _ _ _ _ _ _ _ _ _)
   | (with_reducible exact ih2 _ _ _ _ _ _ _ _ _ _ _ _ _ _ _ _)
   | (with_reducible exact impl_SkyOk.mono _ _ _ _ _ _ _ _ _)
   | (with_reducible exact LeO.refl _)
   | (with_reducible exact LeO.none _)
   | (with_reducible refine LeO.ite ?_ ?_)
   | (with_reducible refine LeO.bind ?_ (fun _ => ?_))
   | exact ih0 _ _ _ _ _ _ _ _ _ _ _ _ _
   | exact ih1 _ _ _ _ _ _ _ _ _ _ _ _ _ _ _ _
   | exact ih2 _ _ _ _ _ _ _ _ _ _ _ _ _ _ _ _
   | exact impl_SkyOk.mono _ _ _ _ _ _ _ _ _
   | exact LeO.none _
   | refine LeO.ite ?_ ?_
   | refine LeO.bind ?_ (fun _ => ?_)
theorem impl_Laid.mono : ∀ a0 a1 a2 a3 a4 a5 a6 a7 a8 a9 a10 a11 a12 a13 k, LeO (impl_Laid.f k a0 a1 a2 a3 a4 a5 a6 a7 a8 a9 a10 a11 a12 a13) (impl_Laid.f (k + 1) a0 a1 a2 a3 a4 a5 a6 a7 a8 a9 a10 a11 a12 a13) := by
 intro a0 a1 a2 a3 a4 a5 a6 a7 a8 a9 a10 a11 a12 a13 k
 obtain ⟨ih0, ih1, ih2⟩ := impl_Laid.mono_l k
 unfold impl_Laid.f
 repeat' first
   | (with_reducible exact ih0 _ _ _ _ _ _ _ _ _ _ _ _ _)
   | (with_reducible exact ih1 _ _ _ _ _ _ _ _ _ _ _ _ _ _ _ _)
   | (with_reducible exact ih2 _ _ _ _ _ _ _ _ _ _ _ _ _ _ _ _)
   | (with_reducible exact impl_SkyOk.mono _ _ _ _ _ _ _ _ _)
   | (with_reducible exact LeO.refl _)
   | (with_reducible exact LeO.none _)
   | (with_reducible refine LeO.ite ?_ ?_)
   | (with_reducible refine LeO.bind ?_ (fun _ => ?_))
   | exact ih0 _ _ _ _ _ _ _ _ _ _ _ _ _
   | exact ih1 _ _ _ _ _ _ _ _ _ _ _ _ _ _ _ _
   | exact ih2 _ _ _ _ _ _ _ _ _ _ _ _ _ _ _ _
   | exact impl_SkyOk.mono _ _ _ _ _ _ _ _ _
   | exact LeO.none _
   | refine LeO.ite ?_ ?_
   | refine LeO.bind ?_ (fun _ => ?_)
def impl_Laid.T5 : Bool × List (List Nat × List Nat) := (true, [([], []), ([0], [0]), ([], []), ([2], [2]), ([0, 1], []), ([4, 1, 0, 1], [1, 4]), ([0, 1, 2, 3, 4, 5], []), ([6, 3, 5, 0, 1, 2, 3, 4, 5], [3, 6])])
def impl_Laid.B5 : List Nat := [0, 1, 0, 4, 3, 19, 63, 127]
theorem impl_Laid.tab5 : rtab .any (opsOf Tryd.f8 5) = impl_Laid.T5 := by kernel_rfl
theorem impl_Laid.bits5 : waitsOk impl_Laid.T5.2 impl_Laid.B5 = true := by kernel_rfl
def impl_Laid.T11 : Bool × List (List Nat × List Nat) := (true, [([], []), ([0], [0]), ([], []), ([2], [2]), ([0, 1], []), ([4, 1, 0, 1], [1, 4]), ([0, 1, 2, 3, 4, 5], []), ([6, 3, 5, 0, 1, 2, 3, 4, 5], [3, 6])])
def impl_Laid.B11 : List Nat := [0, 1, 0, 4, 3, 19, 63, 127]
theorem impl_Laid.tab11 : rtab .any (opsOf Tryd.f8 11) = impl_Laid.T11 := by kernel_rfl
theorem impl_Laid.bits11 : waitsOk impl_Laid.T11.2 impl_Laid.B11 = true := by kernel_rfl
set_option maxHeartbeats 8000000 in
set_option maxRecDepth 100000 in
theorem impl_Laid.calls (k : Nat) (a0_0 : Int) (a0_1 : Int) (a0_2 : Int) (a0_3 : ByteArray) (a0_4 : ByteArray) (a0_5 : Int) (a1_0 : Int) (a1_1 : Int) (a1_2 : Int) (a1_3 : ByteArray) (a1_4 : ByteArray) (a1_5 : Int) (l2 : List (List ByteArray)) (l3 : List (List ByteArray)) (r1 : Int) (r2 : Int) (r3 : Int) (r4 : ByteArray) (r5 : ByteArray) (r6 : Int) (w : World) (hr2 : Kd.C (Kd.slice 9 Kd.string) w (some ⟨0, 0, none⟩) l2.length l2) (hc2 : l2.length ≤ l2.length) (hr3 : Kd.C (Kd.slice 9 Kd.string) w (some ⟨1, 0, none⟩) l3.length l3) (hc3 : l3.length ≤ l3.length) (h : impl_Laid.f k a0_0 a0_1 a0_2 a0_3 a0_4 a0_5 a1_0 a1_1 a1_2 a1_3 a1_4 a1_5 l2 l3 = some (r1, r2, r3, r4, r5, r6)) :
  Calls Tryd.prog 8 #[.agg #[.int .i64 a0_0, .int .i64 a0_1, .int .i64 a0_2, .string a0_3, .string a0_4, .int .i64 a0_5], .agg #[.int .i64 a1_0, .int .i64 a1_1, .int .i64 a1_2, .string a1_3, .string a1_4, .int .i64 a1_5]] w fun e w' => e = .returned (.agg #[.int .i64 r1, .int .i64 r2, .int .i64 r3, .string r4, .string r5, .int .i64 r6]) ∧ Below w.heap.size w w' := by
 have hu25 := Tryd.underlying25
 have hu35 := Tryd.underlying35
 have HR2 := Aside0.mk hr2
 have HC2 := Aside0.mk hc2
 clear hr2 hc2
 have HR3 := Aside0.mk hr3
 have HC3 := Aside0.mk hc3
 clear hr3 hc3
 have HB := A0 (Below.refl w.heap.size w)
 have H : ((impl_SkyOk.f k a0_0 a0_1 a0_2 a0_3 a0_4 a0_5 l2 l3).bind fun t137 => (if t137 = true then ((impl_SkyOk.f k a1_0 a1_1 a1_2 a1_3 a1_4 a1_5 l2 l3).bind fun t138 => (impl_Laid.j0 k (!t138) a0_0 a0_1 a0_2 a0_3 a0_4 a0_5 a1_0 a1_1 a1_2 a1_3 a1_4 a1_5)) else (impl_Laid.j0 k true a0_0 a0_1 a0_2 a0_3 a0_4 a0_5 a1_0 a1_1 a1_2 a1_3 a1_4 a1_5))) = some (r1, r2, r3, r4, r5, r6) := h
 clear h
 have HC5 := Aside0.mk H
 clear H
 go_enter Tryd.func8, Tryd.ntmps8
 go_upto_region 1 with (first | ((with_reducible refine gate_dst (N := 2) rfl ?_); refine box_event ?hg (N := 2) ?hd (cs := #[.int .i64 a0_0, .int .i64 a0_1, .int .i64 a0_2, .string a0_3, .string a0_4, .int .i64 a0_5]) (t := 25) ?hr ?_; (case hd => rfl); (case hg => rfl); (case hr => first | (go_simp; done) | (go_simp; rfl)); intro gb134 hg w6 hbox hb; have n0_ := A0 (below_step (by repeat (first | (with_reducible first | exact HB.out | apply wA | apply wN | apply wD) | exact HB.out)) hb); have n1_ := A0 (hbox); have n2_ := A0 ((by rw [hg]; exact (below_size (by repeat (first | (with_reducible first | exact HB.out | apply wA | apply wN | apply wD) | exact HB.out))) : w.heap.size ≤ gb134)); have n3_ := A0 ((by rw [hg]; exact (below_size (by repeat (first | (with_reducible first | exact HB.out | apply wA | apply wN | apply wD) | exact HB.out))) : w.heap.size ≤ gb134)); clear HB; have HB := n0_; have BK134 := n1_; have GW134 := n2_; have GE134 := n3_; clear n0_ n1_ n2_ n3_; clear hb hbox hg) | ((with_reducible refine gate_dst (N := 3) rfl ?_); refine box_event ?hg (N := 3) ?hd (cs := #[.int .i64 a1_0, .int .i64 a1_1, .int .i64 a1_2, .string a1_3, .string a1_4, .int .i64 a1_5]) (t := 25) ?hr ?_; (case hd => rfl); (case hg => rfl); (case hr => first | (go_simp; done) | (go_simp; rfl)); intro gb135 hg w7 hbox hb; have n0_ := A0 (blk_below (g := gb134) (o := .cells #[.int .i64 a0_0, .int .i64 a0_1, .int .i64 a0_2, .string a0_3, .string a0_4, .int .i64 a0_5] 25 (0, 0)) (by (with_reducible repeat (first | refine bN ?_ _ | refine bD ?_ | refine bA ?_ _)); exact BK134.out) hb); have n1_ := A0 (below_step (by repeat (first | (with_reducible first | exact HB.out | apply wA | apply wN | apply wD | refine bS ?_ GE134.out) | exact HB.out)) hb); have n2_ := A0 (hbox); have n3_ := A0 ((by rw [hg]; exact (below_size (by repeat (first | (with_reducible first | exact HB.out | apply wA | apply wN | apply wD | refine bS ?_ GE134.out) | exact HB.out))) : w.heap.size ≤ gb135)); have n4_ := A0 ((by rw [hg]; exact (below_size (by repeat (first | (with_reducible first | exact HB.out | apply wA | apply wN | apply wD | refine bS ?_ GE134.out) | exact HB.out))) : w.heap.size ≤ gb135)); have n5_ := A0 ((by rw [hg]; exact Nat.ne_of_lt (blk_lt (g := gb134) (o := .cells #[.int .i64 a0_0, .int .i64 a0_1, .int .i64 a0_2, .string a0_3, .string a0_4, .int .i64 a0_5] 25 (0, 0)) (by (with_reducible repeat (first | refine bN ?_ _ | refine bD ?_ | refine bA ?_ _)); exact BK134.out)) : gb134 ≠ gb135)); have n6_ := A0 ((by rw [hg]; exact Nat.ne_of_gt (blk_lt (g := gb134) (o := .cells #[.int .i64 a0_0, .int .i64 a0_1, .int .i64 a0_2, .string a0_3, .string a0_4, .int .i64 a0_5] 25 (0, 0)) (by (with_reducible repeat (first | refine bN ?_ _ | refine bD ?_ | refine bA ?_ _)); exact BK134.out)) : gb135 ≠ gb134)); clear BK134; clear HB; have BK134 := n0_; have HB := n1_; have BK135 := n2_; have GW135 := n3_; have GE135 := n4_; have NB134_135 := n5_; have NB135_134 := n6_; clear n0_ n1_ n2_ n3_ n4_ n5_ n6_; clear hb hbox hg) | ((with_reducible refine gate_dst (N := 4) rfl ?_); refine box_event ?hg (N := 4) ?hd (cs := #[.int .i64 0, .int .i64 0, .int .i64 0, .string (⟨#[]⟩ : ByteArray), .string (⟨#[]⟩ : ByteArray), .int .i64 0]) (t := 25) ?hr ?_; (case hd => rfl); (case hg => rfl); (case hr => first | (go_simp; done) | (go_simp; rfl)); intro gb136 hg w8 hbox hb; have n0_ := A0 (blk_below (g := gb134) (o := .cells #[.int .i64 a0_0, .int .i64 a0_1, .int .i64 a0_2, .string a0_3, .string a0_4, .int .i64 a0_5] 25 (0, 0)) (by (with_reducible repeat (first | refine bN ?_ _ | refine bD ?_ | refine bA ?_ _)); exact BK134.out) hb); have n1_ := A0 (blk_below (g := gb135) (o := .cells #[.int .i64 a1_0, .int .i64 a1_1, .int .i64 a1_2, .string a1_3, .string a1_4, .int .i64 a1_5] 25 (0, 0)) (by (with_reducible repeat (first | refine bN ?_ _ | refine bD ?_ | refine bA ?_ _)); exact BK135.out) hb); have n2_ := A0 (below_step (by repeat (first | (with_reducible first | exact HB.out | apply wA | apply wN | apply wD | refine bS ?_ GE134.out | refine bS ?_ GE135.out) | exact HB.out)) hb); have n3_ := A0 (hbox); have n4_ := A0 ((by rw [hg]; exact (below_size (by repeat (first | (with_reducible first | exact HB.out | apply wA | apply wN | apply wD | refine bS ?_ GE134.out | refine bS ?_ GE135.out) | exact HB.out))) : w.heap.size ≤ gb136)); have n5_ := A0 ((by rw [hg]; exact (below_size (by repeat (first | (with_reducible first | exact HB.out | apply wA | apply wN | apply wD | refine bS ?_ GE134.out | refine bS ?_ GE135.out) | exact HB.out))) : w.heap.size ≤ gb136)); have n6_ := A0 ((by rw [hg]; exact Nat.ne_of_lt (blk_lt (g := gb134) (o := .cells #[.int .i64 a0_0, .int .i64 a0_1, .int .i64 a0_2, .string a0_3, .string a0_4, .int .i64 a0_5] 25 (0, 0)) (by (with_reducible repeat (first | refine bN ?_ _ | refine bD ?_ | refine bA ?_ _)); exact BK134.out)) : gb134 ≠ gb136)); have n7_ := A0 ((by rw [hg]; exact Nat.ne_of_gt (blk_lt (g := gb134) (o := .cells #[.int .i64 a0_0, .int .i64 a0_1, .int .i64 a0_2, .string a0_3, .string a0_4, .int .i64 a0_5] 25 (0, 0)) (by (with_reducible repeat (first | refine bN ?_ _ | refine bD ?_ | refine bA ?_ _)); exact BK134.out)) : gb136 ≠ gb134)); have n8_ := A0 ((by rw [hg]; exact Nat.ne_of_lt (blk_lt (g := gb135) (o := .cells #[.int .i64 a1_0, .int .i64 a1_1, .int .i64 a1_2, .string a1_3, .string a1_4, .int .i64 a1_5] 25 (0, 0)) (by (with_reducible repeat (first | refine bN ?_ _ | refine bD ?_ | refine bA ?_ _)); exact BK135.out)) : gb135 ≠ gb136)); have n9_ := A0 ((by rw [hg]; exact Nat.ne_of_gt (blk_lt (g := gb135) (o := .cells #[.int .i64 a1_0, .int .i64 a1_1, .int .i64 a1_2, .string a1_3, .string a1_4, .int .i64 a1_5] 25 (0, 0)) (by (with_reducible repeat (first | refine bN ?_ _ | refine bD ?_ | refine bA ?_ _)); exact BK135.out)) : gb136 ≠ gb135)); clear BK134; clear BK135; clear HB; have BK134 := n0_; have BK135 := n1_; have HB := n2_; have BK136 := n3_; have GW136 := n4_; have GE136 := n5_; have NB134_136 := n6_; have NB136_134 := n7_; have NB135_136 := n8_; have NB136_135 := n9_; clear n0_ n1_ n2_ n3_ n4_ n5_ n6_ n7_ n8_ n9_; clear hb hbox hg))
 (try simp only [Act.put, sqA, sqZ, sqS])
 go_cut [13] (fun v13 wc => ∃ (kq : Nat) (x13_4 : Bool), v13 = .bool x13_4 ∧ Aside0 (impl_Laid.j0 kq x13_4 a0_0 a0_1 a0_2 a0_3 a0_4 a0_5 a1_0 a1_1 a1_2 a1_3 a1_4 a1_5 = some (r1, r2, r3, r4, r5, r6)) ∧ Aside0 (kq ≤ k) ∧ Aside0 (wc.heap[gb134]? = some (.cells #[.int .i64 a0_0, .int .i64 a0_1, .int .i64 a0_2, .string a0_3, .string a0_4, .int .i64 a0_5] 25 (0, 0))) ∧ Aside0 (wc.heap[gb135]? = some (.cells #[.int .i64 a1_0, .int .i64 a1_1, .int .i64 a1_2, .string a1_3, .string a1_4, .int .i64 a1_5] 25 (0, 0))) ∧ Aside0 (wc.heap[gb136]? = some (.cells #[.int .i64 0, .int .i64 0, .int .i64 0, .string (⟨#[]⟩ : ByteArray), .string (⟨#[]⟩ : ByteArray), .int .i64 0] 25 (0, 0))) ∧ Aside0 (Below w.heap.size w wc))
 case first =>
  have H := HC5.out
  clear HC5
  replace H := Option.bind_eq_some_iff.mp H
  obtain ⟨t137, A90, H⟩ := H
  replace H : (if t137 = true then ((impl_SkyOk.f k a1_0 a1_1 a1_2 a1_3 a1_4 a1_5 l2 l3).bind fun t138 => (impl_Laid.j0 k (!t138) a0_0 a0_1 a0_2 a0_3 a0_4 a0_5 a1_0 a1_1 a1_2 a1_3 a1_4 a1_5)) else (impl_Laid.j0 k true a0_0 a0_1 a0_2 a0_3 a0_4 a0_5 a1_0 a1_1 a1_2 a1_3 a1_4 a1_5)) = some (r1, r2, r3, r4, r5, r6) := H
  have A9 := Aside0.mk A90
  clear A90
  by_cases c10 : t137 = true
  ·subst c10
   have H1 : ((impl_SkyOk.f k a1_0 a1_1 a1_2 a1_3 a1_4 a1_5 l2 l3).bind fun t138 => (impl_Laid.j0 k (!t138) a0_0 a0_1 a0_2 a0_3 a0_4 a0_5 a1_0 a1_1 a1_2 a1_3 a1_4 a1_5)) = some (r1, r2, r3, r4, r5, r6) := by rw [if_pos rfl] at H; exact H
   clear H
   have H := H1
   clear H1
   replace H := Option.bind_eq_some_iff.mp H
   obtain ⟨t138, A110, H⟩ := H
   replace H : (impl_Laid.j0 k (!t138) a0_0 a0_1 a0_2 a0_3 a0_4 a0_5 a1_0 a1_1 a1_2 a1_3 a1_4 a1_5) = some (r1, r2, r3, r4, r5, r6) := H
   have A11 := Aside0.mk A110
   clear A110
   have H' := Aside0.mk H
   clear H
   have hnb12 := NB134_135.out
   have hnc12 := NB135_134.out
   have hnb13 := NB134_136.out
   have hnc13 := NB136_134.out
   have hcz14_0 : w8.cell? ⟨gb134, 0, none⟩ = some (.int .i64 a0_0) := bC BK134.out 0 rfl
   have hcz14_1 : w8.cell? ⟨gb134, 1, none⟩ = some (.int .i64 a0_1) := bC BK134.out 1 rfl
   have hcz14_2 : w8.cell? ⟨gb134, 2, none⟩ = some (.int .i64 a0_2) := bC BK134.out 2 rfl
   have hcz14_3 : w8.cell? ⟨gb134, 3, none⟩ = some (.string a0_3) := bC BK134.out 3 rfl
   have hcz14_4 : w8.cell? ⟨gb134, 4, none⟩ = some (.string a0_4) := bC BK134.out 4 rfl
   have hcz14_5 : w8.cell? ⟨gb134, 5, none⟩ = some (.int .i64 a0_5) := bC BK134.out 5 rfl
   have hfz14_0 := blk_frozen BK134.out 0
   have hfz14_1 := blk_frozen BK134.out 1
   have hfz14_2 := blk_frozen BK134.out 2
   have hfz14_3 := blk_frozen BK134.out 3
   have hfz14_4 := blk_frozen BK134.out 4
   have hfz14_5 := blk_frozen BK134.out 5
   go_wp2_with (first | ((with_reducible refine gate_callee (f := 13) rfl ?_); refine goesL_ (some 7) rfl rfl Tryd.func13 (by kernel_rfl) rfl #[.agg #[.int .i64 a0_0, .int .i64 a0_1, .int .i64 a0_2, .string a0_3, .string a0_4, .int .i64 a0_5]] rfl (by (try simp only [lM, lC, lN]); first | done | rfl | (simp only [lD, lT]; rfl)) ?_; (with_reducible refine (impl_SkyOk.calls k a0_0 a0_1 a0_2 a0_3 a0_4 a0_5 l2 l3 true _ ?side1 ?side2 ?side3 ?side4 A9.out).mono ?_); (case side1 => repeat (first | exact (Kd.C_below HR2.out HB.out) | (with_reducible refine Kd.C_alloc ?_ _) | (with_reducible refine Kd.C_drewN ?_ _) | (with_reducible refine Kd.C_drew ?_))); (case side2 => exact HC2.out); (case side3 => repeat (first | exact (Kd.C_below HR3.out HB.out) | (with_reducible refine Kd.C_alloc ?_ _) | (with_reducible refine Kd.C_drewN ?_ _) | (with_reducible refine Kd.C_drew ?_))); (case side4 => exact HC3.out); rintro e w15 ⟨rfl, hb⟩; refine ⟨_, rfl, ?_⟩; have n0_ := A0 (blk_below (g := gb134) (o := .cells #[.int .i64 a0_0, .int .i64 a0_1, .int .i64 a0_2, .string a0_3, .string a0_4, .int .i64 a0_5] 25 (0, 0)) (by (with_reducible repeat (first | refine bN ?_ _ | refine bD ?_ | refine bA ?_ _)); exact BK134.out) hb); have n1_ := A0 (blk_below (g := gb135) (o := .cells #[.int .i64 a1_0, .int .i64 a1_1, .int .i64 a1_2, .string a1_3, .string a1_4, .int .i64 a1_5] 25 (0, 0)) (by (with_reducible repeat (first | refine bN ?_ _ | refine bD ?_ | refine bA ?_ _)); exact BK135.out) hb); have n2_ := A0 (blk_below (g := gb136) (o := .cells #[.int .i64 0, .int .i64 0, .int .i64 0, .string (⟨#[]⟩ : ByteArray), .string (⟨#[]⟩ : ByteArray), .int .i64 0] 25 (0, 0)) (by (with_reducible repeat (first | refine bN ?_ _ | refine bD ?_ | refine bA ?_ _)); exact BK136.out) hb); have n3_ := A0 (below_step (by repeat (first | (with_reducible first | exact HB.out | apply wA | apply wN | apply wD | refine bS ?_ GE134.out | refine bS ?_ GE135.out | refine bS ?_ GE136.out) | exact HB.out)) hb); clear BK134; clear BK135; clear BK136; clear HB; have BK134 := n0_; have BK135 := n1_; have BK136 := n2_; have HB := n3_; clear n0_ n1_ n2_ n3_; (try clear hb); (try clear hb2); (try clear hk); (try clear hi); have hnb16 := NB135_136.out; have hnc16 := NB136_135.out; have hcz17_0 : w15.cell? ⟨gb135, 0, none⟩ = some (.int .i64 a1_0) := bC BK135.out 0 rfl; have hcz17_1 : w15.cell? ⟨gb135, 1, none⟩ = some (.int .i64 a1_1) := bC BK135.out 1 rfl; have hcz17_2 : w15.cell? ⟨gb135, 2, none⟩ = some (.int .i64 a1_2) := bC BK135.out 2 rfl; have hcz17_3 : w15.cell? ⟨gb135, 3, none⟩ = some (.string a1_3) := bC BK135.out 3 rfl; have hcz17_4 : w15.cell? ⟨gb135, 4, none⟩ = some (.string a1_4) := bC BK135.out 4 rfl; have hcz17_5 : w15.cell? ⟨gb135, 5, none⟩ = some (.int .i64 a1_5) := bC BK135.out 5 rfl; have hfz17_0 := blk_frozen BK135.out 0; have hfz17_1 := blk_frozen BK135.out 1; have hfz17_2 := blk_frozen BK135.out 2; have hfz17_3 := blk_frozen BK135.out 3; have hfz17_4 := blk_frozen BK135.out 4; have hfz17_5 := blk_frozen BK135.out 5) | (go_at_call 13; (with_reducible refine (impl_SkyOk.calls k a1_0 a1_1 a1_2 a1_3 a1_4 a1_5 l2 l3 t138 _ ?side1 ?side2 ?side3 ?side4 A11.out).mono ?_); (case side1 => repeat (first | exact (Kd.C_below HR2.out HB.out) | (with_reducible refine Kd.C_alloc ?_ _) | (with_reducible refine Kd.C_drewN ?_ _) | (with_reducible refine Kd.C_drew ?_))); (case side2 => exact HC2.out); (case side3 => repeat (first | exact (Kd.C_below HR3.out HB.out) | (with_reducible refine Kd.C_alloc ?_ _) | (with_reducible refine Kd.C_drewN ?_ _) | (with_reducible refine Kd.C_drew ?_))); (case side4 => exact HC3.out); rintro e w18 ⟨rfl, hb⟩; have n0_ := A0 (blk_below (g := gb134) (o := .cells #[.int .i64 a0_0, .int .i64 a0_1, .int .i64 a0_2, .string a0_3, .string a0_4, .int .i64 a0_5] 25 (0, 0)) (by (with_reducible repeat (first | refine bN ?_ _ | refine bD ?_ | refine bA ?_ _)); exact BK134.out) hb); have n1_ := A0 (blk_below (g := gb135) (o := .cells #[.int .i64 a1_0, .int .i64 a1_1, .int .i64 a1_2, .string a1_3, .string a1_4, .int .i64 a1_5] 25 (0, 0)) (by (with_reducible repeat (first | refine bN ?_ _ | refine bD ?_ | refine bA ?_ _)); exact BK135.out) hb); have n2_ := A0 (blk_below (g := gb136) (o := .cells #[.int .i64 0, .int .i64 0, .int .i64 0, .string (⟨#[]⟩ : ByteArray), .string (⟨#[]⟩ : ByteArray), .int .i64 0] 25 (0, 0)) (by (with_reducible repeat (first | refine bN ?_ _ | refine bD ?_ | refine bA ?_ _)); exact BK136.out) hb); have n3_ := A0 (below_step (by repeat (first | (with_reducible first | exact HB.out | apply wA | apply wN | apply wD | refine bS ?_ GE134.out | refine bS ?_ GE135.out | refine bS ?_ GE136.out) | exact HB.out)) hb); clear BK134; clear BK135; clear BK136; clear HB; have BK134 := n0_; have BK135 := n1_; have BK136 := n2_; have HB := n3_; clear n0_ n1_ n2_ n3_; (try clear hb); (try clear hb2); (try clear hk); (try clear hi)))
   go_meet
   case rel => exact ⟨_, (!t138), (by first | rfl | (simp; done) | (simp [*]; done)), H', ⟨by first | omega | exact Nat.le_refl _⟩, ⟨by (with_reducible repeat (first | refine bN ?_ _ | refine bD ?_ | refine bA ?_ _)); exact BK134.out⟩, ⟨by (with_reducible repeat (first | refine bN ?_ _ | refine bD ?_ | refine bA ?_ _)); exact BK135.out⟩, ⟨by (with_reducible repeat (first | refine bN ?_ _ | refine bD ?_ | refine bA ?_ _)); exact BK136.out⟩, ⟨by repeat (first | (with_reducible first | exact HB.out | apply wA | apply wN | apply wD | refine bS ?_ GE134.out | refine bS ?_ GE135.out | refine bS ?_ GE136.out) | exact HB.out)⟩⟩
  ·replace c10 := Bool.eq_false_iff.mpr c10
   subst c10
   have H1 : (impl_Laid.j0 k true a0_0 a0_1 a0_2 a0_3 a0_4 a0_5 a1_0 a1_1 a1_2 a1_3 a1_4 a1_5) = some (r1, r2, r3, r4, r5, r6) := by rw [if_neg (show ¬ (false = true) by decide)] at H; exact H
   clear H
   have H := H1
   clear H1
   have H' := Aside0.mk H
   clear H
   have hnb19 := NB134_135.out
   have hnc19 := NB135_134.out
   have hnb20 := NB134_136.out
   have hnc20 := NB136_134.out
   have hcz21_0 : w8.cell? ⟨gb134, 0, none⟩ = some (.int .i64 a0_0) := bC BK134.out 0 rfl
   have hcz21_1 : w8.cell? ⟨gb134, 1, none⟩ = some (.int .i64 a0_1) := bC BK134.out 1 rfl
   have hcz21_2 : w8.cell? ⟨gb134, 2, none⟩ = some (.int .i64 a0_2) := bC BK134.out 2 rfl
   have hcz21_3 : w8.cell? ⟨gb134, 3, none⟩ = some (.string a0_3) := bC BK134.out 3 rfl
   have hcz21_4 : w8.cell? ⟨gb134, 4, none⟩ = some (.string a0_4) := bC BK134.out 4 rfl
   have hcz21_5 : w8.cell? ⟨gb134, 5, none⟩ = some (.int .i64 a0_5) := bC BK134.out 5 rfl
   have hfz21_0 := blk_frozen BK134.out 0
   have hfz21_1 := blk_frozen BK134.out 1
   have hfz21_2 := blk_frozen BK134.out 2
   have hfz21_3 := blk_frozen BK134.out 3
   have hfz21_4 := blk_frozen BK134.out 4
   have hfz21_5 := blk_frozen BK134.out 5
   go_wp2_with (first | ((with_reducible refine gate_callee (f := 13) rfl ?_); refine goesL_ (some 7) rfl rfl Tryd.func13 (by kernel_rfl) rfl #[.agg #[.int .i64 a0_0, .int .i64 a0_1, .int .i64 a0_2, .string a0_3, .string a0_4, .int .i64 a0_5]] rfl (by (try simp only [lM, lC, lN]); first | done | rfl | (simp only [lD, lT]; rfl)) ?_; (with_reducible refine (impl_SkyOk.calls k a0_0 a0_1 a0_2 a0_3 a0_4 a0_5 l2 l3 false _ ?side1 ?side2 ?side3 ?side4 A9.out).mono ?_); (case side1 => repeat (first | exact (Kd.C_below HR2.out HB.out) | (with_reducible refine Kd.C_alloc ?_ _) | (with_reducible refine Kd.C_drewN ?_ _) | (with_reducible refine Kd.C_drew ?_))); (case side2 => exact HC2.out); (case side3 => repeat (first | exact (Kd.C_below HR3.out HB.out) | (with_reducible refine Kd.C_alloc ?_ _) | (with_reducible refine Kd.C_drewN ?_ _) | (with_reducible refine Kd.C_drew ?_))); (case side4 => exact HC3.out); rintro e w22 ⟨rfl, hb⟩; refine ⟨_, rfl, ?_⟩; have n0_ := A0 (blk_below (g := gb134) (o := .cells #[.int .i64 a0_0, .int .i64 a0_1, .int .i64 a0_2, .string a0_3, .string a0_4, .int .i64 a0_5] 25 (0, 0)) (by (with_reducible repeat (first | refine bN ?_ _ | refine bD ?_ | refine bA ?_ _)); exact BK134.out) hb); have n1_ := A0 (blk_below (g := gb135) (o := .cells #[.int .i64 a1_0, .int .i64 a1_1, .int .i64 a1_2, .string a1_3, .string a1_4, .int .i64 a1_5] 25 (0, 0)) (by (with_reducible repeat (first | refine bN ?_ _ | refine bD ?_ | refine bA ?_ _)); exact BK135.out) hb); have n2_ := A0 (blk_below (g := gb136) (o := .cells #[.int .i64 0, .int .i64 0, .int .i64 0, .string (⟨#[]⟩ : ByteArray), .string (⟨#[]⟩ : ByteArray), .int .i64 0] 25 (0, 0)) (by (with_reducible repeat (first | refine bN ?_ _ | refine bD ?_ | refine bA ?_ _)); exact BK136.out) hb); have n3_ := A0 (below_step (by repeat (first | (with_reducible first | exact HB.out | apply wA | apply wN | apply wD | refine bS ?_ GE134.out | refine bS ?_ GE135.out | refine bS ?_ GE136.out) | exact HB.out)) hb); clear BK134; clear BK135; clear BK136; clear HB; have BK134 := n0_; have BK135 := n1_; have BK136 := n2_; have HB := n3_; clear n0_ n1_ n2_ n3_; (try clear hb); (try clear hb2); (try clear hk); (try clear hi)))
   go_meet
   case rel => exact ⟨_, (true), (by first | rfl | (simp; done) | (simp [*]; done)), H', ⟨by first | omega | exact Nat.le_refl _⟩, ⟨by (with_reducible repeat (first | refine bN ?_ _ | refine bD ?_ | refine bA ?_ _)); exact BK134.out⟩, ⟨by (with_reducible repeat (first | refine bN ?_ _ | refine bD ?_ | refine bA ?_ _)); exact BK135.out⟩, ⟨by (with_reducible repeat (first | refine bN ?_ _ | refine bD ?_ | refine bA ?_ _)); exact BK136.out⟩, ⟨by repeat (first | (with_reducible first | exact HB.out | apply wA | apply wN | apply wD | refine bS ?_ GE134.out | refine bS ?_ GE135.out | refine bS ?_ GE136.out) | exact HB.out)⟩⟩
 case rest =>
  clear HC5
  try clear c1
  try clear c2
  try clear p2
  try clear c3
  try clear c8
  try clear c10
  try clear c12
  try clear c13
  try clear c16
  try clear c19
  try clear c20
  try clear hcz14_0
  try clear hcz14_1
  try clear hcz14_2
  try clear hcz14_3
  try clear hcz14_4
  try clear hcz14_5
  try clear hcz17_0
  try clear hcz17_1
  try clear hcz17_2
  try clear hcz17_3
  try clear hcz17_4
  try clear hcz17_5
  try clear hcz21_0
  try clear hcz21_1
  try clear hcz21_2
  try clear hcz21_3
  try clear hcz21_4
  try clear hcz21_5
  try clear hfz14_0
  try clear hfz14_1
  try clear hfz14_2
  try clear hfz14_3
  try clear hfz14_4
  try clear hfz14_5
  try clear hfz17_0
  try clear hfz17_1
  try clear hfz17_2
  try clear hfz17_3
  try clear hfz17_4
  try clear hfz17_5
  try clear hfz21_0
  try clear hfz21_1
  try clear hfz21_2
  try clear hfz21_3
  try clear hfz21_4
  try clear hfz21_5
  obtain ⟨kq, x13_4, rfl, HA, HJ4, BK134, BK135, BK136, HB⟩ := hcut
  cases kq with
  | zero => exact absurd HA.out (by simp [impl_Laid.j0])
  | succ kj4 =>
   have H := HA.out
   clear HA
   simp only [impl_Laid.j0] at H
   by_cases c23 : x13_4 = true
   ·subst c23
    have H1 : (some (0, 0, 0, (⟨#[]⟩ : ByteArray), (⟨#[]⟩ : ByteArray), 0)) = some (r1, r2, r3, r4, r5, r6) := by rw [if_pos rfl] at H; exact H
    clear H
    have H := H1
    clear H1
    simp only [Option.some.injEq, Prod.mk.injEq] at H
    obtain ⟨rfl, rfl, rfl, rfl, rfl, rfl⟩ := H
    have hnb24 := NB136_134.out
    have hnc24 := NB134_136.out
    have hnb25 := NB136_135.out
    have hnc25 := NB135_136.out
    have hcz26_0 : wc.cell? ⟨gb136, 0, none⟩ = some (.int .i64 0) := bC BK136.out 0 rfl
    have hcz26_1 : wc.cell? ⟨gb136, 1, none⟩ = some (.int .i64 0) := bC BK136.out 1 rfl
    have hcz26_2 : wc.cell? ⟨gb136, 2, none⟩ = some (.int .i64 0) := bC BK136.out 2 rfl
    have hcz26_3 : wc.cell? ⟨gb136, 3, none⟩ = some (.string (⟨#[]⟩ : ByteArray)) := bC BK136.out 3 rfl
    have hcz26_4 : wc.cell? ⟨gb136, 4, none⟩ = some (.string (⟨#[]⟩ : ByteArray)) := bC BK136.out 4 rfl
    have hcz26_5 : wc.cell? ⟨gb136, 5, none⟩ = some (.int .i64 0) := bC BK136.out 5 rfl
    have hfz26_0 := blk_frozen BK136.out 0
    have hfz26_1 := blk_frozen BK136.out 1
    have hfz26_2 := blk_frozen BK136.out 2
    have hfz26_3 := blk_frozen BK136.out 3
    have hfz26_4 := blk_frozen BK136.out 4
    have hfz26_5 := blk_frozen BK136.out 5
    go_wp2
    refine bodyPost_ret (results_cell_row rfl _ _ gb136 25 #[.int .i64 0, .int .i64 0, .int .i64 0, .string (⟨#[]⟩ : ByteArray), .string (⟨#[]⟩ : ByteArray), .int .i64 0] (0, 0) _ rfl (by (with_reducible repeat (first | refine bN ?_ _ | refine bD ?_ | refine bA ?_ _)); refine blk_put (cs := #[.int .i64 0, .int .i64 0, .int .i64 0, .string (⟨#[]⟩ : ByteArray), .string (⟨#[]⟩ : ByteArray), .int .i64 0]) ?_ 5 _ rfl; (with_reducible repeat (first | refine bN ?_ _ | refine bD ?_ | refine bA ?_ _)); refine blk_put (cs := #[.int .i64 0, .int .i64 0, .int .i64 0, .string (⟨#[]⟩ : ByteArray), .string (⟨#[]⟩ : ByteArray), .int .i64 0]) ?_ 4 _ rfl; (with_reducible repeat (first | refine bN ?_ _ | refine bD ?_ | refine bA ?_ _)); refine blk_put (cs := #[.int .i64 0, .int .i64 0, .int .i64 0, .string (⟨#[]⟩ : ByteArray), .string (⟨#[]⟩ : ByteArray), .int .i64 0]) ?_ 3 _ rfl; (with_reducible repeat (first | refine bN ?_ _ | refine bD ?_ | refine bA ?_ _)); refine blk_put (cs := #[.int .i64 0, .int .i64 0, .int .i64 0, .string (⟨#[]⟩ : ByteArray), .string (⟨#[]⟩ : ByteArray), .int .i64 0]) ?_ 2 _ rfl; (with_reducible repeat (first | refine bN ?_ _ | refine bD ?_ | refine bA ?_ _)); refine blk_put (cs := #[.int .i64 0, .int .i64 0, .int .i64 0, .string (⟨#[]⟩ : ByteArray), .string (⟨#[]⟩ : ByteArray), .int .i64 0]) ?_ 1 _ rfl; (with_reducible repeat (first | refine bN ?_ _ | refine bD ?_ | refine bA ?_ _)); refine blk_put (cs := #[.int .i64 0, .int .i64 0, .int .i64 0, .string (⟨#[]⟩ : ByteArray), .string (⟨#[]⟩ : ByteArray), .int .i64 0]) ?_ 0 _ rfl; (with_reducible repeat (first | refine bN ?_ _ | refine bD ?_ | refine bA ?_ _)); exact BK136.out) Tryd.underlying25 rfl (by kernel_rfl)) rfl ?_
    exact ⟨by first | rfl | (simp [errW_none, errW_some] <;> rfl) | (simp [*, errW_none, errW_some] <;> rfl), by repeat (first | (with_reducible first | exact HB.out | apply wA | apply wN | apply wD | refine bS ?_ GE134.out | refine bS ?_ GE135.out | refine bS ?_ GE136.out) | exact HB.out)⟩
   ·replace c23 := Bool.eq_false_iff.mpr c23
    subst c23
    have H1 : ((impl_said.f a1_0 a1_1 a1_2 a1_3 a1_4 a1_5).bind fun bt139 => (if bt139.1 = true then (impl_Laid.j1 kj4 a1_0 a1_1 a0_2 a0_3 a0_4 a0_5 a1_0 a1_1 a1_2 a1_3 a1_4 a1_5 bt139.1 bt139.2.1 bt139.2.2.1 bt139.2.2.2) else (impl_Laid.j1 kj4 a0_0 a0_1 a0_2 a0_3 a0_4 a0_5 a1_0 a1_1 a1_2 a1_3 a1_4 a1_5 bt139.1 bt139.2.1 bt139.2.2.1 bt139.2.2.2))) = some (r1, r2, r3, r4, r5, r6) := by rw [if_neg (show ¬ (false = true) by decide)] at H; exact H
    clear H
    have H := H1
    clear H1
    replace H := Option.bind_eq_some_iff.mp H
    obtain ⟨⟨t139, t140, t141, t142⟩, A270, H⟩ := H
    replace H : (if t139 = true then (impl_Laid.j1 kj4 a1_0 a1_1 a0_2 a0_3 a0_4 a0_5 a1_0 a1_1 a1_2 a1_3 a1_4 a1_5 t139 t140 t141 t142) else (impl_Laid.j1 kj4 a0_0 a0_1 a0_2 a0_3 a0_4 a0_5 a1_0 a1_1 a1_2 a1_3 a1_4 a1_5 t139 t140 t141 t142)) = some (r1, r2, r3, r4, r5, r6) := H
    have A27 := Aside0.mk A270
    clear A270
    have HC28 := Aside0.mk H
    clear H
    have hnb29 := NB135_134.out
    have hnc29 := NB134_135.out
    have hnb30 := NB135_136.out
    have hnc30 := NB136_135.out
    have hcz31_0 : wc.cell? ⟨gb135, 0, none⟩ = some (.int .i64 a1_0) := bC BK135.out 0 rfl
    have hcz31_1 : wc.cell? ⟨gb135, 1, none⟩ = some (.int .i64 a1_1) := bC BK135.out 1 rfl
    have hcz31_2 : wc.cell? ⟨gb135, 2, none⟩ = some (.int .i64 a1_2) := bC BK135.out 2 rfl
    have hcz31_3 : wc.cell? ⟨gb135, 3, none⟩ = some (.string a1_3) := bC BK135.out 3 rfl
    have hcz31_4 : wc.cell? ⟨gb135, 4, none⟩ = some (.string a1_4) := bC BK135.out 4 rfl
    have hcz31_5 : wc.cell? ⟨gb135, 5, none⟩ = some (.int .i64 a1_5) := bC BK135.out 5 rfl
    have hfz31_0 := blk_frozen BK135.out 0
    have hfz31_1 := blk_frozen BK135.out 1
    have hfz31_2 := blk_frozen BK135.out 2
    have hfz31_3 := blk_frozen BK135.out 3
    have hfz31_4 := blk_frozen BK135.out 4
    have hfz31_5 := blk_frozen BK135.out 5
    go_upto_if 18 with (first | ((with_reducible refine gate_callee (f := 14) rfl ?_); refine goesL_ (some 16) rfl rfl Tryd.func14 (by kernel_rfl) rfl #[.agg #[.int .i64 a1_0, .int .i64 a1_1, .int .i64 a1_2, .string a1_3, .string a1_4, .int .i64 a1_5]] rfl (by (try simp only [lM, lC, lN]); first | done | rfl | (simp only [lD, lT]; rfl)) ?_; (with_reducible refine (impl_said.calls a1_0 a1_1 a1_2 a1_3 a1_4 a1_5 t139 t140 t141 t142 _ A27.out).mono ?_); rintro e w32 ⟨rfl, hb⟩; refine ⟨_, rfl, ?_⟩; have n0_ := A0 (blk_below (g := gb134) (o := .cells #[.int .i64 a0_0, .int .i64 a0_1, .int .i64 a0_2, .string a0_3, .string a0_4, .int .i64 a0_5] 25 (0, 0)) (by (with_reducible repeat (first | refine bN ?_ _ | refine bD ?_ | refine bA ?_ _)); exact BK134.out) hb); have n1_ := A0 (blk_below (g := gb135) (o := .cells #[.int .i64 a1_0, .int .i64 a1_1, .int .i64 a1_2, .string a1_3, .string a1_4, .int .i64 a1_5] 25 (0, 0)) (by (with_reducible repeat (first | refine bN ?_ _ | refine bD ?_ | refine bA ?_ _)); exact BK135.out) hb); have n2_ := A0 (blk_below (g := gb136) (o := .cells #[.int .i64 0, .int .i64 0, .int .i64 0, .string (⟨#[]⟩ : ByteArray), .string (⟨#[]⟩ : ByteArray), .int .i64 0] 25 (0, 0)) (by (with_reducible repeat (first | refine bN ?_ _ | refine bD ?_ | refine bA ?_ _)); exact BK136.out) hb); have n3_ := A0 (below_step (by repeat (first | (with_reducible first | exact HB.out | apply wA | apply wN | apply wD | refine bS ?_ GE134.out | refine bS ?_ GE135.out | refine bS ?_ GE136.out) | exact HB.out)) hb); clear BK134; clear BK135; clear BK136; clear HB; have BK134 := n0_; have BK135 := n1_; have BK136 := n2_; have HB := n3_; clear n0_ n1_ n2_ n3_; (try clear hb); (try clear hb2); (try clear hk); (try clear hi)) | ((with_reducible refine gate_dst (N := 5) rfl ?_); refine box_event ?hg (N := 5) ?hd (cs := #[.bool false, .bool false, .bool false, .bool false]) (t := 35) ?hr ?_; (case hd => rfl); (case hg => rfl); (case hr => first | (go_simp; done) | (go_simp; rfl)); intro gb143 hg w33 hbox hb; have n0_ := A0 (blk_below (g := gb134) (o := .cells #[.int .i64 a0_0, .int .i64 a0_1, .int .i64 a0_2, .string a0_3, .string a0_4, .int .i64 a0_5] 25 (0, 0)) (by (with_reducible repeat (first | refine bN ?_ _ | refine bD ?_ | refine bA ?_ _)); exact BK134.out) hb); have n1_ := A0 (blk_below (g := gb135) (o := .cells #[.int .i64 a1_0, .int .i64 a1_1, .int .i64 a1_2, .string a1_3, .string a1_4, .int .i64 a1_5] 25 (0, 0)) (by (with_reducible repeat (first | refine bN ?_ _ | refine bD ?_ | refine bA ?_ _)); exact BK135.out) hb); have n2_ := A0 (blk_below (g := gb136) (o := .cells #[.int .i64 0, .int .i64 0, .int .i64 0, .string (⟨#[]⟩ : ByteArray), .string (⟨#[]⟩ : ByteArray), .int .i64 0] 25 (0, 0)) (by (with_reducible repeat (first | refine bN ?_ _ | refine bD ?_ | refine bA ?_ _)); exact BK136.out) hb); have n3_ := A0 (below_step (by repeat (first | (with_reducible first | exact HB.out | apply wA | apply wN | apply wD | refine bS ?_ GE134.out | refine bS ?_ GE135.out | refine bS ?_ GE136.out) | exact HB.out)) hb); have n4_ := A0 (hbox); have n5_ := A0 ((by rw [hg]; exact (below_size (by repeat (first | (with_reducible first | exact HB.out | apply wA | apply wN | apply wD | refine bS ?_ GE134.out | refine bS ?_ GE135.out | refine bS ?_ GE136.out) | exact HB.out))) : w.heap.size ≤ gb143)); have n6_ := A0 ((by rw [hg]; exact (below_size (by repeat (first | (with_reducible first | exact HB.out | apply wA | apply wN | apply wD | refine bS ?_ GE134.out | refine bS ?_ GE135.out | refine bS ?_ GE136.out) | exact HB.out))) : w.heap.size ≤ gb143)); have n7_ := A0 ((by rw [hg]; exact Nat.ne_of_lt (blk_lt (g := gb134) (o := .cells #[.int .i64 a0_0, .int .i64 a0_1, .int .i64 a0_2, .string a0_3, .string a0_4, .int .i64 a0_5] 25 (0, 0)) (by (with_reducible repeat (first | refine bN ?_ _ | refine bD ?_ | refine bA ?_ _)); exact BK134.out)) : gb134 ≠ gb143)); have n8_ := A0 ((by rw [hg]; exact Nat.ne_of_gt (blk_lt (g := gb134) (o := .cells #[.int .i64 a0_0, .int .i64 a0_1, .int .i64 a0_2, .string a0_3, .string a0_4, .int .i64 a0_5] 25 (0, 0)) (by (with_reducible repeat (first | refine bN ?_ _ | refine bD ?_ | refine bA ?_ _)); exact BK134.out)) : gb143 ≠ gb134)); have n9_ := A0 ((by rw [hg]; exact Nat.ne_of_lt (blk_lt (g := gb135) (o := .cells #[.int .i64 a1_0, .int .i64 a1_1, .int .i64 a1_2, .string a1_3, .string a1_4, .int .i64 a1_5] 25 (0, 0)) (by (with_reducible repeat (first | refine bN ?_ _ | refine bD ?_ | refine bA ?_ _)); exact BK135.out)) : gb135 ≠ gb143)); have n10_ := A0 ((by rw [hg]; exact Nat.ne_of_gt (blk_lt (g := gb135) (o := .cells #[.int .i64 a1_0, .int .i64 a1_1, .int .i64 a1_2, .string a1_3, .string a1_4, .int .i64 a1_5] 25 (0, 0)) (by (with_reducible repeat (first | refine bN ?_ _ | refine bD ?_ | refine bA ?_ _)); exact BK135.out)) : gb143 ≠ gb135)); have n11_ := A0 ((by rw [hg]; exact Nat.ne_of_lt (blk_lt (g := gb136) (o := .cells #[.int .i64 0, .int .i64 0, .int .i64 0, .string (⟨#[]⟩ : ByteArray), .string (⟨#[]⟩ : ByteArray), .int .i64 0] 25 (0, 0)) (by (with_reducible repeat (first | refine bN ?_ _ | refine bD ?_ | refine bA ?_ _)); exact BK136.out)) : gb136 ≠ gb143)); have n12_ := A0 ((by rw [hg]; exact Nat.ne_of_gt (blk_lt (g := gb136) (o := .cells #[.int .i64 0, .int .i64 0, .int .i64 0, .string (⟨#[]⟩ : ByteArray), .string (⟨#[]⟩ : ByteArray), .int .i64 0] 25 (0, 0)) (by (with_reducible repeat (first | refine bN ?_ _ | refine bD ?_ | refine bA ?_ _)); exact BK136.out)) : gb143 ≠ gb136)); clear BK134; clear BK135; clear BK136; clear HB; have BK134 := n0_; have BK135 := n1_; have BK136 := n2_; have HB := n3_; have BK143 := n4_; have GW143 := n5_; have GE143 := n6_; have NB134_143 := n7_; have NB143_134 := n8_; have NB135_143 := n9_; have NB143_135 := n10_; have NB136_143 := n11_; have NB143_136 := n12_; clear n0_ n1_ n2_ n3_ n4_ n5_ n6_ n7_ n8_ n9_ n10_ n11_ n12_; clear hb hbox hg; have hnb34 := NB143_134.out; have hnc34 := NB134_143.out; have hnb35 := NB143_135.out; have hnc35 := NB135_143.out; have hnb36 := NB143_136.out; have hnc36 := NB136_143.out; have hcz37_0 : w33.cell? ⟨gb143, 0, none⟩ = some (.bool false) := bC BK143.out 0 rfl; have hcz37_1 : w33.cell? ⟨gb143, 1, none⟩ = some (.bool false) := bC BK143.out 1 rfl; have hcz37_2 : w33.cell? ⟨gb143, 2, none⟩ = some (.bool false) := bC BK143.out 2 rfl; have hcz37_3 : w33.cell? ⟨gb143, 3, none⟩ = some (.bool false) := bC BK143.out 3 rfl; have hfz37_0 := blk_frozen BK143.out 0; have hfz37_1 := blk_frozen BK143.out 1; have hfz37_2 := blk_frozen BK143.out 2; have hfz37_3 := blk_frozen BK143.out 3))
    (try simp only [Act.put, sqA, sqZ, sqS])
    go_cut [] (fun wc => ∃ (kq : Nat) (x135000_27 : Int) (x135001_27 : Int), Aside0 (impl_Laid.j1 kq x135000_27 x135001_27 a0_2 a0_3 a0_4 a0_5 a1_0 a1_1 a1_2 a1_3 a1_4 a1_5 t139 t140 t141 t142 = some (r1, r2, r3, r4, r5, r6)) ∧ Aside0 (kq ≤ kj4) ∧ Aside0 (wc.heap[gb134]? = some (.cells #[.int .i64 x135000_27, .int .i64 x135001_27, .int .i64 a0_2, .string a0_3, .string a0_4, .int .i64 a0_5] 25 (0, 0))) ∧ Aside0 (wc.heap[gb135]? = some (.cells #[.int .i64 a1_0, .int .i64 a1_1, .int .i64 a1_2, .string a1_3, .string a1_4, .int .i64 a1_5] 25 (0, 0))) ∧ Aside0 (wc.heap[gb136]? = some (.cells #[.int .i64 0, .int .i64 0, .int .i64 0, .string (⟨#[]⟩ : ByteArray), .string (⟨#[]⟩ : ByteArray), .int .i64 0] 25 (0, 0))) ∧ Aside0 (wc.heap[gb143]? = some (.cells #[.bool t139, .bool t140, .bool t141, .bool t142] 35 (0, 0))) ∧ Aside0 (Below w.heap.size w wc))
    case first =>
     have H := HC28.out
     clear HC28
     by_cases c38 : t139 = true
     ·subst c38
      have H1 : (impl_Laid.j1 kj4 a1_0 a1_1 a0_2 a0_3 a0_4 a0_5 a1_0 a1_1 a1_2 a1_3 a1_4 a1_5 true t140 t141 t142) = some (r1, r2, r3, r4, r5, r6) := by rw [if_pos rfl] at H; exact H
      clear H
      have H := H1
      clear H1
      have H' := Aside0.mk H
      clear H
      try go_wp2
      have n0_ : Aside0 (((((w33.setCell ⟨gb143, 0, none⟩ (.bool true)).setCell ⟨gb143, 1, none⟩ (.bool t140)).setCell ⟨gb143, 2, none⟩ (.bool t141)).setCell ⟨gb143, 3, none⟩ (.bool t142)).heap[gb134]? = some (.cells #[.int .i64 a0_0, .int .i64 a0_1, .int .i64 a0_2, .string a0_3, .string a0_4, .int .i64 a0_5] 25 (0, 0))) := ⟨by (with_reducible repeat (first | refine bN ?_ _ | refine bD ?_ | refine bA ?_ _)); refine blk_far ?_ NB134_143.out _; (with_reducible repeat (first | refine bN ?_ _ | refine bD ?_ | refine bA ?_ _)); refine blk_far ?_ NB134_143.out _; (with_reducible repeat (first | refine bN ?_ _ | refine bD ?_ | refine bA ?_ _)); refine blk_far ?_ NB134_143.out _; (with_reducible repeat (first | refine bN ?_ _ | refine bD ?_ | refine bA ?_ _)); refine blk_far ?_ NB134_143.out _; (with_reducible repeat (first | refine bN ?_ _ | refine bD ?_ | refine bA ?_ _)); exact BK134.out⟩
      have n1_ : Aside0 (((((w33.setCell ⟨gb143, 0, none⟩ (.bool true)).setCell ⟨gb143, 1, none⟩ (.bool t140)).setCell ⟨gb143, 2, none⟩ (.bool t141)).setCell ⟨gb143, 3, none⟩ (.bool t142)).heap[gb135]? = some (.cells #[.int .i64 a1_0, .int .i64 a1_1, .int .i64 a1_2, .string a1_3, .string a1_4, .int .i64 a1_5] 25 (0, 0))) := ⟨by (with_reducible repeat (first | refine bN ?_ _ | refine bD ?_ | refine bA ?_ _)); refine blk_far ?_ NB135_143.out _; (with_reducible repeat (first | refine bN ?_ _ | refine bD ?_ | refine bA ?_ _)); refine blk_far ?_ NB135_143.out _; (with_reducible repeat (first | refine bN ?_ _ | refine bD ?_ | refine bA ?_ _)); refine blk_far ?_ NB135_143.out _; (with_reducible repeat (first | refine bN ?_ _ | refine bD ?_ | refine bA ?_ _)); refine blk_far ?_ NB135_143.out _; (with_reducible repeat (first | refine bN ?_ _ | refine bD ?_ | refine bA ?_ _)); exact BK135.out⟩
      have n2_ : Aside0 (((((w33.setCell ⟨gb143, 0, none⟩ (.bool true)).setCell ⟨gb143, 1, none⟩ (.bool t140)).setCell ⟨gb143, 2, none⟩ (.bool t141)).setCell ⟨gb143, 3, none⟩ (.bool t142)).heap[gb136]? = some (.cells #[.int .i64 0, .int .i64 0, .int .i64 0, .string (⟨#[]⟩ : ByteArray), .string (⟨#[]⟩ : ByteArray), .int .i64 0] 25 (0, 0))) := ⟨by (with_reducible repeat (first | refine bN ?_ _ | refine bD ?_ | refine bA ?_ _)); refine blk_far ?_ NB136_143.out _; (with_reducible repeat (first | refine bN ?_ _ | refine bD ?_ | refine bA ?_ _)); refine blk_far ?_ NB136_143.out _; (with_reducible repeat (first | refine bN ?_ _ | refine bD ?_ | refine bA ?_ _)); refine blk_far ?_ NB136_143.out _; (with_reducible repeat (first | refine bN ?_ _ | refine bD ?_ | refine bA ?_ _)); refine blk_far ?_ NB136_143.out _; (with_reducible repeat (first | refine bN ?_ _ | refine bD ?_ | refine bA ?_ _)); exact BK136.out⟩
      have n3_ : Aside0 (((((w33.setCell ⟨gb143, 0, none⟩ (.bool true)).setCell ⟨gb143, 1, none⟩ (.bool t140)).setCell ⟨gb143, 2, none⟩ (.bool t141)).setCell ⟨gb143, 3, none⟩ (.bool t142)).heap[gb143]? = some (.cells #[.bool true, .bool t140, .bool t141, .bool t142] 35 (0, 0))) := ⟨by (with_reducible repeat (first | refine bN ?_ _ | refine bD ?_ | refine bA ?_ _)); refine blk_put (cs := #[.bool true, .bool t140, .bool t141, .bool false]) ?_ 3 _ rfl; (with_reducible repeat (first | refine bN ?_ _ | refine bD ?_ | refine bA ?_ _)); refine blk_put (cs := #[.bool true, .bool t140, .bool false, .bool false]) ?_ 2 _ rfl; (with_reducible repeat (first | refine bN ?_ _ | refine bD ?_ | refine bA ?_ _)); refine blk_put (cs := #[.bool true, .bool false, .bool false, .bool false]) ?_ 1 _ rfl; (with_reducible repeat (first | refine bN ?_ _ | refine bD ?_ | refine bA ?_ _)); refine blk_put (cs := #[.bool false, .bool false, .bool false, .bool false]) ?_ 0 _ rfl; (with_reducible repeat (first | refine bN ?_ _ | refine bD ?_ | refine bA ?_ _)); exact BK143.out⟩
      have n4_ : Aside0 (Below w.heap.size w ((((w33.setCell ⟨gb143, 0, none⟩ (.bool true)).setCell ⟨gb143, 1, none⟩ (.bool t140)).setCell ⟨gb143, 2, none⟩ (.bool t141)).setCell ⟨gb143, 3, none⟩ (.bool t142))) := ⟨by repeat (first | (with_reducible first | exact HB.out | apply wA | apply wN | apply wD | refine bS ?_ GE134.out | refine bS ?_ GE135.out | refine bS ?_ GE136.out | refine bS ?_ GE143.out) | exact HB.out)⟩
      (try clear BK134)
      (try clear BK135)
      (try clear BK136)
      (try clear BK143)
      (try clear HB)
      generalize ((((w33.setCell ⟨gb143, 0, none⟩ (.bool true)).setCell ⟨gb143, 1, none⟩ (.bool t140)).setCell ⟨gb143, 2, none⟩ (.bool t141)).setCell ⟨gb143, 3, none⟩ (.bool t142)) = w39 at n0_ n1_ n2_ n3_ n4_ ⊢
      have BK134 := n0_
      have BK135 := n1_
      have BK136 := n2_
      have BK143 := n3_
      have HB := n4_
      clear n0_ n1_ n2_ n3_ n4_
      have n0_ := A0 (blk_drew BK134.out)
      have n1_ := A0 (blk_drew BK135.out)
      have n2_ := A0 (blk_drew BK136.out)
      have n3_ := A0 (blk_drew BK143.out)
      have n4_ := A0 (below_drew1 HB.out)
      clear BK134
      clear BK135
      clear BK136
      clear BK143
      clear HB
      have BK134 := n0_
      have BK135 := n1_
      have BK136 := n2_
      have BK143 := n3_
      have HB := n4_
      clear n0_ n1_ n2_ n3_ n4_
      refine start_ (n := 8) (S := fun w' => w'.cell? ⟨gb135, 0, none⟩ = some (.int .i64 a1_0) ∧ w'.cell? ⟨gb135, 1, none⟩ = some (.int .i64 a1_1) ∧ w'.cell? ⟨gb135, 2, none⟩ = some (.int .i64 a1_2) ∧ w'.cell? ⟨gb135, 3, none⟩ = some (.string a1_3) ∧ w'.cell? ⟨gb135, 4, none⟩ = some (.string a1_4) ∧ w'.cell? ⟨gb135, 5, none⟩ = some (.int .i64 a1_5)) (ds := []) #[false, false, false, false, false, false, false, false] (by kernel_rfl) rfl rfl ⟨bC BK135.out 0 rfl, bC BK135.out 1 rfl, bC BK135.out 2 rfl, bC BK135.out 3 rfl, bC BK135.out 4 rfl, bC BK135.out 5 rfl⟩ (fun hHeld => ?_); refine with_tabW impl_Laid.tab5 impl_Laid.bits5 (fun HT_ HW_ => ?_)
      generalize w39.drew = w40 at BK134 BK135 BK136 BK143 HB hHeld ⊢
      refine pure_ (i := 0) (N := some 19) (v := ?_) (a' := ?_) #[true, false, false, false, false, false, false, false] rfl rfl (any_of HT_.out (by kernel_rfl)) (fun _ _ _ h => h) (Or.inl ⟨by rfl, ?_⟩) ?_ ?_
      rotate_left
      ·intro w'
       go_simp
       with_reducible rfl
      rotate_left
      ·simp only [Act.put, sqA, sqZ, sqS, i64_w, i32_w]
       rfl
      refine pure_ (i := 2) (N := some 21) (v := ?_) (a' := ?_) #[true, false, true, false, false, false, false, false] rfl rfl (any_of HT_.out (by kernel_rfl)) (fun _ _ _ h => h) (Or.inl ⟨by rfl, ?_⟩) ?_ ?_
      rotate_left
      ·intro w'
       go_simp
       with_reducible rfl
      rotate_left
      ·simp only [Act.put, sqA, sqZ, sqS, i64_w, i32_w]
       rfl
      refine take_ (i := 1) (N := some 20) (v := ?_) (a' := ?_) #[true, true, true, false, false, false, false, false] rfl rfl (take_ofW HT_.out HW_.out (by kernel_rfl)) (fun _ _ _ h => h) (Or.inl ⟨by rfl, ?_⟩) hHeld ?_ ?_
      rotate_left
      ·rintro w' ⟨s0, s1, s2, s3, s4, s5⟩
       go_simp
       with_reducible rfl
      rotate_left
      ·simp only [Act.put, sqA, sqZ, sqS, i64_w, i32_w]
       rfl
      refine pure_ (i := 4) (N := some 23) (v := ?_) (a' := ?_) #[true, true, true, false, true, false, false, false] rfl rfl (any_of HT_.out (by kernel_rfl)) (fun _ _ _ h => h) (Or.inl ⟨by rfl, ?_⟩) ?_ ?_
      rotate_left
      ·intro w'
       go_simp
       with_reducible rfl
      rotate_left
      ·simp only [Act.put, sqA, sqZ, sqS, i64_w, i32_w]
       rfl
      refine take_ (i := 3) (N := some 22) (v := ?_) (a' := ?_) #[true, true, true, true, true, false, false, false] rfl rfl (take_ofW HT_.out HW_.out (by kernel_rfl)) (fun _ _ _ h => h) (Or.inl ⟨by rfl, ?_⟩) hHeld ?_ ?_
      rotate_left
      ·rintro w' ⟨s0, s1, s2, s3, s4, s5⟩
       go_simp
       with_reducible rfl
      rotate_left
      ·simp only [Act.put, sqA, sqZ, sqS, i64_w, i32_w]
       rfl
      refine one_ (i := 5) (N := none) #[true, true, true, true, true, true, false, false] rfl rfl (one_of HT_.out (by kernel_rfl)) (by decide) (fun K hK => ?_)
      have hs41 : w40.cell? ⟨gb134, 0, none⟩ = some (.int .i64 a0_0) := bC BK134.out 0 rfl
      have hfs41 := blk_frozen BK134.out 0
      have hns41_1 := NB135_134.out
      have hns41_2 := NB136_134.out
      have hns41_3 := NB143_134.out
      have hms41_1 := NB134_135.out
      have hms41_2 := NB134_136.out
      have hms41_3 := NB134_143.out
      refine skip_ (w1 := ?_) (by rfl) rfl ?_ ?_
      rotate_left
      ·go_simp
       rfl
      refine hK.out _ _ ⟨((cell_far (p := ⟨gb134, _, none⟩) NB135_134.out _).trans (hHeld.1)), ((cell_far (p := ⟨gb134, _, none⟩) NB135_134.out _).trans (hHeld.2.1)), ((cell_far (p := ⟨gb134, _, none⟩) NB135_134.out _).trans (hHeld.2.2.1)), ((cell_far (p := ⟨gb134, _, none⟩) NB135_134.out _).trans (hHeld.2.2.2.1)), ((cell_far (p := ⟨gb134, _, none⟩) NB135_134.out _).trans (hHeld.2.2.2.2.1)), ((cell_far (p := ⟨gb134, _, none⟩) NB135_134.out _).trans (hHeld.2.2.2.2.2))⟩ (fun hHeld => ?_)
      clear hK K
      refine pure_ (i := 6) (N := some 24) (v := ?_) (a' := ?_) #[true, true, true, true, true, true, true, false] rfl rfl (any_of HT_.out (by kernel_rfl)) (fun _ _ _ h => h) (Or.inl ⟨by rfl, ?_⟩) ?_ ?_
      rotate_left
      ·intro w'
       go_simp
       with_reducible rfl
      rotate_left
      ·simp only [Act.put, sqA, sqZ, sqS, i64_w, i32_w]
       rfl
      refine one_ (i := 7) (N := none) #[true, true, true, true, true, true, true, true] rfl rfl (one_of HT_.out (by kernel_rfl)) (by decide) (fun K hK => ?_)
      have hs42 : w40.cell? ⟨gb134, 1, none⟩ = some (.int .i64 a0_1) := bC BK134.out 1 rfl
      have hfs42 := blk_frozen BK134.out 1
      have hns42_1 := NB135_134.out
      have hns42_2 := NB136_134.out
      have hns42_3 := NB143_134.out
      have hms42_1 := NB134_135.out
      have hms42_2 := NB134_136.out
      have hms42_3 := NB134_143.out
      refine skip_ (w1 := ?_) (by rfl) rfl ?_ ?_
      rotate_left
      ·go_simp
       rfl
      refine hK.out _ _ ⟨((cell_far (p := ⟨gb134, _, none⟩) NB135_134.out _).trans (hHeld.1)), ((cell_far (p := ⟨gb134, _, none⟩) NB135_134.out _).trans (hHeld.2.1)), ((cell_far (p := ⟨gb134, _, none⟩) NB135_134.out _).trans (hHeld.2.2.1)), ((cell_far (p := ⟨gb134, _, none⟩) NB135_134.out _).trans (hHeld.2.2.2.1)), ((cell_far (p := ⟨gb134, _, none⟩) NB135_134.out _).trans (hHeld.2.2.2.2.1)), ((cell_far (p := ⟨gb134, _, none⟩) NB135_134.out _).trans (hHeld.2.2.2.2.2))⟩ (fun hHeld => ?_)
      clear hK K
      refine done_ (done_of HT_.out (by kernel_rfl)) ?_
      try go_wp2
      go_meet
      case rel => exact ⟨_, (a1_0), (a1_1), H', ⟨by have := HJ4.out; first | omega | exact Nat.le_refl _⟩, ⟨by (with_reducible repeat (first | refine bN ?_ _ | refine bD ?_ | refine bA ?_ _)); refine blk_put (cs := #[.int .i64 a1_0, .int .i64 a0_1, .int .i64 a0_2, .string a0_3, .string a0_4, .int .i64 a0_5]) ?_ 1 _ rfl; (with_reducible repeat (first | refine bN ?_ _ | refine bD ?_ | refine bA ?_ _)); refine blk_put (cs := #[.int .i64 a0_0, .int .i64 a0_1, .int .i64 a0_2, .string a0_3, .string a0_4, .int .i64 a0_5]) ?_ 0 _ rfl; (with_reducible repeat (first | refine bN ?_ _ | refine bD ?_ | refine bA ?_ _)); exact BK134.out⟩, ⟨by (with_reducible repeat (first | refine bN ?_ _ | refine bD ?_ | refine bA ?_ _)); refine blk_far ?_ NB135_134.out _; (with_reducible repeat (first | refine bN ?_ _ | refine bD ?_ | refine bA ?_ _)); refine blk_far ?_ NB135_134.out _; (with_reducible repeat (first | refine bN ?_ _ | refine bD ?_ | refine bA ?_ _)); exact BK135.out⟩, ⟨by (with_reducible repeat (first | refine bN ?_ _ | refine bD ?_ | refine bA ?_ _)); refine blk_far ?_ NB136_134.out _; (with_reducible repeat (first | refine bN ?_ _ | refine bD ?_ | refine bA ?_ _)); refine blk_far ?_ NB136_134.out _; (with_reducible repeat (first | refine bN ?_ _ | refine bD ?_ | refine bA ?_ _)); exact BK136.out⟩, ⟨by (with_reducible repeat (first | refine bN ?_ _ | refine bD ?_ | refine bA ?_ _)); refine blk_far ?_ NB143_134.out _; (with_reducible repeat (first | refine bN ?_ _ | refine bD ?_ | refine bA ?_ _)); refine blk_far ?_ NB143_134.out _; (with_reducible repeat (first | refine bN ?_ _ | refine bD ?_ | refine bA ?_ _)); exact BK143.out⟩, ⟨by repeat (first | (with_reducible first | exact HB.out | apply wA | apply wN | apply wD | refine bS ?_ GE134.out | refine bS ?_ GE135.out | refine bS ?_ GE136.out | refine bS ?_ GE143.out) | exact HB.out)⟩⟩
     ·replace c38 := Bool.eq_false_iff.mpr c38
      subst c38
      have H1 : (impl_Laid.j1 kj4 a0_0 a0_1 a0_2 a0_3 a0_4 a0_5 a1_0 a1_1 a1_2 a1_3 a1_4 a1_5 false t140 t141 t142) = some (r1, r2, r3, r4, r5, r6) := by rw [if_neg (show ¬ (false = true) by decide)] at H; exact H
      clear H
      have H := H1
      clear H1
      have H' := Aside0.mk H
      clear H
      go_wp2
      go_meet
      case rel => exact ⟨_, (a0_0), (a0_1), H', ⟨by have := HJ4.out; first | omega | exact Nat.le_refl _⟩, ⟨by (with_reducible repeat (first | refine bN ?_ _ | refine bD ?_ | refine bA ?_ _)); refine blk_far ?_ NB134_143.out _; (with_reducible repeat (first | refine bN ?_ _ | refine bD ?_ | refine bA ?_ _)); refine blk_far ?_ NB134_143.out _; (with_reducible repeat (first | refine bN ?_ _ | refine bD ?_ | refine bA ?_ _)); refine blk_far ?_ NB134_143.out _; (with_reducible repeat (first | refine bN ?_ _ | refine bD ?_ | refine bA ?_ _)); refine blk_far ?_ NB134_143.out _; (with_reducible repeat (first | refine bN ?_ _ | refine bD ?_ | refine bA ?_ _)); exact BK134.out⟩, ⟨by (with_reducible repeat (first | refine bN ?_ _ | refine bD ?_ | refine bA ?_ _)); refine blk_far ?_ NB135_143.out _; (with_reducible repeat (first | refine bN ?_ _ | refine bD ?_ | refine bA ?_ _)); refine blk_far ?_ NB135_143.out _; (with_reducible repeat (first | refine bN ?_ _ | refine bD ?_ | refine bA ?_ _)); refine blk_far ?_ NB135_143.out _; (with_reducible repeat (first | refine bN ?_ _ | refine bD ?_ | refine bA ?_ _)); refine blk_far ?_ NB135_143.out _; (with_reducible repeat (first | refine bN ?_ _ | refine bD ?_ | refine bA ?_ _)); exact BK135.out⟩, ⟨by (with_reducible repeat (first | refine bN ?_ _ | refine bD ?_ | refine bA ?_ _)); refine blk_far ?_ NB136_143.out _; (with_reducible repeat (first | refine bN ?_ _ | refine bD ?_ | refine bA ?_ _)); refine blk_far ?_ NB136_143.out _; (with_reducible repeat (first | refine bN ?_ _ | refine bD ?_ | refine bA ?_ _)); refine blk_far ?_ NB136_143.out _; (with_reducible repeat (first | refine bN ?_ _ | refine bD ?_ | refine bA ?_ _)); refine blk_far ?_ NB136_143.out _; (with_reducible repeat (first | refine bN ?_ _ | refine bD ?_ | refine bA ?_ _)); exact BK136.out⟩, ⟨by (with_reducible repeat (first | refine bN ?_ _ | refine bD ?_ | refine bA ?_ _)); refine blk_put (cs := #[.bool false, .bool t140, .bool t141, .bool false]) ?_ 3 _ rfl; (with_reducible repeat (first | refine bN ?_ _ | refine bD ?_ | refine bA ?_ _)); refine blk_put (cs := #[.bool false, .bool t140, .bool false, .bool false]) ?_ 2 _ rfl; (with_reducible repeat (first | refine bN ?_ _ | refine bD ?_ | refine bA ?_ _)); refine blk_put (cs := #[.bool false, .bool false, .bool false, .bool false]) ?_ 1 _ rfl; (with_reducible repeat (first | refine bN ?_ _ | refine bD ?_ | refine bA ?_ _)); refine blk_put (cs := #[.bool false, .bool false, .bool false, .bool false]) ?_ 0 _ rfl; (with_reducible repeat (first | refine bN ?_ _ | refine bD ?_ | refine bA ?_ _)); exact BK143.out⟩, ⟨by repeat (first | (with_reducible first | exact HB.out | apply wA | apply wN | apply wD | refine bS ?_ GE134.out | refine bS ?_ GE135.out | refine bS ?_ GE136.out | refine bS ?_ GE143.out) | exact HB.out)⟩⟩
    case rest =>
     clear HC28
     try clear c1
     try clear c2
     try clear p2
     try clear c3
     try clear c8
     try clear c10
     try clear c12
     try clear c13
     try clear c14
     try clear c16
     try clear c19
     try clear c20
     try clear c23
     try clear c24
     try clear c25
     try clear c29
     try clear c30
     try clear c34
     try clear c35
     try clear c36
     try clear c38
     try clear hcz14_0
     try clear hcz14_1
     try clear hcz14_2
     try clear hcz14_3
     try clear hcz14_4
     try clear hcz14_5
     try clear hcz17_0
     try clear hcz17_1
     try clear hcz17_2
     try clear hcz17_3
     try clear hcz17_4
     try clear hcz17_5
     try clear hcz21_0
     try clear hcz21_1
     try clear hcz21_2
     try clear hcz21_3
     try clear hcz21_4
     try clear hcz21_5
     try clear hcz26_0
     try clear hcz26_1
     try clear hcz26_2
     try clear hcz26_3
     try clear hcz26_4
     try clear hcz26_5
     try clear hcz31_0
     try clear hcz31_1
     try clear hcz31_2
     try clear hcz31_3
     try clear hcz31_4
     try clear hcz31_5
     try clear hcz37_0
     try clear hcz37_1
     try clear hcz37_2
     try clear hcz37_3
     try clear hfz14_0
     try clear hfz14_1
     try clear hfz14_2
     try clear hfz14_3
     try clear hfz14_4
     try clear hfz14_5
     try clear hfz17_0
     try clear hfz17_1
     try clear hfz17_2
     try clear hfz17_3
     try clear hfz17_4
     try clear hfz17_5
     try clear hfz21_0
     try clear hfz21_1
     try clear hfz21_2
     try clear hfz21_3
     try clear hfz21_4
     try clear hfz21_5
     try clear hfz26_0
     try clear hfz26_1
     try clear hfz26_2
     try clear hfz26_3
     try clear hfz26_4
     try clear hfz26_5
     try clear hfz31_0
     try clear hfz31_1
     try clear hfz31_2
     try clear hfz31_3
     try clear hfz31_4
     try clear hfz31_5
     try clear hfz37_0
     try clear hfz37_1
     try clear hfz37_2
     try clear hfz37_3
     try clear p2
     obtain ⟨kq, x135000_27, x135001_27, HA, HJ27, BK134, BK135, BK136, BK143, HB⟩ := hcut
     cases kq with
     | zero => exact absurd HA.out (by simp [impl_Laid.j1])
     | succ kj27 =>
      have H := HA.out
      clear HA
      simp only [impl_Laid.j1] at H
      have HC43 := Aside0.mk H
      clear H
      have hnb44 := NB143_134.out
      have hnc44 := NB134_143.out
      have hnb45 := NB143_135.out
      have hnc45 := NB135_143.out
      have hnb46 := NB143_136.out
      have hnc46 := NB136_143.out
      have hcz47_0 : wc.cell? ⟨gb143, 0, none⟩ = some (.bool t139) := bC BK143.out 0 rfl
      have hcz47_1 : wc.cell? ⟨gb143, 1, none⟩ = some (.bool t140) := bC BK143.out 1 rfl
      have hcz47_2 : wc.cell? ⟨gb143, 2, none⟩ = some (.bool t141) := bC BK143.out 2 rfl
      have hcz47_3 : wc.cell? ⟨gb143, 3, none⟩ = some (.bool t142) := bC BK143.out 3 rfl
      have hfz47_0 := blk_frozen BK143.out 0
      have hfz47_1 := blk_frozen BK143.out 1
      have hfz47_2 := blk_frozen BK143.out 2
      have hfz47_3 := blk_frozen BK143.out 3
      go_upto_if 26 with (fail)
      go_cut [] (fun wc => ∃ (kq : Nat) (x135002_42 : Int), Aside0 (impl_Laid.j2 kq x135000_27 x135001_27 x135002_42 a0_3 a0_4 a0_5 a1_0 a1_1 a1_2 a1_3 a1_4 a1_5 t139 t140 t141 t142 = some (r1, r2, r3, r4, r5, r6)) ∧ Aside0 (kq ≤ kj27) ∧ Aside0 (wc.heap[gb134]? = some (.cells #[.int .i64 x135000_27, .int .i64 x135001_27, .int .i64 x135002_42, .string a0_3, .string a0_4, .int .i64 a0_5] 25 (0, 0))) ∧ Aside0 (wc.heap[gb135]? = some (.cells #[.int .i64 a1_0, .int .i64 a1_1, .int .i64 a1_2, .string a1_3, .string a1_4, .int .i64 a1_5] 25 (0, 0))) ∧ Aside0 (wc.heap[gb136]? = some (.cells #[.int .i64 0, .int .i64 0, .int .i64 0, .string (⟨#[]⟩ : ByteArray), .string (⟨#[]⟩ : ByteArray), .int .i64 0] 25 (0, 0))) ∧ Aside0 (wc.heap[gb143]? = some (.cells #[.bool t139, .bool t140, .bool t141, .bool t142] 35 (0, 0))) ∧ Aside0 (Below w.heap.size w wc))
      case first =>
       have H := HC43.out
       clear HC43
       by_cases c48 : t140 = true
       ·subst c48
        have H1 : (impl_Laid.j2 kj27 x135000_27 x135001_27 a1_2 a0_3 a0_4 a0_5 a1_0 a1_1 a1_2 a1_3 a1_4 a1_5 t139 true t141 t142) = some (r1, r2, r3, r4, r5, r6) := by rw [if_pos rfl] at H; exact H
        clear H
        have H := H1
        clear H1
        have H' := Aside0.mk H
        clear H
        have hnb49 := NB135_134.out
        have hnc49 := NB134_135.out
        have hnb50 := NB135_136.out
        have hnc50 := NB136_135.out
        have hnb51 := NB135_143.out
        have hnc51 := NB143_135.out
        have hcz52_0 : wc.cell? ⟨gb135, 0, none⟩ = some (.int .i64 a1_0) := bC BK135.out 0 rfl
        have hcz52_1 : wc.cell? ⟨gb135, 1, none⟩ = some (.int .i64 a1_1) := bC BK135.out 1 rfl
        have hcz52_2 : wc.cell? ⟨gb135, 2, none⟩ = some (.int .i64 a1_2) := bC BK135.out 2 rfl
        have hcz52_3 : wc.cell? ⟨gb135, 3, none⟩ = some (.string a1_3) := bC BK135.out 3 rfl
        have hcz52_4 : wc.cell? ⟨gb135, 4, none⟩ = some (.string a1_4) := bC BK135.out 4 rfl
        have hcz52_5 : wc.cell? ⟨gb135, 5, none⟩ = some (.int .i64 a1_5) := bC BK135.out 5 rfl
        have hfz52_0 := blk_frozen BK135.out 0
        have hfz52_1 := blk_frozen BK135.out 1
        have hfz52_2 := blk_frozen BK135.out 2
        have hfz52_3 := blk_frozen BK135.out 3
        have hfz52_4 := blk_frozen BK135.out 4
        have hfz52_5 := blk_frozen BK135.out 5
        have hnb53 := NB134_136.out
        have hnc53 := NB136_134.out
        have hnb54 := NB134_143.out
        have hnc54 := NB143_134.out
        have hcz55_0 : wc.cell? ⟨gb134, 0, none⟩ = some (.int .i64 x135000_27) := bC BK134.out 0 rfl
        have hcz55_1 : wc.cell? ⟨gb134, 1, none⟩ = some (.int .i64 x135001_27) := bC BK134.out 1 rfl
        have hcz55_2 : wc.cell? ⟨gb134, 2, none⟩ = some (.int .i64 a0_2) := bC BK134.out 2 rfl
        have hcz55_3 : wc.cell? ⟨gb134, 3, none⟩ = some (.string a0_3) := bC BK134.out 3 rfl
        have hcz55_4 : wc.cell? ⟨gb134, 4, none⟩ = some (.string a0_4) := bC BK134.out 4 rfl
        have hcz55_5 : wc.cell? ⟨gb134, 5, none⟩ = some (.int .i64 a0_5) := bC BK134.out 5 rfl
        have hfz55_0 := blk_frozen BK134.out 0
        have hfz55_1 := blk_frozen BK134.out 1
        have hfz55_2 := blk_frozen BK134.out 2
        have hfz55_3 := blk_frozen BK134.out 3
        have hfz55_4 := blk_frozen BK134.out 4
        have hfz55_5 := blk_frozen BK134.out 5
        go_wp2
        go_meet
        case rel => exact ⟨_, (a1_2), H', ⟨by have := HJ4.out; have := HJ27.out; first | omega | exact Nat.le_refl _⟩, ⟨by (with_reducible repeat (first | refine bN ?_ _ | refine bD ?_ | refine bA ?_ _)); refine blk_put (cs := #[.int .i64 x135000_27, .int .i64 x135001_27, .int .i64 a0_2, .string a0_3, .string a0_4, .int .i64 a0_5]) ?_ 2 _ rfl; (with_reducible repeat (first | refine bN ?_ _ | refine bD ?_ | refine bA ?_ _)); exact BK134.out⟩, ⟨by (with_reducible repeat (first | refine bN ?_ _ | refine bD ?_ | refine bA ?_ _)); refine blk_far ?_ NB135_134.out _; (with_reducible repeat (first | refine bN ?_ _ | refine bD ?_ | refine bA ?_ _)); exact BK135.out⟩, ⟨by (with_reducible repeat (first | refine bN ?_ _ | refine bD ?_ | refine bA ?_ _)); refine blk_far ?_ NB136_134.out _; (with_reducible repeat (first | refine bN ?_ _ | refine bD ?_ | refine bA ?_ _)); exact BK136.out⟩, ⟨by (with_reducible repeat (first | refine bN ?_ _ | refine bD ?_ | refine bA ?_ _)); refine blk_far ?_ NB143_134.out _; (with_reducible repeat (first | refine bN ?_ _ | refine bD ?_ | refine bA ?_ _)); exact BK143.out⟩, ⟨by repeat (first | (with_reducible first | exact HB.out | apply wA | apply wN | apply wD | refine bS ?_ GE134.out | refine bS ?_ GE135.out | refine bS ?_ GE136.out | refine bS ?_ GE143.out) | exact HB.out)⟩⟩
       ·replace c48 := Bool.eq_false_iff.mpr c48
        subst c48
        have H1 : (impl_Laid.j2 kj27 x135000_27 x135001_27 a0_2 a0_3 a0_4 a0_5 a1_0 a1_1 a1_2 a1_3 a1_4 a1_5 t139 false t141 t142) = some (r1, r2, r3, r4, r5, r6) := by rw [if_neg (show ¬ (false = true) by decide)] at H; exact H
        clear H
        have H := H1
        clear H1
        have H' := Aside0.mk H
        clear H
        go_wp2
        go_meet
        case rel => exact ⟨_, (a0_2), H', ⟨by have := HJ4.out; have := HJ27.out; first | omega | exact Nat.le_refl _⟩, ⟨by (with_reducible repeat (first | refine bN ?_ _ | refine bD ?_ | refine bA ?_ _)); exact BK134.out⟩, ⟨by (with_reducible repeat (first | refine bN ?_ _ | refine bD ?_ | refine bA ?_ _)); exact BK135.out⟩, ⟨by (with_reducible repeat (first | refine bN ?_ _ | refine bD ?_ | refine bA ?_ _)); exact BK136.out⟩, ⟨by (with_reducible repeat (first | refine bN ?_ _ | refine bD ?_ | refine bA ?_ _)); exact BK143.out⟩, ⟨by repeat (first | (with_reducible first | exact HB.out | apply wA | apply wN | apply wD | refine bS ?_ GE134.out | refine bS ?_ GE135.out | refine bS ?_ GE136.out | refine bS ?_ GE143.out) | exact HB.out)⟩⟩
      case rest =>
       clear HC43
       try clear c1
       try clear c2
       try clear p2
       try clear c3
       try clear c4
       try clear c5
       try clear c8
       try clear c10
       try clear c12
       try clear c13
       try clear c14
       try clear c16
       try clear c19
       try clear c20
       try clear c23
       try clear c24
       try clear c25
       try clear c29
       try clear c30
       try clear c34
       try clear c35
       try clear c36
       try clear c38
       try clear c44
       try clear c45
       try clear c46
       try clear c48
       try clear c49
       try clear c50
       try clear c51
       try clear c53
       try clear c54
       try clear hcz14_0
       try clear hcz14_1
       try clear hcz14_2
       try clear hcz14_3
       try clear hcz14_4
       try clear hcz14_5
       try clear hcz17_0
       try clear hcz17_1
       try clear hcz17_2
       try clear hcz17_3
       try clear hcz17_4
       try clear hcz17_5
       try clear hcz21_0
       try clear hcz21_1
       try clear hcz21_2
       try clear hcz21_3
       try clear hcz21_4
       try clear hcz21_5
       try clear hcz26_0
       try clear hcz26_1
       try clear hcz26_2
       try clear hcz26_3
       try clear hcz26_4
       try clear hcz26_5
       try clear hcz31_0
       try clear hcz31_1
       try clear hcz31_2
       try clear hcz31_3
       try clear hcz31_4
       try clear hcz31_5
       try clear hcz37_0
       try clear hcz37_1
       try clear hcz37_2
       try clear hcz37_3
       try clear hcz47_0
       try clear hcz47_1
       try clear hcz47_2
       try clear hcz47_3
       try clear hcz52_0
       try clear hcz52_1
       try clear hcz52_2
       try clear hcz52_3
       try clear hcz52_4
       try clear hcz52_5
       try clear hcz55_0
       try clear hcz55_1
       try clear hcz55_2
       try clear hcz55_3
       try clear hcz55_4
       try clear hcz55_5
       try clear hfz14_0
       try clear hfz14_1
       try clear hfz14_2
       try clear hfz14_3
       try clear hfz14_4
       try clear hfz14_5
       try clear hfz17_0
       try clear hfz17_1
       try clear hfz17_2
       try clear hfz17_3
       try clear hfz17_4
       try clear hfz17_5
       try clear hfz21_0
       try clear hfz21_1
       try clear hfz21_2
       try clear hfz21_3
       try clear hfz21_4
       try clear hfz21_5
       try clear hfz26_0
       try clear hfz26_1
       try clear hfz26_2
       try clear hfz26_3
       try clear hfz26_4
       try clear hfz26_5
       try clear hfz31_0
       try clear hfz31_1
       try clear hfz31_2
       try clear hfz31_3
       try clear hfz31_4
       try clear hfz31_5
       try clear hfz37_0
       try clear hfz37_1
       try clear hfz37_2
       try clear hfz37_3
       try clear hfz47_0
       try clear hfz47_1
       try clear hfz47_2
       try clear hfz47_3
       try clear hfz52_0
       try clear hfz52_1
       try clear hfz52_2
       try clear hfz52_3
       try clear hfz52_4
       try clear hfz52_5
       try clear hfz55_0
       try clear hfz55_1
       try clear hfz55_2
       try clear hfz55_3
       try clear hfz55_4
       try clear hfz55_5
       try clear p2
       obtain ⟨kq, x135002_42, HA, HJ42, BK134, BK135, BK136, BK143, HB⟩ := hcut
       cases kq with
       | zero => exact absurd HA.out (by simp [impl_Laid.j2])
       | succ kj42 =>
        have H := HA.out
        clear HA
        simp only [impl_Laid.j2] at H
        by_cases c56 : t141 = true
        ·subst c56
         have H1 : (if t142 = true then (some (x135000_27, x135001_27, x135002_42, a1_3, a1_4, a1_5)) else (some (x135000_27, x135001_27, x135002_42, a1_3, a0_4, a0_5))) = some (r1, r2, r3, r4, r5, r6) := by rw [if_pos rfl] at H; exact H
         clear H
         have H := H1
         clear H1
         by_cases c57 : t142 = true
         ·subst c57
          have H1 : (some (x135000_27, x135001_27, x135002_42, a1_3, a1_4, a1_5)) = some (r1, r2, r3, r4, r5, r6) := by rw [if_pos rfl] at H; exact H
          clear H
          have H := H1
          clear H1
          simp only [Option.some.injEq, Prod.mk.injEq] at H
          obtain ⟨rfl, rfl, rfl, rfl, rfl, rfl⟩ := H
          have hnb58 := NB143_134.out
          have hnc58 := NB134_143.out
          have hnb59 := NB143_135.out
          have hnc59 := NB135_143.out
          have hnb60 := NB143_136.out
          have hnc60 := NB136_143.out
          have hcz61_0 : wc.cell? ⟨gb143, 0, none⟩ = some (.bool t139) := bC BK143.out 0 rfl
          have hcz61_1 : wc.cell? ⟨gb143, 1, none⟩ = some (.bool t140) := bC BK143.out 1 rfl
          have hcz61_2 : wc.cell? ⟨gb143, 2, none⟩ = some (.bool true) := bC BK143.out 2 rfl
          have hcz61_3 : wc.cell? ⟨gb143, 3, none⟩ = some (.bool true) := bC BK143.out 3 rfl
          have hfz61_0 := blk_frozen BK143.out 0
          have hfz61_1 := blk_frozen BK143.out 1
          have hfz61_2 := blk_frozen BK143.out 2
          have hfz61_3 := blk_frozen BK143.out 3
          have hnb62 := NB135_134.out
          have hnc62 := NB134_135.out
          have hnb63 := NB135_136.out
          have hnc63 := NB136_135.out
          have hcz64_0 : wc.cell? ⟨gb135, 0, none⟩ = some (.int .i64 a1_0) := bC BK135.out 0 rfl
          have hcz64_1 : wc.cell? ⟨gb135, 1, none⟩ = some (.int .i64 a1_1) := bC BK135.out 1 rfl
          have hcz64_2 : wc.cell? ⟨gb135, 2, none⟩ = some (.int .i64 a1_2) := bC BK135.out 2 rfl
          have hcz64_3 : wc.cell? ⟨gb135, 3, none⟩ = some (.string a1_3) := bC BK135.out 3 rfl
          have hcz64_4 : wc.cell? ⟨gb135, 4, none⟩ = some (.string a1_4) := bC BK135.out 4 rfl
          have hcz64_5 : wc.cell? ⟨gb135, 5, none⟩ = some (.int .i64 a1_5) := bC BK135.out 5 rfl
          have hfz64_0 := blk_frozen BK135.out 0
          have hfz64_1 := blk_frozen BK135.out 1
          have hfz64_2 := blk_frozen BK135.out 2
          have hfz64_3 := blk_frozen BK135.out 3
          have hfz64_4 := blk_frozen BK135.out 4
          have hfz64_5 := blk_frozen BK135.out 5
          have hnb65 := NB134_136.out
          have hnc65 := NB136_134.out
          have hcz66_0 : wc.cell? ⟨gb134, 0, none⟩ = some (.int .i64 x135000_27) := bC BK134.out 0 rfl
          have hcz66_1 : wc.cell? ⟨gb134, 1, none⟩ = some (.int .i64 x135001_27) := bC BK134.out 1 rfl
          have hcz66_2 : wc.cell? ⟨gb134, 2, none⟩ = some (.int .i64 x135002_42) := bC BK134.out 2 rfl
          have hcz66_3 : wc.cell? ⟨gb134, 3, none⟩ = some (.string a0_3) := bC BK134.out 3 rfl
          have hcz66_4 : wc.cell? ⟨gb134, 4, none⟩ = some (.string a0_4) := bC BK134.out 4 rfl
          have hcz66_5 : wc.cell? ⟨gb134, 5, none⟩ = some (.int .i64 a0_5) := bC BK134.out 5 rfl
          have hfz66_0 := blk_frozen BK134.out 0
          have hfz66_1 := blk_frozen BK134.out 1
          have hfz66_2 := blk_frozen BK134.out 2
          have hfz66_3 := blk_frozen BK134.out 3
          have hfz66_4 := blk_frozen BK134.out 4
          have hfz66_5 := blk_frozen BK134.out 5
          try go_wp2
          have n0_ : Aside0 ((wc.setCell ⟨gb134, 3, none⟩ (.string a1_3)).heap[gb134]? = some (.cells #[.int .i64 x135000_27, .int .i64 x135001_27, .int .i64 x135002_42, .string a1_3, .string a0_4, .int .i64 a0_5] 25 (0, 0))) := ⟨by (with_reducible repeat (first | refine bN ?_ _ | refine bD ?_ | refine bA ?_ _)); refine blk_put (cs := #[.int .i64 x135000_27, .int .i64 x135001_27, .int .i64 x135002_42, .string a0_3, .string a0_4, .int .i64 a0_5]) ?_ 3 _ rfl; (with_reducible repeat (first | refine bN ?_ _ | refine bD ?_ | refine bA ?_ _)); exact BK134.out⟩
          have n1_ : Aside0 ((wc.setCell ⟨gb134, 3, none⟩ (.string a1_3)).heap[gb135]? = some (.cells #[.int .i64 a1_0, .int .i64 a1_1, .int .i64 a1_2, .string a1_3, .string a1_4, .int .i64 a1_5] 25 (0, 0))) := ⟨by (with_reducible repeat (first | refine bN ?_ _ | refine bD ?_ | refine bA ?_ _)); refine blk_far ?_ NB135_134.out _; (with_reducible repeat (first | refine bN ?_ _ | refine bD ?_ | refine bA ?_ _)); exact BK135.out⟩
          have n2_ : Aside0 ((wc.setCell ⟨gb134, 3, none⟩ (.string a1_3)).heap[gb136]? = some (.cells #[.int .i64 0, .int .i64 0, .int .i64 0, .string (⟨#[]⟩ : ByteArray), .string (⟨#[]⟩ : ByteArray), .int .i64 0] 25 (0, 0))) := ⟨by (with_reducible repeat (first | refine bN ?_ _ | refine bD ?_ | refine bA ?_ _)); refine blk_far ?_ NB136_134.out _; (with_reducible repeat (first | refine bN ?_ _ | refine bD ?_ | refine bA ?_ _)); exact BK136.out⟩
          have n3_ : Aside0 ((wc.setCell ⟨gb134, 3, none⟩ (.string a1_3)).heap[gb143]? = some (.cells #[.bool t139, .bool t140, .bool true, .bool true] 35 (0, 0))) := ⟨by (with_reducible repeat (first | refine bN ?_ _ | refine bD ?_ | refine bA ?_ _)); refine blk_far ?_ NB143_134.out _; (with_reducible repeat (first | refine bN ?_ _ | refine bD ?_ | refine bA ?_ _)); exact BK143.out⟩
          have n4_ : Aside0 (Below w.heap.size w (wc.setCell ⟨gb134, 3, none⟩ (.string a1_3))) := ⟨by repeat (first | (with_reducible first | exact HB.out | apply wA | apply wN | apply wD | refine bS ?_ GE134.out | refine bS ?_ GE135.out | refine bS ?_ GE136.out | refine bS ?_ GE143.out) | exact HB.out)⟩
          (try clear BK134)
          (try clear BK135)
          (try clear BK136)
          (try clear BK143)
          (try clear HB)
          generalize (wc.setCell ⟨gb134, 3, none⟩ (.string a1_3)) = w67 at n0_ n1_ n2_ n3_ n4_ ⊢
          have BK134 := n0_
          have BK135 := n1_
          have BK136 := n2_
          have BK143 := n3_
          have HB := n4_
          clear n0_ n1_ n2_ n3_ n4_
          have n0_ := A0 (blk_drew BK134.out)
          have n1_ := A0 (blk_drew BK135.out)
          have n2_ := A0 (blk_drew BK136.out)
          have n3_ := A0 (blk_drew BK143.out)
          have n4_ := A0 (below_drew1 HB.out)
          clear BK134
          clear BK135
          clear BK136
          clear BK143
          clear HB
          have BK134 := n0_
          have BK135 := n1_
          have BK136 := n2_
          have BK143 := n3_
          have HB := n4_
          clear n0_ n1_ n2_ n3_ n4_
          refine start_ (n := 8) (S := fun w' => w'.cell? ⟨gb135, 0, none⟩ = some (.int .i64 a1_0) ∧ w'.cell? ⟨gb135, 1, none⟩ = some (.int .i64 a1_1) ∧ w'.cell? ⟨gb135, 2, none⟩ = some (.int .i64 a1_2) ∧ w'.cell? ⟨gb135, 3, none⟩ = some (.string a1_3) ∧ w'.cell? ⟨gb135, 4, none⟩ = some (.string a1_4) ∧ w'.cell? ⟨gb135, 5, none⟩ = some (.int .i64 a1_5)) (ds := []) #[false, false, false, false, false, false, false, false] (by kernel_rfl) rfl rfl ⟨bC BK135.out 0 rfl, bC BK135.out 1 rfl, bC BK135.out 2 rfl, bC BK135.out 3 rfl, bC BK135.out 4 rfl, bC BK135.out 5 rfl⟩ (fun hHeld => ?_); refine with_tabW impl_Laid.tab11 impl_Laid.bits11 (fun HT_ HW_ => ?_)
          generalize w67.drew = w68 at BK134 BK135 BK136 BK143 HB hHeld ⊢
          refine pure_ (i := 0) (N := some 37) (v := ?_) (a' := ?_) #[true, false, false, false, false, false, false, false] rfl rfl (any_of HT_.out (by kernel_rfl)) (fun _ _ _ h => h) (Or.inl ⟨by rfl, ?_⟩) ?_ ?_
          rotate_left
          ·intro w'
           go_simp
           with_reducible rfl
          rotate_left
          ·simp only [Act.put, sqA, sqZ, sqS, i64_w, i32_w]
           rfl
          refine pure_ (i := 2) (N := some 39) (v := ?_) (a' := ?_) #[true, false, true, false, false, false, false, false] rfl rfl (any_of HT_.out (by kernel_rfl)) (fun _ _ _ h => h) (Or.inl ⟨by rfl, ?_⟩) ?_ ?_
          rotate_left
          ·intro w'
           go_simp
           with_reducible rfl
          rotate_left
          ·simp only [Act.put, sqA, sqZ, sqS, i64_w, i32_w]
           rfl
          refine take_ (i := 1) (N := some 38) (v := ?_) (a' := ?_) #[true, true, true, false, false, false, false, false] rfl rfl (take_ofW HT_.out HW_.out (by kernel_rfl)) (fun _ _ _ h => h) (Or.inl ⟨by rfl, ?_⟩) hHeld ?_ ?_
          rotate_left
          ·rintro w' ⟨s0, s1, s2, s3, s4, s5⟩
           go_simp
           with_reducible rfl
          rotate_left
          ·simp only [Act.put, sqA, sqZ, sqS, i64_w, i32_w]
           rfl
          refine pure_ (i := 4) (N := some 41) (v := ?_) (a' := ?_) #[true, true, true, false, true, false, false, false] rfl rfl (any_of HT_.out (by kernel_rfl)) (fun _ _ _ h => h) (Or.inl ⟨by rfl, ?_⟩) ?_ ?_
          rotate_left
          ·intro w'
           go_simp
           with_reducible rfl
          rotate_left
          ·simp only [Act.put, sqA, sqZ, sqS, i64_w, i32_w]
           rfl
          refine take_ (i := 3) (N := some 40) (v := ?_) (a' := ?_) #[true, true, true, true, true, false, false, false] rfl rfl (take_ofW HT_.out HW_.out (by kernel_rfl)) (fun _ _ _ h => h) (Or.inl ⟨by rfl, ?_⟩) hHeld ?_ ?_
          rotate_left
          ·rintro w' ⟨s0, s1, s2, s3, s4, s5⟩
           go_simp
           with_reducible rfl
          rotate_left
          ·simp only [Act.put, sqA, sqZ, sqS, i64_w, i32_w]
           rfl
          refine one_ (i := 5) (N := none) #[true, true, true, true, true, true, false, false] rfl rfl (one_of HT_.out (by kernel_rfl)) (by decide) (fun K hK => ?_)
          have hs69 : w68.cell? ⟨gb134, 4, none⟩ = some (.string a0_4) := bC BK134.out 4 rfl
          have hfs69 := blk_frozen BK134.out 4
          have hns69_1 := NB135_134.out
          have hns69_2 := NB136_134.out
          have hns69_3 := NB143_134.out
          have hms69_1 := NB134_135.out
          have hms69_2 := NB134_136.out
          have hms69_3 := NB134_143.out
          refine skip_ (w1 := ?_) (by rfl) rfl ?_ ?_
          rotate_left
          ·go_simp
           rfl
          refine hK.out _ _ ⟨((cell_far (p := ⟨gb134, _, none⟩) NB135_134.out _).trans (hHeld.1)), ((cell_far (p := ⟨gb134, _, none⟩) NB135_134.out _).trans (hHeld.2.1)), ((cell_far (p := ⟨gb134, _, none⟩) NB135_134.out _).trans (hHeld.2.2.1)), ((cell_far (p := ⟨gb134, _, none⟩) NB135_134.out _).trans (hHeld.2.2.2.1)), ((cell_far (p := ⟨gb134, _, none⟩) NB135_134.out _).trans (hHeld.2.2.2.2.1)), ((cell_far (p := ⟨gb134, _, none⟩) NB135_134.out _).trans (hHeld.2.2.2.2.2))⟩ (fun hHeld => ?_)
          clear hK K
          refine pure_ (i := 6) (N := some 42) (v := ?_) (a' := ?_) #[true, true, true, true, true, true, true, false] rfl rfl (any_of HT_.out (by kernel_rfl)) (fun _ _ _ h => h) (Or.inl ⟨by rfl, ?_⟩) ?_ ?_
          rotate_left
          ·intro w'
           go_simp
           with_reducible rfl
          rotate_left
          ·simp only [Act.put, sqA, sqZ, sqS, i64_w, i32_w]
           rfl
          refine one_ (i := 7) (N := none) #[true, true, true, true, true, true, true, true] rfl rfl (one_of HT_.out (by kernel_rfl)) (by decide) (fun K hK => ?_)
          have hs70 : w68.cell? ⟨gb134, 5, none⟩ = some (.int .i64 a0_5) := bC BK134.out 5 rfl
          have hfs70 := blk_frozen BK134.out 5
          have hns70_1 := NB135_134.out
          have hns70_2 := NB136_134.out
          have hns70_3 := NB143_134.out
          have hms70_1 := NB134_135.out
          have hms70_2 := NB134_136.out
          have hms70_3 := NB134_143.out
          refine skip_ (w1 := ?_) (by rfl) rfl ?_ ?_
          rotate_left
          ·go_simp
           rfl
          refine hK.out _ _ ⟨((cell_far (p := ⟨gb134, _, none⟩) NB135_134.out _).trans (hHeld.1)), ((cell_far (p := ⟨gb134, _, none⟩) NB135_134.out _).trans (hHeld.2.1)), ((cell_far (p := ⟨gb134, _, none⟩) NB135_134.out _).trans (hHeld.2.2.1)), ((cell_far (p := ⟨gb134, _, none⟩) NB135_134.out _).trans (hHeld.2.2.2.1)), ((cell_far (p := ⟨gb134, _, none⟩) NB135_134.out _).trans (hHeld.2.2.2.2.1)), ((cell_far (p := ⟨gb134, _, none⟩) NB135_134.out _).trans (hHeld.2.2.2.2.2))⟩ (fun hHeld => ?_)
          clear hK K
          refine done_ (done_of HT_.out (by kernel_rfl)) ?_
          have hcz71_0 : w68.cell? ⟨gb134, 0, none⟩ = some (.int .i64 x135000_27) := bC BK134.out 0 rfl
          have hcz71_1 : w68.cell? ⟨gb134, 1, none⟩ = some (.int .i64 x135001_27) := bC BK134.out 1 rfl
          have hcz71_2 : w68.cell? ⟨gb134, 2, none⟩ = some (.int .i64 x135002_42) := bC BK134.out 2 rfl
          have hcz71_3 : w68.cell? ⟨gb134, 3, none⟩ = some (.string a1_3) := bC BK134.out 3 rfl
          have hcz71_4 : w68.cell? ⟨gb134, 4, none⟩ = some (.string a0_4) := bC BK134.out 4 rfl
          have hcz71_5 : w68.cell? ⟨gb134, 5, none⟩ = some (.int .i64 a0_5) := bC BK134.out 5 rfl
          have hfz71_0 := blk_frozen BK134.out 0
          have hfz71_1 := blk_frozen BK134.out 1
          have hfz71_2 := blk_frozen BK134.out 2
          have hfz71_3 := blk_frozen BK134.out 3
          have hfz71_4 := blk_frozen BK134.out 4
          have hfz71_5 := blk_frozen BK134.out 5
          have hcz72_0 : w68.cell? ⟨gb136, 0, none⟩ = some (.int .i64 0) := bC BK136.out 0 rfl
          have hcz72_1 : w68.cell? ⟨gb136, 1, none⟩ = some (.int .i64 0) := bC BK136.out 1 rfl
          have hcz72_2 : w68.cell? ⟨gb136, 2, none⟩ = some (.int .i64 0) := bC BK136.out 2 rfl
          have hcz72_3 : w68.cell? ⟨gb136, 3, none⟩ = some (.string (⟨#[]⟩ : ByteArray)) := bC BK136.out 3 rfl
          have hcz72_4 : w68.cell? ⟨gb136, 4, none⟩ = some (.string (⟨#[]⟩ : ByteArray)) := bC BK136.out 4 rfl
          have hcz72_5 : w68.cell? ⟨gb136, 5, none⟩ = some (.int .i64 0) := bC BK136.out 5 rfl
          have hfz72_0 := blk_frozen BK136.out 0
          have hfz72_1 := blk_frozen BK136.out 1
          have hfz72_2 := blk_frozen BK136.out 2
          have hfz72_3 := blk_frozen BK136.out 3
          have hfz72_4 := blk_frozen BK136.out 4
          have hfz72_5 := blk_frozen BK136.out 5
          try go_wp2
          refine bodyPost_ret (results_cell_row rfl _ _ gb136 25 #[.int .i64 x135000_27, .int .i64 x135001_27, .int .i64 x135002_42, .string a1_3, .string a1_4, .int .i64 a1_5] (0, 0) _ rfl (by (with_reducible repeat (first | refine bN ?_ _ | refine bD ?_ | refine bA ?_ _)); refine blk_put (cs := #[.int .i64 x135000_27, .int .i64 x135001_27, .int .i64 x135002_42, .string a1_3, .string a1_4, .int .i64 0]) ?_ 5 _ rfl; (with_reducible repeat (first | refine bN ?_ _ | refine bD ?_ | refine bA ?_ _)); refine blk_put (cs := #[.int .i64 x135000_27, .int .i64 x135001_27, .int .i64 x135002_42, .string a1_3, .string (⟨#[]⟩ : ByteArray), .int .i64 0]) ?_ 4 _ rfl; (with_reducible repeat (first | refine bN ?_ _ | refine bD ?_ | refine bA ?_ _)); refine blk_put (cs := #[.int .i64 x135000_27, .int .i64 x135001_27, .int .i64 x135002_42, .string (⟨#[]⟩ : ByteArray), .string (⟨#[]⟩ : ByteArray), .int .i64 0]) ?_ 3 _ rfl; (with_reducible repeat (first | refine bN ?_ _ | refine bD ?_ | refine bA ?_ _)); refine blk_put (cs := #[.int .i64 x135000_27, .int .i64 x135001_27, .int .i64 0, .string (⟨#[]⟩ : ByteArray), .string (⟨#[]⟩ : ByteArray), .int .i64 0]) ?_ 2 _ rfl; (with_reducible repeat (first | refine bN ?_ _ | refine bD ?_ | refine bA ?_ _)); refine blk_put (cs := #[.int .i64 x135000_27, .int .i64 0, .int .i64 0, .string (⟨#[]⟩ : ByteArray), .string (⟨#[]⟩ : ByteArray), .int .i64 0]) ?_ 1 _ rfl; (with_reducible repeat (first | refine bN ?_ _ | refine bD ?_ | refine bA ?_ _)); refine blk_put (cs := #[.int .i64 0, .int .i64 0, .int .i64 0, .string (⟨#[]⟩ : ByteArray), .string (⟨#[]⟩ : ByteArray), .int .i64 0]) ?_ 0 _ rfl; (with_reducible repeat (first | refine bN ?_ _ | refine bD ?_ | refine bA ?_ _)); refine blk_far ?_ NB136_134.out _; (with_reducible repeat (first | refine bN ?_ _ | refine bD ?_ | refine bA ?_ _)); refine blk_far ?_ NB136_134.out _; (with_reducible repeat (first | refine bN ?_ _ | refine bD ?_ | refine bA ?_ _)); exact BK136.out) Tryd.underlying25 rfl (by kernel_rfl)) rfl ?_
          exact ⟨by first | rfl | (simp [errW_none, errW_some] <;> rfl) | (simp [*, errW_none, errW_some] <;> rfl), by repeat (first | (with_reducible first | exact HB.out | apply wA | apply wN | apply wD | refine bS ?_ GE134.out | refine bS ?_ GE135.out | refine bS ?_ GE136.out | refine bS ?_ GE143.out) | exact HB.out)⟩
         ·replace c57 := Bool.eq_false_iff.mpr c57
          subst c57
          have H1 : (some (x135000_27, x135001_27, x135002_42, a1_3, a0_4, a0_5)) = some (r1, r2, r3, r4, r5, r6) := by rw [if_neg (show ¬ (false = true) by decide)] at H; exact H
          clear H
          have H := H1
          clear H1
          simp only [Option.some.injEq, Prod.mk.injEq] at H
          obtain ⟨rfl, rfl, rfl, rfl, rfl, rfl⟩ := H
          have hnb73 := NB143_134.out
          have hnc73 := NB134_143.out
          have hnb74 := NB143_135.out
          have hnc74 := NB135_143.out
          have hnb75 := NB143_136.out
          have hnc75 := NB136_143.out
          have hcz76_0 : wc.cell? ⟨gb143, 0, none⟩ = some (.bool t139) := bC BK143.out 0 rfl
          have hcz76_1 : wc.cell? ⟨gb143, 1, none⟩ = some (.bool t140) := bC BK143.out 1 rfl
          have hcz76_2 : wc.cell? ⟨gb143, 2, none⟩ = some (.bool true) := bC BK143.out 2 rfl
          have hcz76_3 : wc.cell? ⟨gb143, 3, none⟩ = some (.bool false) := bC BK143.out 3 rfl
          have hfz76_0 := blk_frozen BK143.out 0
          have hfz76_1 := blk_frozen BK143.out 1
          have hfz76_2 := blk_frozen BK143.out 2
          have hfz76_3 := blk_frozen BK143.out 3
          have hnb77 := NB135_134.out
          have hnc77 := NB134_135.out
          have hnb78 := NB135_136.out
          have hnc78 := NB136_135.out
          have hcz79_0 : wc.cell? ⟨gb135, 0, none⟩ = some (.int .i64 a1_0) := bC BK135.out 0 rfl
          have hcz79_1 : wc.cell? ⟨gb135, 1, none⟩ = some (.int .i64 a1_1) := bC BK135.out 1 rfl
          have hcz79_2 : wc.cell? ⟨gb135, 2, none⟩ = some (.int .i64 a1_2) := bC BK135.out 2 rfl
          have hcz79_3 : wc.cell? ⟨gb135, 3, none⟩ = some (.string a1_3) := bC BK135.out 3 rfl
          have hcz79_4 : wc.cell? ⟨gb135, 4, none⟩ = some (.string a1_4) := bC BK135.out 4 rfl
          have hcz79_5 : wc.cell? ⟨gb135, 5, none⟩ = some (.int .i64 a1_5) := bC BK135.out 5 rfl
          have hfz79_0 := blk_frozen BK135.out 0
          have hfz79_1 := blk_frozen BK135.out 1
          have hfz79_2 := blk_frozen BK135.out 2
          have hfz79_3 := blk_frozen BK135.out 3
          have hfz79_4 := blk_frozen BK135.out 4
          have hfz79_5 := blk_frozen BK135.out 5
          have hnb80 := NB134_136.out
          have hnc80 := NB136_134.out
          have hcz81_0 : wc.cell? ⟨gb134, 0, none⟩ = some (.int .i64 x135000_27) := bC BK134.out 0 rfl
          have hcz81_1 : wc.cell? ⟨gb134, 1, none⟩ = some (.int .i64 x135001_27) := bC BK134.out 1 rfl
          have hcz81_2 : wc.cell? ⟨gb134, 2, none⟩ = some (.int .i64 x135002_42) := bC BK134.out 2 rfl
          have hcz81_3 : wc.cell? ⟨gb134, 3, none⟩ = some (.string a0_3) := bC BK134.out 3 rfl
          have hcz81_4 : wc.cell? ⟨gb134, 4, none⟩ = some (.string a0_4) := bC BK134.out 4 rfl
          have hcz81_5 : wc.cell? ⟨gb134, 5, none⟩ = some (.int .i64 a0_5) := bC BK134.out 5 rfl
          have hfz81_0 := blk_frozen BK134.out 0
          have hfz81_1 := blk_frozen BK134.out 1
          have hfz81_2 := blk_frozen BK134.out 2
          have hfz81_3 := blk_frozen BK134.out 3
          have hfz81_4 := blk_frozen BK134.out 4
          have hfz81_5 := blk_frozen BK134.out 5
          have hcz82_0 : wc.cell? ⟨gb136, 0, none⟩ = some (.int .i64 0) := bC BK136.out 0 rfl
          have hcz82_1 : wc.cell? ⟨gb136, 1, none⟩ = some (.int .i64 0) := bC BK136.out 1 rfl
          have hcz82_2 : wc.cell? ⟨gb136, 2, none⟩ = some (.int .i64 0) := bC BK136.out 2 rfl
          have hcz82_3 : wc.cell? ⟨gb136, 3, none⟩ = some (.string (⟨#[]⟩ : ByteArray)) := bC BK136.out 3 rfl
          have hcz82_4 : wc.cell? ⟨gb136, 4, none⟩ = some (.string (⟨#[]⟩ : ByteArray)) := bC BK136.out 4 rfl
          have hcz82_5 : wc.cell? ⟨gb136, 5, none⟩ = some (.int .i64 0) := bC BK136.out 5 rfl
          have hfz82_0 := blk_frozen BK136.out 0
          have hfz82_1 := blk_frozen BK136.out 1
          have hfz82_2 := blk_frozen BK136.out 2
          have hfz82_3 := blk_frozen BK136.out 3
          have hfz82_4 := blk_frozen BK136.out 4
          have hfz82_5 := blk_frozen BK136.out 5
          go_wp2
          refine bodyPost_ret (results_cell_row rfl _ _ gb136 25 #[.int .i64 x135000_27, .int .i64 x135001_27, .int .i64 x135002_42, .string a1_3, .string a0_4, .int .i64 a0_5] (0, 0) _ rfl (by (with_reducible repeat (first | refine bN ?_ _ | refine bD ?_ | refine bA ?_ _)); refine blk_put (cs := #[.int .i64 x135000_27, .int .i64 x135001_27, .int .i64 x135002_42, .string a1_3, .string a0_4, .int .i64 0]) ?_ 5 _ rfl; (with_reducible repeat (first | refine bN ?_ _ | refine bD ?_ | refine bA ?_ _)); refine blk_put (cs := #[.int .i64 x135000_27, .int .i64 x135001_27, .int .i64 x135002_42, .string a1_3, .string (⟨#[]⟩ : ByteArray), .int .i64 0]) ?_ 4 _ rfl; (with_reducible repeat (first | refine bN ?_ _ | refine bD ?_ | refine bA ?_ _)); refine blk_put (cs := #[.int .i64 x135000_27, .int .i64 x135001_27, .int .i64 x135002_42, .string (⟨#[]⟩ : ByteArray), .string (⟨#[]⟩ : ByteArray), .int .i64 0]) ?_ 3 _ rfl; (with_reducible repeat (first | refine bN ?_ _ | refine bD ?_ | refine bA ?_ _)); refine blk_put (cs := #[.int .i64 x135000_27, .int .i64 x135001_27, .int .i64 0, .string (⟨#[]⟩ : ByteArray), .string (⟨#[]⟩ : ByteArray), .int .i64 0]) ?_ 2 _ rfl; (with_reducible repeat (first | refine bN ?_ _ | refine bD ?_ | refine bA ?_ _)); refine blk_put (cs := #[.int .i64 x135000_27, .int .i64 0, .int .i64 0, .string (⟨#[]⟩ : ByteArray), .string (⟨#[]⟩ : ByteArray), .int .i64 0]) ?_ 1 _ rfl; (with_reducible repeat (first | refine bN ?_ _ | refine bD ?_ | refine bA ?_ _)); refine blk_put (cs := #[.int .i64 0, .int .i64 0, .int .i64 0, .string (⟨#[]⟩ : ByteArray), .string (⟨#[]⟩ : ByteArray), .int .i64 0]) ?_ 0 _ rfl; (with_reducible repeat (first | refine bN ?_ _ | refine bD ?_ | refine bA ?_ _)); refine blk_far ?_ NB136_134.out _; (with_reducible repeat (first | refine bN ?_ _ | refine bD ?_ | refine bA ?_ _)); exact BK136.out) Tryd.underlying25 rfl (by kernel_rfl)) rfl ?_
          exact ⟨by first | rfl | (simp [errW_none, errW_some] <;> rfl) | (simp [*, errW_none, errW_some] <;> rfl), by repeat (first | (with_reducible first | exact HB.out | apply wA | apply wN | apply wD | refine bS ?_ GE134.out | refine bS ?_ GE135.out | refine bS ?_ GE136.out | refine bS ?_ GE143.out) | exact HB.out)⟩
        ·replace c56 := Bool.eq_false_iff.mpr c56
         subst c56
         have H1 : (if t142 = true then (some (x135000_27, x135001_27, x135002_42, a0_3, a1_4, a1_5)) else (some (x135000_27, x135001_27, x135002_42, a0_3, a0_4, a0_5))) = some (r1, r2, r3, r4, r5, r6) := by rw [if_neg (show ¬ (false = true) by decide)] at H; exact H
         clear H
         have H := H1
         clear H1
         by_cases c83 : t142 = true
         ·subst c83
          have H1 : (some (x135000_27, x135001_27, x135002_42, a0_3, a1_4, a1_5)) = some (r1, r2, r3, r4, r5, r6) := by rw [if_pos rfl] at H; exact H
          clear H
          have H := H1
          clear H1
          simp only [Option.some.injEq, Prod.mk.injEq] at H
          obtain ⟨rfl, rfl, rfl, rfl, rfl, rfl⟩ := H
          have hnb84 := NB143_134.out
          have hnc84 := NB134_143.out
          have hnb85 := NB143_135.out
          have hnc85 := NB135_143.out
          have hnb86 := NB143_136.out
          have hnc86 := NB136_143.out
          have hcz87_0 : wc.cell? ⟨gb143, 0, none⟩ = some (.bool t139) := bC BK143.out 0 rfl
          have hcz87_1 : wc.cell? ⟨gb143, 1, none⟩ = some (.bool t140) := bC BK143.out 1 rfl
          have hcz87_2 : wc.cell? ⟨gb143, 2, none⟩ = some (.bool false) := bC BK143.out 2 rfl
          have hcz87_3 : wc.cell? ⟨gb143, 3, none⟩ = some (.bool true) := bC BK143.out 3 rfl
          have hfz87_0 := blk_frozen BK143.out 0
          have hfz87_1 := blk_frozen BK143.out 1
          have hfz87_2 := blk_frozen BK143.out 2
          have hfz87_3 := blk_frozen BK143.out 3
          try go_wp2
          have n0_ := A0 (blk_drew BK134.out)
          have n1_ := A0 (blk_drew BK135.out)
          have n2_ := A0 (blk_drew BK136.out)
          have n3_ := A0 (blk_drew BK143.out)
          have n4_ := A0 (below_drew1 HB.out)
          clear BK134
          clear BK135
          clear BK136
          clear BK143
          clear HB
          have BK134 := n0_
          have BK135 := n1_
          have BK136 := n2_
          have BK143 := n3_
          have HB := n4_
          clear n0_ n1_ n2_ n3_ n4_
          refine start_ (n := 8) (S := fun w' => w'.cell? ⟨gb135, 0, none⟩ = some (.int .i64 a1_0) ∧ w'.cell? ⟨gb135, 1, none⟩ = some (.int .i64 a1_1) ∧ w'.cell? ⟨gb135, 2, none⟩ = some (.int .i64 a1_2) ∧ w'.cell? ⟨gb135, 3, none⟩ = some (.string a1_3) ∧ w'.cell? ⟨gb135, 4, none⟩ = some (.string a1_4) ∧ w'.cell? ⟨gb135, 5, none⟩ = some (.int .i64 a1_5)) (ds := []) #[false, false, false, false, false, false, false, false] (by kernel_rfl) rfl rfl ⟨bC BK135.out 0 rfl, bC BK135.out 1 rfl, bC BK135.out 2 rfl, bC BK135.out 3 rfl, bC BK135.out 4 rfl, bC BK135.out 5 rfl⟩ (fun hHeld => ?_); refine with_tabW impl_Laid.tab11 impl_Laid.bits11 (fun HT_ HW_ => ?_)
          generalize wc.drew = w88 at BK134 BK135 BK136 BK143 HB hHeld ⊢
          refine pure_ (i := 0) (N := some 37) (v := ?_) (a' := ?_) #[true, false, false, false, false, false, false, false] rfl rfl (any_of HT_.out (by kernel_rfl)) (fun _ _ _ h => h) (Or.inl ⟨by rfl, ?_⟩) ?_ ?_
          rotate_left
          ·intro w'
           go_simp
           with_reducible rfl
          rotate_left
          ·simp only [Act.put, sqA, sqZ, sqS, i64_w, i32_w]
           rfl
          refine pure_ (i := 2) (N := some 39) (v := ?_) (a' := ?_) #[true, false, true, false, false, false, false, false] rfl rfl (any_of HT_.out (by kernel_rfl)) (fun _ _ _ h => h) (Or.inl ⟨by rfl, ?_⟩) ?_ ?_
          rotate_left
          ·intro w'
           go_simp
           with_reducible rfl
          rotate_left
          ·simp only [Act.put, sqA, sqZ, sqS, i64_w, i32_w]
           rfl
          refine take_ (i := 1) (N := some 38) (v := ?_) (a' := ?_) #[true, true, true, false, false, false, false, false] rfl rfl (take_ofW HT_.out HW_.out (by kernel_rfl)) (fun _ _ _ h => h) (Or.inl ⟨by rfl, ?_⟩) hHeld ?_ ?_
          rotate_left
          ·rintro w' ⟨s0, s1, s2, s3, s4, s5⟩
           go_simp
           with_reducible rfl
          rotate_left
          ·simp only [Act.put, sqA, sqZ, sqS, i64_w, i32_w]
           rfl
          refine pure_ (i := 4) (N := some 41) (v := ?_) (a' := ?_) #[true, true, true, false, true, false, false, false] rfl rfl (any_of HT_.out (by kernel_rfl)) (fun _ _ _ h => h) (Or.inl ⟨by rfl, ?_⟩) ?_ ?_
          rotate_left
          ·intro w'
           go_simp
           with_reducible rfl
          rotate_left
          ·simp only [Act.put, sqA, sqZ, sqS, i64_w, i32_w]
           rfl
          refine take_ (i := 3) (N := some 40) (v := ?_) (a' := ?_) #[true, true, true, true, true, false, false, false] rfl rfl (take_ofW HT_.out HW_.out (by kernel_rfl)) (fun _ _ _ h => h) (Or.inl ⟨by rfl, ?_⟩) hHeld ?_ ?_
          rotate_left
          ·rintro w' ⟨s0, s1, s2, s3, s4, s5⟩
           go_simp
           with_reducible rfl
          rotate_left
          ·simp only [Act.put, sqA, sqZ, sqS, i64_w, i32_w]
           rfl
          refine one_ (i := 5) (N := none) #[true, true, true, true, true, true, false, false] rfl rfl (one_of HT_.out (by kernel_rfl)) (by decide) (fun K hK => ?_)
          have hs89 : w88.cell? ⟨gb134, 4, none⟩ = some (.string a0_4) := bC BK134.out 4 rfl
          have hfs89 := blk_frozen BK134.out 4
          have hns89_1 := NB135_134.out
          have hns89_2 := NB136_134.out
          have hns89_3 := NB143_134.out
          have hms89_1 := NB134_135.out
          have hms89_2 := NB134_136.out
          have hms89_3 := NB134_143.out
          refine skip_ (w1 := ?_) (by rfl) rfl ?_ ?_
          rotate_left
          ·go_simp
           rfl
          refine hK.out _ _ ⟨((cell_far (p := ⟨gb134, _, none⟩) NB135_134.out _).trans (hHeld.1)), ((cell_far (p := ⟨gb134, _, none⟩) NB135_134.out _).trans (hHeld.2.1)), ((cell_far (p := ⟨gb134, _, none⟩) NB135_134.out _).trans (hHeld.2.2.1)), ((cell_far (p := ⟨gb134, _, none⟩) NB135_134.out _).trans (hHeld.2.2.2.1)), ((cell_far (p := ⟨gb134, _, none⟩) NB135_134.out _).trans (hHeld.2.2.2.2.1)), ((cell_far (p := ⟨gb134, _, none⟩) NB135_134.out _).trans (hHeld.2.2.2.2.2))⟩ (fun hHeld => ?_)
          clear hK K
          refine pure_ (i := 6) (N := some 42) (v := ?_) (a' := ?_) #[true, true, true, true, true, true, true, false] rfl rfl (any_of HT_.out (by kernel_rfl)) (fun _ _ _ h => h) (Or.inl ⟨by rfl, ?_⟩) ?_ ?_
          rotate_left
          ·intro w'
           go_simp
           with_reducible rfl
          rotate_left
          ·simp only [Act.put, sqA, sqZ, sqS, i64_w, i32_w]
           rfl
          refine one_ (i := 7) (N := none) #[true, true, true, true, true, true, true, true] rfl rfl (one_of HT_.out (by kernel_rfl)) (by decide) (fun K hK => ?_)
          have hs90 : w88.cell? ⟨gb134, 5, none⟩ = some (.int .i64 a0_5) := bC BK134.out 5 rfl
          have hfs90 := blk_frozen BK134.out 5
          have hns90_1 := NB135_134.out
          have hns90_2 := NB136_134.out
          have hns90_3 := NB143_134.out
          have hms90_1 := NB134_135.out
          have hms90_2 := NB134_136.out
          have hms90_3 := NB134_143.out
          refine skip_ (w1 := ?_) (by rfl) rfl ?_ ?_
          rotate_left
          ·go_simp
           rfl
          refine hK.out _ _ ⟨((cell_far (p := ⟨gb134, _, none⟩) NB135_134.out _).trans (hHeld.1)), ((cell_far (p := ⟨gb134, _, none⟩) NB135_134.out _).trans (hHeld.2.1)), ((cell_far (p := ⟨gb134, _, none⟩) NB135_134.out _).trans (hHeld.2.2.1)), ((cell_far (p := ⟨gb134, _, none⟩) NB135_134.out _).trans (hHeld.2.2.2.1)), ((cell_far (p := ⟨gb134, _, none⟩) NB135_134.out _).trans (hHeld.2.2.2.2.1)), ((cell_far (p := ⟨gb134, _, none⟩) NB135_134.out _).trans (hHeld.2.2.2.2.2))⟩ (fun hHeld => ?_)
          clear hK K
          refine done_ (done_of HT_.out (by kernel_rfl)) ?_
          have hnb91 := NB134_135.out
          have hnc91 := NB135_134.out
          have hnb92 := NB134_136.out
          have hnc92 := NB136_134.out
          have hcz93_0 : w88.cell? ⟨gb134, 0, none⟩ = some (.int .i64 x135000_27) := bC BK134.out 0 rfl
          have hcz93_1 : w88.cell? ⟨gb134, 1, none⟩ = some (.int .i64 x135001_27) := bC BK134.out 1 rfl
          have hcz93_2 : w88.cell? ⟨gb134, 2, none⟩ = some (.int .i64 x135002_42) := bC BK134.out 2 rfl
          have hcz93_3 : w88.cell? ⟨gb134, 3, none⟩ = some (.string a0_3) := bC BK134.out 3 rfl
          have hcz93_4 : w88.cell? ⟨gb134, 4, none⟩ = some (.string a0_4) := bC BK134.out 4 rfl
          have hcz93_5 : w88.cell? ⟨gb134, 5, none⟩ = some (.int .i64 a0_5) := bC BK134.out 5 rfl
          have hfz93_0 := blk_frozen BK134.out 0
          have hfz93_1 := blk_frozen BK134.out 1
          have hfz93_2 := blk_frozen BK134.out 2
          have hfz93_3 := blk_frozen BK134.out 3
          have hfz93_4 := blk_frozen BK134.out 4
          have hfz93_5 := blk_frozen BK134.out 5
          have hnb94 := NB136_135.out
          have hnc94 := NB135_136.out
          have hcz95_0 : w88.cell? ⟨gb136, 0, none⟩ = some (.int .i64 0) := bC BK136.out 0 rfl
          have hcz95_1 : w88.cell? ⟨gb136, 1, none⟩ = some (.int .i64 0) := bC BK136.out 1 rfl
          have hcz95_2 : w88.cell? ⟨gb136, 2, none⟩ = some (.int .i64 0) := bC BK136.out 2 rfl
          have hcz95_3 : w88.cell? ⟨gb136, 3, none⟩ = some (.string (⟨#[]⟩ : ByteArray)) := bC BK136.out 3 rfl
          have hcz95_4 : w88.cell? ⟨gb136, 4, none⟩ = some (.string (⟨#[]⟩ : ByteArray)) := bC BK136.out 4 rfl
          have hcz95_5 : w88.cell? ⟨gb136, 5, none⟩ = some (.int .i64 0) := bC BK136.out 5 rfl
          have hfz95_0 := blk_frozen BK136.out 0
          have hfz95_1 := blk_frozen BK136.out 1
          have hfz95_2 := blk_frozen BK136.out 2
          have hfz95_3 := blk_frozen BK136.out 3
          have hfz95_4 := blk_frozen BK136.out 4
          have hfz95_5 := blk_frozen BK136.out 5
          try go_wp2
          refine bodyPost_ret (results_cell_row rfl _ _ gb136 25 #[.int .i64 x135000_27, .int .i64 x135001_27, .int .i64 x135002_42, .string a0_3, .string a1_4, .int .i64 a1_5] (0, 0) _ rfl (by (with_reducible repeat (first | refine bN ?_ _ | refine bD ?_ | refine bA ?_ _)); refine blk_put (cs := #[.int .i64 x135000_27, .int .i64 x135001_27, .int .i64 x135002_42, .string a0_3, .string a1_4, .int .i64 0]) ?_ 5 _ rfl; (with_reducible repeat (first | refine bN ?_ _ | refine bD ?_ | refine bA ?_ _)); refine blk_put (cs := #[.int .i64 x135000_27, .int .i64 x135001_27, .int .i64 x135002_42, .string a0_3, .string (⟨#[]⟩ : ByteArray), .int .i64 0]) ?_ 4 _ rfl; (with_reducible repeat (first | refine bN ?_ _ | refine bD ?_ | refine bA ?_ _)); refine blk_put (cs := #[.int .i64 x135000_27, .int .i64 x135001_27, .int .i64 x135002_42, .string (⟨#[]⟩ : ByteArray), .string (⟨#[]⟩ : ByteArray), .int .i64 0]) ?_ 3 _ rfl; (with_reducible repeat (first | refine bN ?_ _ | refine bD ?_ | refine bA ?_ _)); refine blk_put (cs := #[.int .i64 x135000_27, .int .i64 x135001_27, .int .i64 0, .string (⟨#[]⟩ : ByteArray), .string (⟨#[]⟩ : ByteArray), .int .i64 0]) ?_ 2 _ rfl; (with_reducible repeat (first | refine bN ?_ _ | refine bD ?_ | refine bA ?_ _)); refine blk_put (cs := #[.int .i64 x135000_27, .int .i64 0, .int .i64 0, .string (⟨#[]⟩ : ByteArray), .string (⟨#[]⟩ : ByteArray), .int .i64 0]) ?_ 1 _ rfl; (with_reducible repeat (first | refine bN ?_ _ | refine bD ?_ | refine bA ?_ _)); refine blk_put (cs := #[.int .i64 0, .int .i64 0, .int .i64 0, .string (⟨#[]⟩ : ByteArray), .string (⟨#[]⟩ : ByteArray), .int .i64 0]) ?_ 0 _ rfl; (with_reducible repeat (first | refine bN ?_ _ | refine bD ?_ | refine bA ?_ _)); refine blk_far ?_ NB136_134.out _; (with_reducible repeat (first | refine bN ?_ _ | refine bD ?_ | refine bA ?_ _)); refine blk_far ?_ NB136_134.out _; (with_reducible repeat (first | refine bN ?_ _ | refine bD ?_ | refine bA ?_ _)); exact BK136.out) Tryd.underlying25 rfl (by kernel_rfl)) rfl ?_
          exact ⟨by first | rfl | (simp [errW_none, errW_some] <;> rfl) | (simp [*, errW_none, errW_some] <;> rfl), by repeat (first | (with_reducible first | exact HB.out | apply wA | apply wN | apply wD | refine bS ?_ GE134.out | refine bS ?_ GE135.out | refine bS ?_ GE136.out | refine bS ?_ GE143.out) | exact HB.out)⟩
         ·replace c83 := Bool.eq_false_iff.mpr c83
          subst c83
          have H1 : (some (x135000_27, x135001_27, x135002_42, a0_3, a0_4, a0_5)) = some (r1, r2, r3, r4, r5, r6) := by rw [if_neg (show ¬ (false = true) by decide)] at H; exact H
          clear H
          have H := H1
          clear H1
          simp only [Option.some.injEq, Prod.mk.injEq] at H
          obtain ⟨rfl, rfl, rfl, rfl, rfl, rfl⟩ := H
          have hnb96 := NB143_134.out
          have hnc96 := NB134_143.out
          have hnb97 := NB143_135.out
          have hnc97 := NB135_143.out
          have hnb98 := NB143_136.out
          have hnc98 := NB136_143.out
          have hcz99_0 : wc.cell? ⟨gb143, 0, none⟩ = some (.bool t139) := bC BK143.out 0 rfl
          have hcz99_1 : wc.cell? ⟨gb143, 1, none⟩ = some (.bool t140) := bC BK143.out 1 rfl
          have hcz99_2 : wc.cell? ⟨gb143, 2, none⟩ = some (.bool false) := bC BK143.out 2 rfl
          have hcz99_3 : wc.cell? ⟨gb143, 3, none⟩ = some (.bool false) := bC BK143.out 3 rfl
          have hfz99_0 := blk_frozen BK143.out 0
          have hfz99_1 := blk_frozen BK143.out 1
          have hfz99_2 := blk_frozen BK143.out 2
          have hfz99_3 := blk_frozen BK143.out 3
          have hnb100 := NB134_135.out
          have hnc100 := NB135_134.out
          have hnb101 := NB134_136.out
          have hnc101 := NB136_134.out
          have hcz102_0 : wc.cell? ⟨gb134, 0, none⟩ = some (.int .i64 x135000_27) := bC BK134.out 0 rfl
          have hcz102_1 : wc.cell? ⟨gb134, 1, none⟩ = some (.int .i64 x135001_27) := bC BK134.out 1 rfl
          have hcz102_2 : wc.cell? ⟨gb134, 2, none⟩ = some (.int .i64 x135002_42) := bC BK134.out 2 rfl
          have hcz102_3 : wc.cell? ⟨gb134, 3, none⟩ = some (.string a0_3) := bC BK134.out 3 rfl
          have hcz102_4 : wc.cell? ⟨gb134, 4, none⟩ = some (.string a0_4) := bC BK134.out 4 rfl
          have hcz102_5 : wc.cell? ⟨gb134, 5, none⟩ = some (.int .i64 a0_5) := bC BK134.out 5 rfl
          have hfz102_0 := blk_frozen BK134.out 0
          have hfz102_1 := blk_frozen BK134.out 1
          have hfz102_2 := blk_frozen BK134.out 2
          have hfz102_3 := blk_frozen BK134.out 3
          have hfz102_4 := blk_frozen BK134.out 4
          have hfz102_5 := blk_frozen BK134.out 5
          have hnb103 := NB136_135.out
          have hnc103 := NB135_136.out
          have hcz104_0 : wc.cell? ⟨gb136, 0, none⟩ = some (.int .i64 0) := bC BK136.out 0 rfl
          have hcz104_1 : wc.cell? ⟨gb136, 1, none⟩ = some (.int .i64 0) := bC BK136.out 1 rfl
          have hcz104_2 : wc.cell? ⟨gb136, 2, none⟩ = some (.int .i64 0) := bC BK136.out 2 rfl
          have hcz104_3 : wc.cell? ⟨gb136, 3, none⟩ = some (.string (⟨#[]⟩ : ByteArray)) := bC BK136.out 3 rfl
          have hcz104_4 : wc.cell? ⟨gb136, 4, none⟩ = some (.string (⟨#[]⟩ : ByteArray)) := bC BK136.out 4 rfl
          have hcz104_5 : wc.cell? ⟨gb136, 5, none⟩ = some (.int .i64 0) := bC BK136.out 5 rfl
          have hfz104_0 := blk_frozen BK136.out 0
          have hfz104_1 := blk_frozen BK136.out 1
          have hfz104_2 := blk_frozen BK136.out 2
          have hfz104_3 := blk_frozen BK136.out 3
          have hfz104_4 := blk_frozen BK136.out 4
          have hfz104_5 := blk_frozen BK136.out 5
          go_wp2
          refine bodyPost_ret (results_cell_row rfl _ _ gb136 25 #[.int .i64 x135000_27, .int .i64 x135001_27, .int .i64 x135002_42, .string a0_3, .string a0_4, .int .i64 a0_5] (0, 0) _ rfl (by (with_reducible repeat (first | refine bN ?_ _ | refine bD ?_ | refine bA ?_ _)); refine blk_put (cs := #[.int .i64 x135000_27, .int .i64 x135001_27, .int .i64 x135002_42, .string a0_3, .string a0_4, .int .i64 0]) ?_ 5 _ rfl; (with_reducible repeat (first | refine bN ?_ _ | refine bD ?_ | refine bA ?_ _)); refine blk_put (cs := #[.int .i64 x135000_27, .int .i64 x135001_27, .int .i64 x135002_42, .string a0_3, .string (⟨#[]⟩ : ByteArray), .int .i64 0]) ?_ 4 _ rfl; (with_reducible repeat (first | refine bN ?_ _ | refine bD ?_ | refine bA ?_ _)); refine blk_put (cs := #[.int .i64 x135000_27, .int .i64 x135001_27, .int .i64 x135002_42, .string (⟨#[]⟩ : ByteArray), .string (⟨#[]⟩ : ByteArray), .int .i64 0]) ?_ 3 _ rfl; (with_reducible repeat (first | refine bN ?_ _ | refine bD ?_ | refine bA ?_ _)); refine blk_put (cs := #[.int .i64 x135000_27, .int .i64 x135001_27, .int .i64 0, .string (⟨#[]⟩ : ByteArray), .string (⟨#[]⟩ : ByteArray), .int .i64 0]) ?_ 2 _ rfl; (with_reducible repeat (first | refine bN ?_ _ | refine bD ?_ | refine bA ?_ _)); refine blk_put (cs := #[.int .i64 x135000_27, .int .i64 0, .int .i64 0, .string (⟨#[]⟩ : ByteArray), .string (⟨#[]⟩ : ByteArray), .int .i64 0]) ?_ 1 _ rfl; (with_reducible repeat (first | refine bN ?_ _ | refine bD ?_ | refine bA ?_ _)); refine blk_put (cs := #[.int .i64 0, .int .i64 0, .int .i64 0, .string (⟨#[]⟩ : ByteArray), .string (⟨#[]⟩ : ByteArray), .int .i64 0]) ?_ 0 _ rfl; (with_reducible repeat (first | refine bN ?_ _ | refine bD ?_ | refine bA ?_ _)); exact BK136.out) Tryd.underlying25 rfl (by kernel_rfl)) rfl ?_
          exact ⟨by first | rfl | (simp [errW_none, errW_some] <;> rfl) | (simp [*, errW_none, errW_some] <;> rfl), by repeat (first | (with_reducible first | exact HB.out | apply wA | apply wN | apply wD | refine bS ?_ GE134.out | refine bS ?_ GE135.out | refine bS ?_ GE136.out | refine bS ?_ GE143.out) | exact HB.out)⟩

end Go.Proofs.YtcdghhihfjojaabDoor.Q
