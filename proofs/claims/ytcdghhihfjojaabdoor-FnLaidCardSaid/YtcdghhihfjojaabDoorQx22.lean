/- Plain Lean functions with the same answers as the Go functions of this seat, and a proof for each that the Go code comes to just these answers; no condition. Written by a program of this session (the kit's printer, turned). -/
import Derived.Test.YtcdghhihfjojaabDoorQx0
import Derived.Test.YtcdghhihfjojaabDoorQx1
import Derived.Test.YtcdghhihfjojaabDoorQx6
import Derived.Test.YtcdghhihfjojaabDoorQx7
import Derived.Test.YtcdghhihfjojaabDoorQx11
import Derived.Test.YtcdghhihfjojaabDoorQx13
import Derived.Test.YtcdghhihfjojaabDoorQx14
import Derived.Test.YtcdghhihfjojaabDoorQx21
namespace Go.Proofs.YtcdghhihfjojaabDoor.Q
open Go.RowKit Go.Proofs.YtcdghhihfjojaabDoorW.PrintWords Go.Proofs.YtcdghhihfjojaabDoorW.PrintLast Go.Proofs.YtcdghhihfjojaabDoorW.PrintMore Go.Proofs.YtcdghhihfjojaabDoorW.PrintFlt
attribute [local go_sem] cmp_lss cmp_leq cmp_gtr cmp_geq cmp_eql cmp_neq flt_l flt_r fgt_l fgt_r feq_l feq_r fne_l fne_r ord_lt ord_gt ord_eq ord_ne conv_int conv_flt foi_fold run_store_flt
attribute [local go_sem] max2_int min2_int max_two min_two max_three min_three max_four min_four   -- for this text's walks alone
set_option linter.unusedVariables false
set_option linter.unusedSimpArgs false

attribute [local go_sem high] eqA25
/-! ### laws_FnLaid: function 4 -/
mutual
def laws_FnLaid.j0 : Nat → Bool → List (List ByteArray) → List (List ByteArray) → Int → Int → Int → ByteArray → ByteArray → Int → Int → Int → Int → ByteArray → ByteArray → Int → Int → Int → Int → ByteArray → ByteArray → Int → Option (Bool)
 | 0, _, _, _, _, _, _, _, _, _, _, _, _, _, _, _, _, _, _, _, _, _ => none
 | k + 1, x29, x950, x951, x246000, x246001, x246002, x246003, x246004, x246005, x247000, x247001, x247002, x247003, x247004, x247005, x254000, x254001, x254002, x254003, x254004, x254005 => if x29 = true then (some (x254000 == 0 && (x254001 == 0 && (x254002 == 0 && (x254003.toList == ([] : List UInt8) && (x254004.toList == ([] : List UInt8) && (x254005 == 0))))))) else ((impl_SkyOk.f k x254000 x254001 x254002 x254003 x254004 x254005 x950 x951).bind fun t263 => (if t263 = true then ((impl_Laid.f k x254000 x254001 x254002 x254003 x254004 x254005 x247000 x247001 x247002 x247003 x247004 x247005 x950 x951).bind fun bt264 => (if (!(bt264.1 == x254000) || (!(bt264.2.1 == x254001) || (!(bt264.2.2.1 == x254002) || (!(bt264.2.2.2.1.toList == x254003.toList) || (!(bt264.2.2.2.2.1.toList == x254004.toList) || (!(bt264.2.2.2.2.2 == x254005))))))) = true then (none) else ((impl_Laid.f k x246000 x246001 x246002 x246003 x246004 x246005 (-1) 0 (-1) (⟨#[]⟩ : ByteArray) (⟨#[]⟩ : ByteArray) 0 x950 x951).bind fun bt270 => (if (!(bt270.1 == x246000) || (!(bt270.2.1 == x246001) || (!(bt270.2.2.1 == x246002) || (!(bt270.2.2.2.1.toList == x246003.toList) || (!(bt270.2.2.2.2.1.toList == x246004.toList) || (!(bt270.2.2.2.2.2 == x246005))))))) = true then (none) else ((impl_Laid.f k (-1) 0 (-1) (⟨#[]⟩ : ByteArray) (⟨#[]⟩ : ByteArray) 0 x246000 x246001 x246002 x246003 x246004 x246005 x950 x951).bind fun bt276 => (if (!(bt276.1 == x246000) || (!(bt276.2.1 == x246001) || (!(bt276.2.2.1 == x246002) || (!(bt276.2.2.2.1.toList == x246003.toList) || (!(bt276.2.2.2.2.1.toList == x246004.toList) || (!(bt276.2.2.2.2.2 == x246005))))))) = true then (none) else ((impl_Laid.f k x247000 x247001 x247002 x247003 x247004 x247005 x254000 x254001 x254002 x254003 x254004 x254005 x950 x951).bind fun bt282 => (if (!(bt282.1 == x254000) || (!(bt282.2.1 == x254001) || (!(bt282.2.2.1 == x254002) || (!(bt282.2.2.2.1.toList == x254003.toList) || (!(bt282.2.2.2.2.1.toList == x254004.toList) || (!(bt282.2.2.2.2.2 == x254005))))))) = true then (if x254000 = (-1) then (laws_FnLaid.j1 k false x247000 x247001 x247002 x247003 x247004 x247005 x254000 x254001 x254002 x254003 x254004 x254005) else (if x254002 = (-1) then (laws_FnLaid.j1 k false x247000 x247001 x247002 x247003 x247004 x247005 x254000 x254001 x254002 x254003 x254004 x254005) else (if x254003.toList = ([] : List UInt8) then (laws_FnLaid.j1 k false x247000 x247001 x247002 x247003 x247004 x247005 x254000 x254001 x254002 x254003 x254004 x254005) else (laws_FnLaid.j1 k (!x254004.toList.isEmpty) x247000 x247001 x247002 x247003 x247004 x247005 x254000 x254001 x254002 x254003 x254004 x254005)))) else (laws_FnLaid.j1 k false x247000 x247001 x247002 x247003 x247004 x247005 x254000 x254001 x254002 x254003 x254004 x254005))))))))) else (none)))
def laws_FnLaid.j1 : Nat → Bool → Int → Int → Int → ByteArray → ByteArray → Int → Int → Int → Int → ByteArray → ByteArray → Int → Option (Bool)
 | 0, _, _, _, _, _, _, _, _, _, _, _, _, _ => none
 | k + 1, x84, x247000, x247001, x247002, x247003, x247004, x247005, x254000, x254001, x254002, x254003, x254004, x254005 => if x84 = true then (none) else (if x247002 = (-1) then (if x247000 = (-1) then (if x247003.toList = ([] : List UInt8) then (if x247004.toList = ([] : List UInt8) then (some true) else (if x254004.toList = x247004.toList then (some (x254005 == x247005)) else (none))) else (if x254003.toList = x247003.toList then (if x247004.toList = ([] : List UInt8) then (some true) else (if x254004.toList = x247004.toList then (some (x254005 == x247005)) else (none))) else (none))) else (if x254000 = x247000 then (if x254001 = x247001 then (if x247003.toList = ([] : List UInt8) then (if x247004.toList = ([] : List UInt8) then (some true) else (if x254004.toList = x247004.toList then (some (x254005 == x247005)) else (none))) else (if x254003.toList = x247003.toList then (if x247004.toList = ([] : List UInt8) then (some true) else (if x254004.toList = x247004.toList then (some (x254005 == x247005)) else (none))) else (none))) else (none)) else (none))) else (if x254002 = x247002 then (if x247000 = (-1) then (if x247003.toList = ([] : List UInt8) then (if x247004.toList = ([] : List UInt8) then (some true) else (if x254004.toList = x247004.toList then (some (x254005 == x247005)) else (none))) else (if x254003.toList = x247003.toList then (if x247004.toList = ([] : List UInt8) then (some true) else (if x254004.toList = x247004.toList then (some (x254005 == x247005)) else (none))) else (none))) else (if x254000 = x247000 then (if x254001 = x247001 then (if x247003.toList = ([] : List UInt8) then (if x247004.toList = ([] : List UInt8) then (some true) else (if x254004.toList = x247004.toList then (some (x254005 == x247005)) else (none))) else (if x254003.toList = x247003.toList then (if x247004.toList = ([] : List UInt8) then (some true) else (if x254004.toList = x247004.toList then (some (x254005 == x247005)) else (none))) else (none))) else (none)) else (none))) else (none)))
end
def laws_FnLaid.f (k : Nat) (l0 : List Int) (l1 : List (List ByteArray)) (l2 : List (List ByteArray)) : Option (Bool) := (laws_big.f l0).bind fun t232 => (if t232 = true then (some true) else ((spec_DrawLaid.f k l0).bind fun bt233 => ((impl_Laid.f k bt233.1 bt233.2.1 bt233.2.2.1 bt233.2.2.2.1 bt233.2.2.2.2.1 bt233.2.2.2.2.2.1 bt233.2.2.2.2.2.2.1 bt233.2.2.2.2.2.2.2.1 bt233.2.2.2.2.2.2.2.2.1 bt233.2.2.2.2.2.2.2.2.2.1 bt233.2.2.2.2.2.2.2.2.2.2.1 bt233.2.2.2.2.2.2.2.2.2.2.2 l1 l2).bind fun bt247 => ((spec_Laid.f k bt233.1 bt233.2.1 bt233.2.2.1 bt233.2.2.2.1 bt233.2.2.2.2.1 bt233.2.2.2.2.2.1 bt233.2.2.2.2.2.2.1 bt233.2.2.2.2.2.2.2.1 bt233.2.2.2.2.2.2.2.2.1 bt233.2.2.2.2.2.2.2.2.2.1 bt233.2.2.2.2.2.2.2.2.2.2.1 bt233.2.2.2.2.2.2.2.2.2.2.2).bind fun bt254 => (if (!(bt247.1 == bt254.1) || (!(bt247.2.1 == bt254.2.1) || (!(bt247.2.2.1 == bt254.2.2.1) || (!(bt247.2.2.2.1.toList == bt254.2.2.2.1.toList) || (!(bt247.2.2.2.2.1.toList == bt254.2.2.2.2.1.toList) || (!(bt247.2.2.2.2.2 == bt254.2.2.2.2.2))))))) = true then (none) else ((spec_SkyOk.f k bt233.1 bt233.2.1 bt233.2.2.1 bt233.2.2.2.1 bt233.2.2.2.2.1 bt233.2.2.2.2.2.1).bind fun t260 => (if t260 = true then ((spec_SkyOk.f k bt233.2.2.2.2.2.2.1 bt233.2.2.2.2.2.2.2.1 bt233.2.2.2.2.2.2.2.2.1 bt233.2.2.2.2.2.2.2.2.2.1 bt233.2.2.2.2.2.2.2.2.2.2.1 bt233.2.2.2.2.2.2.2.2.2.2.2).bind fun t261 => (laws_FnLaid.j0 k (!t261) l1 l2 bt233.1 bt233.2.1 bt233.2.2.1 bt233.2.2.2.1 bt233.2.2.2.2.1 bt233.2.2.2.2.2.1 bt233.2.2.2.2.2.2.1 bt233.2.2.2.2.2.2.2.1 bt233.2.2.2.2.2.2.2.2.1 bt233.2.2.2.2.2.2.2.2.2.1 bt233.2.2.2.2.2.2.2.2.2.2.1 bt233.2.2.2.2.2.2.2.2.2.2.2 bt247.1 bt247.2.1 bt247.2.2.1 bt247.2.2.2.1 bt247.2.2.2.2.1 bt247.2.2.2.2.2)) else (laws_FnLaid.j0 k true l1 l2 bt233.1 bt233.2.1 bt233.2.2.1 bt233.2.2.2.1 bt233.2.2.2.2.1 bt233.2.2.2.2.2.1 bt233.2.2.2.2.2.2.1 bt233.2.2.2.2.2.2.2.1 bt233.2.2.2.2.2.2.2.2.1 bt233.2.2.2.2.2.2.2.2.2.1 bt233.2.2.2.2.2.2.2.2.2.2.1 bt233.2.2.2.2.2.2.2.2.2.2.2 bt247.1 bt247.2.1 bt247.2.2.1 bt247.2.2.2.1 bt247.2.2.2.2.1 bt247.2.2.2.2.2))))))))
theorem laws_FnLaid.mono_l : ∀ k, (∀ y0 y1 y2 y3 y4 y5 y6 y7 y8 y9 y10 y11 y12 y13 y14 y15 y16 y17 y18 y19 y20, LeO (laws_FnLaid.j0 k y0 y1 y2 y3 y4 y5 y6 y7 y8 y9 y10 y11 y12 y13 y14 y15 y16 y17 y18 y19 y20) (laws_FnLaid.j0 (k + 1) y0 y1 y2 y3 y4 y5 y6 y7 y8 y9 y10 y11 y12 y13 y14 y15 y16 y17 y18 y19 y20)) ∧ (∀ y0 y1 y2 y3 y4 y5 y6 y7 y8 y9 y10 y11 y12, LeO (laws_FnLaid.j1 k y0 y1 y2 y3 y4 y5 y6 y7 y8 y9 y10 y11 y12) (laws_FnLaid.j1 (k + 1) y0 y1 y2 y3 y4 y5 y6 y7 y8 y9 y10 y11 y12))
 | 0 => ⟨fun _ _ _ _ _ _ _ _ _ _ _ _ _ _ _ _ _ _ _ _ _ r h => by simp [laws_FnLaid.j0] at h, fun _ _ _ _ _ _ _ _ _ _ _ _ _ r h => by simp [laws_FnLaid.j1] at h⟩
 | k + 1 => by
  obtain ⟨ih0, ih1⟩ := laws_FnLaid.mono_l k
  refine ⟨?_, ?_⟩
  ·intro y0 y1 y2 y3 y4 y5 y6 y7 y8 y9 y10 y11 y12 y13 y14 y15 y16 y17 y18 y19 y20
   unfold laws_FnLaid.j0
   repeat' first
   | (with_reducible exact ih0 _ _ _ _ _ _ _ _ _ _ _ _ _ _ _ _ _ _ _ _ _)
   | (with_reducible exact ih1 _ _ _ _ _ _ _ _ _ _ _ _ _)
   | (with_reducible exact impl_Laid.mono _ _ _ _ _ _ _ _ _ _ _ _ _ _ _)
   | (with_reducible exact impl_SkyOk.mono _ _ _ _ _ _ _ _ _)
   | (with_reducible exact spec_DrawLaid.mono _ _)
   | (with_reducible exact spec_Laid.mono _ _ _ _ _ _ _ _ _ _ _ _ _)
   | (with_reducible exact spec_SkyOk.mono _ _ _ _ _ _ _)
   | (with_reducible exact LeO.refl _)
   | (with_reducible exact LeO.none _)
   | (with_reducible refine LeO.ite ?_ ?_)
   | (with_reducible refine LeO.bind ?_ (fun _ => ?_))
   | exact ih0 _ _ _ _ _ _ _ _ _ _ _ _ _ _ _ _ _ _ _ _ _
   | exact ih1 _ _ _ _ _ _ _ _ _ _ _ _ _
   | exact impl_Laid.mono _ _ _ _ _ _ _ _ _ _ _ _ _ _ _
   | exact impl_SkyOk.mono _ _ _ _ _ _ _ _ _
   | exact spec_DrawLaid.mono _ _
   | exact spec_Laid.mono _ _ _ _ _ _ _ _ _ _ _ _ _
   | exact spec_SkyOk.mono _ _ _ _ _ _ _
   | exact LeO.none _
   | refine LeO.ite ?_ ?_
   | refine LeO.bind ?_ (fun _ => ?_)
  ·intro y0 y1 y2 y3 y4 y5 y6 y7 y8 y9 y10 y11 y12
   unfold laws_FnLaid.j1
   repeat' first
   | (with_reducible exact ih0 _ _ _ _ _ _ _ _ _ _ _ _ _ _ _ _ _ _ _ _ _)
   | (with_reducible exact ih1 _ _ _ _ _ _ _ _ _ _ _ _ _)
   | (with_reducible exact impl_Laid.mono _ _ _ _ _ _ _ _ _ _ _ _ _ _ _)
   | (with_reducible exact impl_SkyOk.mono _ _ _ _ _ _ _ _ _)
   | (with_reducible exact spec_DrawLaid.mono _ _)
   | (with_reducible exact spec_Laid.mono _ _ _ _ _ _ _ _ _ _ _ _ _)
   | (with_reducible exact spec_SkyOk.mono _ _ _ _ _ _ _)
   | (with_reducible exact LeO.refl _)
   | (with_reducible exact LeO.none _)
   | (with_reducible refine LeO.ite ?_ ?_)
   | (with_reducible refine LeO.bind ?_ (fun _ => ?_))
   | exact ih0 _ _ _ _ _ _ _ _ _ _ _ _ _ _ _ _ _ _ _ _ _
   | exact ih1 _ _ _ _ _ _ _ _ _ _ _ _ _
   | exact impl_Laid.mono _ _ _ _ _ _ _ _ _ _ _ _ _ _ _
   | exact impl_SkyOk.mono _ _ _ _ _ _ _ _ _
   | exact spec_DrawLaid.mono _ _
   | exact spec_Laid.mono _ _ _ _ _ _ _ _ _ _ _ _ _
   | exact spec_SkyOk.mono _ _ _ _ _ _ _
   | exact LeO.none _
   | refine LeO.ite ?_ ?_
   | refine LeO.bind ?_ (fun _ => ?_)
theorem laws_FnLaid.mono : ∀ a0 a1 a2 k, LeO (laws_FnLaid.f k a0 a1 a2) (laws_FnLaid.f (k + 1) a0 a1 a2) := by
 intro a0 a1 a2 k
 obtain ⟨ih0, ih1⟩ := laws_FnLaid.mono_l k
 unfold laws_FnLaid.f
 repeat' first
   | (with_reducible exact ih0 _ _ _ _ _ _ _ _ _ _ _ _ _ _ _ _ _ _ _ _ _)
   | (with_reducible exact ih1 _ _ _ _ _ _ _ _ _ _ _ _ _)
   | (with_reducible exact impl_Laid.mono _ _ _ _ _ _ _ _ _ _ _ _ _ _ _)
   | (with_reducible exact impl_SkyOk.mono _ _ _ _ _ _ _ _ _)
   | (with_reducible exact spec_DrawLaid.mono _ _)
   | (with_reducible exact spec_Laid.mono _ _ _ _ _ _ _ _ _ _ _ _ _)
   | (with_reducible exact spec_SkyOk.mono _ _ _ _ _ _ _)
   | (with_reducible exact LeO.refl _)
   | (with_reducible exact LeO.none _)
   | (with_reducible refine LeO.ite ?_ ?_)
   | (with_reducible refine LeO.bind ?_ (fun _ => ?_))
   | exact ih0 _ _ _ _ _ _ _ _ _ _ _ _ _ _ _ _ _ _ _ _ _
   | exact ih1 _ _ _ _ _ _ _ _ _ _ _ _ _
   | exact impl_Laid.mono _ _ _ _ _ _ _ _ _ _ _ _ _ _ _
   | exact impl_SkyOk.mono _ _ _ _ _ _ _ _ _
   | exact spec_DrawLaid.mono _ _
   | exact spec_Laid.mono _ _ _ _ _ _ _ _ _ _ _ _ _
   | exact spec_SkyOk.mono _ _ _ _ _ _ _
   | exact LeO.none _
   | refine LeO.ite ?_ ?_
   | refine LeO.bind ?_ (fun _ => ?_)
def laws_FnLaid.T10 : Bool × List (List Nat × List Nat) := (true, [([], []), ([0], [0]), ([1], [1]), ([2, 1], [2]), ([3], [3]), ([3], [3]), ([4, 5, 3, 3], [3, 4, 5]), ([3], [3]), ([6, 7, 3], [3, 6, 7]), ([3, 8], [3, 8]), ([9, 6], [9]), ([10], [10]), ([10], [10]), ([11, 12, 10, 10], [10, 11, 12]), ([10], [10]), ([13, 14, 10], [10, 13, 14]), ([10, 15], [10, 15]), ([16, 13], [16]), ([17], [17]), ([17], [17]), ([18, 19, 17, 17], [17, 18, 19]), ([17], [17]), ([20, 21, 17], [17, 20, 21]), ([17, 22], [17, 22]), ([23, 20], [23]), ([24], [24]), ([24], [24]), ([25, 26, 24, 24], [24, 25, 26]), ([24], [24]), ([27, 28, 24], [24, 27, 28]), ([29, 27, 24], [24, 29]), ([30], [30]), ([31, 30], [30, 31]), ([32, 30], [30, 32]), ([30, 33, 24], [24, 30, 33]), ([34, 30, 24], [24, 34]), ([35], [35]), ([36, 35], [35, 36]), ([37, 35], [35, 37]), ([35, 38, 24], [24, 35, 38]), ([39, 35, 24], [24, 39]), ([40], [40]), ([41, 40], [40, 41]), ([42, 40], [40, 42]), ([40, 43, 24], [24, 40, 43]), ([44, 40, 24], [24, 44]), ([45], [45]), ([46, 45], [45, 46]), ([47, 45], [45, 47]), ([45, 48, 24], [24, 45, 48]), ([24, 49], [24, 49])])
def laws_FnLaid.B10 : List Nat := [0, 1, 3, 7, 15, 15, 63, 15, 255, 511, 1023, 2047, 2047, 8191, 2047, 32767, 65535, 131071, 262143, 262143, 1048575, 262143, 4194303, 8388607, 16777215, 33554431, 33554431, 134217727, 33554431, 536870911, 1073741823, 2147483647, 4294967295, 8589934591, 17179869183, 34359738367, 68719476735, 137438953471, 274877906943, 549755813887, 1099511627775, 2199023255551, 4398046511103, 8796093022207, 17592186044415, 35184372088831, 70368744177663, 140737488355327, 281474976710655, 562949953421311, 1125899906842623]
theorem laws_FnLaid.tab10 : rtab .any (opsOf Tryd.f4 10) = laws_FnLaid.T10 := by kernel_rfl
theorem laws_FnLaid.bits10 : waitsOk laws_FnLaid.T10.2 laws_FnLaid.B10 = true := by kernel_rfl
set_option maxHeartbeats 8000000 in
set_option maxRecDepth 100000 in
theorem laws_FnLaid.calls (k : Nat) (A0 : Option Addr) (c0 : Nat) (l0 : List Int) (l1 : List (List ByteArray)) (l2 : List (List ByteArray)) (r : Bool) (w : World) (hr0 : Kd.C (Kd.int .u8) w A0 l0.length l0) (hc0 : l0.length ≤ c0) (hr1 : Kd.C (Kd.slice 9 Kd.string) w (some ⟨0, 0, none⟩) l1.length l1) (hc1 : l1.length ≤ l1.length) (hr2 : Kd.C (Kd.slice 9 Kd.string) w (some ⟨1, 0, none⟩) l2.length l2) (hc2 : l2.length ≤ l2.length) (h : laws_FnLaid.f k l0 l1 l2 = some r) :
  Calls Tryd.prog 4 #[.slice A0 l0.length c0] w fun e w' => e = .returned (.bool r) ∧ Below w.heap.size w w' := by
 have hu25 := Tryd.underlying25
 have HR0 := Aside0.mk hr0
 have HC0 := Aside0.mk hc0
 clear hr0 hc0
 have HR1 := Aside0.mk hr1
 have HC1 := Aside0.mk hc1
 clear hr1 hc1
 have HR2 := Aside0.mk hr2
 have HC2 := Aside0.mk hc2
 clear hr2 hc2
 have HB := Aside0.mk (Below.refl w.heap.size w)
 have H : ((laws_big.f l0).bind fun t232 => (if t232 = true then (some true) else ((spec_DrawLaid.f k l0).bind fun bt233 => ((impl_Laid.f k bt233.1 bt233.2.1 bt233.2.2.1 bt233.2.2.2.1 bt233.2.2.2.2.1 bt233.2.2.2.2.2.1 bt233.2.2.2.2.2.2.1 bt233.2.2.2.2.2.2.2.1 bt233.2.2.2.2.2.2.2.2.1 bt233.2.2.2.2.2.2.2.2.2.1 bt233.2.2.2.2.2.2.2.2.2.2.1 bt233.2.2.2.2.2.2.2.2.2.2.2 l1 l2).bind fun bt247 => ((spec_Laid.f k bt233.1 bt233.2.1 bt233.2.2.1 bt233.2.2.2.1 bt233.2.2.2.2.1 bt233.2.2.2.2.2.1 bt233.2.2.2.2.2.2.1 bt233.2.2.2.2.2.2.2.1 bt233.2.2.2.2.2.2.2.2.1 bt233.2.2.2.2.2.2.2.2.2.1 bt233.2.2.2.2.2.2.2.2.2.2.1 bt233.2.2.2.2.2.2.2.2.2.2.2).bind fun bt254 => (if (!(bt247.1 == bt254.1) || (!(bt247.2.1 == bt254.2.1) || (!(bt247.2.2.1 == bt254.2.2.1) || (!(bt247.2.2.2.1.toList == bt254.2.2.2.1.toList) || (!(bt247.2.2.2.2.1.toList == bt254.2.2.2.2.1.toList) || (!(bt247.2.2.2.2.2 == bt254.2.2.2.2.2))))))) = true then (none) else ((spec_SkyOk.f k bt233.1 bt233.2.1 bt233.2.2.1 bt233.2.2.2.1 bt233.2.2.2.2.1 bt233.2.2.2.2.2.1).bind fun t260 => (if t260 = true then ((spec_SkyOk.f k bt233.2.2.2.2.2.2.1 bt233.2.2.2.2.2.2.2.1 bt233.2.2.2.2.2.2.2.2.1 bt233.2.2.2.2.2.2.2.2.2.1 bt233.2.2.2.2.2.2.2.2.2.2.1 bt233.2.2.2.2.2.2.2.2.2.2.2).bind fun t261 => (laws_FnLaid.j0 k (!t261) l1 l2 bt233.1 bt233.2.1 bt233.2.2.1 bt233.2.2.2.1 bt233.2.2.2.2.1 bt233.2.2.2.2.2.1 bt233.2.2.2.2.2.2.1 bt233.2.2.2.2.2.2.2.1 bt233.2.2.2.2.2.2.2.2.1 bt233.2.2.2.2.2.2.2.2.2.1 bt233.2.2.2.2.2.2.2.2.2.2.1 bt233.2.2.2.2.2.2.2.2.2.2.2 bt247.1 bt247.2.1 bt247.2.2.1 bt247.2.2.2.1 bt247.2.2.2.2.1 bt247.2.2.2.2.2)) else (laws_FnLaid.j0 k true l1 l2 bt233.1 bt233.2.1 bt233.2.2.1 bt233.2.2.2.1 bt233.2.2.2.2.1 bt233.2.2.2.2.2.1 bt233.2.2.2.2.2.2.1 bt233.2.2.2.2.2.2.2.1 bt233.2.2.2.2.2.2.2.2.1 bt233.2.2.2.2.2.2.2.2.2.1 bt233.2.2.2.2.2.2.2.2.2.2.1 bt233.2.2.2.2.2.2.2.2.2.2.2 bt247.1 bt247.2.1 bt247.2.2.1 bt247.2.2.2.1 bt247.2.2.2.2.1 bt247.2.2.2.2.2))))))))) = some r := h
 clear h
 replace H := Option.bind_eq_some_iff.mp H
 obtain ⟨t232, A40, H⟩ := H
 replace H : (if t232 = true then (some true) else ((spec_DrawLaid.f k l0).bind fun bt233 => ((impl_Laid.f k bt233.1 bt233.2.1 bt233.2.2.1 bt233.2.2.2.1 bt233.2.2.2.2.1 bt233.2.2.2.2.2.1 bt233.2.2.2.2.2.2.1 bt233.2.2.2.2.2.2.2.1 bt233.2.2.2.2.2.2.2.2.1 bt233.2.2.2.2.2.2.2.2.2.1 bt233.2.2.2.2.2.2.2.2.2.2.1 bt233.2.2.2.2.2.2.2.2.2.2.2 l1 l2).bind fun bt247 => ((spec_Laid.f k bt233.1 bt233.2.1 bt233.2.2.1 bt233.2.2.2.1 bt233.2.2.2.2.1 bt233.2.2.2.2.2.1 bt233.2.2.2.2.2.2.1 bt233.2.2.2.2.2.2.2.1 bt233.2.2.2.2.2.2.2.2.1 bt233.2.2.2.2.2.2.2.2.2.1 bt233.2.2.2.2.2.2.2.2.2.2.1 bt233.2.2.2.2.2.2.2.2.2.2.2).bind fun bt254 => (if (!(bt247.1 == bt254.1) || (!(bt247.2.1 == bt254.2.1) || (!(bt247.2.2.1 == bt254.2.2.1) || (!(bt247.2.2.2.1.toList == bt254.2.2.2.1.toList) || (!(bt247.2.2.2.2.1.toList == bt254.2.2.2.2.1.toList) || (!(bt247.2.2.2.2.2 == bt254.2.2.2.2.2))))))) = true then (none) else ((spec_SkyOk.f k bt233.1 bt233.2.1 bt233.2.2.1 bt233.2.2.2.1 bt233.2.2.2.2.1 bt233.2.2.2.2.2.1).bind fun t260 => (if t260 = true then ((spec_SkyOk.f k bt233.2.2.2.2.2.2.1 bt233.2.2.2.2.2.2.2.1 bt233.2.2.2.2.2.2.2.2.1 bt233.2.2.2.2.2.2.2.2.2.1 bt233.2.2.2.2.2.2.2.2.2.2.1 bt233.2.2.2.2.2.2.2.2.2.2.2).bind fun t261 => (laws_FnLaid.j0 k (!t261) l1 l2 bt233.1 bt233.2.1 bt233.2.2.1 bt233.2.2.2.1 bt233.2.2.2.2.1 bt233.2.2.2.2.2.1 bt233.2.2.2.2.2.2.1 bt233.2.2.2.2.2.2.2.1 bt233.2.2.2.2.2.2.2.2.1 bt233.2.2.2.2.2.2.2.2.2.1 bt233.2.2.2.2.2.2.2.2.2.2.1 bt233.2.2.2.2.2.2.2.2.2.2.2 bt247.1 bt247.2.1 bt247.2.2.1 bt247.2.2.2.1 bt247.2.2.2.2.1 bt247.2.2.2.2.2)) else (laws_FnLaid.j0 k true l1 l2 bt233.1 bt233.2.1 bt233.2.2.1 bt233.2.2.2.1 bt233.2.2.2.2.1 bt233.2.2.2.2.2.1 bt233.2.2.2.2.2.2.1 bt233.2.2.2.2.2.2.2.1 bt233.2.2.2.2.2.2.2.2.1 bt233.2.2.2.2.2.2.2.2.2.1 bt233.2.2.2.2.2.2.2.2.2.2.1 bt233.2.2.2.2.2.2.2.2.2.2.2 bt247.1 bt247.2.1 bt247.2.2.1 bt247.2.2.2.1 bt247.2.2.2.2.1 bt247.2.2.2.2.2)))))))) = some r := H
 have A4 := Aside0.mk A40
 clear A40
 by_cases c5 : t232 = true
 ·subst c5
  have H1 : (some true) = some r := by rw [if_pos rfl] at H; exact H
  clear H
  have H := H1
  clear H1
  obtain rfl := Option.some.inj H
  go_enter Tryd.func4, Tryd.ntmps4
  go_wp2_with (first | ((with_reducible refine gate_callee (f := 10) rfl ?_); refine goesL_ (some 8) rfl rfl Tryd.func10 (by kernel_rfl) rfl #[.slice A0 l0.length c0] rfl (by (try simp only [lM, lC, lN]); first | done | rfl | (simp only [lD, lT]; rfl)) ?_; (with_reducible refine (laws_big.calls _ _ l0 true _ ?side1 ?side2 A4.out).mono ?_); (case side1 => repeat (first | exact HR0.out | (with_reducible refine Kd.C_alloc ?_ _) | (with_reducible refine Kd.C_drewN ?_ _) | (with_reducible refine Kd.C_drew ?_))); (case side2 => exact HC0.out); rintro e w' ⟨rfl, ⟨nd, rfl⟩⟩; refine ⟨_, rfl, ?_⟩))
  go_ret
  exact ⟨by first | rfl | (simp [errW_none, errW_some] <;> rfl) | (simp [*, errW_none, errW_some] <;> rfl), by repeat (first | (with_reducible first | exact HB.out | apply wA | apply wN | apply wD) | exact HB.out)⟩
 ·replace c5 := Bool.eq_false_iff.mpr c5
  subst c5
  have H1 : ((spec_DrawLaid.f k l0).bind fun bt233 => ((impl_Laid.f k bt233.1 bt233.2.1 bt233.2.2.1 bt233.2.2.2.1 bt233.2.2.2.2.1 bt233.2.2.2.2.2.1 bt233.2.2.2.2.2.2.1 bt233.2.2.2.2.2.2.2.1 bt233.2.2.2.2.2.2.2.2.1 bt233.2.2.2.2.2.2.2.2.2.1 bt233.2.2.2.2.2.2.2.2.2.2.1 bt233.2.2.2.2.2.2.2.2.2.2.2 l1 l2).bind fun bt247 => ((spec_Laid.f k bt233.1 bt233.2.1 bt233.2.2.1 bt233.2.2.2.1 bt233.2.2.2.2.1 bt233.2.2.2.2.2.1 bt233.2.2.2.2.2.2.1 bt233.2.2.2.2.2.2.2.1 bt233.2.2.2.2.2.2.2.2.1 bt233.2.2.2.2.2.2.2.2.2.1 bt233.2.2.2.2.2.2.2.2.2.2.1 bt233.2.2.2.2.2.2.2.2.2.2.2).bind fun bt254 => (if (!(bt247.1 == bt254.1) || (!(bt247.2.1 == bt254.2.1) || (!(bt247.2.2.1 == bt254.2.2.1) || (!(bt247.2.2.2.1.toList == bt254.2.2.2.1.toList) || (!(bt247.2.2.2.2.1.toList == bt254.2.2.2.2.1.toList) || (!(bt247.2.2.2.2.2 == bt254.2.2.2.2.2))))))) = true then (none) else ((spec_SkyOk.f k bt233.1 bt233.2.1 bt233.2.2.1 bt233.2.2.2.1 bt233.2.2.2.2.1 bt233.2.2.2.2.2.1).bind fun t260 => (if t260 = true then ((spec_SkyOk.f k bt233.2.2.2.2.2.2.1 bt233.2.2.2.2.2.2.2.1 bt233.2.2.2.2.2.2.2.2.1 bt233.2.2.2.2.2.2.2.2.2.1 bt233.2.2.2.2.2.2.2.2.2.2.1 bt233.2.2.2.2.2.2.2.2.2.2.2).bind fun t261 => (laws_FnLaid.j0 k (!t261) l1 l2 bt233.1 bt233.2.1 bt233.2.2.1 bt233.2.2.2.1 bt233.2.2.2.2.1 bt233.2.2.2.2.2.1 bt233.2.2.2.2.2.2.1 bt233.2.2.2.2.2.2.2.1 bt233.2.2.2.2.2.2.2.2.1 bt233.2.2.2.2.2.2.2.2.2.1 bt233.2.2.2.2.2.2.2.2.2.2.1 bt233.2.2.2.2.2.2.2.2.2.2.2 bt247.1 bt247.2.1 bt247.2.2.1 bt247.2.2.2.1 bt247.2.2.2.2.1 bt247.2.2.2.2.2)) else (laws_FnLaid.j0 k true l1 l2 bt233.1 bt233.2.1 bt233.2.2.1 bt233.2.2.2.1 bt233.2.2.2.2.1 bt233.2.2.2.2.2.1 bt233.2.2.2.2.2.2.1 bt233.2.2.2.2.2.2.2.1 bt233.2.2.2.2.2.2.2.2.1 bt233.2.2.2.2.2.2.2.2.2.1 bt233.2.2.2.2.2.2.2.2.2.2.1 bt233.2.2.2.2.2.2.2.2.2.2.2 bt247.1 bt247.2.1 bt247.2.2.1 bt247.2.2.2.1 bt247.2.2.2.2.1 bt247.2.2.2.2.2))))))) = some r := by rw [if_neg (show ¬ (false = true) by decide)] at H; exact H
  clear H
  have H := H1
  clear H1
  replace H := Option.bind_eq_some_iff.mp H
  obtain ⟨⟨t233, t234, t235, t236, t237, t238, t239, t240, t241, t242, t243, t244⟩, A60, H⟩ := H
  replace H : ((impl_Laid.f k t233 t234 t235 t236 t237 t238 t239 t240 t241 t242 t243 t244 l1 l2).bind fun bt247 => ((spec_Laid.f k t233 t234 t235 t236 t237 t238 t239 t240 t241 t242 t243 t244).bind fun bt254 => (if (!(bt247.1 == bt254.1) || (!(bt247.2.1 == bt254.2.1) || (!(bt247.2.2.1 == bt254.2.2.1) || (!(bt247.2.2.2.1.toList == bt254.2.2.2.1.toList) || (!(bt247.2.2.2.2.1.toList == bt254.2.2.2.2.1.toList) || (!(bt247.2.2.2.2.2 == bt254.2.2.2.2.2))))))) = true then (none) else ((spec_SkyOk.f k t233 t234 t235 t236 t237 t238).bind fun t260 => (if t260 = true then ((spec_SkyOk.f k t239 t240 t241 t242 t243 t244).bind fun t261 => (laws_FnLaid.j0 k (!t261) l1 l2 t233 t234 t235 t236 t237 t238 t239 t240 t241 t242 t243 t244 bt247.1 bt247.2.1 bt247.2.2.1 bt247.2.2.2.1 bt247.2.2.2.2.1 bt247.2.2.2.2.2)) else (laws_FnLaid.j0 k true l1 l2 t233 t234 t235 t236 t237 t238 t239 t240 t241 t242 t243 t244 bt247.1 bt247.2.1 bt247.2.2.1 bt247.2.2.2.1 bt247.2.2.2.2.1 bt247.2.2.2.2.2)))))) = some r := H
  have A6 := Aside0.mk A60
  clear A60
  replace H := Option.bind_eq_some_iff.mp H
  obtain ⟨⟨t247, t248, t249, t250, t251, t252⟩, A70, H⟩ := H
  replace H : ((spec_Laid.f k t233 t234 t235 t236 t237 t238 t239 t240 t241 t242 t243 t244).bind fun bt254 => (if (!(t247 == bt254.1) || (!(t248 == bt254.2.1) || (!(t249 == bt254.2.2.1) || (!(t250.toList == bt254.2.2.2.1.toList) || (!(t251.toList == bt254.2.2.2.2.1.toList) || (!(t252 == bt254.2.2.2.2.2))))))) = true then (none) else ((spec_SkyOk.f k t233 t234 t235 t236 t237 t238).bind fun t260 => (if t260 = true then ((spec_SkyOk.f k t239 t240 t241 t242 t243 t244).bind fun t261 => (laws_FnLaid.j0 k (!t261) l1 l2 t233 t234 t235 t236 t237 t238 t239 t240 t241 t242 t243 t244 t247 t248 t249 t250 t251 t252)) else (laws_FnLaid.j0 k true l1 l2 t233 t234 t235 t236 t237 t238 t239 t240 t241 t242 t243 t244 t247 t248 t249 t250 t251 t252))))) = some r := H
  have A7 := Aside0.mk A70
  clear A70
  replace H := Option.bind_eq_some_iff.mp H
  obtain ⟨⟨t254, t255, t256, t257, t258, t259⟩, A80, H⟩ := H
  replace H : (if (!(t247 == t254) || (!(t248 == t255) || (!(t249 == t256) || (!(t250.toList == t257.toList) || (!(t251.toList == t258.toList) || (!(t252 == t259))))))) = true then (none) else ((spec_SkyOk.f k t233 t234 t235 t236 t237 t238).bind fun t260 => (if t260 = true then ((spec_SkyOk.f k t239 t240 t241 t242 t243 t244).bind fun t261 => (laws_FnLaid.j0 k (!t261) l1 l2 t233 t234 t235 t236 t237 t238 t239 t240 t241 t242 t243 t244 t247 t248 t249 t250 t251 t252)) else (laws_FnLaid.j0 k true l1 l2 t233 t234 t235 t236 t237 t238 t239 t240 t241 t242 t243 t244 t247 t248 t249 t250 t251 t252)))) = some r := H
  have A8 := Aside0.mk A80
  clear A80
  by_cases c9 : (!(t247 == t254) || (!(t248 == t255) || (!(t249 == t256) || (!(t250.toList == t257.toList) || (!(t251.toList == t258.toList) || (!(t252 == t259))))))) = true
  ·rw [if_pos c9] at H
   exact absurd H (by simp)
  ·rw [if_neg c9] at H
   have c9b0 : (!(t247 == t254) || (!(t248 == t255) || (!(t249 == t256) || (!(t250.toList == t257.toList) || (!(t251.toList == t258.toList) || (!(t252 == t259))))))) = false := by simpa using c9
   clear c9
   have HC10 := Aside0.mk H
   clear H
   go_enter Tryd.func4, Tryd.ntmps4
   try go_wp2_with (first | ((with_reducible refine gate_callee (f := 10) rfl ?_); refine goesL_ (some 8) rfl rfl Tryd.func10 (by kernel_rfl) rfl #[.slice A0 l0.length c0] rfl (by (try simp only [lM, lC, lN]); first | done | rfl | (simp only [lD, lT]; rfl)) ?_; (with_reducible refine (laws_big.calls _ _ l0 false _ ?side1 ?side2 A4.out).mono ?_); (case side1 => repeat (first | exact HR0.out | (with_reducible refine Kd.C_alloc ?_ _) | (with_reducible refine Kd.C_drewN ?_ _) | (with_reducible refine Kd.C_drew ?_))); (case side2 => exact HC0.out); rintro e w' ⟨rfl, ⟨nd, rfl⟩⟩; refine ⟨_, rfl, ?_⟩) | ((with_reducible refine gate_callee (f := 11) rfl ?_); refine goesL_ (some 11) rfl rfl Tryd.func11 (by kernel_rfl) rfl #[.slice A0 l0.length c0] rfl (by (try simp only [lM, lC, lN]); first | done | rfl | (simp only [lD, lT]; rfl)) ?_; (with_reducible refine (spec_DrawLaid.calls k _ _ l0 t233 t234 t235 t236 t237 t238 t239 t240 t241 t242 t243 t244 _ ?side1 ?side2 A6.out).mono ?_); (case side1 => repeat (first | exact HR0.out | (with_reducible refine Kd.C_alloc ?_ _) | (with_reducible refine Kd.C_drewN ?_ _) | (with_reducible refine Kd.C_drew ?_))); (case side2 => exact HC0.out); rintro e w11 ⟨rfl, hb⟩; refine ⟨_, rfl, ?_⟩; have n0_ := Aside0.mk (below_step (by repeat (first | (with_reducible first | exact HB.out | apply wA | apply wN | apply wD) | exact HB.out)) hb); clear HB; have HB := n0_; clear n0_; (try clear hb); (try clear hb2); (try clear hk); (try clear hi)) | ((with_reducible refine gate_dst (N := 3) rfl ?_); refine box_event ?hg (N := 3) ?hd (cs := #[.int .i64 0, .int .i64 0, .int .i64 0, .string (⟨#[]⟩ : ByteArray), .string (⟨#[]⟩ : ByteArray), .int .i64 0]) (t := 25) ?hr ?_; (case hd => rfl); (case hg => rfl); (case hr => first | (go_simp; done) | (go_simp; rfl)); intro gb245 hg w12 hbox hb; have n0_ := Aside0.mk (below_step (by repeat (first | (with_reducible first | exact HB.out | apply wA | apply wN | apply wD) | exact HB.out)) hb); have n1_ := Aside0.mk (hbox); have n2_ := Aside0.mk ((by rw [hg]; exact (below_size (by repeat (first | (with_reducible first | exact HB.out | apply wA | apply wN | apply wD) | exact HB.out))) : w.heap.size ≤ gb245)); have n3_ := Aside0.mk ((by rw [hg]; exact (below_size (by repeat (first | (with_reducible first | exact HB.out | apply wA | apply wN | apply wD) | exact HB.out))) : w.heap.size ≤ gb245)); clear HB; have HB := n0_; have BK245 := n1_; have GW245 := n2_; have GE245 := n3_; clear n0_ n1_ n2_ n3_; clear hb hbox hg) | ((with_reducible refine gate_dst (N := 4) rfl ?_); refine box_event ?hg (N := 4) ?hd (cs := #[.int .i64 0, .int .i64 0, .int .i64 0, .string (⟨#[]⟩ : ByteArray), .string (⟨#[]⟩ : ByteArray), .int .i64 0]) (t := 25) ?hr ?_; (case hd => rfl); (case hg => rfl); (case hr => first | (go_simp; done) | (go_simp; rfl)); intro gb246 hg w13 hbox hb; have n0_ := Aside0.mk (blk_below (g := gb245) (o := .cells #[.int .i64 0, .int .i64 0, .int .i64 0, .string (⟨#[]⟩ : ByteArray), .string (⟨#[]⟩ : ByteArray), .int .i64 0] 25 (0, 0)) (by (with_reducible repeat (first | refine bN ?_ _ | refine bD ?_ | refine bA ?_ _)); exact BK245.out) hb); have n1_ := Aside0.mk (below_step (by repeat (first | (with_reducible first | exact HB.out | apply wA | apply wN | apply wD | refine bS ?_ GE245.out) | exact HB.out)) hb); have n2_ := Aside0.mk (hbox); have n3_ := Aside0.mk ((by rw [hg]; exact (below_size (by repeat (first | (with_reducible first | exact HB.out | apply wA | apply wN | apply wD | refine bS ?_ GE245.out) | exact HB.out))) : w.heap.size ≤ gb246)); have n4_ := Aside0.mk ((by rw [hg]; exact (below_size (by repeat (first | (with_reducible first | exact HB.out | apply wA | apply wN | apply wD | refine bS ?_ GE245.out) | exact HB.out))) : w.heap.size ≤ gb246)); have n5_ := Aside0.mk ((by rw [hg]; exact Nat.ne_of_lt (blk_lt (g := gb245) (o := .cells #[.int .i64 0, .int .i64 0, .int .i64 0, .string (⟨#[]⟩ : ByteArray), .string (⟨#[]⟩ : ByteArray), .int .i64 0] 25 (0, 0)) (by (with_reducible repeat (first | refine bN ?_ _ | refine bD ?_ | refine bA ?_ _)); exact BK245.out)) : gb245 ≠ gb246)); have n6_ := Aside0.mk ((by rw [hg]; exact Nat.ne_of_gt (blk_lt (g := gb245) (o := .cells #[.int .i64 0, .int .i64 0, .int .i64 0, .string (⟨#[]⟩ : ByteArray), .string (⟨#[]⟩ : ByteArray), .int .i64 0] 25 (0, 0)) (by (with_reducible repeat (first | refine bN ?_ _ | refine bD ?_ | refine bA ?_ _)); exact BK245.out)) : gb246 ≠ gb245)); clear BK245; clear HB; have BK245 := n0_; have HB := n1_; have BK246 := n2_; have GW246 := n3_; have GE246 := n4_; have NB245_246 := n5_; have NB246_245 := n6_; clear n0_ n1_ n2_ n3_ n4_ n5_ n6_; clear hb hbox hg; have hnb14 := NB245_246.out; have hnc14 := NB246_245.out; have hcz15_0 : w13.cell? ⟨gb245, 0, none⟩ = some (.int .i64 0) := bC BK245.out 0 rfl; have hcz15_1 : w13.cell? ⟨gb245, 1, none⟩ = some (.int .i64 0) := bC BK245.out 1 rfl; have hcz15_2 : w13.cell? ⟨gb245, 2, none⟩ = some (.int .i64 0) := bC BK245.out 2 rfl; have hcz15_3 : w13.cell? ⟨gb245, 3, none⟩ = some (.string (⟨#[]⟩ : ByteArray)) := bC BK245.out 3 rfl; have hcz15_4 : w13.cell? ⟨gb245, 4, none⟩ = some (.string (⟨#[]⟩ : ByteArray)) := bC BK245.out 4 rfl; have hcz15_5 : w13.cell? ⟨gb245, 5, none⟩ = some (.int .i64 0) := bC BK245.out 5 rfl; have hfz15_0 := blk_frozen BK245.out 0; have hfz15_1 := blk_frozen BK245.out 1; have hfz15_2 := blk_frozen BK245.out 2; have hfz15_3 := blk_frozen BK245.out 3; have hfz15_4 := blk_frozen BK245.out 4; have hfz15_5 := blk_frozen BK245.out 5; have hcz16_0 : w13.cell? ⟨gb246, 0, none⟩ = some (.int .i64 0) := bC BK246.out 0 rfl; have hcz16_1 : w13.cell? ⟨gb246, 1, none⟩ = some (.int .i64 0) := bC BK246.out 1 rfl; have hcz16_2 : w13.cell? ⟨gb246, 2, none⟩ = some (.int .i64 0) := bC BK246.out 2 rfl; have hcz16_3 : w13.cell? ⟨gb246, 3, none⟩ = some (.string (⟨#[]⟩ : ByteArray)) := bC BK246.out 3 rfl; have hcz16_4 : w13.cell? ⟨gb246, 4, none⟩ = some (.string (⟨#[]⟩ : ByteArray)) := bC BK246.out 4 rfl; have hcz16_5 : w13.cell? ⟨gb246, 5, none⟩ = some (.int .i64 0) := bC BK246.out 5 rfl; have hfz16_0 := blk_frozen BK246.out 0; have hfz16_1 := blk_frozen BK246.out 1; have hfz16_2 := blk_frozen BK246.out 2; have hfz16_3 := blk_frozen BK246.out 3; have hfz16_4 := blk_frozen BK246.out 4; have hfz16_5 := blk_frozen BK246.out 5) | ((with_reducible refine gate_callee (f := 8) rfl ?_); refine goesL_ (some 16) rfl rfl Tryd.func8 (by kernel_rfl) rfl #[.agg #[.int .i64 t233, .int .i64 t234, .int .i64 t235, .string t236, .string t237, .int .i64 t238], .agg #[.int .i64 t239, .int .i64 t240, .int .i64 t241, .string t242, .string t243, .int .i64 t244]] rfl (by (try simp only [lM, lC, lN]); first | done | rfl | (simp only [lD, lT]; rfl)) ?_; (with_reducible refine (impl_Laid.calls k t233 t234 t235 t236 t237 t238 t239 t240 t241 t242 t243 t244 l1 l2 t247 t248 t249 t250 t251 t252 _ ?side1 ?side2 ?side3 ?side4 A7.out).mono ?_); (case side1 => exact Kd.C_below HR1.out (by repeat (first | (with_reducible first | exact HB.out | apply wA | apply wN | apply wD | refine bS ?_ GE245.out | refine bS ?_ GE246.out) | exact HB.out))); (case side2 => exact HC1.out); (case side3 => exact Kd.C_below HR2.out (by repeat (first | (with_reducible first | exact HB.out | apply wA | apply wN | apply wD | refine bS ?_ GE245.out | refine bS ?_ GE246.out) | exact HB.out))); (case side4 => exact HC2.out); rintro e w17 ⟨rfl, hb⟩; refine ⟨_, rfl, ?_⟩; have n0_ := Aside0.mk (blk_below (g := gb245) (o := .cells #[.int .i64 t233, .int .i64 t234, .int .i64 t235, .string t236, .string t237, .int .i64 t238] 25 (0, 0)) (by (with_reducible repeat (first | refine bN ?_ _ | refine bD ?_ | refine bA ?_ _)); refine blk_far ?_ NB245_246.out _; (with_reducible repeat (first | refine bN ?_ _ | refine bD ?_ | refine bA ?_ _)); refine blk_far ?_ NB245_246.out _; (with_reducible repeat (first | refine bN ?_ _ | refine bD ?_ | refine bA ?_ _)); refine blk_far ?_ NB245_246.out _; (with_reducible repeat (first | refine bN ?_ _ | refine bD ?_ | refine bA ?_ _)); refine blk_far ?_ NB245_246.out _; (with_reducible repeat (first | refine bN ?_ _ | refine bD ?_ | refine bA ?_ _)); refine blk_far ?_ NB245_246.out _; (with_reducible repeat (first | refine bN ?_ _ | refine bD ?_ | refine bA ?_ _)); refine blk_far ?_ NB245_246.out _; (with_reducible repeat (first | refine bN ?_ _ | refine bD ?_ | refine bA ?_ _)); refine blk_put (cs := #[.int .i64 t233, .int .i64 t234, .int .i64 t235, .string t236, .string t237, .int .i64 0]) ?_ 5 _ rfl; (with_reducible repeat (first | refine bN ?_ _ | refine bD ?_ | refine bA ?_ _)); refine blk_put (cs := #[.int .i64 t233, .int .i64 t234, .int .i64 t235, .string t236, .string (⟨#[]⟩ : ByteArray), .int .i64 0]) ?_ 4 _ rfl; (with_reducible repeat (first | refine bN ?_ _ | refine bD ?_ | refine bA ?_ _)); refine blk_put (cs := #[.int .i64 t233, .int .i64 t234, .int .i64 t235, .string (⟨#[]⟩ : ByteArray), .string (⟨#[]⟩ : ByteArray), .int .i64 0]) ?_ 3 _ rfl; (with_reducible repeat (first | refine bN ?_ _ | refine bD ?_ | refine bA ?_ _)); refine blk_put (cs := #[.int .i64 t233, .int .i64 t234, .int .i64 0, .string (⟨#[]⟩ : ByteArray), .string (⟨#[]⟩ : ByteArray), .int .i64 0]) ?_ 2 _ rfl; (with_reducible repeat (first | refine bN ?_ _ | refine bD ?_ | refine bA ?_ _)); refine blk_put (cs := #[.int .i64 t233, .int .i64 0, .int .i64 0, .string (⟨#[]⟩ : ByteArray), .string (⟨#[]⟩ : ByteArray), .int .i64 0]) ?_ 1 _ rfl; (with_reducible repeat (first | refine bN ?_ _ | refine bD ?_ | refine bA ?_ _)); refine blk_put (cs := #[.int .i64 0, .int .i64 0, .int .i64 0, .string (⟨#[]⟩ : ByteArray), .string (⟨#[]⟩ : ByteArray), .int .i64 0]) ?_ 0 _ rfl; (with_reducible repeat (first | refine bN ?_ _ | refine bD ?_ | refine bA ?_ _)); exact BK245.out) hb); have n1_ := Aside0.mk (blk_below (g := gb246) (o := .cells #[.int .i64 t239, .int .i64 t240, .int .i64 t241, .string t242, .string t243, .int .i64 t244] 25 (0, 0)) (by (with_reducible repeat (first | refine bN ?_ _ | refine bD ?_ | refine bA ?_ _)); refine blk_put (cs := #[.int .i64 t239, .int .i64 t240, .int .i64 t241, .string t242, .string t243, .int .i64 0]) ?_ 5 _ rfl; (with_reducible repeat (first | refine bN ?_ _ | refine bD ?_ | refine bA ?_ _)); refine blk_put (cs := #[.int .i64 t239, .int .i64 t240, .int .i64 t241, .string t242, .string (⟨#[]⟩ : ByteArray), .int .i64 0]) ?_ 4 _ rfl; (with_reducible repeat (first | refine bN ?_ _ | refine bD ?_ | refine bA ?_ _)); refine blk_put (cs := #[.int .i64 t239, .int .i64 t240, .int .i64 t241, .string (⟨#[]⟩ : ByteArray), .string (⟨#[]⟩ : ByteArray), .int .i64 0]) ?_ 3 _ rfl; (with_reducible repeat (first | refine bN ?_ _ | refine bD ?_ | refine bA ?_ _)); refine blk_put (cs := #[.int .i64 t239, .int .i64 t240, .int .i64 0, .string (⟨#[]⟩ : ByteArray), .string (⟨#[]⟩ : ByteArray), .int .i64 0]) ?_ 2 _ rfl; (with_reducible repeat (first | refine bN ?_ _ | refine bD ?_ | refine bA ?_ _)); refine blk_put (cs := #[.int .i64 t239, .int .i64 0, .int .i64 0, .string (⟨#[]⟩ : ByteArray), .string (⟨#[]⟩ : ByteArray), .int .i64 0]) ?_ 1 _ rfl; (with_reducible repeat (first | refine bN ?_ _ | refine bD ?_ | refine bA ?_ _)); refine blk_put (cs := #[.int .i64 0, .int .i64 0, .int .i64 0, .string (⟨#[]⟩ : ByteArray), .string (⟨#[]⟩ : ByteArray), .int .i64 0]) ?_ 0 _ rfl; (with_reducible repeat (first | refine bN ?_ _ | refine bD ?_ | refine bA ?_ _)); refine blk_far ?_ NB246_245.out _; (with_reducible repeat (first | refine bN ?_ _ | refine bD ?_ | refine bA ?_ _)); refine blk_far ?_ NB246_245.out _; (with_reducible repeat (first | refine bN ?_ _ | refine bD ?_ | refine bA ?_ _)); refine blk_far ?_ NB246_245.out _; (with_reducible repeat (first | refine bN ?_ _ | refine bD ?_ | refine bA ?_ _)); refine blk_far ?_ NB246_245.out _; (with_reducible repeat (first | refine bN ?_ _ | refine bD ?_ | refine bA ?_ _)); refine blk_far ?_ NB246_245.out _; (with_reducible repeat (first | refine bN ?_ _ | refine bD ?_ | refine bA ?_ _)); refine blk_far ?_ NB246_245.out _; (with_reducible repeat (first | refine bN ?_ _ | refine bD ?_ | refine bA ?_ _)); exact BK246.out) hb); have n2_ := Aside0.mk (below_step (by repeat (first | (with_reducible first | exact HB.out | apply wA | apply wN | apply wD | refine bS ?_ GE245.out | refine bS ?_ GE246.out) | exact HB.out)) hb); clear BK245; clear BK246; clear HB; have BK245 := n0_; have BK246 := n1_; have HB := n2_; clear n0_ n1_ n2_; (try clear hb); (try clear hb2); (try clear hk); (try clear hi)) | ((with_reducible refine gate_dst (N := 5) rfl ?_); refine box_event ?hg (N := 5) ?hd (cs := #[.int .i64 0, .int .i64 0, .int .i64 0, .string (⟨#[]⟩ : ByteArray), .string (⟨#[]⟩ : ByteArray), .int .i64 0]) (t := 25) ?hr ?_; (case hd => rfl); (case hg => rfl); (case hr => first | (go_simp; done) | (go_simp; rfl)); intro gb253 hg w18 hbox hb; have n0_ := Aside0.mk (blk_below (g := gb245) (o := .cells #[.int .i64 t233, .int .i64 t234, .int .i64 t235, .string t236, .string t237, .int .i64 t238] 25 (0, 0)) (by (with_reducible repeat (first | refine bN ?_ _ | refine bD ?_ | refine bA ?_ _)); exact BK245.out) hb); have n1_ := Aside0.mk (blk_below (g := gb246) (o := .cells #[.int .i64 t239, .int .i64 t240, .int .i64 t241, .string t242, .string t243, .int .i64 t244] 25 (0, 0)) (by (with_reducible repeat (first | refine bN ?_ _ | refine bD ?_ | refine bA ?_ _)); exact BK246.out) hb); have n2_ := Aside0.mk (below_step (by repeat (first | (with_reducible first | exact HB.out | apply wA | apply wN | apply wD | refine bS ?_ GE245.out | refine bS ?_ GE246.out) | exact HB.out)) hb); have n3_ := Aside0.mk (hbox); have n4_ := Aside0.mk ((by rw [hg]; exact (below_size (by repeat (first | (with_reducible first | exact HB.out | apply wA | apply wN | apply wD | refine bS ?_ GE245.out | refine bS ?_ GE246.out) | exact HB.out))) : w.heap.size ≤ gb253)); have n5_ := Aside0.mk ((by rw [hg]; exact (below_size (by repeat (first | (with_reducible first | exact HB.out | apply wA | apply wN | apply wD | refine bS ?_ GE245.out | refine bS ?_ GE246.out) | exact HB.out))) : w.heap.size ≤ gb253)); have n6_ := Aside0.mk ((by rw [hg]; exact Nat.ne_of_lt (blk_lt (g := gb245) (o := .cells #[.int .i64 t233, .int .i64 t234, .int .i64 t235, .string t236, .string t237, .int .i64 t238] 25 (0, 0)) (by (with_reducible repeat (first | refine bN ?_ _ | refine bD ?_ | refine bA ?_ _)); exact BK245.out)) : gb245 ≠ gb253)); have n7_ := Aside0.mk ((by rw [hg]; exact Nat.ne_of_gt (blk_lt (g := gb245) (o := .cells #[.int .i64 t233, .int .i64 t234, .int .i64 t235, .string t236, .string t237, .int .i64 t238] 25 (0, 0)) (by (with_reducible repeat (first | refine bN ?_ _ | refine bD ?_ | refine bA ?_ _)); exact BK245.out)) : gb253 ≠ gb245)); have n8_ := Aside0.mk ((by rw [hg]; exact Nat.ne_of_lt (blk_lt (g := gb246) (o := .cells #[.int .i64 t239, .int .i64 t240, .int .i64 t241, .string t242, .string t243, .int .i64 t244] 25 (0, 0)) (by (with_reducible repeat (first | refine bN ?_ _ | refine bD ?_ | refine bA ?_ _)); exact BK246.out)) : gb246 ≠ gb253)); have n9_ := Aside0.mk ((by rw [hg]; exact Nat.ne_of_gt (blk_lt (g := gb246) (o := .cells #[.int .i64 t239, .int .i64 t240, .int .i64 t241, .string t242, .string t243, .int .i64 t244] 25 (0, 0)) (by (with_reducible repeat (first | refine bN ?_ _ | refine bD ?_ | refine bA ?_ _)); exact BK246.out)) : gb253 ≠ gb246)); clear BK245; clear BK246; clear HB; have BK245 := n0_; have BK246 := n1_; have HB := n2_; have BK253 := n3_; have GW253 := n4_; have GE253 := n5_; have NB245_253 := n6_; have NB253_245 := n7_; have NB246_253 := n8_; have NB253_246 := n9_; clear n0_ n1_ n2_ n3_ n4_ n5_ n6_ n7_ n8_ n9_; clear hb hbox hg; have hnb19 := NB253_245.out; have hnc19 := NB245_253.out; have hnb20 := NB253_246.out; have hnc20 := NB246_253.out; have hcz21_0 : w18.cell? ⟨gb253, 0, none⟩ = some (.int .i64 0) := bC BK253.out 0 rfl; have hcz21_1 : w18.cell? ⟨gb253, 1, none⟩ = some (.int .i64 0) := bC BK253.out 1 rfl; have hcz21_2 : w18.cell? ⟨gb253, 2, none⟩ = some (.int .i64 0) := bC BK253.out 2 rfl; have hcz21_3 : w18.cell? ⟨gb253, 3, none⟩ = some (.string (⟨#[]⟩ : ByteArray)) := bC BK253.out 3 rfl; have hcz21_4 : w18.cell? ⟨gb253, 4, none⟩ = some (.string (⟨#[]⟩ : ByteArray)) := bC BK253.out 4 rfl; have hcz21_5 : w18.cell? ⟨gb253, 5, none⟩ = some (.int .i64 0) := bC BK253.out 5 rfl; have hfz21_0 := blk_frozen BK253.out 0; have hfz21_1 := blk_frozen BK253.out 1; have hfz21_2 := blk_frozen BK253.out 2; have hfz21_3 := blk_frozen BK253.out 3; have hfz21_4 := blk_frozen BK253.out 4; have hfz21_5 := blk_frozen BK253.out 5))
   have n0_ : Aside0 (((((((w18.setCell ⟨gb253, 0, none⟩ (.int .i64 t247)).setCell ⟨gb253, 1, none⟩ (.int .i64 t248)).setCell ⟨gb253, 2, none⟩ (.int .i64 t249)).setCell ⟨gb253, 3, none⟩ (.string t250)).setCell ⟨gb253, 4, none⟩ (.string t251)).setCell ⟨gb253, 5, none⟩ (.int .i64 t252)).heap[gb245]? = some (.cells #[.int .i64 t233, .int .i64 t234, .int .i64 t235, .string t236, .string t237, .int .i64 t238] 25 (0, 0))) := ⟨by (with_reducible repeat (first | refine bN ?_ _ | refine bD ?_ | refine bA ?_ _)); refine blk_far ?_ NB245_253.out _; (with_reducible repeat (first | refine bN ?_ _ | refine bD ?_ | refine bA ?_ _)); refine blk_far ?_ NB245_253.out _; (with_reducible repeat (first | refine bN ?_ _ | refine bD ?_ | refine bA ?_ _)); refine blk_far ?_ NB245_253.out _; (with_reducible repeat (first | refine bN ?_ _ | refine bD ?_ | refine bA ?_ _)); refine blk_far ?_ NB245_253.out _; (with_reducible repeat (first | refine bN ?_ _ | refine bD ?_ | refine bA ?_ _)); refine blk_far ?_ NB245_253.out _; (with_reducible repeat (first | refine bN ?_ _ | refine bD ?_ | refine bA ?_ _)); refine blk_far ?_ NB245_253.out _; (with_reducible repeat (first | refine bN ?_ _ | refine bD ?_ | refine bA ?_ _)); exact BK245.out⟩
   have n1_ : Aside0 (((((((w18.setCell ⟨gb253, 0, none⟩ (.int .i64 t247)).setCell ⟨gb253, 1, none⟩ (.int .i64 t248)).setCell ⟨gb253, 2, none⟩ (.int .i64 t249)).setCell ⟨gb253, 3, none⟩ (.string t250)).setCell ⟨gb253, 4, none⟩ (.string t251)).setCell ⟨gb253, 5, none⟩ (.int .i64 t252)).heap[gb246]? = some (.cells #[.int .i64 t239, .int .i64 t240, .int .i64 t241, .string t242, .string t243, .int .i64 t244] 25 (0, 0))) := ⟨by (with_reducible repeat (first | refine bN ?_ _ | refine bD ?_ | refine bA ?_ _)); refine blk_far ?_ NB246_253.out _; (with_reducible repeat (first | refine bN ?_ _ | refine bD ?_ | refine bA ?_ _)); refine blk_far ?_ NB246_253.out _; (with_reducible repeat (first | refine bN ?_ _ | refine bD ?_ | refine bA ?_ _)); refine blk_far ?_ NB246_253.out _; (with_reducible repeat (first | refine bN ?_ _ | refine bD ?_ | refine bA ?_ _)); refine blk_far ?_ NB246_253.out _; (with_reducible repeat (first | refine bN ?_ _ | refine bD ?_ | refine bA ?_ _)); refine blk_far ?_ NB246_253.out _; (with_reducible repeat (first | refine bN ?_ _ | refine bD ?_ | refine bA ?_ _)); refine blk_far ?_ NB246_253.out _; (with_reducible repeat (first | refine bN ?_ _ | refine bD ?_ | refine bA ?_ _)); exact BK246.out⟩
   have n2_ : Aside0 (((((((w18.setCell ⟨gb253, 0, none⟩ (.int .i64 t247)).setCell ⟨gb253, 1, none⟩ (.int .i64 t248)).setCell ⟨gb253, 2, none⟩ (.int .i64 t249)).setCell ⟨gb253, 3, none⟩ (.string t250)).setCell ⟨gb253, 4, none⟩ (.string t251)).setCell ⟨gb253, 5, none⟩ (.int .i64 t252)).heap[gb253]? = some (.cells #[.int .i64 t247, .int .i64 t248, .int .i64 t249, .string t250, .string t251, .int .i64 t252] 25 (0, 0))) := ⟨by (with_reducible repeat (first | refine bN ?_ _ | refine bD ?_ | refine bA ?_ _)); refine blk_put (cs := #[.int .i64 t247, .int .i64 t248, .int .i64 t249, .string t250, .string t251, .int .i64 0]) ?_ 5 _ rfl; (with_reducible repeat (first | refine bN ?_ _ | refine bD ?_ | refine bA ?_ _)); refine blk_put (cs := #[.int .i64 t247, .int .i64 t248, .int .i64 t249, .string t250, .string (⟨#[]⟩ : ByteArray), .int .i64 0]) ?_ 4 _ rfl; (with_reducible repeat (first | refine bN ?_ _ | refine bD ?_ | refine bA ?_ _)); refine blk_put (cs := #[.int .i64 t247, .int .i64 t248, .int .i64 t249, .string (⟨#[]⟩ : ByteArray), .string (⟨#[]⟩ : ByteArray), .int .i64 0]) ?_ 3 _ rfl; (with_reducible repeat (first | refine bN ?_ _ | refine bD ?_ | refine bA ?_ _)); refine blk_put (cs := #[.int .i64 t247, .int .i64 t248, .int .i64 0, .string (⟨#[]⟩ : ByteArray), .string (⟨#[]⟩ : ByteArray), .int .i64 0]) ?_ 2 _ rfl; (with_reducible repeat (first | refine bN ?_ _ | refine bD ?_ | refine bA ?_ _)); refine blk_put (cs := #[.int .i64 t247, .int .i64 0, .int .i64 0, .string (⟨#[]⟩ : ByteArray), .string (⟨#[]⟩ : ByteArray), .int .i64 0]) ?_ 1 _ rfl; (with_reducible repeat (first | refine bN ?_ _ | refine bD ?_ | refine bA ?_ _)); refine blk_put (cs := #[.int .i64 0, .int .i64 0, .int .i64 0, .string (⟨#[]⟩ : ByteArray), .string (⟨#[]⟩ : ByteArray), .int .i64 0]) ?_ 0 _ rfl; (with_reducible repeat (first | refine bN ?_ _ | refine bD ?_ | refine bA ?_ _)); exact BK253.out⟩
   have n3_ : Aside0 (Below w.heap.size w ((((((w18.setCell ⟨gb253, 0, none⟩ (.int .i64 t247)).setCell ⟨gb253, 1, none⟩ (.int .i64 t248)).setCell ⟨gb253, 2, none⟩ (.int .i64 t249)).setCell ⟨gb253, 3, none⟩ (.string t250)).setCell ⟨gb253, 4, none⟩ (.string t251)).setCell ⟨gb253, 5, none⟩ (.int .i64 t252))) := ⟨by repeat (first | (with_reducible first | exact HB.out | apply wA | apply wN | apply wD | refine bS ?_ GE245.out | refine bS ?_ GE246.out | refine bS ?_ GE253.out) | exact HB.out)⟩
   (try clear BK245)
   (try clear BK246)
   (try clear BK253)
   (try clear HB)
   generalize ((((((w18.setCell ⟨gb253, 0, none⟩ (.int .i64 t247)).setCell ⟨gb253, 1, none⟩ (.int .i64 t248)).setCell ⟨gb253, 2, none⟩ (.int .i64 t249)).setCell ⟨gb253, 3, none⟩ (.string t250)).setCell ⟨gb253, 4, none⟩ (.string t251)).setCell ⟨gb253, 5, none⟩ (.int .i64 t252)) = w22 at n0_ n1_ n2_ n3_ ⊢
   have BK245 := n0_
   have BK246 := n1_
   have BK253 := n2_
   have HB := n3_
   clear n0_ n1_ n2_ n3_
   have n0_ := Aside0.mk (blk_drew BK245.out)
   have n1_ := Aside0.mk (blk_drew BK246.out)
   have n2_ := Aside0.mk (blk_drew BK253.out)
   have n3_ := Aside0.mk (below_drew1 HB.out)
   clear BK245
   clear BK246
   clear BK253
   clear HB
   have BK245 := n0_
   have BK246 := n1_
   have BK253 := n2_
   have HB := n3_
   clear n0_ n1_ n2_ n3_
   refine start_ (n := 5) (S := fun w' => w'.cell? ⟨gb253, 0, none⟩ = some (.int .i64 t247) ∧ w'.cell? ⟨gb253, 1, none⟩ = some (.int .i64 t248) ∧ w'.cell? ⟨gb253, 2, none⟩ = some (.int .i64 t249) ∧ w'.cell? ⟨gb253, 3, none⟩ = some (.string t250) ∧ w'.cell? ⟨gb253, 4, none⟩ = some (.string t251) ∧ w'.cell? ⟨gb253, 5, none⟩ = some (.int .i64 t252) ∧ w'.cell? ⟨gb245, 0, none⟩ = some (.int .i64 t233) ∧ w'.cell? ⟨gb245, 1, none⟩ = some (.int .i64 t234) ∧ w'.cell? ⟨gb245, 2, none⟩ = some (.int .i64 t235) ∧ w'.cell? ⟨gb245, 3, none⟩ = some (.string t236) ∧ w'.cell? ⟨gb245, 4, none⟩ = some (.string t237) ∧ w'.cell? ⟨gb245, 5, none⟩ = some (.int .i64 t238) ∧ w'.cell? ⟨gb246, 0, none⟩ = some (.int .i64 t239) ∧ w'.cell? ⟨gb246, 1, none⟩ = some (.int .i64 t240) ∧ w'.cell? ⟨gb246, 2, none⟩ = some (.int .i64 t241) ∧ w'.cell? ⟨gb246, 3, none⟩ = some (.string t242) ∧ w'.cell? ⟨gb246, 4, none⟩ = some (.string t243) ∧ w'.cell? ⟨gb246, 5, none⟩ = some (.int .i64 t244)) (ds := []) #[false, false, false, false, false] (by kernel_rfl) rfl rfl ⟨bC BK253.out 0 rfl, bC BK253.out 1 rfl, bC BK253.out 2 rfl, bC BK253.out 3 rfl, bC BK253.out 4 rfl, bC BK253.out 5 rfl, bC BK245.out 0 rfl, bC BK245.out 1 rfl, bC BK245.out 2 rfl, bC BK245.out 3 rfl, bC BK245.out 4 rfl, bC BK245.out 5 rfl, bC BK246.out 0 rfl, bC BK246.out 1 rfl, bC BK246.out 2 rfl, bC BK246.out 3 rfl, bC BK246.out 4 rfl, bC BK246.out 5 rfl⟩ (fun hHeld => ?_)
   generalize w22.drew = w23 at BK245 BK246 BK253 HB hHeld ⊢
   refine take_ (i := 0) (N := some 17) (v := ?_) (a' := ?_) #[true, false, false, false, false] rfl rfl (by kernel_rfl) (fun _ _ _ h => h) (Or.inl ⟨by rfl, ?_⟩) hHeld ?_ ?_
   rotate_left
   ·rintro w' ⟨s0, s1, s2, s3, s4, s5, s6, s7, s8, s9, s10, s11, s12, s13, s14, s15, s16, s17⟩
    go_simp
    with_reducible rfl
   rotate_left
   ·simp only [Act.put, sqA, sqZ, sqS, i64_w, i32_w]
    rfl
   refine take_ (i := 1) (N := some 18) (v := ?_) (a' := ?_) #[true, true, false, false, false] rfl rfl (by kernel_rfl) (fun _ _ _ h => h) (Or.inl ⟨by rfl, ?_⟩) hHeld ?_ ?_
   rotate_left
   ·rintro w' ⟨s0, s1, s2, s3, s4, s5, s6, s7, s8, s9, s10, s11, s12, s13, s14, s15, s16, s17⟩
    go_simp
    with_reducible rfl
   rotate_left
   ·simp only [Act.put, sqA, sqZ, sqS, i64_w, i32_w]
    rfl
   refine take_ (i := 2) (N := some 19) (v := ?_) (a' := ?_) #[true, true, true, false, false] rfl rfl (by kernel_rfl) (fun _ _ _ h => h) (Or.inl ⟨by rfl, ?_⟩) hHeld ?_ ?_
   rotate_left
   ·rintro w' ⟨s0, s1, s2, s3, s4, s5, s6, s7, s8, s9, s10, s11, s12, s13, s14, s15, s16, s17⟩
    go_simp
    with_reducible rfl
   rotate_left
   ·simp only [Act.put, sqA, sqZ, sqS, i64_w, i32_w]
    rfl
   refine one_ (i := 3) (N := some 20) #[true, true, true, true, false] rfl rfl (by kernel_rfl) (by decide) (fun K hK => ?_)
   refine goes_ Tryd.func6 (by kernel_rfl) rfl #[.agg #[.int .i64 t233, .int .i64 t234, .int .i64 t235, .string t236, .string t237, .int .i64 t238], .agg #[.int .i64 t239, .int .i64 t240, .int .i64 t241, .string t242, .string t243, .int .i64 t244]] (by rfl) rfl rfl (by (try simp only [lM, lC, lN]); first | done | rfl | (simp only [lD, lT]; rfl)) ?_
   with_reducible refine (spec_Laid.calls k t233 t234 t235 t236 t237 t238 t239 t240 t241 t242 t243 t244 t254 t255 t256 t257 t258 t259 _ A8.out).mono ?_
   rintro e w24 ⟨rfl, hb⟩
   refine ⟨_, rfl, ?_⟩
   have n0_ := Aside0.mk (blk_below (g := gb245) (o := .cells #[.int .i64 t233, .int .i64 t234, .int .i64 t235, .string t236, .string t237, .int .i64 t238] 25 (0, 0)) (by (with_reducible repeat (first | refine bN ?_ _ | refine bD ?_ | refine bA ?_ _)); exact BK245.out) hb)
   have n1_ := Aside0.mk (blk_below (g := gb246) (o := .cells #[.int .i64 t239, .int .i64 t240, .int .i64 t241, .string t242, .string t243, .int .i64 t244] 25 (0, 0)) (by (with_reducible repeat (first | refine bN ?_ _ | refine bD ?_ | refine bA ?_ _)); exact BK246.out) hb)
   have n2_ := Aside0.mk (blk_below (g := gb253) (o := .cells #[.int .i64 t247, .int .i64 t248, .int .i64 t249, .string t250, .string t251, .int .i64 t252] 25 (0, 0)) (by (with_reducible repeat (first | refine bN ?_ _ | refine bD ?_ | refine bA ?_ _)); exact BK253.out) hb)
   have n3_ := Aside0.mk (below_step (by repeat (first | (with_reducible first | exact HB.out | apply wA | apply wN | apply wD | refine bS ?_ GE245.out | refine bS ?_ GE246.out | refine bS ?_ GE253.out) | exact HB.out)) hb)
   clear BK245
   clear BK246
   clear BK253
   clear HB
   have BK245 := n0_
   have BK246 := n1_
   have BK253 := n2_
   have HB := n3_
   clear n0_ n1_ n2_ n3_
   (try clear hb)
   (try clear hb2)
   (try clear hk)
   (try clear hi)
   refine hK.out _ _ ⟨bC BK253.out 0 rfl, bC BK253.out 1 rfl, bC BK253.out 2 rfl, bC BK253.out 3 rfl, bC BK253.out 4 rfl, bC BK253.out 5 rfl, bC BK245.out 0 rfl, bC BK245.out 1 rfl, bC BK245.out 2 rfl, bC BK245.out 3 rfl, bC BK245.out 4 rfl, bC BK245.out 5 rfl, bC BK246.out 0 rfl, bC BK246.out 1 rfl, bC BK246.out 2 rfl, bC BK246.out 3 rfl, bC BK246.out 4 rfl, bC BK246.out 5 rfl⟩ (fun hHeld => ?_)
   clear hK K
   refine norm_ (a' := ?_) ?_ ?_
   rotate_left
   ·show Act.put _ (some 20) _ = _
    simp only [Act.put, sqA, sqZ, sqS, i64_w, i32_w]
    rfl
   refine pure_ (i := 4) (N := some 21) (v := ?_) (a' := ?_) #[true, true, true, true, true] rfl rfl (by kernel_rfl) (fun _ _ _ h => h) (Or.inl ⟨by rfl, ?_⟩) ?_ ?_
   rotate_left
   ·intro w'
    go_simp
    with_reducible rfl
   rotate_left
   ·simp only [Act.put, sqA, sqZ, sqS, i64_w, i32_w]
    rfl
   refine done_ (by kernel_rfl) ?_
   go_upto_region 7 with (fail)
   go_cut [29] (fun v29 wc => ∃ (kq : Nat) (x29_9 : Bool), v29 = .bool x29_9 ∧ Aside0 (laws_FnLaid.j0 kq x29_9 l1 l2 t233 t234 t235 t236 t237 t238 t239 t240 t241 t242 t243 t244 t247 t248 t249 t250 t251 t252 = some r) ∧ Aside0 (kq ≤ k) ∧ Aside0 (wc.heap[gb245]? = some (.cells #[.int .i64 t233, .int .i64 t234, .int .i64 t235, .string t236, .string t237, .int .i64 t238] 25 (0, 0))) ∧ Aside0 (wc.heap[gb246]? = some (.cells #[.int .i64 t239, .int .i64 t240, .int .i64 t241, .string t242, .string t243, .int .i64 t244] 25 (0, 0))) ∧ Aside0 (wc.heap[gb253]? = some (.cells #[.int .i64 t247, .int .i64 t248, .int .i64 t249, .string t250, .string t251, .int .i64 t252] 25 (0, 0))) ∧ Aside0 (Below w.heap.size w wc))
   case first =>
    have H := HC10.out
    clear HC10
    replace H := Option.bind_eq_some_iff.mp H
    obtain ⟨t260, A250, H⟩ := H
    replace H : (if t260 = true then ((spec_SkyOk.f k t239 t240 t241 t242 t243 t244).bind fun t261 => (laws_FnLaid.j0 k (!t261) l1 l2 t233 t234 t235 t236 t237 t238 t239 t240 t241 t242 t243 t244 t247 t248 t249 t250 t251 t252)) else (laws_FnLaid.j0 k true l1 l2 t233 t234 t235 t236 t237 t238 t239 t240 t241 t242 t243 t244 t247 t248 t249 t250 t251 t252)) = some r := H
    have A25 := Aside0.mk A250
    clear A250
    by_cases c26 : t260 = true
    ·subst c26
     have H1 : ((spec_SkyOk.f k t239 t240 t241 t242 t243 t244).bind fun t261 => (laws_FnLaid.j0 k (!t261) l1 l2 t233 t234 t235 t236 t237 t238 t239 t240 t241 t242 t243 t244 t247 t248 t249 t250 t251 t252)) = some r := by rw [if_pos rfl] at H; exact H
     clear H
     have H := H1
     clear H1
     replace H := Option.bind_eq_some_iff.mp H
     obtain ⟨t261, A270, H⟩ := H
     replace H : (laws_FnLaid.j0 k (!t261) l1 l2 t233 t234 t235 t236 t237 t238 t239 t240 t241 t242 t243 t244 t247 t248 t249 t250 t251 t252) = some r := H
     have A27 := Aside0.mk A270
     clear A270
     have H' := Aside0.mk H
     clear H
     have hnb28 := NB245_246.out
     have hnc28 := NB246_245.out
     have hnb29 := NB245_253.out
     have hnc29 := NB253_245.out
     have hcz30_0 : w24.cell? ⟨gb245, 0, none⟩ = some (.int .i64 t233) := bC BK245.out 0 rfl
     have hcz30_1 : w24.cell? ⟨gb245, 1, none⟩ = some (.int .i64 t234) := bC BK245.out 1 rfl
     have hcz30_2 : w24.cell? ⟨gb245, 2, none⟩ = some (.int .i64 t235) := bC BK245.out 2 rfl
     have hcz30_3 : w24.cell? ⟨gb245, 3, none⟩ = some (.string t236) := bC BK245.out 3 rfl
     have hcz30_4 : w24.cell? ⟨gb245, 4, none⟩ = some (.string t237) := bC BK245.out 4 rfl
     have hcz30_5 : w24.cell? ⟨gb245, 5, none⟩ = some (.int .i64 t238) := bC BK245.out 5 rfl
     have hfz30_0 := blk_frozen BK245.out 0
     have hfz30_1 := blk_frozen BK245.out 1
     have hfz30_2 := blk_frozen BK245.out 2
     have hfz30_3 := blk_frozen BK245.out 3
     have hfz30_4 := blk_frozen BK245.out 4
     have hfz30_5 := blk_frozen BK245.out 5
     go_wp2_with (first | ((with_reducible refine gate_callee (f := 12) rfl ?_); refine goesL_ (some 23) rfl rfl Tryd.func12 (by kernel_rfl) rfl #[.agg #[.int .i64 t233, .int .i64 t234, .int .i64 t235, .string t236, .string t237, .int .i64 t238]] rfl (by (try simp only [lM, lC, lN]); first | done | rfl | (simp only [lD, lT]; rfl)) ?_; (with_reducible refine (spec_SkyOk.calls k t233 t234 t235 t236 t237 t238 true _ A25.out).mono ?_); rintro e w31 ⟨rfl, hb⟩; refine ⟨_, rfl, ?_⟩; have n0_ := Aside0.mk (blk_below (g := gb245) (o := .cells #[.int .i64 t233, .int .i64 t234, .int .i64 t235, .string t236, .string t237, .int .i64 t238] 25 (0, 0)) (by (with_reducible repeat (first | refine bN ?_ _ | refine bD ?_ | refine bA ?_ _)); exact BK245.out) hb); have n1_ := Aside0.mk (blk_below (g := gb246) (o := .cells #[.int .i64 t239, .int .i64 t240, .int .i64 t241, .string t242, .string t243, .int .i64 t244] 25 (0, 0)) (by (with_reducible repeat (first | refine bN ?_ _ | refine bD ?_ | refine bA ?_ _)); exact BK246.out) hb); have n2_ := Aside0.mk (blk_below (g := gb253) (o := .cells #[.int .i64 t247, .int .i64 t248, .int .i64 t249, .string t250, .string t251, .int .i64 t252] 25 (0, 0)) (by (with_reducible repeat (first | refine bN ?_ _ | refine bD ?_ | refine bA ?_ _)); exact BK253.out) hb); have n3_ := Aside0.mk (below_step (by repeat (first | (with_reducible first | exact HB.out | apply wA | apply wN | apply wD | refine bS ?_ GE245.out | refine bS ?_ GE246.out | refine bS ?_ GE253.out) | exact HB.out)) hb); clear BK245; clear BK246; clear BK253; clear HB; have BK245 := n0_; have BK246 := n1_; have BK253 := n2_; have HB := n3_; clear n0_ n1_ n2_ n3_; (try clear hb); (try clear hb2); (try clear hk); (try clear hi); have hnb32 := NB246_253.out; have hnc32 := NB253_246.out; have hcz33_0 : w31.cell? ⟨gb246, 0, none⟩ = some (.int .i64 t239) := bC BK246.out 0 rfl; have hcz33_1 : w31.cell? ⟨gb246, 1, none⟩ = some (.int .i64 t240) := bC BK246.out 1 rfl; have hcz33_2 : w31.cell? ⟨gb246, 2, none⟩ = some (.int .i64 t241) := bC BK246.out 2 rfl; have hcz33_3 : w31.cell? ⟨gb246, 3, none⟩ = some (.string t242) := bC BK246.out 3 rfl; have hcz33_4 : w31.cell? ⟨gb246, 4, none⟩ = some (.string t243) := bC BK246.out 4 rfl; have hcz33_5 : w31.cell? ⟨gb246, 5, none⟩ = some (.int .i64 t244) := bC BK246.out 5 rfl; have hfz33_0 := blk_frozen BK246.out 0; have hfz33_1 := blk_frozen BK246.out 1; have hfz33_2 := blk_frozen BK246.out 2; have hfz33_3 := blk_frozen BK246.out 3; have hfz33_4 := blk_frozen BK246.out 4; have hfz33_5 := blk_frozen BK246.out 5) | (go_at_call 12; (with_reducible refine (spec_SkyOk.calls k t239 t240 t241 t242 t243 t244 t261 _ A27.out).mono ?_); rintro e w34 ⟨rfl, hb⟩; have n0_ := Aside0.mk (blk_below (g := gb245) (o := .cells #[.int .i64 t233, .int .i64 t234, .int .i64 t235, .string t236, .string t237, .int .i64 t238] 25 (0, 0)) (by (with_reducible repeat (first | refine bN ?_ _ | refine bD ?_ | refine bA ?_ _)); exact BK245.out) hb); have n1_ := Aside0.mk (blk_below (g := gb246) (o := .cells #[.int .i64 t239, .int .i64 t240, .int .i64 t241, .string t242, .string t243, .int .i64 t244] 25 (0, 0)) (by (with_reducible repeat (first | refine bN ?_ _ | refine bD ?_ | refine bA ?_ _)); exact BK246.out) hb); have n2_ := Aside0.mk (blk_below (g := gb253) (o := .cells #[.int .i64 t247, .int .i64 t248, .int .i64 t249, .string t250, .string t251, .int .i64 t252] 25 (0, 0)) (by (with_reducible repeat (first | refine bN ?_ _ | refine bD ?_ | refine bA ?_ _)); exact BK253.out) hb); have n3_ := Aside0.mk (below_step (by repeat (first | (with_reducible first | exact HB.out | apply wA | apply wN | apply wD | refine bS ?_ GE245.out | refine bS ?_ GE246.out | refine bS ?_ GE253.out) | exact HB.out)) hb); clear BK245; clear BK246; clear BK253; clear HB; have BK245 := n0_; have BK246 := n1_; have BK253 := n2_; have HB := n3_; clear n0_ n1_ n2_ n3_; (try clear hb); (try clear hb2); (try clear hk); (try clear hi)))
     go_meet
     case rel => exact ⟨_, (!t261), (by first | rfl | (simp; done) | (simp [*]; done)), H', ⟨by first | omega | exact Nat.le_refl _⟩, ⟨by (with_reducible repeat (first | refine bN ?_ _ | refine bD ?_ | refine bA ?_ _)); exact BK245.out⟩, ⟨by (with_reducible repeat (first | refine bN ?_ _ | refine bD ?_ | refine bA ?_ _)); exact BK246.out⟩, ⟨by (with_reducible repeat (first | refine bN ?_ _ | refine bD ?_ | refine bA ?_ _)); exact BK253.out⟩, ⟨by repeat (first | (with_reducible first | exact HB.out | apply wA | apply wN | apply wD | refine bS ?_ GE245.out | refine bS ?_ GE246.out | refine bS ?_ GE253.out) | exact HB.out)⟩⟩
    ·replace c26 := Bool.eq_false_iff.mpr c26
     subst c26
     have H1 : (laws_FnLaid.j0 k true l1 l2 t233 t234 t235 t236 t237 t238 t239 t240 t241 t242 t243 t244 t247 t248 t249 t250 t251 t252) = some r := by rw [if_neg (show ¬ (false = true) by decide)] at H; exact H
     clear H
     have H := H1
     clear H1
     have H' := Aside0.mk H
     clear H
     have hnb35 := NB245_246.out
     have hnc35 := NB246_245.out
     have hnb36 := NB245_253.out
     have hnc36 := NB253_245.out
     have hcz37_0 : w24.cell? ⟨gb245, 0, none⟩ = some (.int .i64 t233) := bC BK245.out 0 rfl
     have hcz37_1 : w24.cell? ⟨gb245, 1, none⟩ = some (.int .i64 t234) := bC BK245.out 1 rfl
     have hcz37_2 : w24.cell? ⟨gb245, 2, none⟩ = some (.int .i64 t235) := bC BK245.out 2 rfl
     have hcz37_3 : w24.cell? ⟨gb245, 3, none⟩ = some (.string t236) := bC BK245.out 3 rfl
     have hcz37_4 : w24.cell? ⟨gb245, 4, none⟩ = some (.string t237) := bC BK245.out 4 rfl
     have hcz37_5 : w24.cell? ⟨gb245, 5, none⟩ = some (.int .i64 t238) := bC BK245.out 5 rfl
     have hfz37_0 := blk_frozen BK245.out 0
     have hfz37_1 := blk_frozen BK245.out 1
     have hfz37_2 := blk_frozen BK245.out 2
     have hfz37_3 := blk_frozen BK245.out 3
     have hfz37_4 := blk_frozen BK245.out 4
     have hfz37_5 := blk_frozen BK245.out 5
     go_wp2_with (first | ((with_reducible refine gate_callee (f := 12) rfl ?_); refine goesL_ (some 23) rfl rfl Tryd.func12 (by kernel_rfl) rfl #[.agg #[.int .i64 t233, .int .i64 t234, .int .i64 t235, .string t236, .string t237, .int .i64 t238]] rfl (by (try simp only [lM, lC, lN]); first | done | rfl | (simp only [lD, lT]; rfl)) ?_; (with_reducible refine (spec_SkyOk.calls k t233 t234 t235 t236 t237 t238 false _ A25.out).mono ?_); rintro e w38 ⟨rfl, hb⟩; refine ⟨_, rfl, ?_⟩; have n0_ := Aside0.mk (blk_below (g := gb245) (o := .cells #[.int .i64 t233, .int .i64 t234, .int .i64 t235, .string t236, .string t237, .int .i64 t238] 25 (0, 0)) (by (with_reducible repeat (first | refine bN ?_ _ | refine bD ?_ | refine bA ?_ _)); exact BK245.out) hb); have n1_ := Aside0.mk (blk_below (g := gb246) (o := .cells #[.int .i64 t239, .int .i64 t240, .int .i64 t241, .string t242, .string t243, .int .i64 t244] 25 (0, 0)) (by (with_reducible repeat (first | refine bN ?_ _ | refine bD ?_ | refine bA ?_ _)); exact BK246.out) hb); have n2_ := Aside0.mk (blk_below (g := gb253) (o := .cells #[.int .i64 t247, .int .i64 t248, .int .i64 t249, .string t250, .string t251, .int .i64 t252] 25 (0, 0)) (by (with_reducible repeat (first | refine bN ?_ _ | refine bD ?_ | refine bA ?_ _)); exact BK253.out) hb); have n3_ := Aside0.mk (below_step (by repeat (first | (with_reducible first | exact HB.out | apply wA | apply wN | apply wD | refine bS ?_ GE245.out | refine bS ?_ GE246.out | refine bS ?_ GE253.out) | exact HB.out)) hb); clear BK245; clear BK246; clear BK253; clear HB; have BK245 := n0_; have BK246 := n1_; have BK253 := n2_; have HB := n3_; clear n0_ n1_ n2_ n3_; (try clear hb); (try clear hb2); (try clear hk); (try clear hi)))
     go_meet
     case rel => exact ⟨_, (true), (by first | rfl | (simp; done) | (simp [*]; done)), H', ⟨by first | omega | exact Nat.le_refl _⟩, ⟨by (with_reducible repeat (first | refine bN ?_ _ | refine bD ?_ | refine bA ?_ _)); exact BK245.out⟩, ⟨by (with_reducible repeat (first | refine bN ?_ _ | refine bD ?_ | refine bA ?_ _)); exact BK246.out⟩, ⟨by (with_reducible repeat (first | refine bN ?_ _ | refine bD ?_ | refine bA ?_ _)); exact BK253.out⟩, ⟨by repeat (first | (with_reducible first | exact HB.out | apply wA | apply wN | apply wD | refine bS ?_ GE245.out | refine bS ?_ GE246.out | refine bS ?_ GE253.out) | exact HB.out)⟩⟩
   case rest =>
    clear HC10
    try clear c1
    try clear c2
    try clear p2
    try clear c3
    try clear c4
    try clear c5
    try clear c6
    try clear c8
    try clear c9
    try clear c9b0
    try clear c10
    try clear c11
    try clear c12
    try clear c14
    try clear c19
    try clear c20
    try clear c26
    try clear c28
    try clear c29
    try clear c32
    try clear c35
    try clear c36
    try clear hcz15_0
    try clear hcz15_1
    try clear hcz15_2
    try clear hcz15_3
    try clear hcz15_4
    try clear hcz15_5
    try clear hcz16_0
    try clear hcz16_1
    try clear hcz16_2
    try clear hcz16_3
    try clear hcz16_4
    try clear hcz16_5
    try clear hcz21_0
    try clear hcz21_1
    try clear hcz21_2
    try clear hcz21_3
    try clear hcz21_4
    try clear hcz21_5
    try clear hcz30_0
    try clear hcz30_1
    try clear hcz30_2
    try clear hcz30_3
    try clear hcz30_4
    try clear hcz30_5
    try clear hcz33_0
    try clear hcz33_1
    try clear hcz33_2
    try clear hcz33_3
    try clear hcz33_4
    try clear hcz33_5
    try clear hcz37_0
    try clear hcz37_1
    try clear hcz37_2
    try clear hcz37_3
    try clear hcz37_4
    try clear hcz37_5
    try clear hfz15_0
    try clear hfz15_1
    try clear hfz15_2
    try clear hfz15_3
    try clear hfz15_4
    try clear hfz15_5
    try clear hfz16_0
    try clear hfz16_1
    try clear hfz16_2
    try clear hfz16_3
    try clear hfz16_4
    try clear hfz16_5
    try clear hfz21_0
    try clear hfz21_1
    try clear hfz21_2
    try clear hfz21_3
    try clear hfz21_4
    try clear hfz21_5
    try clear hfz30_0
    try clear hfz30_1
    try clear hfz30_2
    try clear hfz30_3
    try clear hfz30_4
    try clear hfz30_5
    try clear hfz33_0
    try clear hfz33_1
    try clear hfz33_2
    try clear hfz33_3
    try clear hfz33_4
    try clear hfz33_5
    try clear hfz37_0
    try clear hfz37_1
    try clear hfz37_2
    try clear hfz37_3
    try clear hfz37_4
    try clear hfz37_5
    obtain ⟨kq, x29_9, rfl, HA, HJ9, BK245, BK246, BK253, HB⟩ := hcut
    cases kq with
    | zero => exact absurd HA.out (by simp [laws_FnLaid.j0])
    | succ kj9 =>
     have H := HA.out
     clear HA
     simp only [laws_FnLaid.j0] at H
     by_cases c39 : x29_9 = true
     ·subst c39
      have H1 : (some (t247 == 0 && (t248 == 0 && (t249 == 0 && (t250.toList == ([] : List UInt8) && (t251.toList == ([] : List UInt8) && (t252 == 0))))))) = some r := by rw [if_pos rfl] at H; exact H
      clear H
      have H := H1
      clear H1
      obtain rfl := Option.some.inj H
      have hnb40 := NB253_245.out
      have hnc40 := NB245_253.out
      have hnb41 := NB253_246.out
      have hnc41 := NB246_253.out
      have hcz42_0 : wc.cell? ⟨gb253, 0, none⟩ = some (.int .i64 t247) := bC BK253.out 0 rfl
      have hcz42_1 : wc.cell? ⟨gb253, 1, none⟩ = some (.int .i64 t248) := bC BK253.out 1 rfl
      have hcz42_2 : wc.cell? ⟨gb253, 2, none⟩ = some (.int .i64 t249) := bC BK253.out 2 rfl
      have hcz42_3 : wc.cell? ⟨gb253, 3, none⟩ = some (.string t250) := bC BK253.out 3 rfl
      have hcz42_4 : wc.cell? ⟨gb253, 4, none⟩ = some (.string t251) := bC BK253.out 4 rfl
      have hcz42_5 : wc.cell? ⟨gb253, 5, none⟩ = some (.int .i64 t252) := bC BK253.out 5 rfl
      have hfz42_0 := blk_frozen BK253.out 0
      have hfz42_1 := blk_frozen BK253.out 1
      have hfz42_2 := blk_frozen BK253.out 2
      have hfz42_3 := blk_frozen BK253.out 3
      have hfz42_4 := blk_frozen BK253.out 4
      have hfz42_5 := blk_frozen BK253.out 5
      go_wp2
      go_ret
      exact ⟨by first | rfl | (simp [errW_none, errW_some] <;> rfl) | (simp [*, errW_none, errW_some] <;> rfl), by repeat (first | (with_reducible first | exact HB.out | apply wA | apply wN | apply wD | refine bS ?_ GE245.out | refine bS ?_ GE246.out | refine bS ?_ GE253.out) | exact HB.out)⟩
     ·replace c39 := Bool.eq_false_iff.mpr c39
      subst c39
      have H1 : ((impl_SkyOk.f kj9 t247 t248 t249 t250 t251 t252 l1 l2).bind fun t263 => (if t263 = true then ((impl_Laid.f kj9 t247 t248 t249 t250 t251 t252 t239 t240 t241 t242 t243 t244 l1 l2).bind fun bt264 => (if (!(bt264.1 == t247) || (!(bt264.2.1 == t248) || (!(bt264.2.2.1 == t249) || (!(bt264.2.2.2.1.toList == t250.toList) || (!(bt264.2.2.2.2.1.toList == t251.toList) || (!(bt264.2.2.2.2.2 == t252))))))) = true then (none) else ((impl_Laid.f kj9 t233 t234 t235 t236 t237 t238 (-1) 0 (-1) (⟨#[]⟩ : ByteArray) (⟨#[]⟩ : ByteArray) 0 l1 l2).bind fun bt270 => (if (!(bt270.1 == t233) || (!(bt270.2.1 == t234) || (!(bt270.2.2.1 == t235) || (!(bt270.2.2.2.1.toList == t236.toList) || (!(bt270.2.2.2.2.1.toList == t237.toList) || (!(bt270.2.2.2.2.2 == t238))))))) = true then (none) else ((impl_Laid.f kj9 (-1) 0 (-1) (⟨#[]⟩ : ByteArray) (⟨#[]⟩ : ByteArray) 0 t233 t234 t235 t236 t237 t238 l1 l2).bind fun bt276 => (if (!(bt276.1 == t233) || (!(bt276.2.1 == t234) || (!(bt276.2.2.1 == t235) || (!(bt276.2.2.2.1.toList == t236.toList) || (!(bt276.2.2.2.2.1.toList == t237.toList) || (!(bt276.2.2.2.2.2 == t238))))))) = true then (none) else ((impl_Laid.f kj9 t239 t240 t241 t242 t243 t244 t247 t248 t249 t250 t251 t252 l1 l2).bind fun bt282 => (if (!(bt282.1 == t247) || (!(bt282.2.1 == t248) || (!(bt282.2.2.1 == t249) || (!(bt282.2.2.2.1.toList == t250.toList) || (!(bt282.2.2.2.2.1.toList == t251.toList) || (!(bt282.2.2.2.2.2 == t252))))))) = true then (if t247 = (-1) then (laws_FnLaid.j1 kj9 false t239 t240 t241 t242 t243 t244 t247 t248 t249 t250 t251 t252) else (if t249 = (-1) then (laws_FnLaid.j1 kj9 false t239 t240 t241 t242 t243 t244 t247 t248 t249 t250 t251 t252) else (if t250.toList = ([] : List UInt8) then (laws_FnLaid.j1 kj9 false t239 t240 t241 t242 t243 t244 t247 t248 t249 t250 t251 t252) else (laws_FnLaid.j1 kj9 (!t251.toList.isEmpty) t239 t240 t241 t242 t243 t244 t247 t248 t249 t250 t251 t252)))) else (laws_FnLaid.j1 kj9 false t239 t240 t241 t242 t243 t244 t247 t248 t249 t250 t251 t252))))))))) else (none))) = some r := by rw [if_neg (show ¬ (false = true) by decide)] at H; exact H
      clear H
      have H := H1
      clear H1
      have HC43 := Aside0.mk H
      clear H
      go_upto_region 10 with (first | ((with_reducible refine gate_dst (N := 6) rfl ?_); refine box_event ?hg (N := 6) ?hd (cs := #[.int .i64 0, .int .i64 0, .int .i64 0, .string (⟨#[]⟩ : ByteArray), .string (⟨#[]⟩ : ByteArray), .int .i64 0]) (t := 25) ?hr ?_; (case hd => rfl); (case hg => rfl); (case hr => first | (go_simp; done) | (go_simp; rfl)); intro gb262 hg w44 hbox hb; have n0_ := Aside0.mk (blk_below (g := gb245) (o := .cells #[.int .i64 t233, .int .i64 t234, .int .i64 t235, .string t236, .string t237, .int .i64 t238] 25 (0, 0)) (by (with_reducible repeat (first | refine bN ?_ _ | refine bD ?_ | refine bA ?_ _)); exact BK245.out) hb); have n1_ := Aside0.mk (blk_below (g := gb246) (o := .cells #[.int .i64 t239, .int .i64 t240, .int .i64 t241, .string t242, .string t243, .int .i64 t244] 25 (0, 0)) (by (with_reducible repeat (first | refine bN ?_ _ | refine bD ?_ | refine bA ?_ _)); exact BK246.out) hb); have n2_ := Aside0.mk (blk_below (g := gb253) (o := .cells #[.int .i64 t247, .int .i64 t248, .int .i64 t249, .string t250, .string t251, .int .i64 t252] 25 (0, 0)) (by (with_reducible repeat (first | refine bN ?_ _ | refine bD ?_ | refine bA ?_ _)); exact BK253.out) hb); have n3_ := Aside0.mk (below_step (by repeat (first | (with_reducible first | exact HB.out | apply wA | apply wN | apply wD | refine bS ?_ GE245.out | refine bS ?_ GE246.out | refine bS ?_ GE253.out) | exact HB.out)) hb); have n4_ := Aside0.mk (hbox); have n5_ := Aside0.mk ((by rw [hg]; exact (below_size (by repeat (first | (with_reducible first | exact HB.out | apply wA | apply wN | apply wD | refine bS ?_ GE245.out | refine bS ?_ GE246.out | refine bS ?_ GE253.out) | exact HB.out))) : w.heap.size ≤ gb262)); have n6_ := Aside0.mk ((by rw [hg]; exact (below_size (by repeat (first | (with_reducible first | exact HB.out | apply wA | apply wN | apply wD | refine bS ?_ GE245.out | refine bS ?_ GE246.out | refine bS ?_ GE253.out) | exact HB.out))) : w.heap.size ≤ gb262)); have n7_ := Aside0.mk ((by rw [hg]; exact Nat.ne_of_lt (blk_lt (g := gb245) (o := .cells #[.int .i64 t233, .int .i64 t234, .int .i64 t235, .string t236, .string t237, .int .i64 t238] 25 (0, 0)) (by (with_reducible repeat (first | refine bN ?_ _ | refine bD ?_ | refine bA ?_ _)); exact BK245.out)) : gb245 ≠ gb262)); have n8_ := Aside0.mk ((by rw [hg]; exact Nat.ne_of_gt (blk_lt (g := gb245) (o := .cells #[.int .i64 t233, .int .i64 t234, .int .i64 t235, .string t236, .string t237, .int .i64 t238] 25 (0, 0)) (by (with_reducible repeat (first | refine bN ?_ _ | refine bD ?_ | refine bA ?_ _)); exact BK245.out)) : gb262 ≠ gb245)); have n9_ := Aside0.mk ((by rw [hg]; exact Nat.ne_of_lt (blk_lt (g := gb246) (o := .cells #[.int .i64 t239, .int .i64 t240, .int .i64 t241, .string t242, .string t243, .int .i64 t244] 25 (0, 0)) (by (with_reducible repeat (first | refine bN ?_ _ | refine bD ?_ | refine bA ?_ _)); exact BK246.out)) : gb246 ≠ gb262)); have n10_ := Aside0.mk ((by rw [hg]; exact Nat.ne_of_gt (blk_lt (g := gb246) (o := .cells #[.int .i64 t239, .int .i64 t240, .int .i64 t241, .string t242, .string t243, .int .i64 t244] 25 (0, 0)) (by (with_reducible repeat (first | refine bN ?_ _ | refine bD ?_ | refine bA ?_ _)); exact BK246.out)) : gb262 ≠ gb246)); have n11_ := Aside0.mk ((by rw [hg]; exact Nat.ne_of_lt (blk_lt (g := gb253) (o := .cells #[.int .i64 t247, .int .i64 t248, .int .i64 t249, .string t250, .string t251, .int .i64 t252] 25 (0, 0)) (by (with_reducible repeat (first | refine bN ?_ _ | refine bD ?_ | refine bA ?_ _)); exact BK253.out)) : gb253 ≠ gb262)); have n12_ := Aside0.mk ((by rw [hg]; exact Nat.ne_of_gt (blk_lt (g := gb253) (o := .cells #[.int .i64 t247, .int .i64 t248, .int .i64 t249, .string t250, .string t251, .int .i64 t252] 25 (0, 0)) (by (with_reducible repeat (first | refine bN ?_ _ | refine bD ?_ | refine bA ?_ _)); exact BK253.out)) : gb262 ≠ gb253)); clear BK245; clear BK246; clear BK253; clear HB; have BK245 := n0_; have BK246 := n1_; have BK253 := n2_; have HB := n3_; have BK262 := n4_; have GW262 := n5_; have GE262 := n6_; have NB245_262 := n7_; have NB262_245 := n8_; have NB246_262 := n9_; have NB262_246 := n10_; have NB253_262 := n11_; have NB262_253 := n12_; clear n0_ n1_ n2_ n3_ n4_ n5_ n6_ n7_ n8_ n9_ n10_ n11_ n12_; clear hb hbox hg; have hnb45 := NB262_245.out; have hnc45 := NB245_262.out; have hnb46 := NB262_246.out; have hnc46 := NB246_262.out; have hnb47 := NB262_253.out; have hnc47 := NB253_262.out; have hcz48_0 : w44.cell? ⟨gb262, 0, none⟩ = some (.int .i64 0) := bC BK262.out 0 rfl; have hcz48_1 : w44.cell? ⟨gb262, 1, none⟩ = some (.int .i64 0) := bC BK262.out 1 rfl; have hcz48_2 : w44.cell? ⟨gb262, 2, none⟩ = some (.int .i64 0) := bC BK262.out 2 rfl; have hcz48_3 : w44.cell? ⟨gb262, 3, none⟩ = some (.string (⟨#[]⟩ : ByteArray)) := bC BK262.out 3 rfl; have hcz48_4 : w44.cell? ⟨gb262, 4, none⟩ = some (.string (⟨#[]⟩ : ByteArray)) := bC BK262.out 4 rfl; have hcz48_5 : w44.cell? ⟨gb262, 5, none⟩ = some (.int .i64 0) := bC BK262.out 5 rfl; have hfz48_0 := blk_frozen BK262.out 0; have hfz48_1 := blk_frozen BK262.out 1; have hfz48_2 := blk_frozen BK262.out 2; have hfz48_3 := blk_frozen BK262.out 3; have hfz48_4 := blk_frozen BK262.out 4; have hfz48_5 := blk_frozen BK262.out 5))
      (try simp only [Act.put, sqA, sqZ, sqS])
      go_cut [84] (fun v84 wc => ∃ (kq : Nat) (x84_42 : Bool), v84 = .bool x84_42 ∧ Aside0 (laws_FnLaid.j1 kq x84_42 t239 t240 t241 t242 t243 t244 t247 t248 t249 t250 t251 t252 = some r) ∧ Aside0 (kq ≤ kj9) ∧ Aside0 (wc.heap[gb245]? = some (.cells #[.int .i64 t233, .int .i64 t234, .int .i64 t235, .string t236, .string t237, .int .i64 t238] 25 (0, 0))) ∧ Aside0 (wc.heap[gb246]? = some (.cells #[.int .i64 t239, .int .i64 t240, .int .i64 t241, .string t242, .string t243, .int .i64 t244] 25 (0, 0))) ∧ Aside0 (wc.heap[gb253]? = some (.cells #[.int .i64 t247, .int .i64 t248, .int .i64 t249, .string t250, .string t251, .int .i64 t252] 25 (0, 0))) ∧ Aside0 (wc.heap[gb262]? = some (.cells #[.int .i64 (-1), .int .i64 0, .int .i64 (-1), .string (⟨#[]⟩ : ByteArray), .string (⟨#[]⟩ : ByteArray), .int .i64 0] 25 (0, 0))) ∧ Aside0 (Below w.heap.size w wc))
      case first =>
       have H := HC43.out
       clear HC43
       replace H := Option.bind_eq_some_iff.mp H
       obtain ⟨t263, A490, H⟩ := H
       replace H : (if t263 = true then ((impl_Laid.f kj9 t247 t248 t249 t250 t251 t252 t239 t240 t241 t242 t243 t244 l1 l2).bind fun bt264 => (if (!(bt264.1 == t247) || (!(bt264.2.1 == t248) || (!(bt264.2.2.1 == t249) || (!(bt264.2.2.2.1.toList == t250.toList) || (!(bt264.2.2.2.2.1.toList == t251.toList) || (!(bt264.2.2.2.2.2 == t252))))))) = true then (none) else ((impl_Laid.f kj9 t233 t234 t235 t236 t237 t238 (-1) 0 (-1) (⟨#[]⟩ : ByteArray) (⟨#[]⟩ : ByteArray) 0 l1 l2).bind fun bt270 => (if (!(bt270.1 == t233) || (!(bt270.2.1 == t234) || (!(bt270.2.2.1 == t235) || (!(bt270.2.2.2.1.toList == t236.toList) || (!(bt270.2.2.2.2.1.toList == t237.toList) || (!(bt270.2.2.2.2.2 == t238))))))) = true then (none) else ((impl_Laid.f kj9 (-1) 0 (-1) (⟨#[]⟩ : ByteArray) (⟨#[]⟩ : ByteArray) 0 t233 t234 t235 t236 t237 t238 l1 l2).bind fun bt276 => (if (!(bt276.1 == t233) || (!(bt276.2.1 == t234) || (!(bt276.2.2.1 == t235) || (!(bt276.2.2.2.1.toList == t236.toList) || (!(bt276.2.2.2.2.1.toList == t237.toList) || (!(bt276.2.2.2.2.2 == t238))))))) = true then (none) else ((impl_Laid.f kj9 t239 t240 t241 t242 t243 t244 t247 t248 t249 t250 t251 t252 l1 l2).bind fun bt282 => (if (!(bt282.1 == t247) || (!(bt282.2.1 == t248) || (!(bt282.2.2.1 == t249) || (!(bt282.2.2.2.1.toList == t250.toList) || (!(bt282.2.2.2.2.1.toList == t251.toList) || (!(bt282.2.2.2.2.2 == t252))))))) = true then (if t247 = (-1) then (laws_FnLaid.j1 kj9 false t239 t240 t241 t242 t243 t244 t247 t248 t249 t250 t251 t252) else (if t249 = (-1) then (laws_FnLaid.j1 kj9 false t239 t240 t241 t242 t243 t244 t247 t248 t249 t250 t251 t252) else (if t250.toList = ([] : List UInt8) then (laws_FnLaid.j1 kj9 false t239 t240 t241 t242 t243 t244 t247 t248 t249 t250 t251 t252) else (laws_FnLaid.j1 kj9 (!t251.toList.isEmpty) t239 t240 t241 t242 t243 t244 t247 t248 t249 t250 t251 t252)))) else (laws_FnLaid.j1 kj9 false t239 t240 t241 t242 t243 t244 t247 t248 t249 t250 t251 t252))))))))) else (none)) = some r := H
       have A49 := Aside0.mk A490
       clear A490
       by_cases c50 : t263 = true
       ·subst c50
        have H1 : ((impl_Laid.f kj9 t247 t248 t249 t250 t251 t252 t239 t240 t241 t242 t243 t244 l1 l2).bind fun bt264 => (if (!(bt264.1 == t247) || (!(bt264.2.1 == t248) || (!(bt264.2.2.1 == t249) || (!(bt264.2.2.2.1.toList == t250.toList) || (!(bt264.2.2.2.2.1.toList == t251.toList) || (!(bt264.2.2.2.2.2 == t252))))))) = true then (none) else ((impl_Laid.f kj9 t233 t234 t235 t236 t237 t238 (-1) 0 (-1) (⟨#[]⟩ : ByteArray) (⟨#[]⟩ : ByteArray) 0 l1 l2).bind fun bt270 => (if (!(bt270.1 == t233) || (!(bt270.2.1 == t234) || (!(bt270.2.2.1 == t235) || (!(bt270.2.2.2.1.toList == t236.toList) || (!(bt270.2.2.2.2.1.toList == t237.toList) || (!(bt270.2.2.2.2.2 == t238))))))) = true then (none) else ((impl_Laid.f kj9 (-1) 0 (-1) (⟨#[]⟩ : ByteArray) (⟨#[]⟩ : ByteArray) 0 t233 t234 t235 t236 t237 t238 l1 l2).bind fun bt276 => (if (!(bt276.1 == t233) || (!(bt276.2.1 == t234) || (!(bt276.2.2.1 == t235) || (!(bt276.2.2.2.1.toList == t236.toList) || (!(bt276.2.2.2.2.1.toList == t237.toList) || (!(bt276.2.2.2.2.2 == t238))))))) = true then (none) else ((impl_Laid.f kj9 t239 t240 t241 t242 t243 t244 t247 t248 t249 t250 t251 t252 l1 l2).bind fun bt282 => (if (!(bt282.1 == t247) || (!(bt282.2.1 == t248) || (!(bt282.2.2.1 == t249) || (!(bt282.2.2.2.1.toList == t250.toList) || (!(bt282.2.2.2.2.1.toList == t251.toList) || (!(bt282.2.2.2.2.2 == t252))))))) = true then (if t247 = (-1) then (laws_FnLaid.j1 kj9 false t239 t240 t241 t242 t243 t244 t247 t248 t249 t250 t251 t252) else (if t249 = (-1) then (laws_FnLaid.j1 kj9 false t239 t240 t241 t242 t243 t244 t247 t248 t249 t250 t251 t252) else (if t250.toList = ([] : List UInt8) then (laws_FnLaid.j1 kj9 false t239 t240 t241 t242 t243 t244 t247 t248 t249 t250 t251 t252) else (laws_FnLaid.j1 kj9 (!t251.toList.isEmpty) t239 t240 t241 t242 t243 t244 t247 t248 t249 t250 t251 t252)))) else (laws_FnLaid.j1 kj9 false t239 t240 t241 t242 t243 t244 t247 t248 t249 t250 t251 t252))))))))) = some r := by rw [if_pos rfl] at H; exact H
        clear H
        have H := H1
        clear H1
        replace H := Option.bind_eq_some_iff.mp H
        obtain ⟨⟨t264, t265, t266, t267, t268, t269⟩, A510, H⟩ := H
        replace H : (if (!(t264 == t247) || (!(t265 == t248) || (!(t266 == t249) || (!(t267.toList == t250.toList) || (!(t268.toList == t251.toList) || (!(t269 == t252))))))) = true then (none) else ((impl_Laid.f kj9 t233 t234 t235 t236 t237 t238 (-1) 0 (-1) (⟨#[]⟩ : ByteArray) (⟨#[]⟩ : ByteArray) 0 l1 l2).bind fun bt270 => (if (!(bt270.1 == t233) || (!(bt270.2.1 == t234) || (!(bt270.2.2.1 == t235) || (!(bt270.2.2.2.1.toList == t236.toList) || (!(bt270.2.2.2.2.1.toList == t237.toList) || (!(bt270.2.2.2.2.2 == t238))))))) = true then (none) else ((impl_Laid.f kj9 (-1) 0 (-1) (⟨#[]⟩ : ByteArray) (⟨#[]⟩ : ByteArray) 0 t233 t234 t235 t236 t237 t238 l1 l2).bind fun bt276 => (if (!(bt276.1 == t233) || (!(bt276.2.1 == t234) || (!(bt276.2.2.1 == t235) || (!(bt276.2.2.2.1.toList == t236.toList) || (!(bt276.2.2.2.2.1.toList == t237.toList) || (!(bt276.2.2.2.2.2 == t238))))))) = true then (none) else ((impl_Laid.f kj9 t239 t240 t241 t242 t243 t244 t247 t248 t249 t250 t251 t252 l1 l2).bind fun bt282 => (if (!(bt282.1 == t247) || (!(bt282.2.1 == t248) || (!(bt282.2.2.1 == t249) || (!(bt282.2.2.2.1.toList == t250.toList) || (!(bt282.2.2.2.2.1.toList == t251.toList) || (!(bt282.2.2.2.2.2 == t252))))))) = true then (if t247 = (-1) then (laws_FnLaid.j1 kj9 false t239 t240 t241 t242 t243 t244 t247 t248 t249 t250 t251 t252) else (if t249 = (-1) then (laws_FnLaid.j1 kj9 false t239 t240 t241 t242 t243 t244 t247 t248 t249 t250 t251 t252) else (if t250.toList = ([] : List UInt8) then (laws_FnLaid.j1 kj9 false t239 t240 t241 t242 t243 t244 t247 t248 t249 t250 t251 t252) else (laws_FnLaid.j1 kj9 (!t251.toList.isEmpty) t239 t240 t241 t242 t243 t244 t247 t248 t249 t250 t251 t252)))) else (laws_FnLaid.j1 kj9 false t239 t240 t241 t242 t243 t244 t247 t248 t249 t250 t251 t252)))))))) = some r := H
        have A51 := Aside0.mk A510
        clear A510
        by_cases c52 : (!(t264 == t247) || (!(t265 == t248) || (!(t266 == t249) || (!(t267.toList == t250.toList) || (!(t268.toList == t251.toList) || (!(t269 == t252))))))) = true
        ·rw [if_pos c52] at H
         have c52b0 : (!(t264 == t247) || (!(t265 == t248) || (!(t266 == t249) || (!(t267.toList == t250.toList) || (!(t268.toList == t251.toList) || (!(t269 == t252))))))) = true := c52
         clear c52
         (first | rw [c52b0] | (simp only [i64_w, i32_w]; rw [c52b0]) | skip)
         exact absurd H (by simp)
        ·rw [if_neg c52] at H
         have c52b0 : (!(t264 == t247) || (!(t265 == t248) || (!(t266 == t249) || (!(t267.toList == t250.toList) || (!(t268.toList == t251.toList) || (!(t269 == t252))))))) = false := by simpa using c52
         clear c52
         (first | rw [c52b0] | (simp only [i64_w, i32_w]; rw [c52b0]) | skip)
         replace H := Option.bind_eq_some_iff.mp H
         obtain ⟨⟨t270, t271, t272, t273, t274, t275⟩, A530, H⟩ := H
         replace H : (if (!(t270 == t233) || (!(t271 == t234) || (!(t272 == t235) || (!(t273.toList == t236.toList) || (!(t274.toList == t237.toList) || (!(t275 == t238))))))) = true then (none) else ((impl_Laid.f kj9 (-1) 0 (-1) (⟨#[]⟩ : ByteArray) (⟨#[]⟩ : ByteArray) 0 t233 t234 t235 t236 t237 t238 l1 l2).bind fun bt276 => (if (!(bt276.1 == t233) || (!(bt276.2.1 == t234) || (!(bt276.2.2.1 == t235) || (!(bt276.2.2.2.1.toList == t236.toList) || (!(bt276.2.2.2.2.1.toList == t237.toList) || (!(bt276.2.2.2.2.2 == t238))))))) = true then (none) else ((impl_Laid.f kj9 t239 t240 t241 t242 t243 t244 t247 t248 t249 t250 t251 t252 l1 l2).bind fun bt282 => (if (!(bt282.1 == t247) || (!(bt282.2.1 == t248) || (!(bt282.2.2.1 == t249) || (!(bt282.2.2.2.1.toList == t250.toList) || (!(bt282.2.2.2.2.1.toList == t251.toList) || (!(bt282.2.2.2.2.2 == t252))))))) = true then (if t247 = (-1) then (laws_FnLaid.j1 kj9 false t239 t240 t241 t242 t243 t244 t247 t248 t249 t250 t251 t252) else (if t249 = (-1) then (laws_FnLaid.j1 kj9 false t239 t240 t241 t242 t243 t244 t247 t248 t249 t250 t251 t252) else (if t250.toList = ([] : List UInt8) then (laws_FnLaid.j1 kj9 false t239 t240 t241 t242 t243 t244 t247 t248 t249 t250 t251 t252) else (laws_FnLaid.j1 kj9 (!t251.toList.isEmpty) t239 t240 t241 t242 t243 t244 t247 t248 t249 t250 t251 t252)))) else (laws_FnLaid.j1 kj9 false t239 t240 t241 t242 t243 t244 t247 t248 t249 t250 t251 t252)))))) = some r := H
         have A53 := Aside0.mk A530
         clear A530
         by_cases c54 : (!(t270 == t233) || (!(t271 == t234) || (!(t272 == t235) || (!(t273.toList == t236.toList) || (!(t274.toList == t237.toList) || (!(t275 == t238))))))) = true
         ·rw [if_pos c54] at H
          have c54b0 : (!(t270 == t233) || (!(t271 == t234) || (!(t272 == t235) || (!(t273.toList == t236.toList) || (!(t274.toList == t237.toList) || (!(t275 == t238))))))) = true := c54
          clear c54
          exact absurd H (by simp)
         ·rw [if_neg c54] at H
          have c54b0 : (!(t270 == t233) || (!(t271 == t234) || (!(t272 == t235) || (!(t273.toList == t236.toList) || (!(t274.toList == t237.toList) || (!(t275 == t238))))))) = false := by simpa using c54
          clear c54
          replace H := Option.bind_eq_some_iff.mp H
          obtain ⟨⟨t276, t277, t278, t279, t280, t281⟩, A550, H⟩ := H
          replace H : (if (!(t276 == t233) || (!(t277 == t234) || (!(t278 == t235) || (!(t279.toList == t236.toList) || (!(t280.toList == t237.toList) || (!(t281 == t238))))))) = true then (none) else ((impl_Laid.f kj9 t239 t240 t241 t242 t243 t244 t247 t248 t249 t250 t251 t252 l1 l2).bind fun bt282 => (if (!(bt282.1 == t247) || (!(bt282.2.1 == t248) || (!(bt282.2.2.1 == t249) || (!(bt282.2.2.2.1.toList == t250.toList) || (!(bt282.2.2.2.2.1.toList == t251.toList) || (!(bt282.2.2.2.2.2 == t252))))))) = true then (if t247 = (-1) then (laws_FnLaid.j1 kj9 false t239 t240 t241 t242 t243 t244 t247 t248 t249 t250 t251 t252) else (if t249 = (-1) then (laws_FnLaid.j1 kj9 false t239 t240 t241 t242 t243 t244 t247 t248 t249 t250 t251 t252) else (if t250.toList = ([] : List UInt8) then (laws_FnLaid.j1 kj9 false t239 t240 t241 t242 t243 t244 t247 t248 t249 t250 t251 t252) else (laws_FnLaid.j1 kj9 (!t251.toList.isEmpty) t239 t240 t241 t242 t243 t244 t247 t248 t249 t250 t251 t252)))) else (laws_FnLaid.j1 kj9 false t239 t240 t241 t242 t243 t244 t247 t248 t249 t250 t251 t252)))) = some r := H
          have A55 := Aside0.mk A550
          clear A550
          by_cases c56 : (!(t276 == t233) || (!(t277 == t234) || (!(t278 == t235) || (!(t279.toList == t236.toList) || (!(t280.toList == t237.toList) || (!(t281 == t238))))))) = true
          ·rw [if_pos c56] at H
           have c56b0 : (!(t276 == t233) || (!(t277 == t234) || (!(t278 == t235) || (!(t279.toList == t236.toList) || (!(t280.toList == t237.toList) || (!(t281 == t238))))))) = true := c56
           clear c56
           exact absurd H (by simp)
          ·rw [if_neg c56] at H
           have c56b0 : (!(t276 == t233) || (!(t277 == t234) || (!(t278 == t235) || (!(t279.toList == t236.toList) || (!(t280.toList == t237.toList) || (!(t281 == t238))))))) = false := by simpa using c56
           clear c56
           replace H := Option.bind_eq_some_iff.mp H
           obtain ⟨⟨t282, t283, t284, t285, t286, t287⟩, A570, H⟩ := H
           replace H : (if (!(t282 == t247) || (!(t283 == t248) || (!(t284 == t249) || (!(t285.toList == t250.toList) || (!(t286.toList == t251.toList) || (!(t287 == t252))))))) = true then (if t247 = (-1) then (laws_FnLaid.j1 kj9 false t239 t240 t241 t242 t243 t244 t247 t248 t249 t250 t251 t252) else (if t249 = (-1) then (laws_FnLaid.j1 kj9 false t239 t240 t241 t242 t243 t244 t247 t248 t249 t250 t251 t252) else (if t250.toList = ([] : List UInt8) then (laws_FnLaid.j1 kj9 false t239 t240 t241 t242 t243 t244 t247 t248 t249 t250 t251 t252) else (laws_FnLaid.j1 kj9 (!t251.toList.isEmpty) t239 t240 t241 t242 t243 t244 t247 t248 t249 t250 t251 t252)))) else (laws_FnLaid.j1 kj9 false t239 t240 t241 t242 t243 t244 t247 t248 t249 t250 t251 t252)) = some r := H
           have A57 := Aside0.mk A570
           clear A570
           try go_wp2
           have n0_ : Aside0 (((((((w44.setCell ⟨gb262, 0, none⟩ (.int .i64 (-1))).setCell ⟨gb262, 1, none⟩ (.int .i64 0)).setCell ⟨gb262, 2, none⟩ (.int .i64 (-1))).setCell ⟨gb262, 3, none⟩ (.string (⟨#[]⟩ : ByteArray))).setCell ⟨gb262, 4, none⟩ (.string (⟨#[]⟩ : ByteArray))).setCell ⟨gb262, 5, none⟩ (.int .i64 0)).heap[gb245]? = some (.cells #[.int .i64 t233, .int .i64 t234, .int .i64 t235, .string t236, .string t237, .int .i64 t238] 25 (0, 0))) := ⟨by (with_reducible repeat (first | refine bN ?_ _ | refine bD ?_ | refine bA ?_ _)); refine blk_far ?_ NB245_262.out _; (with_reducible repeat (first | refine bN ?_ _ | refine bD ?_ | refine bA ?_ _)); refine blk_far ?_ NB245_262.out _; (with_reducible repeat (first | refine bN ?_ _ | refine bD ?_ | refine bA ?_ _)); refine blk_far ?_ NB245_262.out _; (with_reducible repeat (first | refine bN ?_ _ | refine bD ?_ | refine bA ?_ _)); refine blk_far ?_ NB245_262.out _; (with_reducible repeat (first | refine bN ?_ _ | refine bD ?_ | refine bA ?_ _)); refine blk_far ?_ NB245_262.out _; (with_reducible repeat (first | refine bN ?_ _ | refine bD ?_ | refine bA ?_ _)); refine blk_far ?_ NB245_262.out _; (with_reducible repeat (first | refine bN ?_ _ | refine bD ?_ | refine bA ?_ _)); exact BK245.out⟩
           have n1_ : Aside0 (((((((w44.setCell ⟨gb262, 0, none⟩ (.int .i64 (-1))).setCell ⟨gb262, 1, none⟩ (.int .i64 0)).setCell ⟨gb262, 2, none⟩ (.int .i64 (-1))).setCell ⟨gb262, 3, none⟩ (.string (⟨#[]⟩ : ByteArray))).setCell ⟨gb262, 4, none⟩ (.string (⟨#[]⟩ : ByteArray))).setCell ⟨gb262, 5, none⟩ (.int .i64 0)).heap[gb246]? = some (.cells #[.int .i64 t239, .int .i64 t240, .int .i64 t241, .string t242, .string t243, .int .i64 t244] 25 (0, 0))) := ⟨by (with_reducible repeat (first | refine bN ?_ _ | refine bD ?_ | refine bA ?_ _)); refine blk_far ?_ NB246_262.out _; (with_reducible repeat (first | refine bN ?_ _ | refine bD ?_ | refine bA ?_ _)); refine blk_far ?_ NB246_262.out _; (with_reducible repeat (first | refine bN ?_ _ | refine bD ?_ | refine bA ?_ _)); refine blk_far ?_ NB246_262.out _; (with_reducible repeat (first | refine bN ?_ _ | refine bD ?_ | refine bA ?_ _)); refine blk_far ?_ NB246_262.out _; (with_reducible repeat (first | refine bN ?_ _ | refine bD ?_ | refine bA ?_ _)); refine blk_far ?_ NB246_262.out _; (with_reducible repeat (first | refine bN ?_ _ | refine bD ?_ | refine bA ?_ _)); refine blk_far ?_ NB246_262.out _; (with_reducible repeat (first | refine bN ?_ _ | refine bD ?_ | refine bA ?_ _)); exact BK246.out⟩
           have n2_ : Aside0 (((((((w44.setCell ⟨gb262, 0, none⟩ (.int .i64 (-1))).setCell ⟨gb262, 1, none⟩ (.int .i64 0)).setCell ⟨gb262, 2, none⟩ (.int .i64 (-1))).setCell ⟨gb262, 3, none⟩ (.string (⟨#[]⟩ : ByteArray))).setCell ⟨gb262, 4, none⟩ (.string (⟨#[]⟩ : ByteArray))).setCell ⟨gb262, 5, none⟩ (.int .i64 0)).heap[gb253]? = some (.cells #[.int .i64 t247, .int .i64 t248, .int .i64 t249, .string t250, .string t251, .int .i64 t252] 25 (0, 0))) := ⟨by (with_reducible repeat (first | refine bN ?_ _ | refine bD ?_ | refine bA ?_ _)); refine blk_far ?_ NB253_262.out _; (with_reducible repeat (first | refine bN ?_ _ | refine bD ?_ | refine bA ?_ _)); refine blk_far ?_ NB253_262.out _; (with_reducible repeat (first | refine bN ?_ _ | refine bD ?_ | refine bA ?_ _)); refine blk_far ?_ NB253_262.out _; (with_reducible repeat (first | refine bN ?_ _ | refine bD ?_ | refine bA ?_ _)); refine blk_far ?_ NB253_262.out _; (with_reducible repeat (first | refine bN ?_ _ | refine bD ?_ | refine bA ?_ _)); refine blk_far ?_ NB253_262.out _; (with_reducible repeat (first | refine bN ?_ _ | refine bD ?_ | refine bA ?_ _)); refine blk_far ?_ NB253_262.out _; (with_reducible repeat (first | refine bN ?_ _ | refine bD ?_ | refine bA ?_ _)); exact BK253.out⟩
           have n3_ : Aside0 (((((((w44.setCell ⟨gb262, 0, none⟩ (.int .i64 (-1))).setCell ⟨gb262, 1, none⟩ (.int .i64 0)).setCell ⟨gb262, 2, none⟩ (.int .i64 (-1))).setCell ⟨gb262, 3, none⟩ (.string (⟨#[]⟩ : ByteArray))).setCell ⟨gb262, 4, none⟩ (.string (⟨#[]⟩ : ByteArray))).setCell ⟨gb262, 5, none⟩ (.int .i64 0)).heap[gb262]? = some (.cells #[.int .i64 (-1), .int .i64 0, .int .i64 (-1), .string (⟨#[]⟩ : ByteArray), .string (⟨#[]⟩ : ByteArray), .int .i64 0] 25 (0, 0))) := ⟨by (with_reducible repeat (first | refine bN ?_ _ | refine bD ?_ | refine bA ?_ _)); refine blk_put (cs := #[.int .i64 (-1), .int .i64 0, .int .i64 (-1), .string (⟨#[]⟩ : ByteArray), .string (⟨#[]⟩ : ByteArray), .int .i64 0]) ?_ 5 _ rfl; (with_reducible repeat (first | refine bN ?_ _ | refine bD ?_ | refine bA ?_ _)); refine blk_put (cs := #[.int .i64 (-1), .int .i64 0, .int .i64 (-1), .string (⟨#[]⟩ : ByteArray), .string (⟨#[]⟩ : ByteArray), .int .i64 0]) ?_ 4 _ rfl; (with_reducible repeat (first | refine bN ?_ _ | refine bD ?_ | refine bA ?_ _)); refine blk_put (cs := #[.int .i64 (-1), .int .i64 0, .int .i64 (-1), .string (⟨#[]⟩ : ByteArray), .string (⟨#[]⟩ : ByteArray), .int .i64 0]) ?_ 3 _ rfl; (with_reducible repeat (first | refine bN ?_ _ | refine bD ?_ | refine bA ?_ _)); refine blk_put (cs := #[.int .i64 (-1), .int .i64 0, .int .i64 0, .string (⟨#[]⟩ : ByteArray), .string (⟨#[]⟩ : ByteArray), .int .i64 0]) ?_ 2 _ rfl; (with_reducible repeat (first | refine bN ?_ _ | refine bD ?_ | refine bA ?_ _)); refine blk_put (cs := #[.int .i64 (-1), .int .i64 0, .int .i64 0, .string (⟨#[]⟩ : ByteArray), .string (⟨#[]⟩ : ByteArray), .int .i64 0]) ?_ 1 _ rfl; (with_reducible repeat (first | refine bN ?_ _ | refine bD ?_ | refine bA ?_ _)); refine blk_put (cs := #[.int .i64 0, .int .i64 0, .int .i64 0, .string (⟨#[]⟩ : ByteArray), .string (⟨#[]⟩ : ByteArray), .int .i64 0]) ?_ 0 _ rfl; (with_reducible repeat (first | refine bN ?_ _ | refine bD ?_ | refine bA ?_ _)); exact BK262.out⟩
           have n4_ : Aside0 (Below w.heap.size w ((((((w44.setCell ⟨gb262, 0, none⟩ (.int .i64 (-1))).setCell ⟨gb262, 1, none⟩ (.int .i64 0)).setCell ⟨gb262, 2, none⟩ (.int .i64 (-1))).setCell ⟨gb262, 3, none⟩ (.string (⟨#[]⟩ : ByteArray))).setCell ⟨gb262, 4, none⟩ (.string (⟨#[]⟩ : ByteArray))).setCell ⟨gb262, 5, none⟩ (.int .i64 0))) := ⟨by repeat (first | (with_reducible first | exact HB.out | apply wA | apply wN | apply wD | refine bS ?_ GE245.out | refine bS ?_ GE246.out | refine bS ?_ GE253.out | refine bS ?_ GE262.out) | exact HB.out)⟩
           (try clear BK245)
           (try clear BK246)
           (try clear BK253)
           (try clear BK262)
           (try clear HB)
           generalize ((((((w44.setCell ⟨gb262, 0, none⟩ (.int .i64 (-1))).setCell ⟨gb262, 1, none⟩ (.int .i64 0)).setCell ⟨gb262, 2, none⟩ (.int .i64 (-1))).setCell ⟨gb262, 3, none⟩ (.string (⟨#[]⟩ : ByteArray))).setCell ⟨gb262, 4, none⟩ (.string (⟨#[]⟩ : ByteArray))).setCell ⟨gb262, 5, none⟩ (.int .i64 0)) = w60 at n0_ n1_ n2_ n3_ n4_ ⊢
           have BK245 := n0_
           have BK246 := n1_
           have BK253 := n2_
           have BK262 := n3_
           have HB := n4_
           clear n0_ n1_ n2_ n3_ n4_
           have n0_ := Aside0.mk (blk_drew BK245.out)
           have n1_ := Aside0.mk (blk_drew BK246.out)
           have n2_ := Aside0.mk (blk_drew BK253.out)
           have n3_ := Aside0.mk (blk_drew BK262.out)
           have n4_ := Aside0.mk (below_drew1 HB.out)
           clear BK245
           clear BK246
           clear BK253
           clear BK262
           clear HB
           have BK245 := n0_
           have BK246 := n1_
           have BK253 := n2_
           have BK262 := n3_
           have HB := n4_
           clear n0_ n1_ n2_ n3_ n4_
           refine start_ (n := 51) (S := fun w' => w'.cell? ⟨gb253, 0, none⟩ = some (.int .i64 t247) ∧ w'.cell? ⟨gb253, 1, none⟩ = some (.int .i64 t248) ∧ w'.cell? ⟨gb253, 2, none⟩ = some (.int .i64 t249) ∧ w'.cell? ⟨gb253, 3, none⟩ = some (.string t250) ∧ w'.cell? ⟨gb253, 4, none⟩ = some (.string t251) ∧ w'.cell? ⟨gb253, 5, none⟩ = some (.int .i64 t252) ∧ w'.cell? ⟨gb246, 0, none⟩ = some (.int .i64 t239) ∧ w'.cell? ⟨gb246, 1, none⟩ = some (.int .i64 t240) ∧ w'.cell? ⟨gb246, 2, none⟩ = some (.int .i64 t241) ∧ w'.cell? ⟨gb246, 3, none⟩ = some (.string t242) ∧ w'.cell? ⟨gb246, 4, none⟩ = some (.string t243) ∧ w'.cell? ⟨gb246, 5, none⟩ = some (.int .i64 t244) ∧ w'.cell? ⟨gb245, 0, none⟩ = some (.int .i64 t233) ∧ w'.cell? ⟨gb245, 1, none⟩ = some (.int .i64 t234) ∧ w'.cell? ⟨gb245, 2, none⟩ = some (.int .i64 t235) ∧ w'.cell? ⟨gb245, 3, none⟩ = some (.string t236) ∧ w'.cell? ⟨gb245, 4, none⟩ = some (.string t237) ∧ w'.cell? ⟨gb245, 5, none⟩ = some (.int .i64 t238) ∧ w'.cell? ⟨gb262, 0, none⟩ = some (.int .i64 (-1)) ∧ w'.cell? ⟨gb262, 1, none⟩ = some (.int .i64 0) ∧ w'.cell? ⟨gb262, 2, none⟩ = some (.int .i64 (-1)) ∧ w'.cell? ⟨gb262, 3, none⟩ = some (.string (⟨#[]⟩ : ByteArray)) ∧ w'.cell? ⟨gb262, 4, none⟩ = some (.string (⟨#[]⟩ : ByteArray)) ∧ w'.cell? ⟨gb262, 5, none⟩ = some (.int .i64 0)) (ds := []) #[false, false, false, false, false, false, false, false, false, false, false, false, false, false, false, false, false, false, false, false, false, false, false, false, false, false, false, false, false, false, false, false, false, false, false, false, false, false, false, false, false, false, false, false, false, false, false, false, false, false, false] (by kernel_rfl) rfl rfl ⟨bC BK253.out 0 rfl, bC BK253.out 1 rfl, bC BK253.out 2 rfl, bC BK253.out 3 rfl, bC BK253.out 4 rfl, bC BK253.out 5 rfl, bC BK246.out 0 rfl, bC BK246.out 1 rfl, bC BK246.out 2 rfl, bC BK246.out 3 rfl, bC BK246.out 4 rfl, bC BK246.out 5 rfl, bC BK245.out 0 rfl, bC BK245.out 1 rfl, bC BK245.out 2 rfl, bC BK245.out 3 rfl, bC BK245.out 4 rfl, bC BK245.out 5 rfl, bC BK262.out 0 rfl, bC BK262.out 1 rfl, bC BK262.out 2 rfl, bC BK262.out 3 rfl, bC BK262.out 4 rfl, bC BK262.out 5 rfl⟩ (fun hHeld => ?_); refine with_tabW laws_FnLaid.tab10 laws_FnLaid.bits10 (fun HT_ HW_ => ?_)
           generalize w60.drew = w61 at BK245 BK246 BK253 BK262 HB hHeld ⊢
           refine take_ (i := 0) (N := some 34) (v := ?_) (a' := ?_) #[true, false, false, false, false, false, false, false, false, false, false, false, false, false, false, false, false, false, false, false, false, false, false, false, false, false, false, false, false, false, false, false, false, false, false, false, false, false, false, false, false, false, false, false, false, false, false, false, false, false, false] rfl rfl (take_ofW HT_.out HW_.out (by kernel_rfl)) (fun _ _ _ h => h) (Or.inl ⟨by rfl, ?_⟩) hHeld ?_ ?_
           rotate_left
           ·rintro w' ⟨s0, s1, s2, s3, s4, s5, s6, s7, s8, s9, s10, s11, s12, s13, s14, s15, s16, s17, s18, s19, s20, s21, s22, s23⟩
            go_simp
            with_reducible rfl
           rotate_left
           ·simp only [Act.put, sqA, sqZ, sqS, i64_w, i32_w]
            rfl
           refine one_ (i := 1) (N := some 35) #[true, true, false, false, false, false, false, false, false, false, false, false, false, false, false, false, false, false, false, false, false, false, false, false, false, false, false, false, false, false, false, false, false, false, false, false, false, false, false, false, false, false, false, false, false, false, false, false, false, false, false] rfl rfl (one_of HT_.out (by kernel_rfl)) (by decide) (fun K hK => ?_)
           refine goes_ Tryd.func13 (by kernel_rfl) rfl #[.agg #[.int .i64 t247, .int .i64 t248, .int .i64 t249, .string t250, .string t251, .int .i64 t252]] (by rfl) rfl rfl (by (try simp only [lM, lC, lN]); first | done | rfl | (simp only [lD, lT]; rfl)) ?_
           with_reducible refine (impl_SkyOk.calls kj9 t247 t248 t249 t250 t251 t252 l1 l2 true _ ?side1 ?side2 ?side3 ?side4 A49.out).mono ?_
           (case side1 => repeat (first | exact (Kd.C_below HR1.out HB.out) | (with_reducible refine Kd.C_alloc ?_ _) | (with_reducible refine Kd.C_drewN ?_ _) | (with_reducible refine Kd.C_drew ?_)))
           (case side2 => exact HC1.out)
           (case side3 => repeat (first | exact (Kd.C_below HR2.out HB.out) | (with_reducible refine Kd.C_alloc ?_ _) | (with_reducible refine Kd.C_drewN ?_ _) | (with_reducible refine Kd.C_drew ?_)))
           (case side4 => exact HC2.out)
           rintro e w62 ⟨rfl, hb⟩
           refine ⟨_, rfl, ?_⟩
           have n0_ := Aside0.mk (blk_below (g := gb245) (o := .cells #[.int .i64 t233, .int .i64 t234, .int .i64 t235, .string t236, .string t237, .int .i64 t238] 25 (0, 0)) (by (with_reducible repeat (first | refine bN ?_ _ | refine bD ?_ | refine bA ?_ _)); exact BK245.out) hb)
           have n1_ := Aside0.mk (blk_below (g := gb246) (o := .cells #[.int .i64 t239, .int .i64 t240, .int .i64 t241, .string t242, .string t243, .int .i64 t244] 25 (0, 0)) (by (with_reducible repeat (first | refine bN ?_ _ | refine bD ?_ | refine bA ?_ _)); exact BK246.out) hb)
           have n2_ := Aside0.mk (blk_below (g := gb253) (o := .cells #[.int .i64 t247, .int .i64 t248, .int .i64 t249, .string t250, .string t251, .int .i64 t252] 25 (0, 0)) (by (with_reducible repeat (first | refine bN ?_ _ | refine bD ?_ | refine bA ?_ _)); exact BK253.out) hb)
           have n3_ := Aside0.mk (blk_below (g := gb262) (o := .cells #[.int .i64 (-1), .int .i64 0, .int .i64 (-1), .string (⟨#[]⟩ : ByteArray), .string (⟨#[]⟩ : ByteArray), .int .i64 0] 25 (0, 0)) (by (with_reducible repeat (first | refine bN ?_ _ | refine bD ?_ | refine bA ?_ _)); exact BK262.out) hb)
           have n4_ := Aside0.mk (below_step (by repeat (first | (with_reducible first | exact HB.out | apply wA | apply wN | apply wD | refine bS ?_ GE245.out | refine bS ?_ GE246.out | refine bS ?_ GE253.out | refine bS ?_ GE262.out) | exact HB.out)) hb)
           clear BK245
           clear BK246
           clear BK253
           clear BK262
           clear HB
           have BK245 := n0_
           have BK246 := n1_
           have BK253 := n2_
           have BK262 := n3_
           have HB := n4_
           clear n0_ n1_ n2_ n3_ n4_
           (try clear hb)
           (try clear hb2)
           (try clear hk)
           (try clear hi)
           refine hK.out _ _ ⟨bC BK253.out 0 rfl, bC BK253.out 1 rfl, bC BK253.out 2 rfl, bC BK253.out 3 rfl, bC BK253.out 4 rfl, bC BK253.out 5 rfl, bC BK246.out 0 rfl, bC BK246.out 1 rfl, bC BK246.out 2 rfl, bC BK246.out 3 rfl, bC BK246.out 4 rfl, bC BK246.out 5 rfl, bC BK245.out 0 rfl, bC BK245.out 1 rfl, bC BK245.out 2 rfl, bC BK245.out 3 rfl, bC BK245.out 4 rfl, bC BK245.out 5 rfl, bC BK262.out 0 rfl, bC BK262.out 1 rfl, bC BK262.out 2 rfl, bC BK262.out 3 rfl, bC BK262.out 4 rfl, bC BK262.out 5 rfl⟩ (fun hHeld => ?_)
           clear hK K
           refine norm_ (a' := ?_) ?_ ?_
           rotate_left
           ·show Act.put _ (some 35) _ = _
            simp only [Act.put, sqA, sqZ, sqS, i64_w, i32_w]
            rfl
           refine pure_ (i := 2) (N := some 36) (v := ?_) (a' := ?_) #[true, true, true, false, false, false, false, false, false, false, false, false, false, false, false, false, false, false, false, false, false, false, false, false, false, false, false, false, false, false, false, false, false, false, false, false, false, false, false, false, false, false, false, false, false, false, false, false, false, false, false] rfl rfl (any_of HT_.out (by kernel_rfl)) (fun _ _ _ h => h) (Or.inl ⟨by rfl, ?_⟩) ?_ ?_
           rotate_left
           ·intro w'
            go_simp
            with_reducible rfl
           rotate_left
           ·simp only [Act.put, sqA, sqZ, sqS, i64_w, i32_w]
            rfl
           refine pure_ (i := 3) (N := some 37) (v := ?_) (a' := ?_) #[true, true, true, true, false, false, false, false, false, false, false, false, false, false, false, false, false, false, false, false, false, false, false, false, false, false, false, false, false, false, false, false, false, false, false, false, false, false, false, false, false, false, false, false, false, false, false, false, false, false, false] rfl rfl (any_of HT_.out (by kernel_rfl)) (fun _ _ _ h => h) (Or.inl ⟨by rfl, ?_⟩) ?_ ?_
           rotate_left
           ·intro w'
            go_simp
            with_reducible rfl
           rotate_left
           ·simp only [Act.put, sqA, sqZ, sqS, i64_w, i32_w]
            rfl
           refine take_ (i := 4) (N := some 38) (v := ?_) (a' := ?_) #[true, true, true, true, true, false, false, false, false, false, false, false, false, false, false, false, false, false, false, false, false, false, false, false, false, false, false, false, false, false, false, false, false, false, false, false, false, false, false, false, false, false, false, false, false, false, false, false, false, false, false] rfl rfl (take_ofW HT_.out HW_.out (by kernel_rfl)) (fun _ _ _ h => h) (Or.inl ⟨by rfl, ?_⟩) hHeld ?_ ?_
           rotate_left
           ·rintro w' ⟨s0, s1, s2, s3, s4, s5, s6, s7, s8, s9, s10, s11, s12, s13, s14, s15, s16, s17, s18, s19, s20, s21, s22, s23⟩
            go_simp
            with_reducible rfl
           rotate_left
           ·simp only [Act.put, sqA, sqZ, sqS, i64_w, i32_w]
            rfl
           refine take_ (i := 5) (N := some 39) (v := ?_) (a' := ?_) #[true, true, true, true, true, true, false, false, false, false, false, false, false, false, false, false, false, false, false, false, false, false, false, false, false, false, false, false, false, false, false, false, false, false, false, false, false, false, false, false, false, false, false, false, false, false, false, false, false, false, false] rfl rfl (take_ofW HT_.out HW_.out (by kernel_rfl)) (fun _ _ _ h => h) (Or.inl ⟨by rfl, ?_⟩) hHeld ?_ ?_
           rotate_left
           ·rintro w' ⟨s0, s1, s2, s3, s4, s5, s6, s7, s8, s9, s10, s11, s12, s13, s14, s15, s16, s17, s18, s19, s20, s21, s22, s23⟩
            go_simp
            with_reducible rfl
           rotate_left
           ·simp only [Act.put, sqA, sqZ, sqS, i64_w, i32_w]
            rfl
           refine take_ (i := 7) (N := some 41) (v := ?_) (a' := ?_) #[true, true, true, true, true, true, false, true, false, false, false, false, false, false, false, false, false, false, false, false, false, false, false, false, false, false, false, false, false, false, false, false, false, false, false, false, false, false, false, false, false, false, false, false, false, false, false, false, false, false, false] rfl rfl (take_ofW HT_.out HW_.out (by kernel_rfl)) (fun _ _ _ h => h) (Or.inl ⟨by rfl, ?_⟩) hHeld ?_ ?_
           rotate_left
           ·rintro w' ⟨s0, s1, s2, s3, s4, s5, s6, s7, s8, s9, s10, s11, s12, s13, s14, s15, s16, s17, s18, s19, s20, s21, s22, s23⟩
            go_simp
            with_reducible rfl
           rotate_left
           ·simp only [Act.put, sqA, sqZ, sqS, i64_w, i32_w]
            rfl
           refine one_ (i := 6) (N := some 40) #[true, true, true, true, true, true, true, true, false, false, false, false, false, false, false, false, false, false, false, false, false, false, false, false, false, false, false, false, false, false, false, false, false, false, false, false, false, false, false, false, false, false, false, false, false, false, false, false, false, false, false] rfl rfl (one_of HT_.out (by kernel_rfl)) (by decide) (fun K hK => ?_)
           refine goes_ Tryd.func8 (by kernel_rfl) rfl #[.agg #[.int .i64 t247, .int .i64 t248, .int .i64 t249, .string t250, .string t251, .int .i64 t252], .agg #[.int .i64 t239, .int .i64 t240, .int .i64 t241, .string t242, .string t243, .int .i64 t244]] (by rfl) rfl rfl (by (try simp only [lM, lC, lN]); first | done | rfl | (simp only [lD, lT]; rfl)) ?_
           with_reducible refine (impl_Laid.calls kj9 t247 t248 t249 t250 t251 t252 t239 t240 t241 t242 t243 t244 l1 l2 t264 t265 t266 t267 t268 t269 _ ?side1 ?side2 ?side3 ?side4 A51.out).mono ?_
           (case side1 => repeat (first | exact (Kd.C_below HR1.out HB.out) | (with_reducible refine Kd.C_alloc ?_ _) | (with_reducible refine Kd.C_drewN ?_ _) | (with_reducible refine Kd.C_drew ?_)))
           (case side2 => exact HC1.out)
           (case side3 => repeat (first | exact (Kd.C_below HR2.out HB.out) | (with_reducible refine Kd.C_alloc ?_ _) | (with_reducible refine Kd.C_drewN ?_ _) | (with_reducible refine Kd.C_drew ?_)))
           (case side4 => exact HC2.out)
           rintro e w63 ⟨rfl, hb⟩
           refine ⟨_, rfl, ?_⟩
           have n0_ := Aside0.mk (blk_below (g := gb245) (o := .cells #[.int .i64 t233, .int .i64 t234, .int .i64 t235, .string t236, .string t237, .int .i64 t238] 25 (0, 0)) (by (with_reducible repeat (first | refine bN ?_ _ | refine bD ?_ | refine bA ?_ _)); exact BK245.out) hb)
           have n1_ := Aside0.mk (blk_below (g := gb246) (o := .cells #[.int .i64 t239, .int .i64 t240, .int .i64 t241, .string t242, .string t243, .int .i64 t244] 25 (0, 0)) (by (with_reducible repeat (first | refine bN ?_ _ | refine bD ?_ | refine bA ?_ _)); exact BK246.out) hb)
           have n2_ := Aside0.mk (blk_below (g := gb253) (o := .cells #[.int .i64 t247, .int .i64 t248, .int .i64 t249, .string t250, .string t251, .int .i64 t252] 25 (0, 0)) (by (with_reducible repeat (first | refine bN ?_ _ | refine bD ?_ | refine bA ?_ _)); exact BK253.out) hb)
           have n3_ := Aside0.mk (blk_below (g := gb262) (o := .cells #[.int .i64 (-1), .int .i64 0, .int .i64 (-1), .string (⟨#[]⟩ : ByteArray), .string (⟨#[]⟩ : ByteArray), .int .i64 0] 25 (0, 0)) (by (with_reducible repeat (first | refine bN ?_ _ | refine bD ?_ | refine bA ?_ _)); exact BK262.out) hb)
           have n4_ := Aside0.mk (below_step (by repeat (first | (with_reducible first | exact HB.out | apply wA | apply wN | apply wD | refine bS ?_ GE245.out | refine bS ?_ GE246.out | refine bS ?_ GE253.out | refine bS ?_ GE262.out) | exact HB.out)) hb)
           clear BK245
           clear BK246
           clear BK253
           clear BK262
           clear HB
           have BK245 := n0_
           have BK246 := n1_
           have BK253 := n2_
           have BK262 := n3_
           have HB := n4_
           clear n0_ n1_ n2_ n3_ n4_
           (try clear hb)
           (try clear hb2)
           (try clear hk)
           (try clear hi)
           refine hK.out _ _ ⟨bC BK253.out 0 rfl, bC BK253.out 1 rfl, bC BK253.out 2 rfl, bC BK253.out 3 rfl, bC BK253.out 4 rfl, bC BK253.out 5 rfl, bC BK246.out 0 rfl, bC BK246.out 1 rfl, bC BK246.out 2 rfl, bC BK246.out 3 rfl, bC BK246.out 4 rfl, bC BK246.out 5 rfl, bC BK245.out 0 rfl, bC BK245.out 1 rfl, bC BK245.out 2 rfl, bC BK245.out 3 rfl, bC BK245.out 4 rfl, bC BK245.out 5 rfl, bC BK262.out 0 rfl, bC BK262.out 1 rfl, bC BK262.out 2 rfl, bC BK262.out 3 rfl, bC BK262.out 4 rfl, bC BK262.out 5 rfl⟩ (fun hHeld => ?_)
           clear hK K
           refine norm_ (a' := ?_) ?_ ?_
           rotate_left
           ·show Act.put _ (some 40) _ = _
            simp only [Act.put, sqA, sqZ, sqS, i64_w, i32_w]
            rfl
           refine pure_ (i := 8) (N := some 42) (v := ?_) (a' := ?_) #[true, true, true, true, true, true, true, true, true, false, false, false, false, false, false, false, false, false, false, false, false, false, false, false, false, false, false, false, false, false, false, false, false, false, false, false, false, false, false, false, false, false, false, false, false, false, false, false, false, false, false] rfl rfl (any_of HT_.out (by kernel_rfl)) (fun _ _ _ h => h) (Or.inl ⟨by rfl, ?_⟩) ?_ ?_
           rotate_left
           ·intro w'
            go_simp
            with_reducible rfl
           rotate_left
           ·simp only [Act.put, sqA, sqZ, sqS, i64_w, i32_w]
            rfl
           refine pure_ (i := 9) (N := some 43) (v := ?_) (a' := ?_) #[true, true, true, true, true, true, true, true, true, true, false, false, false, false, false, false, false, false, false, false, false, false, false, false, false, false, false, false, false, false, false, false, false, false, false, false, false, false, false, false, false, false, false, false, false, false, false, false, false, false, false] rfl rfl (any_of HT_.out (by kernel_rfl)) (fun _ _ _ h => h) (Or.inl ⟨by rfl, ?_⟩) ?_ ?_
           rotate_left
           ·intro w'
            go_simp
            with_reducible rfl
           rotate_left
           ·simp only [Act.put, sqA, sqZ, sqS, i64_w, i32_w]
            rfl
           refine pure_ (i := 10) (N := some 44) (v := ?_) (a' := ?_) #[true, true, true, true, true, true, true, true, true, true, true, false, false, false, false, false, false, false, false, false, false, false, false, false, false, false, false, false, false, false, false, false, false, false, false, false, false, false, false, false, false, false, false, false, false, false, false, false, false, false, false] rfl rfl (any_of HT_.out (by kernel_rfl)) (fun _ _ _ h => h) (Or.inl ⟨by rfl, ?_⟩) ?_ ?_
           rotate_left
           ·intro w'
            go_simp
            with_reducible rfl
           rotate_left
           ·simp only [Act.put, sqA, sqZ, sqS, i64_w, i32_w]
            rfl
           refine take_ (i := 11) (N := some 45) (v := ?_) (a' := ?_) #[true, true, true, true, true, true, true, true, true, true, true, true, false, false, false, false, false, false, false, false, false, false, false, false, false, false, false, false, false, false, false, false, false, false, false, false, false, false, false, false, false, false, false, false, false, false, false, false, false, false, false] rfl rfl (take_ofW HT_.out HW_.out (by kernel_rfl)) (fun _ _ _ h => h) (Or.inl ⟨by rfl, ?_⟩) hHeld ?_ ?_
           rotate_left
           ·rintro w' ⟨s0, s1, s2, s3, s4, s5, s6, s7, s8, s9, s10, s11, s12, s13, s14, s15, s16, s17, s18, s19, s20, s21, s22, s23⟩
            go_simp
            with_reducible rfl
           rotate_left
           ·simp only [Act.put, sqA, sqZ, sqS, i64_w, i32_w]
            rfl
           refine take_ (i := 12) (N := some 46) (v := ?_) (a' := ?_) #[true, true, true, true, true, true, true, true, true, true, true, true, true, false, false, false, false, false, false, false, false, false, false, false, false, false, false, false, false, false, false, false, false, false, false, false, false, false, false, false, false, false, false, false, false, false, false, false, false, false, false] rfl rfl (take_ofW HT_.out HW_.out (by kernel_rfl)) (fun _ _ _ h => h) (Or.inl ⟨by rfl, ?_⟩) hHeld ?_ ?_
           rotate_left
           ·rintro w' ⟨s0, s1, s2, s3, s4, s5, s6, s7, s8, s9, s10, s11, s12, s13, s14, s15, s16, s17, s18, s19, s20, s21, s22, s23⟩
            go_simp
            with_reducible rfl
           rotate_left
           ·simp only [Act.put, sqA, sqZ, sqS, i64_w, i32_w]
            rfl
           refine take_ (i := 14) (N := some 48) (v := ?_) (a' := ?_) #[true, true, true, true, true, true, true, true, true, true, true, true, true, false, true, false, false, false, false, false, false, false, false, false, false, false, false, false, false, false, false, false, false, false, false, false, false, false, false, false, false, false, false, false, false, false, false, false, false, false, false] rfl rfl (take_ofW HT_.out HW_.out (by kernel_rfl)) (fun _ _ _ h => h) (Or.inl ⟨by rfl, ?_⟩) hHeld ?_ ?_
           rotate_left
           ·rintro w' ⟨s0, s1, s2, s3, s4, s5, s6, s7, s8, s9, s10, s11, s12, s13, s14, s15, s16, s17, s18, s19, s20, s21, s22, s23⟩
            go_simp
            with_reducible rfl
           rotate_left
           ·simp only [Act.put, sqA, sqZ, sqS, i64_w, i32_w]
            rfl
           refine one_ (i := 13) (N := some 47) #[true, true, true, true, true, true, true, true, true, true, true, true, true, true, true, false, false, false, false, false, false, false, false, false, false, false, false, false, false, false, false, false, false, false, false, false, false, false, false, false, false, false, false, false, false, false, false, false, false, false, false] rfl rfl (one_of HT_.out (by kernel_rfl)) (by decide) (fun K hK => ?_)
           refine goes_ Tryd.func8 (by kernel_rfl) rfl #[.agg #[.int .i64 t233, .int .i64 t234, .int .i64 t235, .string t236, .string t237, .int .i64 t238], .agg #[.int .i64 (-1), .int .i64 0, .int .i64 (-1), .string (⟨#[]⟩ : ByteArray), .string (⟨#[]⟩ : ByteArray), .int .i64 0]] (by rfl) rfl rfl (by (try simp only [lM, lC, lN]); first | done | rfl | (simp only [lD, lT]; rfl)) ?_
           with_reducible refine (impl_Laid.calls kj9 t233 t234 t235 t236 t237 t238 (-1) 0 (-1) (⟨#[]⟩ : ByteArray) (⟨#[]⟩ : ByteArray) 0 l1 l2 t270 t271 t272 t273 t274 t275 _ ?side1 ?side2 ?side3 ?side4 A53.out).mono ?_
           (case side1 => repeat (first | exact (Kd.C_below HR1.out HB.out) | (with_reducible refine Kd.C_alloc ?_ _) | (with_reducible refine Kd.C_drewN ?_ _) | (with_reducible refine Kd.C_drew ?_)))
           (case side2 => exact HC1.out)
           (case side3 => repeat (first | exact (Kd.C_below HR2.out HB.out) | (with_reducible refine Kd.C_alloc ?_ _) | (with_reducible refine Kd.C_drewN ?_ _) | (with_reducible refine Kd.C_drew ?_)))
           (case side4 => exact HC2.out)
           rintro e w64 ⟨rfl, hb⟩
           refine ⟨_, rfl, ?_⟩
           have n0_ := Aside0.mk (blk_below (g := gb245) (o := .cells #[.int .i64 t233, .int .i64 t234, .int .i64 t235, .string t236, .string t237, .int .i64 t238] 25 (0, 0)) (by (with_reducible repeat (first | refine bN ?_ _ | refine bD ?_ | refine bA ?_ _)); exact BK245.out) hb)
           have n1_ := Aside0.mk (blk_below (g := gb246) (o := .cells #[.int .i64 t239, .int .i64 t240, .int .i64 t241, .string t242, .string t243, .int .i64 t244] 25 (0, 0)) (by (with_reducible repeat (first | refine bN ?_ _ | refine bD ?_ | refine bA ?_ _)); exact BK246.out) hb)
           have n2_ := Aside0.mk (blk_below (g := gb253) (o := .cells #[.int .i64 t247, .int .i64 t248, .int .i64 t249, .string t250, .string t251, .int .i64 t252] 25 (0, 0)) (by (with_reducible repeat (first | refine bN ?_ _ | refine bD ?_ | refine bA ?_ _)); exact BK253.out) hb)
           have n3_ := Aside0.mk (blk_below (g := gb262) (o := .cells #[.int .i64 (-1), .int .i64 0, .int .i64 (-1), .string (⟨#[]⟩ : ByteArray), .string (⟨#[]⟩ : ByteArray), .int .i64 0] 25 (0, 0)) (by (with_reducible repeat (first | refine bN ?_ _ | refine bD ?_ | refine bA ?_ _)); exact BK262.out) hb)
           have n4_ := Aside0.mk (below_step (by repeat (first | (with_reducible first | exact HB.out | apply wA | apply wN | apply wD | refine bS ?_ GE245.out | refine bS ?_ GE246.out | refine bS ?_ GE253.out | refine bS ?_ GE262.out) | exact HB.out)) hb)
           clear BK245
           clear BK246
           clear BK253
           clear BK262
           clear HB
           have BK245 := n0_
           have BK246 := n1_
           have BK253 := n2_
           have BK262 := n3_
           have HB := n4_
           clear n0_ n1_ n2_ n3_ n4_
           (try clear hb)
           (try clear hb2)
           (try clear hk)
           (try clear hi)
           refine hK.out _ _ ⟨bC BK253.out 0 rfl, bC BK253.out 1 rfl, bC BK253.out 2 rfl, bC BK253.out 3 rfl, bC BK253.out 4 rfl, bC BK253.out 5 rfl, bC BK246.out 0 rfl, bC BK246.out 1 rfl, bC BK246.out 2 rfl, bC BK246.out 3 rfl, bC BK246.out 4 rfl, bC BK246.out 5 rfl, bC BK245.out 0 rfl, bC BK245.out 1 rfl, bC BK245.out 2 rfl, bC BK245.out 3 rfl, bC BK245.out 4 rfl, bC BK245.out 5 rfl, bC BK262.out 0 rfl, bC BK262.out 1 rfl, bC BK262.out 2 rfl, bC BK262.out 3 rfl, bC BK262.out 4 rfl, bC BK262.out 5 rfl⟩ (fun hHeld => ?_)
           clear hK K
           refine norm_ (a' := ?_) ?_ ?_
           rotate_left
           ·show Act.put _ (some 47) _ = _
            simp only [Act.put, sqA, sqZ, sqS, i64_w, i32_w]
            rfl
           refine pure_ (i := 15) (N := some 49) (v := ?_) (a' := ?_) #[true, true, true, true, true, true, true, true, true, true, true, true, true, true, true, true, false, false, false, false, false, false, false, false, false, false, false, false, false, false, false, false, false, false, false, false, false, false, false, false, false, false, false, false, false, false, false, false, false, false, false] rfl rfl (any_of HT_.out (by kernel_rfl)) (fun _ _ _ h => h) (Or.inl ⟨by rfl, ?_⟩) ?_ ?_
           rotate_left
           ·intro w'
            go_simp
            with_reducible rfl
           rotate_left
           ·simp only [Act.put, sqA, sqZ, sqS, i64_w, i32_w]
            rfl
           refine pure_ (i := 16) (N := some 50) (v := ?_) (a' := ?_) #[true, true, true, true, true, true, true, true, true, true, true, true, true, true, true, true, true, false, false, false, false, false, false, false, false, false, false, false, false, false, false, false, false, false, false, false, false, false, false, false, false, false, false, false, false, false, false, false, false, false, false] rfl rfl (any_of HT_.out (by kernel_rfl)) (fun _ _ _ h => h) (Or.inl ⟨by rfl, ?_⟩) ?_ ?_
           rotate_left
           ·intro w'
            go_simp
            with_reducible rfl
           rotate_left
           ·simp only [Act.put, sqA, sqZ, sqS, i64_w, i32_w]
            rfl
           refine pure_ (i := 17) (N := some 51) (v := ?_) (a' := ?_) #[true, true, true, true, true, true, true, true, true, true, true, true, true, true, true, true, true, true, false, false, false, false, false, false, false, false, false, false, false, false, false, false, false, false, false, false, false, false, false, false, false, false, false, false, false, false, false, false, false, false, false] rfl rfl (any_of HT_.out (by kernel_rfl)) (fun _ _ _ h => h) (Or.inl ⟨by rfl, ?_⟩) ?_ ?_
           rotate_left
           ·intro w'
            go_simp
            with_reducible rfl
           rotate_left
           ·simp only [Act.put, sqA, sqZ, sqS, i64_w, i32_w]
            rfl
           refine take_ (i := 18) (N := some 52) (v := ?_) (a' := ?_) #[true, true, true, true, true, true, true, true, true, true, true, true, true, true, true, true, true, true, true, false, false, false, false, false, false, false, false, false, false, false, false, false, false, false, false, false, false, false, false, false, false, false, false, false, false, false, false, false, false, false, false] rfl rfl (take_ofW HT_.out HW_.out (by kernel_rfl)) (fun _ _ _ h => h) (Or.inl ⟨by rfl, ?_⟩) hHeld ?_ ?_
           rotate_left
           ·rintro w' ⟨s0, s1, s2, s3, s4, s5, s6, s7, s8, s9, s10, s11, s12, s13, s14, s15, s16, s17, s18, s19, s20, s21, s22, s23⟩
            go_simp
            with_reducible rfl
           rotate_left
           ·simp only [Act.put, sqA, sqZ, sqS, i64_w, i32_w]
            rfl
           refine take_ (i := 19) (N := some 53) (v := ?_) (a' := ?_) #[true, true, true, true, true, true, true, true, true, true, true, true, true, true, true, true, true, true, true, true, false, false, false, false, false, false, false, false, false, false, false, false, false, false, false, false, false, false, false, false, false, false, false, false, false, false, false, false, false, false, false] rfl rfl (take_ofW HT_.out HW_.out (by kernel_rfl)) (fun _ _ _ h => h) (Or.inl ⟨by rfl, ?_⟩) hHeld ?_ ?_
           rotate_left
           ·rintro w' ⟨s0, s1, s2, s3, s4, s5, s6, s7, s8, s9, s10, s11, s12, s13, s14, s15, s16, s17, s18, s19, s20, s21, s22, s23⟩
            go_simp
            with_reducible rfl
           rotate_left
           ·simp only [Act.put, sqA, sqZ, sqS, i64_w, i32_w]
            rfl
           refine take_ (i := 21) (N := some 55) (v := ?_) (a' := ?_) #[true, true, true, true, true, true, true, true, true, true, true, true, true, true, true, true, true, true, true, true, false, true, false, false, false, false, false, false, false, false, false, false, false, false, false, false, false, false, false, false, false, false, false, false, false, false, false, false, false, false, false] rfl rfl (take_ofW HT_.out HW_.out (by kernel_rfl)) (fun _ _ _ h => h) (Or.inl ⟨by rfl, ?_⟩) hHeld ?_ ?_
           rotate_left
           ·rintro w' ⟨s0, s1, s2, s3, s4, s5, s6, s7, s8, s9, s10, s11, s12, s13, s14, s15, s16, s17, s18, s19, s20, s21, s22, s23⟩
            go_simp
            with_reducible rfl
           rotate_left
           ·simp only [Act.put, sqA, sqZ, sqS, i64_w, i32_w]
            rfl
           refine one_ (i := 20) (N := some 54) #[true, true, true, true, true, true, true, true, true, true, true, true, true, true, true, true, true, true, true, true, true, true, false, false, false, false, false, false, false, false, false, false, false, false, false, false, false, false, false, false, false, false, false, false, false, false, false, false, false, false, false] rfl rfl (one_of HT_.out (by kernel_rfl)) (by decide) (fun K hK => ?_)
           refine goes_ Tryd.func8 (by kernel_rfl) rfl #[.agg #[.int .i64 (-1), .int .i64 0, .int .i64 (-1), .string (⟨#[]⟩ : ByteArray), .string (⟨#[]⟩ : ByteArray), .int .i64 0], .agg #[.int .i64 t233, .int .i64 t234, .int .i64 t235, .string t236, .string t237, .int .i64 t238]] (by rfl) rfl rfl (by (try simp only [lM, lC, lN]); first | done | rfl | (simp only [lD, lT]; rfl)) ?_
           with_reducible refine (impl_Laid.calls kj9 (-1) 0 (-1) (⟨#[]⟩ : ByteArray) (⟨#[]⟩ : ByteArray) 0 t233 t234 t235 t236 t237 t238 l1 l2 t276 t277 t278 t279 t280 t281 _ ?side1 ?side2 ?side3 ?side4 A55.out).mono ?_
           (case side1 => repeat (first | exact (Kd.C_below HR1.out HB.out) | (with_reducible refine Kd.C_alloc ?_ _) | (with_reducible refine Kd.C_drewN ?_ _) | (with_reducible refine Kd.C_drew ?_)))
           (case side2 => exact HC1.out)
           (case side3 => repeat (first | exact (Kd.C_below HR2.out HB.out) | (with_reducible refine Kd.C_alloc ?_ _) | (with_reducible refine Kd.C_drewN ?_ _) | (with_reducible refine Kd.C_drew ?_)))
           (case side4 => exact HC2.out)
           rintro e w65 ⟨rfl, hb⟩
           refine ⟨_, rfl, ?_⟩
           have n0_ := Aside0.mk (blk_below (g := gb245) (o := .cells #[.int .i64 t233, .int .i64 t234, .int .i64 t235, .string t236, .string t237, .int .i64 t238] 25 (0, 0)) (by (with_reducible repeat (first | refine bN ?_ _ | refine bD ?_ | refine bA ?_ _)); exact BK245.out) hb)
           have n1_ := Aside0.mk (blk_below (g := gb246) (o := .cells #[.int .i64 t239, .int .i64 t240, .int .i64 t241, .string t242, .string t243, .int .i64 t244] 25 (0, 0)) (by (with_reducible repeat (first | refine bN ?_ _ | refine bD ?_ | refine bA ?_ _)); exact BK246.out) hb)
           have n2_ := Aside0.mk (blk_below (g := gb253) (o := .cells #[.int .i64 t247, .int .i64 t248, .int .i64 t249, .string t250, .string t251, .int .i64 t252] 25 (0, 0)) (by (with_reducible repeat (first | refine bN ?_ _ | refine bD ?_ | refine bA ?_ _)); exact BK253.out) hb)
           have n3_ := Aside0.mk (blk_below (g := gb262) (o := .cells #[.int .i64 (-1), .int .i64 0, .int .i64 (-1), .string (⟨#[]⟩ : ByteArray), .string (⟨#[]⟩ : ByteArray), .int .i64 0] 25 (0, 0)) (by (with_reducible repeat (first | refine bN ?_ _ | refine bD ?_ | refine bA ?_ _)); exact BK262.out) hb)
           have n4_ := Aside0.mk (below_step (by repeat (first | (with_reducible first | exact HB.out | apply wA | apply wN | apply wD | refine bS ?_ GE245.out | refine bS ?_ GE246.out | refine bS ?_ GE253.out | refine bS ?_ GE262.out) | exact HB.out)) hb)
           clear BK245
           clear BK246
           clear BK253
           clear BK262
           clear HB
           have BK245 := n0_
           have BK246 := n1_
           have BK253 := n2_
           have BK262 := n3_
           have HB := n4_
           clear n0_ n1_ n2_ n3_ n4_
           (try clear hb)
           (try clear hb2)
           (try clear hk)
           (try clear hi)
           refine hK.out _ _ ⟨bC BK253.out 0 rfl, bC BK253.out 1 rfl, bC BK253.out 2 rfl, bC BK253.out 3 rfl, bC BK253.out 4 rfl, bC BK253.out 5 rfl, bC BK246.out 0 rfl, bC BK246.out 1 rfl, bC BK246.out 2 rfl, bC BK246.out 3 rfl, bC BK246.out 4 rfl, bC BK246.out 5 rfl, bC BK245.out 0 rfl, bC BK245.out 1 rfl, bC BK245.out 2 rfl, bC BK245.out 3 rfl, bC BK245.out 4 rfl, bC BK245.out 5 rfl, bC BK262.out 0 rfl, bC BK262.out 1 rfl, bC BK262.out 2 rfl, bC BK262.out 3 rfl, bC BK262.out 4 rfl, bC BK262.out 5 rfl⟩ (fun hHeld => ?_)
           clear hK K
           refine norm_ (a' := ?_) ?_ ?_
           rotate_left
           ·show Act.put _ (some 54) _ = _
            simp only [Act.put, sqA, sqZ, sqS, i64_w, i32_w]
            rfl
           refine pure_ (i := 22) (N := some 56) (v := ?_) (a' := ?_) #[true, true, true, true, true, true, true, true, true, true, true, true, true, true, true, true, true, true, true, true, true, true, true, false, false, false, false, false, false, false, false, false, false, false, false, false, false, false, false, false, false, false, false, false, false, false, false, false, false, false, false] rfl rfl (any_of HT_.out (by kernel_rfl)) (fun _ _ _ h => h) (Or.inl ⟨by rfl, ?_⟩) ?_ ?_
           rotate_left
           ·intro w'
            go_simp
            with_reducible rfl
           rotate_left
           ·simp only [Act.put, sqA, sqZ, sqS, i64_w, i32_w]
            rfl
           refine pure_ (i := 23) (N := some 57) (v := ?_) (a' := ?_) #[true, true, true, true, true, true, true, true, true, true, true, true, true, true, true, true, true, true, true, true, true, true, true, true, false, false, false, false, false, false, false, false, false, false, false, false, false, false, false, false, false, false, false, false, false, false, false, false, false, false, false] rfl rfl (any_of HT_.out (by kernel_rfl)) (fun _ _ _ h => h) (Or.inl ⟨by rfl, ?_⟩) ?_ ?_
           rotate_left
           ·intro w'
            go_simp
            with_reducible rfl
           rotate_left
           ·simp only [Act.put, sqA, sqZ, sqS, i64_w, i32_w]
            rfl
           refine pure_ (i := 24) (N := some 58) (v := ?_) (a' := ?_) #[true, true, true, true, true, true, true, true, true, true, true, true, true, true, true, true, true, true, true, true, true, true, true, true, true, false, false, false, false, false, false, false, false, false, false, false, false, false, false, false, false, false, false, false, false, false, false, false, false, false, false] rfl rfl (any_of HT_.out (by kernel_rfl)) (fun _ _ _ h => h) (Or.inl ⟨by rfl, ?_⟩) ?_ ?_
           rotate_left
           ·intro w'
            go_simp
            with_reducible rfl
           rotate_left
           ·simp only [Act.put, sqA, sqZ, sqS, i64_w, i32_w]
            rfl
           refine take_ (i := 25) (N := some 59) (v := ?_) (a' := ?_) #[true, true, true, true, true, true, true, true, true, true, true, true, true, true, true, true, true, true, true, true, true, true, true, true, true, true, false, false, false, false, false, false, false, false, false, false, false, false, false, false, false, false, false, false, false, false, false, false, false, false, false] rfl rfl (take_ofW HT_.out HW_.out (by kernel_rfl)) (fun _ _ _ h => h) (Or.inl ⟨by rfl, ?_⟩) hHeld ?_ ?_
           rotate_left
           ·rintro w' ⟨s0, s1, s2, s3, s4, s5, s6, s7, s8, s9, s10, s11, s12, s13, s14, s15, s16, s17, s18, s19, s20, s21, s22, s23⟩
            go_simp
            with_reducible rfl
           rotate_left
           ·simp only [Act.put, sqA, sqZ, sqS, i64_w, i32_w]
            rfl
           refine take_ (i := 26) (N := some 60) (v := ?_) (a' := ?_) #[true, true, true, true, true, true, true, true, true, true, true, true, true, true, true, true, true, true, true, true, true, true, true, true, true, true, true, false, false, false, false, false, false, false, false, false, false, false, false, false, false, false, false, false, false, false, false, false, false, false, false] rfl rfl (take_ofW HT_.out HW_.out (by kernel_rfl)) (fun _ _ _ h => h) (Or.inl ⟨by rfl, ?_⟩) hHeld ?_ ?_
           rotate_left
           ·rintro w' ⟨s0, s1, s2, s3, s4, s5, s6, s7, s8, s9, s10, s11, s12, s13, s14, s15, s16, s17, s18, s19, s20, s21, s22, s23⟩
            go_simp
            with_reducible rfl
           rotate_left
           ·simp only [Act.put, sqA, sqZ, sqS, i64_w, i32_w]
            rfl
           refine take_ (i := 28) (N := some 62) (v := ?_) (a' := ?_) #[true, true, true, true, true, true, true, true, true, true, true, true, true, true, true, true, true, true, true, true, true, true, true, true, true, true, true, false, true, false, false, false, false, false, false, false, false, false, false, false, false, false, false, false, false, false, false, false, false, false, false] rfl rfl (take_ofW HT_.out HW_.out (by kernel_rfl)) (fun _ _ _ h => h) (Or.inl ⟨by rfl, ?_⟩) hHeld ?_ ?_
           rotate_left
           ·rintro w' ⟨s0, s1, s2, s3, s4, s5, s6, s7, s8, s9, s10, s11, s12, s13, s14, s15, s16, s17, s18, s19, s20, s21, s22, s23⟩
            go_simp
            with_reducible rfl
           rotate_left
           ·simp only [Act.put, sqA, sqZ, sqS, i64_w, i32_w]
            rfl
           refine one_ (i := 27) (N := some 61) #[true, true, true, true, true, true, true, true, true, true, true, true, true, true, true, true, true, true, true, true, true, true, true, true, true, true, true, true, true, false, false, false, false, false, false, false, false, false, false, false, false, false, false, false, false, false, false, false, false, false, false] rfl rfl (one_of HT_.out (by kernel_rfl)) (by decide) (fun K hK => ?_)
           refine goes_ Tryd.func8 (by kernel_rfl) rfl #[.agg #[.int .i64 t239, .int .i64 t240, .int .i64 t241, .string t242, .string t243, .int .i64 t244], .agg #[.int .i64 t247, .int .i64 t248, .int .i64 t249, .string t250, .string t251, .int .i64 t252]] (by rfl) rfl rfl (by (try simp only [lM, lC, lN]); first | done | rfl | (simp only [lD, lT]; rfl)) ?_
           with_reducible refine (impl_Laid.calls kj9 t239 t240 t241 t242 t243 t244 t247 t248 t249 t250 t251 t252 l1 l2 t282 t283 t284 t285 t286 t287 _ ?side1 ?side2 ?side3 ?side4 A57.out).mono ?_
           (case side1 => repeat (first | exact (Kd.C_below HR1.out HB.out) | (with_reducible refine Kd.C_alloc ?_ _) | (with_reducible refine Kd.C_drewN ?_ _) | (with_reducible refine Kd.C_drew ?_)))
           (case side2 => exact HC1.out)
           (case side3 => repeat (first | exact (Kd.C_below HR2.out HB.out) | (with_reducible refine Kd.C_alloc ?_ _) | (with_reducible refine Kd.C_drewN ?_ _) | (with_reducible refine Kd.C_drew ?_)))
           (case side4 => exact HC2.out)
           rintro e w66 ⟨rfl, hb⟩
           refine ⟨_, rfl, ?_⟩
           have n0_ := Aside0.mk (blk_below (g := gb245) (o := .cells #[.int .i64 t233, .int .i64 t234, .int .i64 t235, .string t236, .string t237, .int .i64 t238] 25 (0, 0)) (by (with_reducible repeat (first | refine bN ?_ _ | refine bD ?_ | refine bA ?_ _)); exact BK245.out) hb)
           have n1_ := Aside0.mk (blk_below (g := gb246) (o := .cells #[.int .i64 t239, .int .i64 t240, .int .i64 t241, .string t242, .string t243, .int .i64 t244] 25 (0, 0)) (by (with_reducible repeat (first | refine bN ?_ _ | refine bD ?_ | refine bA ?_ _)); exact BK246.out) hb)
           have n2_ := Aside0.mk (blk_below (g := gb253) (o := .cells #[.int .i64 t247, .int .i64 t248, .int .i64 t249, .string t250, .string t251, .int .i64 t252] 25 (0, 0)) (by (with_reducible repeat (first | refine bN ?_ _ | refine bD ?_ | refine bA ?_ _)); exact BK253.out) hb)
           have n3_ := Aside0.mk (blk_below (g := gb262) (o := .cells #[.int .i64 (-1), .int .i64 0, .int .i64 (-1), .string (⟨#[]⟩ : ByteArray), .string (⟨#[]⟩ : ByteArray), .int .i64 0] 25 (0, 0)) (by (with_reducible repeat (first | refine bN ?_ _ | refine bD ?_ | refine bA ?_ _)); exact BK262.out) hb)
           have n4_ := Aside0.mk (below_step (by repeat (first | (with_reducible first | exact HB.out | apply wA | apply wN | apply wD | refine bS ?_ GE245.out | refine bS ?_ GE246.out | refine bS ?_ GE253.out | refine bS ?_ GE262.out) | exact HB.out)) hb)
           clear BK245
           clear BK246
           clear BK253
           clear BK262
           clear HB
           have BK245 := n0_
           have BK246 := n1_
           have BK253 := n2_
           have BK262 := n3_
           have HB := n4_
           clear n0_ n1_ n2_ n3_ n4_
           (try clear hb)
           (try clear hb2)
           (try clear hk)
           (try clear hi)
           refine hK.out _ _ ⟨bC BK253.out 0 rfl, bC BK253.out 1 rfl, bC BK253.out 2 rfl, bC BK253.out 3 rfl, bC BK253.out 4 rfl, bC BK253.out 5 rfl, bC BK246.out 0 rfl, bC BK246.out 1 rfl, bC BK246.out 2 rfl, bC BK246.out 3 rfl, bC BK246.out 4 rfl, bC BK246.out 5 rfl, bC BK245.out 0 rfl, bC BK245.out 1 rfl, bC BK245.out 2 rfl, bC BK245.out 3 rfl, bC BK245.out 4 rfl, bC BK245.out 5 rfl, bC BK262.out 0 rfl, bC BK262.out 1 rfl, bC BK262.out 2 rfl, bC BK262.out 3 rfl, bC BK262.out 4 rfl, bC BK262.out 5 rfl⟩ (fun hHeld => ?_)
           clear hK K
           refine norm_ (a' := ?_) ?_ ?_
           rotate_left
           ·show Act.put _ (some 61) _ = _
            simp only [Act.put, sqA, sqZ, sqS, i64_w, i32_w]
            rfl
           by_cases c58 : (!(t282 == t247) || (!(t283 == t248) || (!(t284 == t249) || (!(t285.toList == t250.toList) || (!(t286.toList == t251.toList) || (!(t287 == t252))))))) = true
           ·rw [if_pos c58] at H
            have c58b0 : (!(t282 == t247) || (!(t283 == t248) || (!(t284 == t249) || (!(t285.toList == t250.toList) || (!(t286.toList == t251.toList) || (!(t287 == t252))))))) = true := c58
            clear c58
            by_cases c59 : t247 = (-1)
            ·rw [if_pos c59] at H
             have c59b0 : (t247 == (-1)) = true := beq_iff_eq.mpr c59
             have c59b1 : (t247 != (-1)) = false := bne_eq_false_iff_eq.mpr c59
             clear c59
             have H' := Aside0.mk H
             clear H
             refine pure_ (i := 29) (N := some 63) (v := ?_) (a' := ?_) #[true, true, true, true, true, true, true, true, true, true, true, true, true, true, true, true, true, true, true, true, true, true, true, true, true, true, true, true, true, true, false, false, false, false, false, false, false, false, false, false, false, false, false, false, false, false, false, false, false, false, false] rfl rfl (any_of HT_.out (by kernel_rfl)) (fun _ _ _ h => h) (Or.inl ⟨by rfl, ?_⟩) ?_ ?_
             rotate_left
             ·intro w'
              go_simp
              with_reducible rfl
             rotate_left
             ·simp only [Act.put, sqA, sqZ, sqS, i64_w, i32_w]
              rfl
             refine pure_ (i := 30) (N := some 64) (v := ?_) (a' := ?_) #[true, true, true, true, true, true, true, true, true, true, true, true, true, true, true, true, true, true, true, true, true, true, true, true, true, true, true, true, true, true, true, false, false, false, false, false, false, false, false, false, false, false, false, false, false, false, false, false, false, false, false] rfl rfl (any_of HT_.out (by kernel_rfl)) (fun _ _ _ h => h) (Or.inl ⟨by rfl, ?_⟩) ?_ ?_
             rotate_left
             ·intro w'
              go_simp
              with_reducible rfl
             rotate_left
             ·simp only [Act.put, sqA, sqZ, sqS, i64_w, i32_w]
              rfl
             refine pure_ (i := 31) (N := some 65) (v := ?_) (a' := ?_) #[true, true, true, true, true, true, true, true, true, true, true, true, true, true, true, true, true, true, true, true, true, true, true, true, true, true, true, true, true, true, true, true, false, false, false, false, false, false, false, false, false, false, false, false, false, false, false, false, false, false, false] rfl rfl (any_of HT_.out (by kernel_rfl)) (fun _ _ _ h => h) (Or.inl ⟨by rfl, ?_⟩) ?_ ?_
             rotate_left
             ·intro w'
              go_simp
              with_reducible rfl
             rotate_left
             ·simp only [Act.put, sqA, sqZ, sqS, i64_w, i32_w]
              rfl
             refine take_ (i := 32) (N := some 66) (v := ?_) (a' := ?_) #[true, true, true, true, true, true, true, true, true, true, true, true, true, true, true, true, true, true, true, true, true, true, true, true, true, true, true, true, true, true, true, true, true, false, false, false, false, false, false, false, false, false, false, false, false, false, false, false, false, false, false] rfl rfl (take_ofW HT_.out HW_.out (by kernel_rfl)) (fun _ _ _ h => h) (Or.inl ⟨by rfl, ?_⟩) hHeld ?_ ?_
             rotate_left
             ·rintro w' ⟨s0, s1, s2, s3, s4, s5, s6, s7, s8, s9, s10, s11, s12, s13, s14, s15, s16, s17, s18, s19, s20, s21, s22, s23⟩
              go_simp
              with_reducible rfl
             rotate_left
             ·simp only [Act.put, sqA, sqZ, sqS, i64_w, i32_w]
              rfl
             refine pure_ (i := 33) (N := some 67) (v := ?_) (a' := ?_) #[true, true, true, true, true, true, true, true, true, true, true, true, true, true, true, true, true, true, true, true, true, true, true, true, true, true, true, true, true, true, true, true, true, true, false, false, false, false, false, false, false, false, false, false, false, false, false, false, false, false, false] rfl rfl (any_of HT_.out (by kernel_rfl)) (fun _ _ _ h => h) (Or.inl ⟨by rfl, ?_⟩) ?_ ?_
             rotate_left
             ·intro w'
              go_simp
              with_reducible rfl
             rotate_left
             ·simp only [Act.put, sqA, sqZ, sqS, i64_w, i32_w]
              rfl
             refine pure_ (i := 34) (N := some 68) (v := ?_) (a' := ?_) #[true, true, true, true, true, true, true, true, true, true, true, true, true, true, true, true, true, true, true, true, true, true, true, true, true, true, true, true, true, true, true, true, true, true, true, false, false, false, false, false, false, false, false, false, false, false, false, false, false, false, false] rfl rfl (any_of HT_.out (by kernel_rfl)) (fun _ _ _ h => h) (Or.inl ⟨by rfl, ?_⟩) ?_ ?_
             rotate_left
             ·intro w'
              go_simp
              with_reducible rfl
             rotate_left
             ·simp only [Act.put, sqA, sqZ, sqS, i64_w, i32_w]
              rfl
             refine pure_ (i := 35) (N := some 69) (v := ?_) (a' := ?_) #[true, true, true, true, true, true, true, true, true, true, true, true, true, true, true, true, true, true, true, true, true, true, true, true, true, true, true, true, true, true, true, true, true, true, true, true, false, false, false, false, false, false, false, false, false, false, false, false, false, false, false] rfl rfl (any_of HT_.out (by kernel_rfl)) (fun _ _ _ h => h) (Or.inl ⟨by rfl, ?_⟩) ?_ ?_
             rotate_left
             ·intro w'
              go_simp
              with_reducible rfl
             rotate_left
             ·simp only [Act.put, sqA, sqZ, sqS, i64_w, i32_w]
              rfl
             refine pure_ (i := 36) (N := some 70) (v := undef) (a' := ?_) #[true, true, true, true, true, true, true, true, true, true, true, true, true, true, true, true, true, true, true, true, true, true, true, true, true, true, true, true, true, true, true, true, true, true, true, true, true, false, false, false, false, false, false, false, false, false, false, false, false, false, false] rfl rfl (any_of HT_.out (by kernel_rfl)) (fun _ _ _ h => h) (Or.inr ⟨by rfl, rfl⟩) ?_ ?_
             rotate_left
             ·simp only [Act.put, sqA, sqZ, sqS, i64_w, i32_w]
              rfl
             refine pure_ (i := 37) (N := some 71) (v := undef) (a' := ?_) #[true, true, true, true, true, true, true, true, true, true, true, true, true, true, true, true, true, true, true, true, true, true, true, true, true, true, true, true, true, true, true, true, true, true, true, true, true, true, false, false, false, false, false, false, false, false, false, false, false, false, false] rfl rfl (any_of HT_.out (by kernel_rfl)) (fun _ _ _ h => h) (Or.inr ⟨by rfl, rfl⟩) ?_ ?_
             rotate_left
             ·simp only [Act.put, sqA, sqZ, sqS, i64_w, i32_w]
              rfl
             refine pure_ (i := 38) (N := some 72) (v := undef) (a' := ?_) #[true, true, true, true, true, true, true, true, true, true, true, true, true, true, true, true, true, true, true, true, true, true, true, true, true, true, true, true, true, true, true, true, true, true, true, true, true, true, true, false, false, false, false, false, false, false, false, false, false, false, false] rfl rfl (any_of HT_.out (by kernel_rfl)) (fun _ _ _ h => h) (Or.inr ⟨by rfl, rfl⟩) ?_ ?_
             rotate_left
             ·simp only [Act.put, sqA, sqZ, sqS, i64_w, i32_w]
              rfl
             refine pure_ (i := 39) (N := some 73) (v := ?_) (a' := ?_) #[true, true, true, true, true, true, true, true, true, true, true, true, true, true, true, true, true, true, true, true, true, true, true, true, true, true, true, true, true, true, true, true, true, true, true, true, true, true, true, true, false, false, false, false, false, false, false, false, false, false, false] rfl rfl (any_of HT_.out (by kernel_rfl)) (fun _ _ _ h => h) (Or.inl ⟨by rfl, ?_⟩) ?_ ?_
             rotate_left
             ·intro w'
              go_simp
              with_reducible rfl
             rotate_left
             ·simp only [Act.put, sqA, sqZ, sqS, i64_w, i32_w]
              rfl
             refine pure_ (i := 40) (N := some 74) (v := ?_) (a' := ?_) #[true, true, true, true, true, true, true, true, true, true, true, true, true, true, true, true, true, true, true, true, true, true, true, true, true, true, true, true, true, true, true, true, true, true, true, true, true, true, true, true, true, false, false, false, false, false, false, false, false, false, false] rfl rfl (any_of HT_.out (by kernel_rfl)) (fun _ _ _ h => h) (Or.inl ⟨by rfl, ?_⟩) ?_ ?_
             rotate_left
             ·intro w'
              go_simp
              with_reducible rfl
             rotate_left
             ·simp only [Act.put, sqA, sqZ, sqS, i64_w, i32_w]
              rfl
             refine pure_ (i := 41) (N := some 75) (v := undef) (a' := ?_) #[true, true, true, true, true, true, true, true, true, true, true, true, true, true, true, true, true, true, true, true, true, true, true, true, true, true, true, true, true, true, true, true, true, true, true, true, true, true, true, true, true, true, false, false, false, false, false, false, false, false, false] rfl rfl (any_of HT_.out (by kernel_rfl)) (fun _ _ _ h => h) (Or.inr ⟨by rfl, rfl⟩) ?_ ?_
             rotate_left
             ·simp only [Act.put, sqA, sqZ, sqS, i64_w, i32_w]
              rfl
             refine pure_ (i := 42) (N := some 76) (v := undef) (a' := ?_) #[true, true, true, true, true, true, true, true, true, true, true, true, true, true, true, true, true, true, true, true, true, true, true, true, true, true, true, true, true, true, true, true, true, true, true, true, true, true, true, true, true, true, true, false, false, false, false, false, false, false, false] rfl rfl (any_of HT_.out (by kernel_rfl)) (fun _ _ _ h => h) (Or.inr ⟨by rfl, rfl⟩) ?_ ?_
             rotate_left
             ·simp only [Act.put, sqA, sqZ, sqS, i64_w, i32_w]
              rfl
             refine pure_ (i := 43) (N := some 77) (v := undef) (a' := ?_) #[true, true, true, true, true, true, true, true, true, true, true, true, true, true, true, true, true, true, true, true, true, true, true, true, true, true, true, true, true, true, true, true, true, true, true, true, true, true, true, true, true, true, true, true, false, false, false, false, false, false, false] rfl rfl (any_of HT_.out (by kernel_rfl)) (fun _ _ _ h => h) (Or.inr ⟨by rfl, rfl⟩) ?_ ?_
             rotate_left
             ·simp only [Act.put, sqA, sqZ, sqS, i64_w, i32_w]
              rfl
             refine pure_ (i := 44) (N := some 78) (v := ?_) (a' := ?_) #[true, true, true, true, true, true, true, true, true, true, true, true, true, true, true, true, true, true, true, true, true, true, true, true, true, true, true, true, true, true, true, true, true, true, true, true, true, true, true, true, true, true, true, true, true, false, false, false, false, false, false] rfl rfl (any_of HT_.out (by kernel_rfl)) (fun _ _ _ h => h) (Or.inl ⟨by rfl, ?_⟩) ?_ ?_
             rotate_left
             ·intro w'
              go_simp
              with_reducible rfl
             rotate_left
             ·simp only [Act.put, sqA, sqZ, sqS, i64_w, i32_w]
              rfl
             refine pure_ (i := 45) (N := some 79) (v := ?_) (a' := ?_) #[true, true, true, true, true, true, true, true, true, true, true, true, true, true, true, true, true, true, true, true, true, true, true, true, true, true, true, true, true, true, true, true, true, true, true, true, true, true, true, true, true, true, true, true, true, true, false, false, false, false, false] rfl rfl (any_of HT_.out (by kernel_rfl)) (fun _ _ _ h => h) (Or.inl ⟨by rfl, ?_⟩) ?_ ?_
             rotate_left
             ·intro w'
              go_simp
              with_reducible rfl
             rotate_left
             ·simp only [Act.put, sqA, sqZ, sqS, i64_w, i32_w]
              rfl
             refine pure_ (i := 46) (N := some 80) (v := undef) (a' := ?_) #[true, true, true, true, true, true, true, true, true, true, true, true, true, true, true, true, true, true, true, true, true, true, true, true, true, true, true, true, true, true, true, true, true, true, true, true, true, true, true, true, true, true, true, true, true, true, true, false, false, false, false] rfl rfl (any_of HT_.out (by kernel_rfl)) (fun _ _ _ h => h) (Or.inr ⟨by rfl, rfl⟩) ?_ ?_
             rotate_left
             ·simp only [Act.put, sqA, sqZ, sqS, i64_w, i32_w]
              rfl
             refine pure_ (i := 47) (N := some 81) (v := undef) (a' := ?_) #[true, true, true, true, true, true, true, true, true, true, true, true, true, true, true, true, true, true, true, true, true, true, true, true, true, true, true, true, true, true, true, true, true, true, true, true, true, true, true, true, true, true, true, true, true, true, true, true, false, false, false] rfl rfl (any_of HT_.out (by kernel_rfl)) (fun _ _ _ h => h) (Or.inr ⟨by rfl, rfl⟩) ?_ ?_
             rotate_left
             ·simp only [Act.put, sqA, sqZ, sqS, i64_w, i32_w]
              rfl
             refine pure_ (i := 48) (N := some 82) (v := undef) (a' := ?_) #[true, true, true, true, true, true, true, true, true, true, true, true, true, true, true, true, true, true, true, true, true, true, true, true, true, true, true, true, true, true, true, true, true, true, true, true, true, true, true, true, true, true, true, true, true, true, true, true, true, false, false] rfl rfl (any_of HT_.out (by kernel_rfl)) (fun _ _ _ h => h) (Or.inr ⟨by rfl, rfl⟩) ?_ ?_
             rotate_left
             ·simp only [Act.put, sqA, sqZ, sqS, i64_w, i32_w]
              rfl
             refine pure_ (i := 49) (N := some 83) (v := ?_) (a' := ?_) #[true, true, true, true, true, true, true, true, true, true, true, true, true, true, true, true, true, true, true, true, true, true, true, true, true, true, true, true, true, true, true, true, true, true, true, true, true, true, true, true, true, true, true, true, true, true, true, true, true, true, false] rfl rfl (any_of HT_.out (by kernel_rfl)) (fun _ _ _ h => h) (Or.inl ⟨by rfl, ?_⟩) ?_ ?_
             rotate_left
             ·intro w'
              go_simp
              with_reducible rfl
             rotate_left
             ·simp only [Act.put, sqA, sqZ, sqS, i64_w, i32_w]
              rfl
             refine pure_ (i := 50) (N := some 84) (v := ?_) (a' := ?_) #[true, true, true, true, true, true, true, true, true, true, true, true, true, true, true, true, true, true, true, true, true, true, true, true, true, true, true, true, true, true, true, true, true, true, true, true, true, true, true, true, true, true, true, true, true, true, true, true, true, true, true] rfl rfl (any_of HT_.out (by kernel_rfl)) (fun _ _ _ h => h) (Or.inl ⟨by rfl, ?_⟩) ?_ ?_
             rotate_left
             ·intro w'
              go_simp
              with_reducible rfl
             rotate_left
             ·simp only [Act.put, sqA, sqZ, sqS, i64_w, i32_w]
              rfl
             refine done_ (done_of HT_.out (by kernel_rfl)) ?_
             try go_wp2
             go_meet
             case rel => exact ⟨_, (false), (by first | rfl | (simp; done) | (simp [*]; done)), H', ⟨by have := HJ9.out; first | omega | exact Nat.le_refl _⟩, ⟨by (with_reducible repeat (first | refine bN ?_ _ | refine bD ?_ | refine bA ?_ _)); exact BK245.out⟩, ⟨by (with_reducible repeat (first | refine bN ?_ _ | refine bD ?_ | refine bA ?_ _)); exact BK246.out⟩, ⟨by (with_reducible repeat (first | refine bN ?_ _ | refine bD ?_ | refine bA ?_ _)); exact BK253.out⟩, ⟨by (with_reducible repeat (first | refine bN ?_ _ | refine bD ?_ | refine bA ?_ _)); exact BK262.out⟩, ⟨by repeat (first | (with_reducible first | exact HB.out | apply wA | apply wN | apply wD | refine bS ?_ GE245.out | refine bS ?_ GE246.out | refine bS ?_ GE253.out | refine bS ?_ GE262.out) | exact HB.out)⟩⟩
            ·rw [if_neg c59] at H
             have c59b0 : (t247 == (-1)) = false := beq_eq_false_iff_ne.mpr c59
             have c59b1 : (t247 != (-1)) = true := bne_iff_ne.mpr c59
             by_cases c67 : t249 = (-1)
             ·rw [if_pos c67] at H
              have c67b0 : (t249 == (-1)) = true := beq_iff_eq.mpr c67
              have c67b1 : (t249 != (-1)) = false := bne_eq_false_iff_eq.mpr c67
              clear c67
              have H' := Aside0.mk H
              clear H
              refine pure_ (i := 29) (N := some 63) (v := ?_) (a' := ?_) #[true, true, true, true, true, true, true, true, true, true, true, true, true, true, true, true, true, true, true, true, true, true, true, true, true, true, true, true, true, true, false, false, false, false, false, false, false, false, false, false, false, false, false, false, false, false, false, false, false, false, false] rfl rfl (any_of HT_.out (by kernel_rfl)) (fun _ _ _ h => h) (Or.inl ⟨by rfl, ?_⟩) ?_ ?_
              rotate_left
              ·intro w'
               go_simp
               with_reducible rfl
              rotate_left
              ·simp only [Act.put, sqA, sqZ, sqS, i64_w, i32_w]
               rfl
              refine pure_ (i := 30) (N := some 64) (v := ?_) (a' := ?_) #[true, true, true, true, true, true, true, true, true, true, true, true, true, true, true, true, true, true, true, true, true, true, true, true, true, true, true, true, true, true, true, false, false, false, false, false, false, false, false, false, false, false, false, false, false, false, false, false, false, false, false] rfl rfl (any_of HT_.out (by kernel_rfl)) (fun _ _ _ h => h) (Or.inl ⟨by rfl, ?_⟩) ?_ ?_
              rotate_left
              ·intro w'
               go_simp
               with_reducible rfl
              rotate_left
              ·simp only [Act.put, sqA, sqZ, sqS, i64_w, i32_w]
               rfl
              refine pure_ (i := 31) (N := some 65) (v := ?_) (a' := ?_) #[true, true, true, true, true, true, true, true, true, true, true, true, true, true, true, true, true, true, true, true, true, true, true, true, true, true, true, true, true, true, true, true, false, false, false, false, false, false, false, false, false, false, false, false, false, false, false, false, false, false, false] rfl rfl (any_of HT_.out (by kernel_rfl)) (fun _ _ _ h => h) (Or.inl ⟨by rfl, ?_⟩) ?_ ?_
              rotate_left
              ·intro w'
               go_simp
               with_reducible rfl
              rotate_left
              ·simp only [Act.put, sqA, sqZ, sqS, i64_w, i32_w]
               rfl
              refine take_ (i := 32) (N := some 66) (v := ?_) (a' := ?_) #[true, true, true, true, true, true, true, true, true, true, true, true, true, true, true, true, true, true, true, true, true, true, true, true, true, true, true, true, true, true, true, true, true, false, false, false, false, false, false, false, false, false, false, false, false, false, false, false, false, false, false] rfl rfl (take_ofW HT_.out HW_.out (by kernel_rfl)) (fun _ _ _ h => h) (Or.inl ⟨by rfl, ?_⟩) hHeld ?_ ?_
              rotate_left
              ·rintro w' ⟨s0, s1, s2, s3, s4, s5, s6, s7, s8, s9, s10, s11, s12, s13, s14, s15, s16, s17, s18, s19, s20, s21, s22, s23⟩
               go_simp
               with_reducible rfl
              rotate_left
              ·simp only [Act.put, sqA, sqZ, sqS, i64_w, i32_w]
               rfl
              refine pure_ (i := 33) (N := some 67) (v := ?_) (a' := ?_) #[true, true, true, true, true, true, true, true, true, true, true, true, true, true, true, true, true, true, true, true, true, true, true, true, true, true, true, true, true, true, true, true, true, true, false, false, false, false, false, false, false, false, false, false, false, false, false, false, false, false, false] rfl rfl (any_of HT_.out (by kernel_rfl)) (fun _ _ _ h => h) (Or.inl ⟨by rfl, ?_⟩) ?_ ?_
              rotate_left
              ·intro w'
               go_simp
               with_reducible rfl
              rotate_left
              ·simp only [Act.put, sqA, sqZ, sqS, i64_w, i32_w]
               rfl
              refine pure_ (i := 34) (N := some 68) (v := ?_) (a' := ?_) #[true, true, true, true, true, true, true, true, true, true, true, true, true, true, true, true, true, true, true, true, true, true, true, true, true, true, true, true, true, true, true, true, true, true, true, false, false, false, false, false, false, false, false, false, false, false, false, false, false, false, false] rfl rfl (any_of HT_.out (by kernel_rfl)) (fun _ _ _ h => h) (Or.inl ⟨by rfl, ?_⟩) ?_ ?_
              rotate_left
              ·intro w'
               go_simp
               with_reducible rfl
              rotate_left
              ·simp only [Act.put, sqA, sqZ, sqS, i64_w, i32_w]
               rfl
              refine pure_ (i := 35) (N := some 69) (v := ?_) (a' := ?_) #[true, true, true, true, true, true, true, true, true, true, true, true, true, true, true, true, true, true, true, true, true, true, true, true, true, true, true, true, true, true, true, true, true, true, true, true, false, false, false, false, false, false, false, false, false, false, false, false, false, false, false] rfl rfl (any_of HT_.out (by kernel_rfl)) (fun _ _ _ h => h) (Or.inl ⟨by rfl, ?_⟩) ?_ ?_
              rotate_left
              ·intro w'
               go_simp
               with_reducible rfl
              rotate_left
              ·simp only [Act.put, sqA, sqZ, sqS, i64_w, i32_w]
               rfl
              refine pure_ (i := 36) (N := some 70) (v := ?_) (a' := ?_) #[true, true, true, true, true, true, true, true, true, true, true, true, true, true, true, true, true, true, true, true, true, true, true, true, true, true, true, true, true, true, true, true, true, true, true, true, true, false, false, false, false, false, false, false, false, false, false, false, false, false, false] rfl rfl (any_of HT_.out (by kernel_rfl)) (fun _ _ _ h => h) (Or.inl ⟨by rfl, ?_⟩) ?_ ?_
              rotate_left
              ·intro w'
               go_simp
               with_reducible rfl
              rotate_left
              ·simp only [Act.put, sqA, sqZ, sqS, i64_w, i32_w]
               rfl
              refine take_ (i := 37) (N := some 71) (v := ?_) (a' := ?_) #[true, true, true, true, true, true, true, true, true, true, true, true, true, true, true, true, true, true, true, true, true, true, true, true, true, true, true, true, true, true, true, true, true, true, true, true, true, true, false, false, false, false, false, false, false, false, false, false, false, false, false] rfl rfl (take_ofW HT_.out HW_.out (by kernel_rfl)) (fun _ _ _ h => h) (Or.inl ⟨by rfl, ?_⟩) hHeld ?_ ?_
              rotate_left
              ·rintro w' ⟨s0, s1, s2, s3, s4, s5, s6, s7, s8, s9, s10, s11, s12, s13, s14, s15, s16, s17, s18, s19, s20, s21, s22, s23⟩
               go_simp
               with_reducible rfl
              rotate_left
              ·simp only [Act.put, sqA, sqZ, sqS, i64_w, i32_w]
               rfl
              refine pure_ (i := 38) (N := some 72) (v := ?_) (a' := ?_) #[true, true, true, true, true, true, true, true, true, true, true, true, true, true, true, true, true, true, true, true, true, true, true, true, true, true, true, true, true, true, true, true, true, true, true, true, true, true, true, false, false, false, false, false, false, false, false, false, false, false, false] rfl rfl (any_of HT_.out (by kernel_rfl)) (fun _ _ _ h => h) (Or.inl ⟨by rfl, ?_⟩) ?_ ?_
              rotate_left
              ·intro w'
               go_simp
               with_reducible rfl
              rotate_left
              ·simp only [Act.put, sqA, sqZ, sqS, i64_w, i32_w]
               rfl
              refine pure_ (i := 39) (N := some 73) (v := ?_) (a' := ?_) #[true, true, true, true, true, true, true, true, true, true, true, true, true, true, true, true, true, true, true, true, true, true, true, true, true, true, true, true, true, true, true, true, true, true, true, true, true, true, true, true, false, false, false, false, false, false, false, false, false, false, false] rfl rfl (any_of HT_.out (by kernel_rfl)) (fun _ _ _ h => h) (Or.inl ⟨by rfl, ?_⟩) ?_ ?_
              rotate_left
              ·intro w'
               go_simp
               with_reducible rfl
              rotate_left
              ·simp only [Act.put, sqA, sqZ, sqS, i64_w, i32_w]
               rfl
              refine pure_ (i := 40) (N := some 74) (v := ?_) (a' := ?_) #[true, true, true, true, true, true, true, true, true, true, true, true, true, true, true, true, true, true, true, true, true, true, true, true, true, true, true, true, true, true, true, true, true, true, true, true, true, true, true, true, true, false, false, false, false, false, false, false, false, false, false] rfl rfl (any_of HT_.out (by kernel_rfl)) (fun _ _ _ h => h) (Or.inl ⟨by rfl, ?_⟩) ?_ ?_
              rotate_left
              ·intro w'
               go_simp
               with_reducible rfl
              rotate_left
              ·simp only [Act.put, sqA, sqZ, sqS, i64_w, i32_w]
               rfl
              refine pure_ (i := 41) (N := some 75) (v := undef) (a' := ?_) #[true, true, true, true, true, true, true, true, true, true, true, true, true, true, true, true, true, true, true, true, true, true, true, true, true, true, true, true, true, true, true, true, true, true, true, true, true, true, true, true, true, true, false, false, false, false, false, false, false, false, false] rfl rfl (any_of HT_.out (by kernel_rfl)) (fun _ _ _ h => h) (Or.inr ⟨by rfl, rfl⟩) ?_ ?_
              rotate_left
              ·simp only [Act.put, sqA, sqZ, sqS, i64_w, i32_w]
               rfl
              refine pure_ (i := 42) (N := some 76) (v := undef) (a' := ?_) #[true, true, true, true, true, true, true, true, true, true, true, true, true, true, true, true, true, true, true, true, true, true, true, true, true, true, true, true, true, true, true, true, true, true, true, true, true, true, true, true, true, true, true, false, false, false, false, false, false, false, false] rfl rfl (any_of HT_.out (by kernel_rfl)) (fun _ _ _ h => h) (Or.inr ⟨by rfl, rfl⟩) ?_ ?_
              rotate_left
              ·simp only [Act.put, sqA, sqZ, sqS, i64_w, i32_w]
               rfl
              refine pure_ (i := 43) (N := some 77) (v := undef) (a' := ?_) #[true, true, true, true, true, true, true, true, true, true, true, true, true, true, true, true, true, true, true, true, true, true, true, true, true, true, true, true, true, true, true, true, true, true, true, true, true, true, true, true, true, true, true, true, false, false, false, false, false, false, false] rfl rfl (any_of HT_.out (by kernel_rfl)) (fun _ _ _ h => h) (Or.inr ⟨by rfl, rfl⟩) ?_ ?_
              rotate_left
              ·simp only [Act.put, sqA, sqZ, sqS, i64_w, i32_w]
               rfl
              refine pure_ (i := 44) (N := some 78) (v := ?_) (a' := ?_) #[true, true, true, true, true, true, true, true, true, true, true, true, true, true, true, true, true, true, true, true, true, true, true, true, true, true, true, true, true, true, true, true, true, true, true, true, true, true, true, true, true, true, true, true, true, false, false, false, false, false, false] rfl rfl (any_of HT_.out (by kernel_rfl)) (fun _ _ _ h => h) (Or.inl ⟨by rfl, ?_⟩) ?_ ?_
              rotate_left
              ·intro w'
               go_simp
               with_reducible rfl
              rotate_left
              ·simp only [Act.put, sqA, sqZ, sqS, i64_w, i32_w]
               rfl
              refine pure_ (i := 45) (N := some 79) (v := ?_) (a' := ?_) #[true, true, true, true, true, true, true, true, true, true, true, true, true, true, true, true, true, true, true, true, true, true, true, true, true, true, true, true, true, true, true, true, true, true, true, true, true, true, true, true, true, true, true, true, true, true, false, false, false, false, false] rfl rfl (any_of HT_.out (by kernel_rfl)) (fun _ _ _ h => h) (Or.inl ⟨by rfl, ?_⟩) ?_ ?_
              rotate_left
              ·intro w'
               go_simp
               with_reducible rfl
              rotate_left
              ·simp only [Act.put, sqA, sqZ, sqS, i64_w, i32_w]
               rfl
              refine pure_ (i := 46) (N := some 80) (v := undef) (a' := ?_) #[true, true, true, true, true, true, true, true, true, true, true, true, true, true, true, true, true, true, true, true, true, true, true, true, true, true, true, true, true, true, true, true, true, true, true, true, true, true, true, true, true, true, true, true, true, true, true, false, false, false, false] rfl rfl (any_of HT_.out (by kernel_rfl)) (fun _ _ _ h => h) (Or.inr ⟨by rfl, rfl⟩) ?_ ?_
              rotate_left
              ·simp only [Act.put, sqA, sqZ, sqS, i64_w, i32_w]
               rfl
              refine pure_ (i := 47) (N := some 81) (v := undef) (a' := ?_) #[true, true, true, true, true, true, true, true, true, true, true, true, true, true, true, true, true, true, true, true, true, true, true, true, true, true, true, true, true, true, true, true, true, true, true, true, true, true, true, true, true, true, true, true, true, true, true, true, false, false, false] rfl rfl (any_of HT_.out (by kernel_rfl)) (fun _ _ _ h => h) (Or.inr ⟨by rfl, rfl⟩) ?_ ?_
              rotate_left
              ·simp only [Act.put, sqA, sqZ, sqS, i64_w, i32_w]
               rfl
              refine pure_ (i := 48) (N := some 82) (v := undef) (a' := ?_) #[true, true, true, true, true, true, true, true, true, true, true, true, true, true, true, true, true, true, true, true, true, true, true, true, true, true, true, true, true, true, true, true, true, true, true, true, true, true, true, true, true, true, true, true, true, true, true, true, true, false, false] rfl rfl (any_of HT_.out (by kernel_rfl)) (fun _ _ _ h => h) (Or.inr ⟨by rfl, rfl⟩) ?_ ?_
              rotate_left
              ·simp only [Act.put, sqA, sqZ, sqS, i64_w, i32_w]
               rfl
              refine pure_ (i := 49) (N := some 83) (v := ?_) (a' := ?_) #[true, true, true, true, true, true, true, true, true, true, true, true, true, true, true, true, true, true, true, true, true, true, true, true, true, true, true, true, true, true, true, true, true, true, true, true, true, true, true, true, true, true, true, true, true, true, true, true, true, true, false] rfl rfl (any_of HT_.out (by kernel_rfl)) (fun _ _ _ h => h) (Or.inl ⟨by rfl, ?_⟩) ?_ ?_
              rotate_left
              ·intro w'
               go_simp
               with_reducible rfl
              rotate_left
              ·simp only [Act.put, sqA, sqZ, sqS, i64_w, i32_w]
               rfl
              refine pure_ (i := 50) (N := some 84) (v := ?_) (a' := ?_) #[true, true, true, true, true, true, true, true, true, true, true, true, true, true, true, true, true, true, true, true, true, true, true, true, true, true, true, true, true, true, true, true, true, true, true, true, true, true, true, true, true, true, true, true, true, true, true, true, true, true, true] rfl rfl (any_of HT_.out (by kernel_rfl)) (fun _ _ _ h => h) (Or.inl ⟨by rfl, ?_⟩) ?_ ?_
              rotate_left
              ·intro w'
               go_simp
               with_reducible rfl
              rotate_left
              ·simp only [Act.put, sqA, sqZ, sqS, i64_w, i32_w]
               rfl
              refine done_ (done_of HT_.out (by kernel_rfl)) ?_
              try go_wp2
              go_meet
              case rel => exact ⟨_, (false), (by first | rfl | (simp; done) | (simp [*]; done)), H', ⟨by have := HJ9.out; first | omega | exact Nat.le_refl _⟩, ⟨by (with_reducible repeat (first | refine bN ?_ _ | refine bD ?_ | refine bA ?_ _)); exact BK245.out⟩, ⟨by (with_reducible repeat (first | refine bN ?_ _ | refine bD ?_ | refine bA ?_ _)); exact BK246.out⟩, ⟨by (with_reducible repeat (first | refine bN ?_ _ | refine bD ?_ | refine bA ?_ _)); exact BK253.out⟩, ⟨by (with_reducible repeat (first | refine bN ?_ _ | refine bD ?_ | refine bA ?_ _)); exact BK262.out⟩, ⟨by repeat (first | (with_reducible first | exact HB.out | apply wA | apply wN | apply wD | refine bS ?_ GE245.out | refine bS ?_ GE246.out | refine bS ?_ GE253.out | refine bS ?_ GE262.out) | exact HB.out)⟩⟩
             ·rw [if_neg c67] at H
              have c67b0 : (t249 == (-1)) = false := beq_eq_false_iff_ne.mpr c67
              have c67b1 : (t249 != (-1)) = true := bne_iff_ne.mpr c67
              by_cases c75 : t250.toList = ([] : List UInt8)
              ·rw [if_pos c75] at H
               have c75b0 : t250.toList.isEmpty = true := by rw [c75]; rfl
               have c75b1 : (!t250.toList.isEmpty) = false := by rw [c75]; rfl
               have c75b2 : (t250.toList == ([] : List UInt8)) = true := beq_iff_eq.mpr c75
               clear c75
               have H' := Aside0.mk H
               clear H
               refine pure_ (i := 29) (N := some 63) (v := ?_) (a' := ?_) #[true, true, true, true, true, true, true, true, true, true, true, true, true, true, true, true, true, true, true, true, true, true, true, true, true, true, true, true, true, true, false, false, false, false, false, false, false, false, false, false, false, false, false, false, false, false, false, false, false, false, false] rfl rfl (any_of HT_.out (by kernel_rfl)) (fun _ _ _ h => h) (Or.inl ⟨by rfl, ?_⟩) ?_ ?_
               rotate_left
               ·intro w'
                go_simp
                with_reducible rfl
               rotate_left
               ·simp only [Act.put, sqA, sqZ, sqS, i64_w, i32_w]
                rfl
               refine pure_ (i := 30) (N := some 64) (v := ?_) (a' := ?_) #[true, true, true, true, true, true, true, true, true, true, true, true, true, true, true, true, true, true, true, true, true, true, true, true, true, true, true, true, true, true, true, false, false, false, false, false, false, false, false, false, false, false, false, false, false, false, false, false, false, false, false] rfl rfl (any_of HT_.out (by kernel_rfl)) (fun _ _ _ h => h) (Or.inl ⟨by rfl, ?_⟩) ?_ ?_
               rotate_left
               ·intro w'
                go_simp
                with_reducible rfl
               rotate_left
               ·simp only [Act.put, sqA, sqZ, sqS, i64_w, i32_w]
                rfl
               refine pure_ (i := 31) (N := some 65) (v := ?_) (a' := ?_) #[true, true, true, true, true, true, true, true, true, true, true, true, true, true, true, true, true, true, true, true, true, true, true, true, true, true, true, true, true, true, true, true, false, false, false, false, false, false, false, false, false, false, false, false, false, false, false, false, false, false, false] rfl rfl (any_of HT_.out (by kernel_rfl)) (fun _ _ _ h => h) (Or.inl ⟨by rfl, ?_⟩) ?_ ?_
               rotate_left
               ·intro w'
                go_simp
                with_reducible rfl
               rotate_left
               ·simp only [Act.put, sqA, sqZ, sqS, i64_w, i32_w]
                rfl
               refine take_ (i := 32) (N := some 66) (v := ?_) (a' := ?_) #[true, true, true, true, true, true, true, true, true, true, true, true, true, true, true, true, true, true, true, true, true, true, true, true, true, true, true, true, true, true, true, true, true, false, false, false, false, false, false, false, false, false, false, false, false, false, false, false, false, false, false] rfl rfl (take_ofW HT_.out HW_.out (by kernel_rfl)) (fun _ _ _ h => h) (Or.inl ⟨by rfl, ?_⟩) hHeld ?_ ?_
               rotate_left
               ·rintro w' ⟨s0, s1, s2, s3, s4, s5, s6, s7, s8, s9, s10, s11, s12, s13, s14, s15, s16, s17, s18, s19, s20, s21, s22, s23⟩
                go_simp
                with_reducible rfl
               rotate_left
               ·simp only [Act.put, sqA, sqZ, sqS, i64_w, i32_w]
                rfl
               refine pure_ (i := 33) (N := some 67) (v := ?_) (a' := ?_) #[true, true, true, true, true, true, true, true, true, true, true, true, true, true, true, true, true, true, true, true, true, true, true, true, true, true, true, true, true, true, true, true, true, true, false, false, false, false, false, false, false, false, false, false, false, false, false, false, false, false, false] rfl rfl (any_of HT_.out (by kernel_rfl)) (fun _ _ _ h => h) (Or.inl ⟨by rfl, ?_⟩) ?_ ?_
               rotate_left
               ·intro w'
                go_simp
                with_reducible rfl
               rotate_left
               ·simp only [Act.put, sqA, sqZ, sqS, i64_w, i32_w]
                rfl
               refine pure_ (i := 34) (N := some 68) (v := ?_) (a' := ?_) #[true, true, true, true, true, true, true, true, true, true, true, true, true, true, true, true, true, true, true, true, true, true, true, true, true, true, true, true, true, true, true, true, true, true, true, false, false, false, false, false, false, false, false, false, false, false, false, false, false, false, false] rfl rfl (any_of HT_.out (by kernel_rfl)) (fun _ _ _ h => h) (Or.inl ⟨by rfl, ?_⟩) ?_ ?_
               rotate_left
               ·intro w'
                go_simp
                with_reducible rfl
               rotate_left
               ·simp only [Act.put, sqA, sqZ, sqS, i64_w, i32_w]
                rfl
               refine pure_ (i := 35) (N := some 69) (v := ?_) (a' := ?_) #[true, true, true, true, true, true, true, true, true, true, true, true, true, true, true, true, true, true, true, true, true, true, true, true, true, true, true, true, true, true, true, true, true, true, true, true, false, false, false, false, false, false, false, false, false, false, false, false, false, false, false] rfl rfl (any_of HT_.out (by kernel_rfl)) (fun _ _ _ h => h) (Or.inl ⟨by rfl, ?_⟩) ?_ ?_
               rotate_left
               ·intro w'
                go_simp
                with_reducible rfl
               rotate_left
               ·simp only [Act.put, sqA, sqZ, sqS, i64_w, i32_w]
                rfl
               refine pure_ (i := 36) (N := some 70) (v := ?_) (a' := ?_) #[true, true, true, true, true, true, true, true, true, true, true, true, true, true, true, true, true, true, true, true, true, true, true, true, true, true, true, true, true, true, true, true, true, true, true, true, true, false, false, false, false, false, false, false, false, false, false, false, false, false, false] rfl rfl (any_of HT_.out (by kernel_rfl)) (fun _ _ _ h => h) (Or.inl ⟨by rfl, ?_⟩) ?_ ?_
               rotate_left
               ·intro w'
                go_simp
                with_reducible rfl
               rotate_left
               ·simp only [Act.put, sqA, sqZ, sqS, i64_w, i32_w]
                rfl
               refine take_ (i := 37) (N := some 71) (v := ?_) (a' := ?_) #[true, true, true, true, true, true, true, true, true, true, true, true, true, true, true, true, true, true, true, true, true, true, true, true, true, true, true, true, true, true, true, true, true, true, true, true, true, true, false, false, false, false, false, false, false, false, false, false, false, false, false] rfl rfl (take_ofW HT_.out HW_.out (by kernel_rfl)) (fun _ _ _ h => h) (Or.inl ⟨by rfl, ?_⟩) hHeld ?_ ?_
               rotate_left
               ·rintro w' ⟨s0, s1, s2, s3, s4, s5, s6, s7, s8, s9, s10, s11, s12, s13, s14, s15, s16, s17, s18, s19, s20, s21, s22, s23⟩
                go_simp
                with_reducible rfl
               rotate_left
               ·simp only [Act.put, sqA, sqZ, sqS, i64_w, i32_w]
                rfl
               refine pure_ (i := 38) (N := some 72) (v := ?_) (a' := ?_) #[true, true, true, true, true, true, true, true, true, true, true, true, true, true, true, true, true, true, true, true, true, true, true, true, true, true, true, true, true, true, true, true, true, true, true, true, true, true, true, false, false, false, false, false, false, false, false, false, false, false, false] rfl rfl (any_of HT_.out (by kernel_rfl)) (fun _ _ _ h => h) (Or.inl ⟨by rfl, ?_⟩) ?_ ?_
               rotate_left
               ·intro w'
                go_simp
                with_reducible rfl
               rotate_left
               ·simp only [Act.put, sqA, sqZ, sqS, i64_w, i32_w]
                rfl
               refine pure_ (i := 39) (N := some 73) (v := ?_) (a' := ?_) #[true, true, true, true, true, true, true, true, true, true, true, true, true, true, true, true, true, true, true, true, true, true, true, true, true, true, true, true, true, true, true, true, true, true, true, true, true, true, true, true, false, false, false, false, false, false, false, false, false, false, false] rfl rfl (any_of HT_.out (by kernel_rfl)) (fun _ _ _ h => h) (Or.inl ⟨by rfl, ?_⟩) ?_ ?_
               rotate_left
               ·intro w'
                go_simp
                with_reducible rfl
               rotate_left
               ·simp only [Act.put, sqA, sqZ, sqS, i64_w, i32_w]
                rfl
               refine pure_ (i := 40) (N := some 74) (v := ?_) (a' := ?_) #[true, true, true, true, true, true, true, true, true, true, true, true, true, true, true, true, true, true, true, true, true, true, true, true, true, true, true, true, true, true, true, true, true, true, true, true, true, true, true, true, true, false, false, false, false, false, false, false, false, false, false] rfl rfl (any_of HT_.out (by kernel_rfl)) (fun _ _ _ h => h) (Or.inl ⟨by rfl, ?_⟩) ?_ ?_
               rotate_left
               ·intro w'
                go_simp
                with_reducible rfl
               rotate_left
               ·simp only [Act.put, sqA, sqZ, sqS, i64_w, i32_w]
                rfl
               refine pure_ (i := 41) (N := some 75) (v := ?_) (a' := ?_) #[true, true, true, true, true, true, true, true, true, true, true, true, true, true, true, true, true, true, true, true, true, true, true, true, true, true, true, true, true, true, true, true, true, true, true, true, true, true, true, true, true, true, false, false, false, false, false, false, false, false, false] rfl rfl (any_of HT_.out (by kernel_rfl)) (fun _ _ _ h => h) (Or.inl ⟨by rfl, ?_⟩) ?_ ?_
               rotate_left
               ·intro w'
                go_simp
                with_reducible rfl
               rotate_left
               ·simp only [Act.put, sqA, sqZ, sqS, i64_w, i32_w]
                rfl
               refine take_ (i := 42) (N := some 76) (v := ?_) (a' := ?_) #[true, true, true, true, true, true, true, true, true, true, true, true, true, true, true, true, true, true, true, true, true, true, true, true, true, true, true, true, true, true, true, true, true, true, true, true, true, true, true, true, true, true, true, false, false, false, false, false, false, false, false] rfl rfl (take_ofW HT_.out HW_.out (by kernel_rfl)) (fun _ _ _ h => h) (Or.inl ⟨by rfl, ?_⟩) hHeld ?_ ?_
               rotate_left
               ·rintro w' ⟨s0, s1, s2, s3, s4, s5, s6, s7, s8, s9, s10, s11, s12, s13, s14, s15, s16, s17, s18, s19, s20, s21, s22, s23⟩
                go_simp
                with_reducible rfl
               rotate_left
               ·simp only [Act.put, sqA, sqZ, sqS, i64_w, i32_w]
                rfl
               refine pure_ (i := 43) (N := some 77) (v := ?_) (a' := ?_) #[true, true, true, true, true, true, true, true, true, true, true, true, true, true, true, true, true, true, true, true, true, true, true, true, true, true, true, true, true, true, true, true, true, true, true, true, true, true, true, true, true, true, true, true, false, false, false, false, false, false, false] rfl rfl (any_of HT_.out (by kernel_rfl)) (fun _ _ _ h => h) (Or.inl ⟨by rfl, ?_⟩) ?_ ?_
               rotate_left
               ·intro w'
                go_simp
                with_reducible rfl
               rotate_left
               ·simp only [Act.put, sqA, sqZ, sqS, i64_w, i32_w]
                rfl
               refine pure_ (i := 44) (N := some 78) (v := ?_) (a' := ?_) #[true, true, true, true, true, true, true, true, true, true, true, true, true, true, true, true, true, true, true, true, true, true, true, true, true, true, true, true, true, true, true, true, true, true, true, true, true, true, true, true, true, true, true, true, true, false, false, false, false, false, false] rfl rfl (any_of HT_.out (by kernel_rfl)) (fun _ _ _ h => h) (Or.inl ⟨by rfl, ?_⟩) ?_ ?_
               rotate_left
               ·intro w'
                go_simp
                with_reducible rfl
               rotate_left
               ·simp only [Act.put, sqA, sqZ, sqS, i64_w, i32_w]
                rfl
               refine pure_ (i := 45) (N := some 79) (v := ?_) (a' := ?_) #[true, true, true, true, true, true, true, true, true, true, true, true, true, true, true, true, true, true, true, true, true, true, true, true, true, true, true, true, true, true, true, true, true, true, true, true, true, true, true, true, true, true, true, true, true, true, false, false, false, false, false] rfl rfl (any_of HT_.out (by kernel_rfl)) (fun _ _ _ h => h) (Or.inl ⟨by rfl, ?_⟩) ?_ ?_
               rotate_left
               ·intro w'
                go_simp
                with_reducible rfl
               rotate_left
               ·simp only [Act.put, sqA, sqZ, sqS, i64_w, i32_w]
                rfl
               refine pure_ (i := 46) (N := some 80) (v := undef) (a' := ?_) #[true, true, true, true, true, true, true, true, true, true, true, true, true, true, true, true, true, true, true, true, true, true, true, true, true, true, true, true, true, true, true, true, true, true, true, true, true, true, true, true, true, true, true, true, true, true, true, false, false, false, false] rfl rfl (any_of HT_.out (by kernel_rfl)) (fun _ _ _ h => h) (Or.inr ⟨by rfl, rfl⟩) ?_ ?_
               rotate_left
               ·simp only [Act.put, sqA, sqZ, sqS, i64_w, i32_w]
                rfl
               refine pure_ (i := 47) (N := some 81) (v := undef) (a' := ?_) #[true, true, true, true, true, true, true, true, true, true, true, true, true, true, true, true, true, true, true, true, true, true, true, true, true, true, true, true, true, true, true, true, true, true, true, true, true, true, true, true, true, true, true, true, true, true, true, true, false, false, false] rfl rfl (any_of HT_.out (by kernel_rfl)) (fun _ _ _ h => h) (Or.inr ⟨by rfl, rfl⟩) ?_ ?_
               rotate_left
               ·simp only [Act.put, sqA, sqZ, sqS, i64_w, i32_w]
                rfl
               refine pure_ (i := 48) (N := some 82) (v := undef) (a' := ?_) #[true, true, true, true, true, true, true, true, true, true, true, true, true, true, true, true, true, true, true, true, true, true, true, true, true, true, true, true, true, true, true, true, true, true, true, true, true, true, true, true, true, true, true, true, true, true, true, true, true, false, false] rfl rfl (any_of HT_.out (by kernel_rfl)) (fun _ _ _ h => h) (Or.inr ⟨by rfl, rfl⟩) ?_ ?_
               rotate_left
               ·simp only [Act.put, sqA, sqZ, sqS, i64_w, i32_w]
                rfl
               refine pure_ (i := 49) (N := some 83) (v := ?_) (a' := ?_) #[true, true, true, true, true, true, true, true, true, true, true, true, true, true, true, true, true, true, true, true, true, true, true, true, true, true, true, true, true, true, true, true, true, true, true, true, true, true, true, true, true, true, true, true, true, true, true, true, true, true, false] rfl rfl (any_of HT_.out (by kernel_rfl)) (fun _ _ _ h => h) (Or.inl ⟨by rfl, ?_⟩) ?_ ?_
               rotate_left
               ·intro w'
                go_simp
                with_reducible rfl
               rotate_left
               ·simp only [Act.put, sqA, sqZ, sqS, i64_w, i32_w]
                rfl
               refine pure_ (i := 50) (N := some 84) (v := ?_) (a' := ?_) #[true, true, true, true, true, true, true, true, true, true, true, true, true, true, true, true, true, true, true, true, true, true, true, true, true, true, true, true, true, true, true, true, true, true, true, true, true, true, true, true, true, true, true, true, true, true, true, true, true, true, true] rfl rfl (any_of HT_.out (by kernel_rfl)) (fun _ _ _ h => h) (Or.inl ⟨by rfl, ?_⟩) ?_ ?_
               rotate_left
               ·intro w'
                go_simp
                with_reducible rfl
               rotate_left
               ·simp only [Act.put, sqA, sqZ, sqS, i64_w, i32_w]
                rfl
               refine done_ (done_of HT_.out (by kernel_rfl)) ?_
               try go_wp2
               go_meet
               case rel => exact ⟨_, (false), (by first | rfl | (simp; done) | (simp [*]; done)), H', ⟨by have := HJ9.out; first | omega | exact Nat.le_refl _⟩, ⟨by (with_reducible repeat (first | refine bN ?_ _ | refine bD ?_ | refine bA ?_ _)); exact BK245.out⟩, ⟨by (with_reducible repeat (first | refine bN ?_ _ | refine bD ?_ | refine bA ?_ _)); exact BK246.out⟩, ⟨by (with_reducible repeat (first | refine bN ?_ _ | refine bD ?_ | refine bA ?_ _)); exact BK253.out⟩, ⟨by (with_reducible repeat (first | refine bN ?_ _ | refine bD ?_ | refine bA ?_ _)); exact BK262.out⟩, ⟨by repeat (first | (with_reducible first | exact HB.out | apply wA | apply wN | apply wD | refine bS ?_ GE245.out | refine bS ?_ GE246.out | refine bS ?_ GE253.out | refine bS ?_ GE262.out) | exact HB.out)⟩⟩
              ·rw [if_neg c75] at H
               have c75b0 : t250.toList.isEmpty = false := by simpa using c75
               have c75b1 : (!t250.toList.isEmpty) = true := by simpa using c75
               have c75b2 : (t250.toList == ([] : List UInt8)) = false := beq_eq_false_iff_ne.mpr c75
               have H' := Aside0.mk H
               clear H
               refine pure_ (i := 29) (N := some 63) (v := ?_) (a' := ?_) #[true, true, true, true, true, true, true, true, true, true, true, true, true, true, true, true, true, true, true, true, true, true, true, true, true, true, true, true, true, true, false, false, false, false, false, false, false, false, false, false, false, false, false, false, false, false, false, false, false, false, false] rfl rfl (any_of HT_.out (by kernel_rfl)) (fun _ _ _ h => h) (Or.inl ⟨by rfl, ?_⟩) ?_ ?_
               rotate_left
               ·intro w'
                go_simp
                with_reducible rfl
               rotate_left
               ·simp only [Act.put, sqA, sqZ, sqS, i64_w, i32_w]
                rfl
               refine pure_ (i := 30) (N := some 64) (v := ?_) (a' := ?_) #[true, true, true, true, true, true, true, true, true, true, true, true, true, true, true, true, true, true, true, true, true, true, true, true, true, true, true, true, true, true, true, false, false, false, false, false, false, false, false, false, false, false, false, false, false, false, false, false, false, false, false] rfl rfl (any_of HT_.out (by kernel_rfl)) (fun _ _ _ h => h) (Or.inl ⟨by rfl, ?_⟩) ?_ ?_
               rotate_left
               ·intro w'
                go_simp
                with_reducible rfl
               rotate_left
               ·simp only [Act.put, sqA, sqZ, sqS, i64_w, i32_w]
                rfl
               refine pure_ (i := 31) (N := some 65) (v := ?_) (a' := ?_) #[true, true, true, true, true, true, true, true, true, true, true, true, true, true, true, true, true, true, true, true, true, true, true, true, true, true, true, true, true, true, true, true, false, false, false, false, false, false, false, false, false, false, false, false, false, false, false, false, false, false, false] rfl rfl (any_of HT_.out (by kernel_rfl)) (fun _ _ _ h => h) (Or.inl ⟨by rfl, ?_⟩) ?_ ?_
               rotate_left
               ·intro w'
                go_simp
                with_reducible rfl
               rotate_left
               ·simp only [Act.put, sqA, sqZ, sqS, i64_w, i32_w]
                rfl
               refine take_ (i := 32) (N := some 66) (v := ?_) (a' := ?_) #[true, true, true, true, true, true, true, true, true, true, true, true, true, true, true, true, true, true, true, true, true, true, true, true, true, true, true, true, true, true, true, true, true, false, false, false, false, false, false, false, false, false, false, false, false, false, false, false, false, false, false] rfl rfl (take_ofW HT_.out HW_.out (by kernel_rfl)) (fun _ _ _ h => h) (Or.inl ⟨by rfl, ?_⟩) hHeld ?_ ?_
               rotate_left
               ·rintro w' ⟨s0, s1, s2, s3, s4, s5, s6, s7, s8, s9, s10, s11, s12, s13, s14, s15, s16, s17, s18, s19, s20, s21, s22, s23⟩
                go_simp
                with_reducible rfl
               rotate_left
               ·simp only [Act.put, sqA, sqZ, sqS, i64_w, i32_w]
                rfl
               refine pure_ (i := 33) (N := some 67) (v := ?_) (a' := ?_) #[true, true, true, true, true, true, true, true, true, true, true, true, true, true, true, true, true, true, true, true, true, true, true, true, true, true, true, true, true, true, true, true, true, true, false, false, false, false, false, false, false, false, false, false, false, false, false, false, false, false, false] rfl rfl (any_of HT_.out (by kernel_rfl)) (fun _ _ _ h => h) (Or.inl ⟨by rfl, ?_⟩) ?_ ?_
               rotate_left
               ·intro w'
                go_simp
                with_reducible rfl
               rotate_left
               ·simp only [Act.put, sqA, sqZ, sqS, i64_w, i32_w]
                rfl
               refine pure_ (i := 34) (N := some 68) (v := ?_) (a' := ?_) #[true, true, true, true, true, true, true, true, true, true, true, true, true, true, true, true, true, true, true, true, true, true, true, true, true, true, true, true, true, true, true, true, true, true, true, false, false, false, false, false, false, false, false, false, false, false, false, false, false, false, false] rfl rfl (any_of HT_.out (by kernel_rfl)) (fun _ _ _ h => h) (Or.inl ⟨by rfl, ?_⟩) ?_ ?_
               rotate_left
               ·intro w'
                go_simp
                with_reducible rfl
               rotate_left
               ·simp only [Act.put, sqA, sqZ, sqS, i64_w, i32_w]
                rfl
               refine pure_ (i := 35) (N := some 69) (v := ?_) (a' := ?_) #[true, true, true, true, true, true, true, true, true, true, true, true, true, true, true, true, true, true, true, true, true, true, true, true, true, true, true, true, true, true, true, true, true, true, true, true, false, false, false, false, false, false, false, false, false, false, false, false, false, false, false] rfl rfl (any_of HT_.out (by kernel_rfl)) (fun _ _ _ h => h) (Or.inl ⟨by rfl, ?_⟩) ?_ ?_
               rotate_left
               ·intro w'
                go_simp
                with_reducible rfl
               rotate_left
               ·simp only [Act.put, sqA, sqZ, sqS, i64_w, i32_w]
                rfl
               refine pure_ (i := 36) (N := some 70) (v := ?_) (a' := ?_) #[true, true, true, true, true, true, true, true, true, true, true, true, true, true, true, true, true, true, true, true, true, true, true, true, true, true, true, true, true, true, true, true, true, true, true, true, true, false, false, false, false, false, false, false, false, false, false, false, false, false, false] rfl rfl (any_of HT_.out (by kernel_rfl)) (fun _ _ _ h => h) (Or.inl ⟨by rfl, ?_⟩) ?_ ?_
               rotate_left
               ·intro w'
                go_simp
                with_reducible rfl
               rotate_left
               ·simp only [Act.put, sqA, sqZ, sqS, i64_w, i32_w]
                rfl
               refine take_ (i := 37) (N := some 71) (v := ?_) (a' := ?_) #[true, true, true, true, true, true, true, true, true, true, true, true, true, true, true, true, true, true, true, true, true, true, true, true, true, true, true, true, true, true, true, true, true, true, true, true, true, true, false, false, false, false, false, false, false, false, false, false, false, false, false] rfl rfl (take_ofW HT_.out HW_.out (by kernel_rfl)) (fun _ _ _ h => h) (Or.inl ⟨by rfl, ?_⟩) hHeld ?_ ?_
               rotate_left
               ·rintro w' ⟨s0, s1, s2, s3, s4, s5, s6, s7, s8, s9, s10, s11, s12, s13, s14, s15, s16, s17, s18, s19, s20, s21, s22, s23⟩
                go_simp
                with_reducible rfl
               rotate_left
               ·simp only [Act.put, sqA, sqZ, sqS, i64_w, i32_w]
                rfl
               refine pure_ (i := 38) (N := some 72) (v := ?_) (a' := ?_) #[true, true, true, true, true, true, true, true, true, true, true, true, true, true, true, true, true, true, true, true, true, true, true, true, true, true, true, true, true, true, true, true, true, true, true, true, true, true, true, false, false, false, false, false, false, false, false, false, false, false, false] rfl rfl (any_of HT_.out (by kernel_rfl)) (fun _ _ _ h => h) (Or.inl ⟨by rfl, ?_⟩) ?_ ?_
               rotate_left
               ·intro w'
                go_simp
                with_reducible rfl
               rotate_left
               ·simp only [Act.put, sqA, sqZ, sqS, i64_w, i32_w]
                rfl
               refine pure_ (i := 39) (N := some 73) (v := ?_) (a' := ?_) #[true, true, true, true, true, true, true, true, true, true, true, true, true, true, true, true, true, true, true, true, true, true, true, true, true, true, true, true, true, true, true, true, true, true, true, true, true, true, true, true, false, false, false, false, false, false, false, false, false, false, false] rfl rfl (any_of HT_.out (by kernel_rfl)) (fun _ _ _ h => h) (Or.inl ⟨by rfl, ?_⟩) ?_ ?_
               rotate_left
               ·intro w'
                go_simp
                with_reducible rfl
               rotate_left
               ·simp only [Act.put, sqA, sqZ, sqS, i64_w, i32_w]
                rfl
               refine pure_ (i := 40) (N := some 74) (v := ?_) (a' := ?_) #[true, true, true, true, true, true, true, true, true, true, true, true, true, true, true, true, true, true, true, true, true, true, true, true, true, true, true, true, true, true, true, true, true, true, true, true, true, true, true, true, true, false, false, false, false, false, false, false, false, false, false] rfl rfl (any_of HT_.out (by kernel_rfl)) (fun _ _ _ h => h) (Or.inl ⟨by rfl, ?_⟩) ?_ ?_
               rotate_left
               ·intro w'
                go_simp
                with_reducible rfl
               rotate_left
               ·simp only [Act.put, sqA, sqZ, sqS, i64_w, i32_w]
                rfl
               refine pure_ (i := 41) (N := some 75) (v := ?_) (a' := ?_) #[true, true, true, true, true, true, true, true, true, true, true, true, true, true, true, true, true, true, true, true, true, true, true, true, true, true, true, true, true, true, true, true, true, true, true, true, true, true, true, true, true, true, false, false, false, false, false, false, false, false, false] rfl rfl (any_of HT_.out (by kernel_rfl)) (fun _ _ _ h => h) (Or.inl ⟨by rfl, ?_⟩) ?_ ?_
               rotate_left
               ·intro w'
                go_simp
                with_reducible rfl
               rotate_left
               ·simp only [Act.put, sqA, sqZ, sqS, i64_w, i32_w]
                rfl
               refine take_ (i := 42) (N := some 76) (v := ?_) (a' := ?_) #[true, true, true, true, true, true, true, true, true, true, true, true, true, true, true, true, true, true, true, true, true, true, true, true, true, true, true, true, true, true, true, true, true, true, true, true, true, true, true, true, true, true, true, false, false, false, false, false, false, false, false] rfl rfl (take_ofW HT_.out HW_.out (by kernel_rfl)) (fun _ _ _ h => h) (Or.inl ⟨by rfl, ?_⟩) hHeld ?_ ?_
               rotate_left
               ·rintro w' ⟨s0, s1, s2, s3, s4, s5, s6, s7, s8, s9, s10, s11, s12, s13, s14, s15, s16, s17, s18, s19, s20, s21, s22, s23⟩
                go_simp
                with_reducible rfl
               rotate_left
               ·simp only [Act.put, sqA, sqZ, sqS, i64_w, i32_w]
                rfl
               refine pure_ (i := 43) (N := some 77) (v := ?_) (a' := ?_) #[true, true, true, true, true, true, true, true, true, true, true, true, true, true, true, true, true, true, true, true, true, true, true, true, true, true, true, true, true, true, true, true, true, true, true, true, true, true, true, true, true, true, true, true, false, false, false, false, false, false, false] rfl rfl (any_of HT_.out (by kernel_rfl)) (fun _ _ _ h => h) (Or.inl ⟨by rfl, ?_⟩) ?_ ?_
               rotate_left
               ·intro w'
                go_simp
                with_reducible rfl
               rotate_left
               ·simp only [Act.put, sqA, sqZ, sqS, i64_w, i32_w]
                rfl
               refine pure_ (i := 44) (N := some 78) (v := ?_) (a' := ?_) #[true, true, true, true, true, true, true, true, true, true, true, true, true, true, true, true, true, true, true, true, true, true, true, true, true, true, true, true, true, true, true, true, true, true, true, true, true, true, true, true, true, true, true, true, true, false, false, false, false, false, false] rfl rfl (any_of HT_.out (by kernel_rfl)) (fun _ _ _ h => h) (Or.inl ⟨by rfl, ?_⟩) ?_ ?_
               rotate_left
               ·intro w'
                go_simp
                with_reducible rfl
               rotate_left
               ·simp only [Act.put, sqA, sqZ, sqS, i64_w, i32_w]
                rfl
               refine pure_ (i := 45) (N := some 79) (v := ?_) (a' := ?_) #[true, true, true, true, true, true, true, true, true, true, true, true, true, true, true, true, true, true, true, true, true, true, true, true, true, true, true, true, true, true, true, true, true, true, true, true, true, true, true, true, true, true, true, true, true, true, false, false, false, false, false] rfl rfl (any_of HT_.out (by kernel_rfl)) (fun _ _ _ h => h) (Or.inl ⟨by rfl, ?_⟩) ?_ ?_
               rotate_left
               ·intro w'
                go_simp
                with_reducible rfl
               rotate_left
               ·simp only [Act.put, sqA, sqZ, sqS, i64_w, i32_w]
                rfl
               refine pure_ (i := 46) (N := some 80) (v := ?_) (a' := ?_) #[true, true, true, true, true, true, true, true, true, true, true, true, true, true, true, true, true, true, true, true, true, true, true, true, true, true, true, true, true, true, true, true, true, true, true, true, true, true, true, true, true, true, true, true, true, true, true, false, false, false, false] rfl rfl (any_of HT_.out (by kernel_rfl)) (fun _ _ _ h => h) (Or.inl ⟨by rfl, ?_⟩) ?_ ?_
               rotate_left
               ·intro w'
                go_simp
                with_reducible rfl
               rotate_left
               ·simp only [Act.put, sqA, sqZ, sqS, i64_w, i32_w]
                rfl
               refine take_ (i := 47) (N := some 81) (v := ?_) (a' := ?_) #[true, true, true, true, true, true, true, true, true, true, true, true, true, true, true, true, true, true, true, true, true, true, true, true, true, true, true, true, true, true, true, true, true, true, true, true, true, true, true, true, true, true, true, true, true, true, true, true, false, false, false] rfl rfl (take_ofW HT_.out HW_.out (by kernel_rfl)) (fun _ _ _ h => h) (Or.inl ⟨by rfl, ?_⟩) hHeld ?_ ?_
               rotate_left
               ·rintro w' ⟨s0, s1, s2, s3, s4, s5, s6, s7, s8, s9, s10, s11, s12, s13, s14, s15, s16, s17, s18, s19, s20, s21, s22, s23⟩
                go_simp
                with_reducible rfl
               rotate_left
               ·simp only [Act.put, sqA, sqZ, sqS, i64_w, i32_w]
                rfl
               refine pure_ (i := 48) (N := some 82) (v := ?_) (a' := ?_) #[true, true, true, true, true, true, true, true, true, true, true, true, true, true, true, true, true, true, true, true, true, true, true, true, true, true, true, true, true, true, true, true, true, true, true, true, true, true, true, true, true, true, true, true, true, true, true, true, true, false, false] rfl rfl (any_of HT_.out (by kernel_rfl)) (fun _ _ _ h => h) (Or.inl ⟨by rfl, ?_⟩) ?_ ?_
               rotate_left
               ·intro w'
                go_simp
                with_reducible rfl
               rotate_left
               ·simp only [Act.put, sqA, sqZ, sqS, i64_w, i32_w]
                rfl
               refine pure_ (i := 49) (N := some 83) (v := ?_) (a' := ?_) #[true, true, true, true, true, true, true, true, true, true, true, true, true, true, true, true, true, true, true, true, true, true, true, true, true, true, true, true, true, true, true, true, true, true, true, true, true, true, true, true, true, true, true, true, true, true, true, true, true, true, false] rfl rfl (any_of HT_.out (by kernel_rfl)) (fun _ _ _ h => h) (Or.inl ⟨by rfl, ?_⟩) ?_ ?_
               rotate_left
               ·intro w'
                go_simp
                with_reducible rfl
               rotate_left
               ·simp only [Act.put, sqA, sqZ, sqS, i64_w, i32_w]
                rfl
               refine pure_ (i := 50) (N := some 84) (v := ?_) (a' := ?_) #[true, true, true, true, true, true, true, true, true, true, true, true, true, true, true, true, true, true, true, true, true, true, true, true, true, true, true, true, true, true, true, true, true, true, true, true, true, true, true, true, true, true, true, true, true, true, true, true, true, true, true] rfl rfl (any_of HT_.out (by kernel_rfl)) (fun _ _ _ h => h) (Or.inl ⟨by rfl, ?_⟩) ?_ ?_
               rotate_left
               ·intro w'
                go_simp
                with_reducible rfl
               rotate_left
               ·simp only [Act.put, sqA, sqZ, sqS, i64_w, i32_w]
                rfl
               refine done_ (done_of HT_.out (by kernel_rfl)) ?_
               try go_wp2
               go_meet
               case rel => exact ⟨_, (!t251.toList.isEmpty), (by first | rfl | (simp; done) | (simp [*]; done)), H', ⟨by have := HJ9.out; first | omega | exact Nat.le_refl _⟩, ⟨by (with_reducible repeat (first | refine bN ?_ _ | refine bD ?_ | refine bA ?_ _)); exact BK245.out⟩, ⟨by (with_reducible repeat (first | refine bN ?_ _ | refine bD ?_ | refine bA ?_ _)); exact BK246.out⟩, ⟨by (with_reducible repeat (first | refine bN ?_ _ | refine bD ?_ | refine bA ?_ _)); exact BK253.out⟩, ⟨by (with_reducible repeat (first | refine bN ?_ _ | refine bD ?_ | refine bA ?_ _)); exact BK262.out⟩, ⟨by repeat (first | (with_reducible first | exact HB.out | apply wA | apply wN | apply wD | refine bS ?_ GE245.out | refine bS ?_ GE246.out | refine bS ?_ GE253.out | refine bS ?_ GE262.out) | exact HB.out)⟩⟩
           ·rw [if_neg c58] at H
            have c58b0 : (!(t282 == t247) || (!(t283 == t248) || (!(t284 == t249) || (!(t285.toList == t250.toList) || (!(t286.toList == t251.toList) || (!(t287 == t252))))))) = false := by simpa using c58
            clear c58
            have H' := Aside0.mk H
            clear H
            refine pure_ (i := 29) (N := some 63) (v := ?_) (a' := ?_) #[true, true, true, true, true, true, true, true, true, true, true, true, true, true, true, true, true, true, true, true, true, true, true, true, true, true, true, true, true, true, false, false, false, false, false, false, false, false, false, false, false, false, false, false, false, false, false, false, false, false, false] rfl rfl (any_of HT_.out (by kernel_rfl)) (fun _ _ _ h => h) (Or.inl ⟨by rfl, ?_⟩) ?_ ?_
            rotate_left
            ·intro w'
             go_simp
             with_reducible rfl
            rotate_left
            ·simp only [Act.put, sqA, sqZ, sqS, i64_w, i32_w]
             rfl
            refine pure_ (i := 30) (N := some 64) (v := ?_) (a' := ?_) #[true, true, true, true, true, true, true, true, true, true, true, true, true, true, true, true, true, true, true, true, true, true, true, true, true, true, true, true, true, true, true, false, false, false, false, false, false, false, false, false, false, false, false, false, false, false, false, false, false, false, false] rfl rfl (any_of HT_.out (by kernel_rfl)) (fun _ _ _ h => h) (Or.inl ⟨by rfl, ?_⟩) ?_ ?_
            rotate_left
            ·intro w'
             go_simp
             with_reducible rfl
            rotate_left
            ·simp only [Act.put, sqA, sqZ, sqS, i64_w, i32_w]
             rfl
            refine pure_ (i := 31) (N := some 65) (v := undef) (a' := ?_) #[true, true, true, true, true, true, true, true, true, true, true, true, true, true, true, true, true, true, true, true, true, true, true, true, true, true, true, true, true, true, true, true, false, false, false, false, false, false, false, false, false, false, false, false, false, false, false, false, false, false, false] rfl rfl (any_of HT_.out (by kernel_rfl)) (fun _ _ _ h => h) (Or.inr ⟨by rfl, rfl⟩) ?_ ?_
            rotate_left
            ·simp only [Act.put, sqA, sqZ, sqS, i64_w, i32_w]
             rfl
            refine pure_ (i := 32) (N := some 66) (v := undef) (a' := ?_) #[true, true, true, true, true, true, true, true, true, true, true, true, true, true, true, true, true, true, true, true, true, true, true, true, true, true, true, true, true, true, true, true, true, false, false, false, false, false, false, false, false, false, false, false, false, false, false, false, false, false, false] rfl rfl (any_of HT_.out (by kernel_rfl)) (fun _ _ _ h => h) (Or.inr ⟨by rfl, rfl⟩) ?_ ?_
            rotate_left
            ·simp only [Act.put, sqA, sqZ, sqS, i64_w, i32_w]
             rfl
            refine pure_ (i := 33) (N := some 67) (v := undef) (a' := ?_) #[true, true, true, true, true, true, true, true, true, true, true, true, true, true, true, true, true, true, true, true, true, true, true, true, true, true, true, true, true, true, true, true, true, true, false, false, false, false, false, false, false, false, false, false, false, false, false, false, false, false, false] rfl rfl (any_of HT_.out (by kernel_rfl)) (fun _ _ _ h => h) (Or.inr ⟨by rfl, rfl⟩) ?_ ?_
            rotate_left
            ·simp only [Act.put, sqA, sqZ, sqS, i64_w, i32_w]
             rfl
            refine pure_ (i := 34) (N := some 68) (v := ?_) (a' := ?_) #[true, true, true, true, true, true, true, true, true, true, true, true, true, true, true, true, true, true, true, true, true, true, true, true, true, true, true, true, true, true, true, true, true, true, true, false, false, false, false, false, false, false, false, false, false, false, false, false, false, false, false] rfl rfl (any_of HT_.out (by kernel_rfl)) (fun _ _ _ h => h) (Or.inl ⟨by rfl, ?_⟩) ?_ ?_
            rotate_left
            ·intro w'
             go_simp
             with_reducible rfl
            rotate_left
            ·simp only [Act.put, sqA, sqZ, sqS, i64_w, i32_w]
             rfl
            refine pure_ (i := 35) (N := some 69) (v := ?_) (a' := ?_) #[true, true, true, true, true, true, true, true, true, true, true, true, true, true, true, true, true, true, true, true, true, true, true, true, true, true, true, true, true, true, true, true, true, true, true, true, false, false, false, false, false, false, false, false, false, false, false, false, false, false, false] rfl rfl (any_of HT_.out (by kernel_rfl)) (fun _ _ _ h => h) (Or.inl ⟨by rfl, ?_⟩) ?_ ?_
            rotate_left
            ·intro w'
             go_simp
             with_reducible rfl
            rotate_left
            ·simp only [Act.put, sqA, sqZ, sqS, i64_w, i32_w]
             rfl
            refine pure_ (i := 36) (N := some 70) (v := undef) (a' := ?_) #[true, true, true, true, true, true, true, true, true, true, true, true, true, true, true, true, true, true, true, true, true, true, true, true, true, true, true, true, true, true, true, true, true, true, true, true, true, false, false, false, false, false, false, false, false, false, false, false, false, false, false] rfl rfl (any_of HT_.out (by kernel_rfl)) (fun _ _ _ h => h) (Or.inr ⟨by rfl, rfl⟩) ?_ ?_
            rotate_left
            ·simp only [Act.put, sqA, sqZ, sqS, i64_w, i32_w]
             rfl
            refine pure_ (i := 37) (N := some 71) (v := undef) (a' := ?_) #[true, true, true, true, true, true, true, true, true, true, true, true, true, true, true, true, true, true, true, true, true, true, true, true, true, true, true, true, true, true, true, true, true, true, true, true, true, true, false, false, false, false, false, false, false, false, false, false, false, false, false] rfl rfl (any_of HT_.out (by kernel_rfl)) (fun _ _ _ h => h) (Or.inr ⟨by rfl, rfl⟩) ?_ ?_
            rotate_left
            ·simp only [Act.put, sqA, sqZ, sqS, i64_w, i32_w]
             rfl
            refine pure_ (i := 38) (N := some 72) (v := undef) (a' := ?_) #[true, true, true, true, true, true, true, true, true, true, true, true, true, true, true, true, true, true, true, true, true, true, true, true, true, true, true, true, true, true, true, true, true, true, true, true, true, true, true, false, false, false, false, false, false, false, false, false, false, false, false] rfl rfl (any_of HT_.out (by kernel_rfl)) (fun _ _ _ h => h) (Or.inr ⟨by rfl, rfl⟩) ?_ ?_
            rotate_left
            ·simp only [Act.put, sqA, sqZ, sqS, i64_w, i32_w]
             rfl
            refine pure_ (i := 39) (N := some 73) (v := ?_) (a' := ?_) #[true, true, true, true, true, true, true, true, true, true, true, true, true, true, true, true, true, true, true, true, true, true, true, true, true, true, true, true, true, true, true, true, true, true, true, true, true, true, true, true, false, false, false, false, false, false, false, false, false, false, false] rfl rfl (any_of HT_.out (by kernel_rfl)) (fun _ _ _ h => h) (Or.inl ⟨by rfl, ?_⟩) ?_ ?_
            rotate_left
            ·intro w'
             go_simp
             with_reducible rfl
            rotate_left
            ·simp only [Act.put, sqA, sqZ, sqS, i64_w, i32_w]
             rfl
            refine pure_ (i := 40) (N := some 74) (v := ?_) (a' := ?_) #[true, true, true, true, true, true, true, true, true, true, true, true, true, true, true, true, true, true, true, true, true, true, true, true, true, true, true, true, true, true, true, true, true, true, true, true, true, true, true, true, true, false, false, false, false, false, false, false, false, false, false] rfl rfl (any_of HT_.out (by kernel_rfl)) (fun _ _ _ h => h) (Or.inl ⟨by rfl, ?_⟩) ?_ ?_
            rotate_left
            ·intro w'
             go_simp
             with_reducible rfl
            rotate_left
            ·simp only [Act.put, sqA, sqZ, sqS, i64_w, i32_w]
             rfl
            refine pure_ (i := 41) (N := some 75) (v := undef) (a' := ?_) #[true, true, true, true, true, true, true, true, true, true, true, true, true, true, true, true, true, true, true, true, true, true, true, true, true, true, true, true, true, true, true, true, true, true, true, true, true, true, true, true, true, true, false, false, false, false, false, false, false, false, false] rfl rfl (any_of HT_.out (by kernel_rfl)) (fun _ _ _ h => h) (Or.inr ⟨by rfl, rfl⟩) ?_ ?_
            rotate_left
            ·simp only [Act.put, sqA, sqZ, sqS, i64_w, i32_w]
             rfl
            refine pure_ (i := 42) (N := some 76) (v := undef) (a' := ?_) #[true, true, true, true, true, true, true, true, true, true, true, true, true, true, true, true, true, true, true, true, true, true, true, true, true, true, true, true, true, true, true, true, true, true, true, true, true, true, true, true, true, true, true, false, false, false, false, false, false, false, false] rfl rfl (any_of HT_.out (by kernel_rfl)) (fun _ _ _ h => h) (Or.inr ⟨by rfl, rfl⟩) ?_ ?_
            rotate_left
            ·simp only [Act.put, sqA, sqZ, sqS, i64_w, i32_w]
             rfl
            refine pure_ (i := 43) (N := some 77) (v := undef) (a' := ?_) #[true, true, true, true, true, true, true, true, true, true, true, true, true, true, true, true, true, true, true, true, true, true, true, true, true, true, true, true, true, true, true, true, true, true, true, true, true, true, true, true, true, true, true, true, false, false, false, false, false, false, false] rfl rfl (any_of HT_.out (by kernel_rfl)) (fun _ _ _ h => h) (Or.inr ⟨by rfl, rfl⟩) ?_ ?_
            rotate_left
            ·simp only [Act.put, sqA, sqZ, sqS, i64_w, i32_w]
             rfl
            refine pure_ (i := 44) (N := some 78) (v := ?_) (a' := ?_) #[true, true, true, true, true, true, true, true, true, true, true, true, true, true, true, true, true, true, true, true, true, true, true, true, true, true, true, true, true, true, true, true, true, true, true, true, true, true, true, true, true, true, true, true, true, false, false, false, false, false, false] rfl rfl (any_of HT_.out (by kernel_rfl)) (fun _ _ _ h => h) (Or.inl ⟨by rfl, ?_⟩) ?_ ?_
            rotate_left
            ·intro w'
             go_simp
             with_reducible rfl
            rotate_left
            ·simp only [Act.put, sqA, sqZ, sqS, i64_w, i32_w]
             rfl
            refine pure_ (i := 45) (N := some 79) (v := ?_) (a' := ?_) #[true, true, true, true, true, true, true, true, true, true, true, true, true, true, true, true, true, true, true, true, true, true, true, true, true, true, true, true, true, true, true, true, true, true, true, true, true, true, true, true, true, true, true, true, true, true, false, false, false, false, false] rfl rfl (any_of HT_.out (by kernel_rfl)) (fun _ _ _ h => h) (Or.inl ⟨by rfl, ?_⟩) ?_ ?_
            rotate_left
            ·intro w'
             go_simp
             with_reducible rfl
            rotate_left
            ·simp only [Act.put, sqA, sqZ, sqS, i64_w, i32_w]
             rfl
            refine pure_ (i := 46) (N := some 80) (v := undef) (a' := ?_) #[true, true, true, true, true, true, true, true, true, true, true, true, true, true, true, true, true, true, true, true, true, true, true, true, true, true, true, true, true, true, true, true, true, true, true, true, true, true, true, true, true, true, true, true, true, true, true, false, false, false, false] rfl rfl (any_of HT_.out (by kernel_rfl)) (fun _ _ _ h => h) (Or.inr ⟨by rfl, rfl⟩) ?_ ?_
            rotate_left
            ·simp only [Act.put, sqA, sqZ, sqS, i64_w, i32_w]
             rfl
            refine pure_ (i := 47) (N := some 81) (v := undef) (a' := ?_) #[true, true, true, true, true, true, true, true, true, true, true, true, true, true, true, true, true, true, true, true, true, true, true, true, true, true, true, true, true, true, true, true, true, true, true, true, true, true, true, true, true, true, true, true, true, true, true, true, false, false, false] rfl rfl (any_of HT_.out (by kernel_rfl)) (fun _ _ _ h => h) (Or.inr ⟨by rfl, rfl⟩) ?_ ?_
            rotate_left
            ·simp only [Act.put, sqA, sqZ, sqS, i64_w, i32_w]
             rfl
            refine pure_ (i := 48) (N := some 82) (v := undef) (a' := ?_) #[true, true, true, true, true, true, true, true, true, true, true, true, true, true, true, true, true, true, true, true, true, true, true, true, true, true, true, true, true, true, true, true, true, true, true, true, true, true, true, true, true, true, true, true, true, true, true, true, true, false, false] rfl rfl (any_of HT_.out (by kernel_rfl)) (fun _ _ _ h => h) (Or.inr ⟨by rfl, rfl⟩) ?_ ?_
            rotate_left
            ·simp only [Act.put, sqA, sqZ, sqS, i64_w, i32_w]
             rfl
            refine pure_ (i := 49) (N := some 83) (v := ?_) (a' := ?_) #[true, true, true, true, true, true, true, true, true, true, true, true, true, true, true, true, true, true, true, true, true, true, true, true, true, true, true, true, true, true, true, true, true, true, true, true, true, true, true, true, true, true, true, true, true, true, true, true, true, true, false] rfl rfl (any_of HT_.out (by kernel_rfl)) (fun _ _ _ h => h) (Or.inl ⟨by rfl, ?_⟩) ?_ ?_
            rotate_left
            ·intro w'
             go_simp
             with_reducible rfl
            rotate_left
            ·simp only [Act.put, sqA, sqZ, sqS, i64_w, i32_w]
             rfl
            refine pure_ (i := 50) (N := some 84) (v := ?_) (a' := ?_) #[true, true, true, true, true, true, true, true, true, true, true, true, true, true, true, true, true, true, true, true, true, true, true, true, true, true, true, true, true, true, true, true, true, true, true, true, true, true, true, true, true, true, true, true, true, true, true, true, true, true, true] rfl rfl (any_of HT_.out (by kernel_rfl)) (fun _ _ _ h => h) (Or.inl ⟨by rfl, ?_⟩) ?_ ?_
            rotate_left
            ·intro w'
             go_simp
             with_reducible rfl
            rotate_left
            ·simp only [Act.put, sqA, sqZ, sqS, i64_w, i32_w]
             rfl
            refine done_ (done_of HT_.out (by kernel_rfl)) ?_
            try go_wp2
            go_meet
            case rel => exact ⟨_, (false), (by first | rfl | (simp; done) | (simp [*]; done)), H', ⟨by have := HJ9.out; first | omega | exact Nat.le_refl _⟩, ⟨by (with_reducible repeat (first | refine bN ?_ _ | refine bD ?_ | refine bA ?_ _)); exact BK245.out⟩, ⟨by (with_reducible repeat (first | refine bN ?_ _ | refine bD ?_ | refine bA ?_ _)); exact BK246.out⟩, ⟨by (with_reducible repeat (first | refine bN ?_ _ | refine bD ?_ | refine bA ?_ _)); exact BK253.out⟩, ⟨by (with_reducible repeat (first | refine bN ?_ _ | refine bD ?_ | refine bA ?_ _)); exact BK262.out⟩, ⟨by repeat (first | (with_reducible first | exact HB.out | apply wA | apply wN | apply wD | refine bS ?_ GE245.out | refine bS ?_ GE246.out | refine bS ?_ GE253.out | refine bS ?_ GE262.out) | exact HB.out)⟩⟩
       ·replace c50 := Bool.eq_false_iff.mpr c50
        subst c50
        have H1 : (none) = some r := by rw [if_neg (show ¬ (false = true) by decide)] at H; exact H
        clear H
        have H := H1
        clear H1
        exact absurd H (by simp)
      case rest =>
       clear HC43
       try clear c1
       try clear p2
       try clear c5
       try clear c8
       try clear c13
       try clear c50
       try clear c58
       try clear c58b0
       obtain ⟨kq, x84_42, rfl, HA, HJ42, BK245, BK246, BK253, BK262, HB⟩ := hcut
       cases kq with
       | zero => exact absurd HA.out (by simp [laws_FnLaid.j1])
       | succ kj42 =>
        have H := HA.out
        clear HA
        simp only [laws_FnLaid.j1] at H
        by_cases c97 : x84_42 = true
        ·subst c97
         have H1 : (none) = some r := by rw [if_pos rfl] at H; exact H
         clear H
         have H := H1
         clear H1
         exact absurd H (by simp)
        ·replace c97 := Bool.eq_false_iff.mpr c97
         subst c97
         have H1 : (if t241 = (-1) then (if t239 = (-1) then (if t242.toList = ([] : List UInt8) then (if t243.toList = ([] : List UInt8) then (some true) else (if t251.toList = t243.toList then (some (t252 == t244)) else (none))) else (if t250.toList = t242.toList then (if t243.toList = ([] : List UInt8) then (some true) else (if t251.toList = t243.toList then (some (t252 == t244)) else (none))) else (none))) else (if t247 = t239 then (if t248 = t240 then (if t242.toList = ([] : List UInt8) then (if t243.toList = ([] : List UInt8) then (some true) else (if t251.toList = t243.toList then (some (t252 == t244)) else (none))) else (if t250.toList = t242.toList then (if t243.toList = ([] : List UInt8) then (some true) else (if t251.toList = t243.toList then (some (t252 == t244)) else (none))) else (none))) else (none)) else (none))) else (if t249 = t241 then (if t239 = (-1) then (if t242.toList = ([] : List UInt8) then (if t243.toList = ([] : List UInt8) then (some true) else (if t251.toList = t243.toList then (some (t252 == t244)) else (none))) else (if t250.toList = t242.toList then (if t243.toList = ([] : List UInt8) then (some true) else (if t251.toList = t243.toList then (some (t252 == t244)) else (none))) else (none))) else (if t247 = t239 then (if t248 = t240 then (if t242.toList = ([] : List UInt8) then (if t243.toList = ([] : List UInt8) then (some true) else (if t251.toList = t243.toList then (some (t252 == t244)) else (none))) else (if t250.toList = t242.toList then (if t243.toList = ([] : List UInt8) then (some true) else (if t251.toList = t243.toList then (some (t252 == t244)) else (none))) else (none))) else (none)) else (none))) else (none))) = some r := by rw [if_neg (show ¬ (false = true) by decide)] at H; exact H
         clear H
         have H := H1
         clear H1
         by_cases c98 : t241 = (-1)
         ·rw [if_pos c98] at H
          have c98b0 : (t241 == (-1)) = true := beq_iff_eq.mpr c98
          have c98b1 : (t241 != (-1)) = false := bne_eq_false_iff_eq.mpr c98
          clear c98
          by_cases c99 : t239 = (-1)
          ·rw [if_pos c99] at H
           have c99b0 : (t239 == (-1)) = true := beq_iff_eq.mpr c99
           have c99b1 : (t239 != (-1)) = false := bne_eq_false_iff_eq.mpr c99
           clear c99
           by_cases c100 : t242.toList = ([] : List UInt8)
           ·rw [if_pos c100] at H
            have c100b0 : t242.toList.isEmpty = true := by rw [c100]; rfl
            have c100b1 : (!t242.toList.isEmpty) = false := by rw [c100]; rfl
            have c100b2 : (t242.toList == ([] : List UInt8)) = true := beq_iff_eq.mpr c100
            clear c100
            by_cases c101 : t243.toList = ([] : List UInt8)
            ·rw [if_pos c101] at H
             have c101b0 : t243.toList.isEmpty = true := by rw [c101]; rfl
             have c101b1 : (!t243.toList.isEmpty) = false := by rw [c101]; rfl
             have c101b2 : (t243.toList == ([] : List UInt8)) = true := beq_iff_eq.mpr c101
             clear c101
             obtain rfl := Option.some.inj H
             have hnb102 := NB246_245.out
             have hnc102 := NB245_246.out
             have hnb103 := NB246_253.out
             have hnc103 := NB253_246.out
             have hnb104 := NB246_262.out
             have hnc104 := NB262_246.out
             have hcz105_0 : wc.cell? ⟨gb246, 0, none⟩ = some (.int .i64 t239) := bC BK246.out 0 rfl
             have hcz105_1 : wc.cell? ⟨gb246, 1, none⟩ = some (.int .i64 t240) := bC BK246.out 1 rfl
             have hcz105_2 : wc.cell? ⟨gb246, 2, none⟩ = some (.int .i64 t241) := bC BK246.out 2 rfl
             have hcz105_3 : wc.cell? ⟨gb246, 3, none⟩ = some (.string t242) := bC BK246.out 3 rfl
             have hcz105_4 : wc.cell? ⟨gb246, 4, none⟩ = some (.string t243) := bC BK246.out 4 rfl
             have hcz105_5 : wc.cell? ⟨gb246, 5, none⟩ = some (.int .i64 t244) := bC BK246.out 5 rfl
             have hfz105_0 := blk_frozen BK246.out 0
             have hfz105_1 := blk_frozen BK246.out 1
             have hfz105_2 := blk_frozen BK246.out 2
             have hfz105_3 := blk_frozen BK246.out 3
             have hfz105_4 := blk_frozen BK246.out 4
             have hfz105_5 := blk_frozen BK246.out 5
             go_wp2
             go_ret
             exact ⟨by first | rfl | (simp [errW_none, errW_some] <;> rfl) | (simp [*, errW_none, errW_some] <;> rfl), by repeat (first | (with_reducible first | exact HB.out | apply wA | apply wN | apply wD | refine bS ?_ GE245.out | refine bS ?_ GE246.out | refine bS ?_ GE253.out | refine bS ?_ GE262.out) | exact HB.out)⟩
            ·rw [if_neg c101] at H
             have c101b0 : t243.toList.isEmpty = false := by simpa using c101
             have c101b1 : (!t243.toList.isEmpty) = true := by simpa using c101
             have c101b2 : (t243.toList == ([] : List UInt8)) = false := beq_eq_false_iff_ne.mpr c101
             by_cases c106 : t251.toList = t243.toList
             ·rw [if_pos c106] at H
              have c106b0 : (t251.toList == t243.toList) = true := beq_iff_eq.mpr c106
              have c106b1 : (t251.toList != t243.toList) = false := bne_eq_false_iff_eq.mpr c106
              clear c106
              obtain rfl := Option.some.inj H
              have hnb107 := NB246_245.out
              have hnc107 := NB245_246.out
              have hnb108 := NB246_253.out
              have hnc108 := NB253_246.out
              have hnb109 := NB246_262.out
              have hnc109 := NB262_246.out
              have hcz110_0 : wc.cell? ⟨gb246, 0, none⟩ = some (.int .i64 t239) := bC BK246.out 0 rfl
              have hcz110_1 : wc.cell? ⟨gb246, 1, none⟩ = some (.int .i64 t240) := bC BK246.out 1 rfl
              have hcz110_2 : wc.cell? ⟨gb246, 2, none⟩ = some (.int .i64 t241) := bC BK246.out 2 rfl
              have hcz110_3 : wc.cell? ⟨gb246, 3, none⟩ = some (.string t242) := bC BK246.out 3 rfl
              have hcz110_4 : wc.cell? ⟨gb246, 4, none⟩ = some (.string t243) := bC BK246.out 4 rfl
              have hcz110_5 : wc.cell? ⟨gb246, 5, none⟩ = some (.int .i64 t244) := bC BK246.out 5 rfl
              have hfz110_0 := blk_frozen BK246.out 0
              have hfz110_1 := blk_frozen BK246.out 1
              have hfz110_2 := blk_frozen BK246.out 2
              have hfz110_3 := blk_frozen BK246.out 3
              have hfz110_4 := blk_frozen BK246.out 4
              have hfz110_5 := blk_frozen BK246.out 5
              have hnb111 := NB253_245.out
              have hnc111 := NB245_253.out
              have hnb112 := NB253_262.out
              have hnc112 := NB262_253.out
              have hcz113_0 : wc.cell? ⟨gb253, 0, none⟩ = some (.int .i64 t247) := bC BK253.out 0 rfl
              have hcz113_1 : wc.cell? ⟨gb253, 1, none⟩ = some (.int .i64 t248) := bC BK253.out 1 rfl
              have hcz113_2 : wc.cell? ⟨gb253, 2, none⟩ = some (.int .i64 t249) := bC BK253.out 2 rfl
              have hcz113_3 : wc.cell? ⟨gb253, 3, none⟩ = some (.string t250) := bC BK253.out 3 rfl
              have hcz113_4 : wc.cell? ⟨gb253, 4, none⟩ = some (.string t251) := bC BK253.out 4 rfl
              have hcz113_5 : wc.cell? ⟨gb253, 5, none⟩ = some (.int .i64 t252) := bC BK253.out 5 rfl
              have hfz113_0 := blk_frozen BK253.out 0
              have hfz113_1 := blk_frozen BK253.out 1
              have hfz113_2 := blk_frozen BK253.out 2
              have hfz113_3 := blk_frozen BK253.out 3
              have hfz113_4 := blk_frozen BK253.out 4
              have hfz113_5 := blk_frozen BK253.out 5
              go_wp2
              go_ret
              exact ⟨by first | rfl | (simp [errW_none, errW_some] <;> rfl) | (simp [*, errW_none, errW_some] <;> rfl), by repeat (first | (with_reducible first | exact HB.out | apply wA | apply wN | apply wD | refine bS ?_ GE245.out | refine bS ?_ GE246.out | refine bS ?_ GE253.out | refine bS ?_ GE262.out) | exact HB.out)⟩
             ·rw [if_neg c106] at H
              exact absurd H (by simp)
           ·rw [if_neg c100] at H
            have c100b0 : t242.toList.isEmpty = false := by simpa using c100
            have c100b1 : (!t242.toList.isEmpty) = true := by simpa using c100
            have c100b2 : (t242.toList == ([] : List UInt8)) = false := beq_eq_false_iff_ne.mpr c100
            by_cases c114 : t250.toList = t242.toList
            ·rw [if_pos c114] at H
             have c114b0 : (t250.toList == t242.toList) = true := beq_iff_eq.mpr c114
             have c114b1 : (t250.toList != t242.toList) = false := bne_eq_false_iff_eq.mpr c114
             clear c114
             by_cases c115 : t243.toList = ([] : List UInt8)
             ·rw [if_pos c115] at H
              have c115b0 : t243.toList.isEmpty = true := by rw [c115]; rfl
              have c115b1 : (!t243.toList.isEmpty) = false := by rw [c115]; rfl
              have c115b2 : (t243.toList == ([] : List UInt8)) = true := beq_iff_eq.mpr c115
              clear c115
              obtain rfl := Option.some.inj H
              have hnb116 := NB246_245.out
              have hnc116 := NB245_246.out
              have hnb117 := NB246_253.out
              have hnc117 := NB253_246.out
              have hnb118 := NB246_262.out
              have hnc118 := NB262_246.out
              have hcz119_0 : wc.cell? ⟨gb246, 0, none⟩ = some (.int .i64 t239) := bC BK246.out 0 rfl
              have hcz119_1 : wc.cell? ⟨gb246, 1, none⟩ = some (.int .i64 t240) := bC BK246.out 1 rfl
              have hcz119_2 : wc.cell? ⟨gb246, 2, none⟩ = some (.int .i64 t241) := bC BK246.out 2 rfl
              have hcz119_3 : wc.cell? ⟨gb246, 3, none⟩ = some (.string t242) := bC BK246.out 3 rfl
              have hcz119_4 : wc.cell? ⟨gb246, 4, none⟩ = some (.string t243) := bC BK246.out 4 rfl
              have hcz119_5 : wc.cell? ⟨gb246, 5, none⟩ = some (.int .i64 t244) := bC BK246.out 5 rfl
              have hfz119_0 := blk_frozen BK246.out 0
              have hfz119_1 := blk_frozen BK246.out 1
              have hfz119_2 := blk_frozen BK246.out 2
              have hfz119_3 := blk_frozen BK246.out 3
              have hfz119_4 := blk_frozen BK246.out 4
              have hfz119_5 := blk_frozen BK246.out 5
              have hnb120 := NB253_245.out
              have hnc120 := NB245_253.out
              have hnb121 := NB253_262.out
              have hnc121 := NB262_253.out
              have hcz122_0 : wc.cell? ⟨gb253, 0, none⟩ = some (.int .i64 t247) := bC BK253.out 0 rfl
              have hcz122_1 : wc.cell? ⟨gb253, 1, none⟩ = some (.int .i64 t248) := bC BK253.out 1 rfl
              have hcz122_2 : wc.cell? ⟨gb253, 2, none⟩ = some (.int .i64 t249) := bC BK253.out 2 rfl
              have hcz122_3 : wc.cell? ⟨gb253, 3, none⟩ = some (.string t250) := bC BK253.out 3 rfl
              have hcz122_4 : wc.cell? ⟨gb253, 4, none⟩ = some (.string t251) := bC BK253.out 4 rfl
              have hcz122_5 : wc.cell? ⟨gb253, 5, none⟩ = some (.int .i64 t252) := bC BK253.out 5 rfl
              have hfz122_0 := blk_frozen BK253.out 0
              have hfz122_1 := blk_frozen BK253.out 1
              have hfz122_2 := blk_frozen BK253.out 2
              have hfz122_3 := blk_frozen BK253.out 3
              have hfz122_4 := blk_frozen BK253.out 4
              have hfz122_5 := blk_frozen BK253.out 5
              go_wp2
              go_ret
              exact ⟨by first | rfl | (simp [errW_none, errW_some] <;> rfl) | (simp [*, errW_none, errW_some] <;> rfl), by repeat (first | (with_reducible first | exact HB.out | apply wA | apply wN | apply wD | refine bS ?_ GE245.out | refine bS ?_ GE246.out | refine bS ?_ GE253.out | refine bS ?_ GE262.out) | exact HB.out)⟩
             ·rw [if_neg c115] at H
              have c115b0 : t243.toList.isEmpty = false := by simpa using c115
              have c115b1 : (!t243.toList.isEmpty) = true := by simpa using c115
              have c115b2 : (t243.toList == ([] : List UInt8)) = false := beq_eq_false_iff_ne.mpr c115
              by_cases c123 : t251.toList = t243.toList
              ·rw [if_pos c123] at H
               have c123b0 : (t251.toList == t243.toList) = true := beq_iff_eq.mpr c123
               have c123b1 : (t251.toList != t243.toList) = false := bne_eq_false_iff_eq.mpr c123
               clear c123
               obtain rfl := Option.some.inj H
               have hnb124 := NB246_245.out
               have hnc124 := NB245_246.out
               have hnb125 := NB246_253.out
               have hnc125 := NB253_246.out
               have hnb126 := NB246_262.out
               have hnc126 := NB262_246.out
               have hcz127_0 : wc.cell? ⟨gb246, 0, none⟩ = some (.int .i64 t239) := bC BK246.out 0 rfl
               have hcz127_1 : wc.cell? ⟨gb246, 1, none⟩ = some (.int .i64 t240) := bC BK246.out 1 rfl
               have hcz127_2 : wc.cell? ⟨gb246, 2, none⟩ = some (.int .i64 t241) := bC BK246.out 2 rfl
               have hcz127_3 : wc.cell? ⟨gb246, 3, none⟩ = some (.string t242) := bC BK246.out 3 rfl
               have hcz127_4 : wc.cell? ⟨gb246, 4, none⟩ = some (.string t243) := bC BK246.out 4 rfl
               have hcz127_5 : wc.cell? ⟨gb246, 5, none⟩ = some (.int .i64 t244) := bC BK246.out 5 rfl
               have hfz127_0 := blk_frozen BK246.out 0
               have hfz127_1 := blk_frozen BK246.out 1
               have hfz127_2 := blk_frozen BK246.out 2
               have hfz127_3 := blk_frozen BK246.out 3
               have hfz127_4 := blk_frozen BK246.out 4
               have hfz127_5 := blk_frozen BK246.out 5
               have hnb128 := NB253_245.out
               have hnc128 := NB245_253.out
               have hnb129 := NB253_262.out
               have hnc129 := NB262_253.out
               have hcz130_0 : wc.cell? ⟨gb253, 0, none⟩ = some (.int .i64 t247) := bC BK253.out 0 rfl
               have hcz130_1 : wc.cell? ⟨gb253, 1, none⟩ = some (.int .i64 t248) := bC BK253.out 1 rfl
               have hcz130_2 : wc.cell? ⟨gb253, 2, none⟩ = some (.int .i64 t249) := bC BK253.out 2 rfl
               have hcz130_3 : wc.cell? ⟨gb253, 3, none⟩ = some (.string t250) := bC BK253.out 3 rfl
               have hcz130_4 : wc.cell? ⟨gb253, 4, none⟩ = some (.string t251) := bC BK253.out 4 rfl
               have hcz130_5 : wc.cell? ⟨gb253, 5, none⟩ = some (.int .i64 t252) := bC BK253.out 5 rfl
               have hfz130_0 := blk_frozen BK253.out 0
               have hfz130_1 := blk_frozen BK253.out 1
               have hfz130_2 := blk_frozen BK253.out 2
               have hfz130_3 := blk_frozen BK253.out 3
               have hfz130_4 := blk_frozen BK253.out 4
               have hfz130_5 := blk_frozen BK253.out 5
               go_wp2
               go_ret
               exact ⟨by first | rfl | (simp [errW_none, errW_some] <;> rfl) | (simp [*, errW_none, errW_some] <;> rfl), by repeat (first | (with_reducible first | exact HB.out | apply wA | apply wN | apply wD | refine bS ?_ GE245.out | refine bS ?_ GE246.out | refine bS ?_ GE253.out | refine bS ?_ GE262.out) | exact HB.out)⟩
              ·rw [if_neg c123] at H
               exact absurd H (by simp)
            ·rw [if_neg c114] at H
             exact absurd H (by simp)
          ·rw [if_neg c99] at H
           have c99b0 : (t239 == (-1)) = false := beq_eq_false_iff_ne.mpr c99
           have c99b1 : (t239 != (-1)) = true := bne_iff_ne.mpr c99
           by_cases c131 : t247 = t239
           ·rw [if_pos c131] at H
            have c131b0 : (t247 == t239) = true := beq_iff_eq.mpr c131
            have c131b1 : (t247 != t239) = false := bne_eq_false_iff_eq.mpr c131
            clear c131
            by_cases c132 : t248 = t240
            ·rw [if_pos c132] at H
             have c132b0 : (t248 == t240) = true := beq_iff_eq.mpr c132
             have c132b1 : (t248 != t240) = false := bne_eq_false_iff_eq.mpr c132
             clear c132
             by_cases c133 : t242.toList = ([] : List UInt8)
             ·rw [if_pos c133] at H
              have c133b0 : t242.toList.isEmpty = true := by rw [c133]; rfl
              have c133b1 : (!t242.toList.isEmpty) = false := by rw [c133]; rfl
              have c133b2 : (t242.toList == ([] : List UInt8)) = true := beq_iff_eq.mpr c133
              clear c133
              by_cases c134 : t243.toList = ([] : List UInt8)
              ·rw [if_pos c134] at H
               have c134b0 : t243.toList.isEmpty = true := by rw [c134]; rfl
               have c134b1 : (!t243.toList.isEmpty) = false := by rw [c134]; rfl
               have c134b2 : (t243.toList == ([] : List UInt8)) = true := beq_iff_eq.mpr c134
               clear c134
               obtain rfl := Option.some.inj H
               have hnb135 := NB246_245.out
               have hnc135 := NB245_246.out
               have hnb136 := NB246_253.out
               have hnc136 := NB253_246.out
               have hnb137 := NB246_262.out
               have hnc137 := NB262_246.out
               have hcz138_0 : wc.cell? ⟨gb246, 0, none⟩ = some (.int .i64 t239) := bC BK246.out 0 rfl
               have hcz138_1 : wc.cell? ⟨gb246, 1, none⟩ = some (.int .i64 t240) := bC BK246.out 1 rfl
               have hcz138_2 : wc.cell? ⟨gb246, 2, none⟩ = some (.int .i64 t241) := bC BK246.out 2 rfl
               have hcz138_3 : wc.cell? ⟨gb246, 3, none⟩ = some (.string t242) := bC BK246.out 3 rfl
               have hcz138_4 : wc.cell? ⟨gb246, 4, none⟩ = some (.string t243) := bC BK246.out 4 rfl
               have hcz138_5 : wc.cell? ⟨gb246, 5, none⟩ = some (.int .i64 t244) := bC BK246.out 5 rfl
               have hfz138_0 := blk_frozen BK246.out 0
               have hfz138_1 := blk_frozen BK246.out 1
               have hfz138_2 := blk_frozen BK246.out 2
               have hfz138_3 := blk_frozen BK246.out 3
               have hfz138_4 := blk_frozen BK246.out 4
               have hfz138_5 := blk_frozen BK246.out 5
               have hnb139 := NB253_245.out
               have hnc139 := NB245_253.out
               have hnb140 := NB253_262.out
               have hnc140 := NB262_253.out
               have hcz141_0 : wc.cell? ⟨gb253, 0, none⟩ = some (.int .i64 t247) := bC BK253.out 0 rfl
               have hcz141_1 : wc.cell? ⟨gb253, 1, none⟩ = some (.int .i64 t248) := bC BK253.out 1 rfl
               have hcz141_2 : wc.cell? ⟨gb253, 2, none⟩ = some (.int .i64 t249) := bC BK253.out 2 rfl
               have hcz141_3 : wc.cell? ⟨gb253, 3, none⟩ = some (.string t250) := bC BK253.out 3 rfl
               have hcz141_4 : wc.cell? ⟨gb253, 4, none⟩ = some (.string t251) := bC BK253.out 4 rfl
               have hcz141_5 : wc.cell? ⟨gb253, 5, none⟩ = some (.int .i64 t252) := bC BK253.out 5 rfl
               have hfz141_0 := blk_frozen BK253.out 0
               have hfz141_1 := blk_frozen BK253.out 1
               have hfz141_2 := blk_frozen BK253.out 2
               have hfz141_3 := blk_frozen BK253.out 3
               have hfz141_4 := blk_frozen BK253.out 4
               have hfz141_5 := blk_frozen BK253.out 5
               go_wp2
               go_ret
               exact ⟨by first | rfl | (simp [errW_none, errW_some] <;> rfl) | (simp [*, errW_none, errW_some] <;> rfl), by repeat (first | (with_reducible first | exact HB.out | apply wA | apply wN | apply wD | refine bS ?_ GE245.out | refine bS ?_ GE246.out | refine bS ?_ GE253.out | refine bS ?_ GE262.out) | exact HB.out)⟩
              ·rw [if_neg c134] at H
               have c134b0 : t243.toList.isEmpty = false := by simpa using c134
               have c134b1 : (!t243.toList.isEmpty) = true := by simpa using c134
               have c134b2 : (t243.toList == ([] : List UInt8)) = false := beq_eq_false_iff_ne.mpr c134
               by_cases c142 : t251.toList = t243.toList
               ·rw [if_pos c142] at H
                have c142b0 : (t251.toList == t243.toList) = true := beq_iff_eq.mpr c142
                have c142b1 : (t251.toList != t243.toList) = false := bne_eq_false_iff_eq.mpr c142
                clear c142
                obtain rfl := Option.some.inj H
                have hnb143 := NB246_245.out
                have hnc143 := NB245_246.out
                have hnb144 := NB246_253.out
                have hnc144 := NB253_246.out
                have hnb145 := NB246_262.out
                have hnc145 := NB262_246.out
                have hcz146_0 : wc.cell? ⟨gb246, 0, none⟩ = some (.int .i64 t239) := bC BK246.out 0 rfl
                have hcz146_1 : wc.cell? ⟨gb246, 1, none⟩ = some (.int .i64 t240) := bC BK246.out 1 rfl
                have hcz146_2 : wc.cell? ⟨gb246, 2, none⟩ = some (.int .i64 t241) := bC BK246.out 2 rfl
                have hcz146_3 : wc.cell? ⟨gb246, 3, none⟩ = some (.string t242) := bC BK246.out 3 rfl
                have hcz146_4 : wc.cell? ⟨gb246, 4, none⟩ = some (.string t243) := bC BK246.out 4 rfl
                have hcz146_5 : wc.cell? ⟨gb246, 5, none⟩ = some (.int .i64 t244) := bC BK246.out 5 rfl
                have hfz146_0 := blk_frozen BK246.out 0
                have hfz146_1 := blk_frozen BK246.out 1
                have hfz146_2 := blk_frozen BK246.out 2
                have hfz146_3 := blk_frozen BK246.out 3
                have hfz146_4 := blk_frozen BK246.out 4
                have hfz146_5 := blk_frozen BK246.out 5
                have hnb147 := NB253_245.out
                have hnc147 := NB245_253.out
                have hnb148 := NB253_262.out
                have hnc148 := NB262_253.out
                have hcz149_0 : wc.cell? ⟨gb253, 0, none⟩ = some (.int .i64 t247) := bC BK253.out 0 rfl
                have hcz149_1 : wc.cell? ⟨gb253, 1, none⟩ = some (.int .i64 t248) := bC BK253.out 1 rfl
                have hcz149_2 : wc.cell? ⟨gb253, 2, none⟩ = some (.int .i64 t249) := bC BK253.out 2 rfl
                have hcz149_3 : wc.cell? ⟨gb253, 3, none⟩ = some (.string t250) := bC BK253.out 3 rfl
                have hcz149_4 : wc.cell? ⟨gb253, 4, none⟩ = some (.string t251) := bC BK253.out 4 rfl
                have hcz149_5 : wc.cell? ⟨gb253, 5, none⟩ = some (.int .i64 t252) := bC BK253.out 5 rfl
                have hfz149_0 := blk_frozen BK253.out 0
                have hfz149_1 := blk_frozen BK253.out 1
                have hfz149_2 := blk_frozen BK253.out 2
                have hfz149_3 := blk_frozen BK253.out 3
                have hfz149_4 := blk_frozen BK253.out 4
                have hfz149_5 := blk_frozen BK253.out 5
                go_wp2
                go_ret
                exact ⟨by first | rfl | (simp [errW_none, errW_some] <;> rfl) | (simp [*, errW_none, errW_some] <;> rfl), by repeat (first | (with_reducible first | exact HB.out | apply wA | apply wN | apply wD | refine bS ?_ GE245.out | refine bS ?_ GE246.out | refine bS ?_ GE253.out | refine bS ?_ GE262.out) | exact HB.out)⟩
               ·rw [if_neg c142] at H
                exact absurd H (by simp)
             ·rw [if_neg c133] at H
              have c133b0 : t242.toList.isEmpty = false := by simpa using c133
              have c133b1 : (!t242.toList.isEmpty) = true := by simpa using c133
              have c133b2 : (t242.toList == ([] : List UInt8)) = false := beq_eq_false_iff_ne.mpr c133
              by_cases c150 : t250.toList = t242.toList
              ·rw [if_pos c150] at H
               have c150b0 : (t250.toList == t242.toList) = true := beq_iff_eq.mpr c150
               have c150b1 : (t250.toList != t242.toList) = false := bne_eq_false_iff_eq.mpr c150
               clear c150
               by_cases c151 : t243.toList = ([] : List UInt8)
               ·rw [if_pos c151] at H
                have c151b0 : t243.toList.isEmpty = true := by rw [c151]; rfl
                have c151b1 : (!t243.toList.isEmpty) = false := by rw [c151]; rfl
                have c151b2 : (t243.toList == ([] : List UInt8)) = true := beq_iff_eq.mpr c151
                clear c151
                obtain rfl := Option.some.inj H
                have hnb152 := NB246_245.out
                have hnc152 := NB245_246.out
                have hnb153 := NB246_253.out
                have hnc153 := NB253_246.out
                have hnb154 := NB246_262.out
                have hnc154 := NB262_246.out
                have hcz155_0 : wc.cell? ⟨gb246, 0, none⟩ = some (.int .i64 t239) := bC BK246.out 0 rfl
                have hcz155_1 : wc.cell? ⟨gb246, 1, none⟩ = some (.int .i64 t240) := bC BK246.out 1 rfl
                have hcz155_2 : wc.cell? ⟨gb246, 2, none⟩ = some (.int .i64 t241) := bC BK246.out 2 rfl
                have hcz155_3 : wc.cell? ⟨gb246, 3, none⟩ = some (.string t242) := bC BK246.out 3 rfl
                have hcz155_4 : wc.cell? ⟨gb246, 4, none⟩ = some (.string t243) := bC BK246.out 4 rfl
                have hcz155_5 : wc.cell? ⟨gb246, 5, none⟩ = some (.int .i64 t244) := bC BK246.out 5 rfl
                have hfz155_0 := blk_frozen BK246.out 0
                have hfz155_1 := blk_frozen BK246.out 1
                have hfz155_2 := blk_frozen BK246.out 2
                have hfz155_3 := blk_frozen BK246.out 3
                have hfz155_4 := blk_frozen BK246.out 4
                have hfz155_5 := blk_frozen BK246.out 5
                have hnb156 := NB253_245.out
                have hnc156 := NB245_253.out
                have hnb157 := NB253_262.out
                have hnc157 := NB262_253.out
                have hcz158_0 : wc.cell? ⟨gb253, 0, none⟩ = some (.int .i64 t247) := bC BK253.out 0 rfl
                have hcz158_1 : wc.cell? ⟨gb253, 1, none⟩ = some (.int .i64 t248) := bC BK253.out 1 rfl
                have hcz158_2 : wc.cell? ⟨gb253, 2, none⟩ = some (.int .i64 t249) := bC BK253.out 2 rfl
                have hcz158_3 : wc.cell? ⟨gb253, 3, none⟩ = some (.string t250) := bC BK253.out 3 rfl
                have hcz158_4 : wc.cell? ⟨gb253, 4, none⟩ = some (.string t251) := bC BK253.out 4 rfl
                have hcz158_5 : wc.cell? ⟨gb253, 5, none⟩ = some (.int .i64 t252) := bC BK253.out 5 rfl
                have hfz158_0 := blk_frozen BK253.out 0
                have hfz158_1 := blk_frozen BK253.out 1
                have hfz158_2 := blk_frozen BK253.out 2
                have hfz158_3 := blk_frozen BK253.out 3
                have hfz158_4 := blk_frozen BK253.out 4
                have hfz158_5 := blk_frozen BK253.out 5
                go_wp2
                go_ret
                exact ⟨by first | rfl | (simp [errW_none, errW_some] <;> rfl) | (simp [*, errW_none, errW_some] <;> rfl), by repeat (first | (with_reducible first | exact HB.out | apply wA | apply wN | apply wD | refine bS ?_ GE245.out | refine bS ?_ GE246.out | refine bS ?_ GE253.out | refine bS ?_ GE262.out) | exact HB.out)⟩
               ·rw [if_neg c151] at H
                have c151b0 : t243.toList.isEmpty = false := by simpa using c151
                have c151b1 : (!t243.toList.isEmpty) = true := by simpa using c151
                have c151b2 : (t243.toList == ([] : List UInt8)) = false := beq_eq_false_iff_ne.mpr c151
                by_cases c159 : t251.toList = t243.toList
                ·rw [if_pos c159] at H
                 have c159b0 : (t251.toList == t243.toList) = true := beq_iff_eq.mpr c159
                 have c159b1 : (t251.toList != t243.toList) = false := bne_eq_false_iff_eq.mpr c159
                 clear c159
                 obtain rfl := Option.some.inj H
                 have hnb160 := NB246_245.out
                 have hnc160 := NB245_246.out
                 have hnb161 := NB246_253.out
                 have hnc161 := NB253_246.out
                 have hnb162 := NB246_262.out
                 have hnc162 := NB262_246.out
                 have hcz163_0 : wc.cell? ⟨gb246, 0, none⟩ = some (.int .i64 t239) := bC BK246.out 0 rfl
                 have hcz163_1 : wc.cell? ⟨gb246, 1, none⟩ = some (.int .i64 t240) := bC BK246.out 1 rfl
                 have hcz163_2 : wc.cell? ⟨gb246, 2, none⟩ = some (.int .i64 t241) := bC BK246.out 2 rfl
                 have hcz163_3 : wc.cell? ⟨gb246, 3, none⟩ = some (.string t242) := bC BK246.out 3 rfl
                 have hcz163_4 : wc.cell? ⟨gb246, 4, none⟩ = some (.string t243) := bC BK246.out 4 rfl
                 have hcz163_5 : wc.cell? ⟨gb246, 5, none⟩ = some (.int .i64 t244) := bC BK246.out 5 rfl
                 have hfz163_0 := blk_frozen BK246.out 0
                 have hfz163_1 := blk_frozen BK246.out 1
                 have hfz163_2 := blk_frozen BK246.out 2
                 have hfz163_3 := blk_frozen BK246.out 3
                 have hfz163_4 := blk_frozen BK246.out 4
                 have hfz163_5 := blk_frozen BK246.out 5
                 have hnb164 := NB253_245.out
                 have hnc164 := NB245_253.out
                 have hnb165 := NB253_262.out
                 have hnc165 := NB262_253.out
                 have hcz166_0 : wc.cell? ⟨gb253, 0, none⟩ = some (.int .i64 t247) := bC BK253.out 0 rfl
                 have hcz166_1 : wc.cell? ⟨gb253, 1, none⟩ = some (.int .i64 t248) := bC BK253.out 1 rfl
                 have hcz166_2 : wc.cell? ⟨gb253, 2, none⟩ = some (.int .i64 t249) := bC BK253.out 2 rfl
                 have hcz166_3 : wc.cell? ⟨gb253, 3, none⟩ = some (.string t250) := bC BK253.out 3 rfl
                 have hcz166_4 : wc.cell? ⟨gb253, 4, none⟩ = some (.string t251) := bC BK253.out 4 rfl
                 have hcz166_5 : wc.cell? ⟨gb253, 5, none⟩ = some (.int .i64 t252) := bC BK253.out 5 rfl
                 have hfz166_0 := blk_frozen BK253.out 0
                 have hfz166_1 := blk_frozen BK253.out 1
                 have hfz166_2 := blk_frozen BK253.out 2
                 have hfz166_3 := blk_frozen BK253.out 3
                 have hfz166_4 := blk_frozen BK253.out 4
                 have hfz166_5 := blk_frozen BK253.out 5
                 go_wp2
                 go_ret
                 exact ⟨by first | rfl | (simp [errW_none, errW_some] <;> rfl) | (simp [*, errW_none, errW_some] <;> rfl), by repeat (first | (with_reducible first | exact HB.out | apply wA | apply wN | apply wD | refine bS ?_ GE245.out | refine bS ?_ GE246.out | refine bS ?_ GE253.out | refine bS ?_ GE262.out) | exact HB.out)⟩
                ·rw [if_neg c159] at H
                 exact absurd H (by simp)
              ·rw [if_neg c150] at H
               exact absurd H (by simp)
            ·rw [if_neg c132] at H
             exact absurd H (by simp)
           ·rw [if_neg c131] at H
            exact absurd H (by simp)
         ·rw [if_neg c98] at H
          have c98b0 : (t241 == (-1)) = false := beq_eq_false_iff_ne.mpr c98
          have c98b1 : (t241 != (-1)) = true := bne_iff_ne.mpr c98
          by_cases c167 : t249 = t241
          ·rw [if_pos c167] at H
           have c167b0 : (t249 == t241) = true := beq_iff_eq.mpr c167
           have c167b1 : (t249 != t241) = false := bne_eq_false_iff_eq.mpr c167
           clear c167
           by_cases c168 : t239 = (-1)
           ·rw [if_pos c168] at H
            have c168b0 : (t239 == (-1)) = true := beq_iff_eq.mpr c168
            have c168b1 : (t239 != (-1)) = false := bne_eq_false_iff_eq.mpr c168
            clear c168
            by_cases c169 : t242.toList = ([] : List UInt8)
            ·rw [if_pos c169] at H
             have c169b0 : t242.toList.isEmpty = true := by rw [c169]; rfl
             have c169b1 : (!t242.toList.isEmpty) = false := by rw [c169]; rfl
             have c169b2 : (t242.toList == ([] : List UInt8)) = true := beq_iff_eq.mpr c169
             clear c169
             by_cases c170 : t243.toList = ([] : List UInt8)
             ·rw [if_pos c170] at H
              have c170b0 : t243.toList.isEmpty = true := by rw [c170]; rfl
              have c170b1 : (!t243.toList.isEmpty) = false := by rw [c170]; rfl
              have c170b2 : (t243.toList == ([] : List UInt8)) = true := beq_iff_eq.mpr c170
              clear c170
              obtain rfl := Option.some.inj H
              have hnb171 := NB246_245.out
              have hnc171 := NB245_246.out
              have hnb172 := NB246_253.out
              have hnc172 := NB253_246.out
              have hnb173 := NB246_262.out
              have hnc173 := NB262_246.out
              have hcz174_0 : wc.cell? ⟨gb246, 0, none⟩ = some (.int .i64 t239) := bC BK246.out 0 rfl
              have hcz174_1 : wc.cell? ⟨gb246, 1, none⟩ = some (.int .i64 t240) := bC BK246.out 1 rfl
              have hcz174_2 : wc.cell? ⟨gb246, 2, none⟩ = some (.int .i64 t241) := bC BK246.out 2 rfl
              have hcz174_3 : wc.cell? ⟨gb246, 3, none⟩ = some (.string t242) := bC BK246.out 3 rfl
              have hcz174_4 : wc.cell? ⟨gb246, 4, none⟩ = some (.string t243) := bC BK246.out 4 rfl
              have hcz174_5 : wc.cell? ⟨gb246, 5, none⟩ = some (.int .i64 t244) := bC BK246.out 5 rfl
              have hfz174_0 := blk_frozen BK246.out 0
              have hfz174_1 := blk_frozen BK246.out 1
              have hfz174_2 := blk_frozen BK246.out 2
              have hfz174_3 := blk_frozen BK246.out 3
              have hfz174_4 := blk_frozen BK246.out 4
              have hfz174_5 := blk_frozen BK246.out 5
              have hnb175 := NB253_245.out
              have hnc175 := NB245_253.out
              have hnb176 := NB253_262.out
              have hnc176 := NB262_253.out
              have hcz177_0 : wc.cell? ⟨gb253, 0, none⟩ = some (.int .i64 t247) := bC BK253.out 0 rfl
              have hcz177_1 : wc.cell? ⟨gb253, 1, none⟩ = some (.int .i64 t248) := bC BK253.out 1 rfl
              have hcz177_2 : wc.cell? ⟨gb253, 2, none⟩ = some (.int .i64 t249) := bC BK253.out 2 rfl
              have hcz177_3 : wc.cell? ⟨gb253, 3, none⟩ = some (.string t250) := bC BK253.out 3 rfl
              have hcz177_4 : wc.cell? ⟨gb253, 4, none⟩ = some (.string t251) := bC BK253.out 4 rfl
              have hcz177_5 : wc.cell? ⟨gb253, 5, none⟩ = some (.int .i64 t252) := bC BK253.out 5 rfl
              have hfz177_0 := blk_frozen BK253.out 0
              have hfz177_1 := blk_frozen BK253.out 1
              have hfz177_2 := blk_frozen BK253.out 2
              have hfz177_3 := blk_frozen BK253.out 3
              have hfz177_4 := blk_frozen BK253.out 4
              have hfz177_5 := blk_frozen BK253.out 5
              go_wp2
              go_ret
              exact ⟨by first | rfl | (simp [errW_none, errW_some] <;> rfl) | (simp [*, errW_none, errW_some] <;> rfl), by repeat (first | (with_reducible first | exact HB.out | apply wA | apply wN | apply wD | refine bS ?_ GE245.out | refine bS ?_ GE246.out | refine bS ?_ GE253.out | refine bS ?_ GE262.out) | exact HB.out)⟩
             ·rw [if_neg c170] at H
              have c170b0 : t243.toList.isEmpty = false := by simpa using c170
              have c170b1 : (!t243.toList.isEmpty) = true := by simpa using c170
              have c170b2 : (t243.toList == ([] : List UInt8)) = false := beq_eq_false_iff_ne.mpr c170
              by_cases c178 : t251.toList = t243.toList
              ·rw [if_pos c178] at H
               have c178b0 : (t251.toList == t243.toList) = true := beq_iff_eq.mpr c178
               have c178b1 : (t251.toList != t243.toList) = false := bne_eq_false_iff_eq.mpr c178
               clear c178
               obtain rfl := Option.some.inj H
               have hnb179 := NB246_245.out
               have hnc179 := NB245_246.out
               have hnb180 := NB246_253.out
               have hnc180 := NB253_246.out
               have hnb181 := NB246_262.out
               have hnc181 := NB262_246.out
               have hcz182_0 : wc.cell? ⟨gb246, 0, none⟩ = some (.int .i64 t239) := bC BK246.out 0 rfl
               have hcz182_1 : wc.cell? ⟨gb246, 1, none⟩ = some (.int .i64 t240) := bC BK246.out 1 rfl
               have hcz182_2 : wc.cell? ⟨gb246, 2, none⟩ = some (.int .i64 t241) := bC BK246.out 2 rfl
               have hcz182_3 : wc.cell? ⟨gb246, 3, none⟩ = some (.string t242) := bC BK246.out 3 rfl
               have hcz182_4 : wc.cell? ⟨gb246, 4, none⟩ = some (.string t243) := bC BK246.out 4 rfl
               have hcz182_5 : wc.cell? ⟨gb246, 5, none⟩ = some (.int .i64 t244) := bC BK246.out 5 rfl
               have hfz182_0 := blk_frozen BK246.out 0
               have hfz182_1 := blk_frozen BK246.out 1
               have hfz182_2 := blk_frozen BK246.out 2
               have hfz182_3 := blk_frozen BK246.out 3
               have hfz182_4 := blk_frozen BK246.out 4
               have hfz182_5 := blk_frozen BK246.out 5
               have hnb183 := NB253_245.out
               have hnc183 := NB245_253.out
               have hnb184 := NB253_262.out
               have hnc184 := NB262_253.out
               have hcz185_0 : wc.cell? ⟨gb253, 0, none⟩ = some (.int .i64 t247) := bC BK253.out 0 rfl
               have hcz185_1 : wc.cell? ⟨gb253, 1, none⟩ = some (.int .i64 t248) := bC BK253.out 1 rfl
               have hcz185_2 : wc.cell? ⟨gb253, 2, none⟩ = some (.int .i64 t249) := bC BK253.out 2 rfl
               have hcz185_3 : wc.cell? ⟨gb253, 3, none⟩ = some (.string t250) := bC BK253.out 3 rfl
               have hcz185_4 : wc.cell? ⟨gb253, 4, none⟩ = some (.string t251) := bC BK253.out 4 rfl
               have hcz185_5 : wc.cell? ⟨gb253, 5, none⟩ = some (.int .i64 t252) := bC BK253.out 5 rfl
               have hfz185_0 := blk_frozen BK253.out 0
               have hfz185_1 := blk_frozen BK253.out 1
               have hfz185_2 := blk_frozen BK253.out 2
               have hfz185_3 := blk_frozen BK253.out 3
               have hfz185_4 := blk_frozen BK253.out 4
               have hfz185_5 := blk_frozen BK253.out 5
               go_wp2
               go_ret
               exact ⟨by first | rfl | (simp [errW_none, errW_some] <;> rfl) | (simp [*, errW_none, errW_some] <;> rfl), by repeat (first | (with_reducible first | exact HB.out | apply wA | apply wN | apply wD | refine bS ?_ GE245.out | refine bS ?_ GE246.out | refine bS ?_ GE253.out | refine bS ?_ GE262.out) | exact HB.out)⟩
              ·rw [if_neg c178] at H
               exact absurd H (by simp)
            ·rw [if_neg c169] at H
             have c169b0 : t242.toList.isEmpty = false := by simpa using c169
             have c169b1 : (!t242.toList.isEmpty) = true := by simpa using c169
             have c169b2 : (t242.toList == ([] : List UInt8)) = false := beq_eq_false_iff_ne.mpr c169
             by_cases c186 : t250.toList = t242.toList
             ·rw [if_pos c186] at H
              have c186b0 : (t250.toList == t242.toList) = true := beq_iff_eq.mpr c186
              have c186b1 : (t250.toList != t242.toList) = false := bne_eq_false_iff_eq.mpr c186
              clear c186
              by_cases c187 : t243.toList = ([] : List UInt8)
              ·rw [if_pos c187] at H
               have c187b0 : t243.toList.isEmpty = true := by rw [c187]; rfl
               have c187b1 : (!t243.toList.isEmpty) = false := by rw [c187]; rfl
               have c187b2 : (t243.toList == ([] : List UInt8)) = true := beq_iff_eq.mpr c187
               clear c187
               obtain rfl := Option.some.inj H
               have hnb188 := NB246_245.out
               have hnc188 := NB245_246.out
               have hnb189 := NB246_253.out
               have hnc189 := NB253_246.out
               have hnb190 := NB246_262.out
               have hnc190 := NB262_246.out
               have hcz191_0 : wc.cell? ⟨gb246, 0, none⟩ = some (.int .i64 t239) := bC BK246.out 0 rfl
               have hcz191_1 : wc.cell? ⟨gb246, 1, none⟩ = some (.int .i64 t240) := bC BK246.out 1 rfl
               have hcz191_2 : wc.cell? ⟨gb246, 2, none⟩ = some (.int .i64 t241) := bC BK246.out 2 rfl
               have hcz191_3 : wc.cell? ⟨gb246, 3, none⟩ = some (.string t242) := bC BK246.out 3 rfl
               have hcz191_4 : wc.cell? ⟨gb246, 4, none⟩ = some (.string t243) := bC BK246.out 4 rfl
               have hcz191_5 : wc.cell? ⟨gb246, 5, none⟩ = some (.int .i64 t244) := bC BK246.out 5 rfl
               have hfz191_0 := blk_frozen BK246.out 0
               have hfz191_1 := blk_frozen BK246.out 1
               have hfz191_2 := blk_frozen BK246.out 2
               have hfz191_3 := blk_frozen BK246.out 3
               have hfz191_4 := blk_frozen BK246.out 4
               have hfz191_5 := blk_frozen BK246.out 5
               have hnb192 := NB253_245.out
               have hnc192 := NB245_253.out
               have hnb193 := NB253_262.out
               have hnc193 := NB262_253.out
               have hcz194_0 : wc.cell? ⟨gb253, 0, none⟩ = some (.int .i64 t247) := bC BK253.out 0 rfl
               have hcz194_1 : wc.cell? ⟨gb253, 1, none⟩ = some (.int .i64 t248) := bC BK253.out 1 rfl
               have hcz194_2 : wc.cell? ⟨gb253, 2, none⟩ = some (.int .i64 t249) := bC BK253.out 2 rfl
               have hcz194_3 : wc.cell? ⟨gb253, 3, none⟩ = some (.string t250) := bC BK253.out 3 rfl
               have hcz194_4 : wc.cell? ⟨gb253, 4, none⟩ = some (.string t251) := bC BK253.out 4 rfl
               have hcz194_5 : wc.cell? ⟨gb253, 5, none⟩ = some (.int .i64 t252) := bC BK253.out 5 rfl
               have hfz194_0 := blk_frozen BK253.out 0
               have hfz194_1 := blk_frozen BK253.out 1
               have hfz194_2 := blk_frozen BK253.out 2
               have hfz194_3 := blk_frozen BK253.out 3
               have hfz194_4 := blk_frozen BK253.out 4
               have hfz194_5 := blk_frozen BK253.out 5
               go_wp2
               go_ret
               exact ⟨by first | rfl | (simp [errW_none, errW_some] <;> rfl) | (simp [*, errW_none, errW_some] <;> rfl), by repeat (first | (with_reducible first | exact HB.out | apply wA | apply wN | apply wD | refine bS ?_ GE245.out | refine bS ?_ GE246.out | refine bS ?_ GE253.out | refine bS ?_ GE262.out) | exact HB.out)⟩
              ·rw [if_neg c187] at H
               have c187b0 : t243.toList.isEmpty = false := by simpa using c187
               have c187b1 : (!t243.toList.isEmpty) = true := by simpa using c187
               have c187b2 : (t243.toList == ([] : List UInt8)) = false := beq_eq_false_iff_ne.mpr c187
               by_cases c195 : t251.toList = t243.toList
               ·rw [if_pos c195] at H
                have c195b0 : (t251.toList == t243.toList) = true := beq_iff_eq.mpr c195
                have c195b1 : (t251.toList != t243.toList) = false := bne_eq_false_iff_eq.mpr c195
                clear c195
                obtain rfl := Option.some.inj H
                have hnb196 := NB246_245.out
                have hnc196 := NB245_246.out
                have hnb197 := NB246_253.out
                have hnc197 := NB253_246.out
                have hnb198 := NB246_262.out
                have hnc198 := NB262_246.out
                have hcz199_0 : wc.cell? ⟨gb246, 0, none⟩ = some (.int .i64 t239) := bC BK246.out 0 rfl
                have hcz199_1 : wc.cell? ⟨gb246, 1, none⟩ = some (.int .i64 t240) := bC BK246.out 1 rfl
                have hcz199_2 : wc.cell? ⟨gb246, 2, none⟩ = some (.int .i64 t241) := bC BK246.out 2 rfl
                have hcz199_3 : wc.cell? ⟨gb246, 3, none⟩ = some (.string t242) := bC BK246.out 3 rfl
                have hcz199_4 : wc.cell? ⟨gb246, 4, none⟩ = some (.string t243) := bC BK246.out 4 rfl
                have hcz199_5 : wc.cell? ⟨gb246, 5, none⟩ = some (.int .i64 t244) := bC BK246.out 5 rfl
                have hfz199_0 := blk_frozen BK246.out 0
                have hfz199_1 := blk_frozen BK246.out 1
                have hfz199_2 := blk_frozen BK246.out 2
                have hfz199_3 := blk_frozen BK246.out 3
                have hfz199_4 := blk_frozen BK246.out 4
                have hfz199_5 := blk_frozen BK246.out 5
                have hnb200 := NB253_245.out
                have hnc200 := NB245_253.out
                have hnb201 := NB253_262.out
                have hnc201 := NB262_253.out
                have hcz202_0 : wc.cell? ⟨gb253, 0, none⟩ = some (.int .i64 t247) := bC BK253.out 0 rfl
                have hcz202_1 : wc.cell? ⟨gb253, 1, none⟩ = some (.int .i64 t248) := bC BK253.out 1 rfl
                have hcz202_2 : wc.cell? ⟨gb253, 2, none⟩ = some (.int .i64 t249) := bC BK253.out 2 rfl
                have hcz202_3 : wc.cell? ⟨gb253, 3, none⟩ = some (.string t250) := bC BK253.out 3 rfl
                have hcz202_4 : wc.cell? ⟨gb253, 4, none⟩ = some (.string t251) := bC BK253.out 4 rfl
                have hcz202_5 : wc.cell? ⟨gb253, 5, none⟩ = some (.int .i64 t252) := bC BK253.out 5 rfl
                have hfz202_0 := blk_frozen BK253.out 0
                have hfz202_1 := blk_frozen BK253.out 1
                have hfz202_2 := blk_frozen BK253.out 2
                have hfz202_3 := blk_frozen BK253.out 3
                have hfz202_4 := blk_frozen BK253.out 4
                have hfz202_5 := blk_frozen BK253.out 5
                go_wp2
                go_ret
                exact ⟨by first | rfl | (simp [errW_none, errW_some] <;> rfl) | (simp [*, errW_none, errW_some] <;> rfl), by repeat (first | (with_reducible first | exact HB.out | apply wA | apply wN | apply wD | refine bS ?_ GE245.out | refine bS ?_ GE246.out | refine bS ?_ GE253.out | refine bS ?_ GE262.out) | exact HB.out)⟩
               ·rw [if_neg c195] at H
                exact absurd H (by simp)
             ·rw [if_neg c186] at H
              exact absurd H (by simp)
           ·rw [if_neg c168] at H
            have c168b0 : (t239 == (-1)) = false := beq_eq_false_iff_ne.mpr c168
            have c168b1 : (t239 != (-1)) = true := bne_iff_ne.mpr c168
            by_cases c203 : t247 = t239
            ·rw [if_pos c203] at H
             have c203b0 : (t247 == t239) = true := beq_iff_eq.mpr c203
             have c203b1 : (t247 != t239) = false := bne_eq_false_iff_eq.mpr c203
             clear c203
             by_cases c204 : t248 = t240
             ·rw [if_pos c204] at H
              have c204b0 : (t248 == t240) = true := beq_iff_eq.mpr c204
              have c204b1 : (t248 != t240) = false := bne_eq_false_iff_eq.mpr c204
              clear c204
              by_cases c205 : t242.toList = ([] : List UInt8)
              ·rw [if_pos c205] at H
               have c205b0 : t242.toList.isEmpty = true := by rw [c205]; rfl
               have c205b1 : (!t242.toList.isEmpty) = false := by rw [c205]; rfl
               have c205b2 : (t242.toList == ([] : List UInt8)) = true := beq_iff_eq.mpr c205
               clear c205
               by_cases c206 : t243.toList = ([] : List UInt8)
               ·rw [if_pos c206] at H
                have c206b0 : t243.toList.isEmpty = true := by rw [c206]; rfl
                have c206b1 : (!t243.toList.isEmpty) = false := by rw [c206]; rfl
                have c206b2 : (t243.toList == ([] : List UInt8)) = true := beq_iff_eq.mpr c206
                clear c206
                obtain rfl := Option.some.inj H
                have hnb207 := NB246_245.out
                have hnc207 := NB245_246.out
                have hnb208 := NB246_253.out
                have hnc208 := NB253_246.out
                have hnb209 := NB246_262.out
                have hnc209 := NB262_246.out
                have hcz210_0 : wc.cell? ⟨gb246, 0, none⟩ = some (.int .i64 t239) := bC BK246.out 0 rfl
                have hcz210_1 : wc.cell? ⟨gb246, 1, none⟩ = some (.int .i64 t240) := bC BK246.out 1 rfl
                have hcz210_2 : wc.cell? ⟨gb246, 2, none⟩ = some (.int .i64 t241) := bC BK246.out 2 rfl
                have hcz210_3 : wc.cell? ⟨gb246, 3, none⟩ = some (.string t242) := bC BK246.out 3 rfl
                have hcz210_4 : wc.cell? ⟨gb246, 4, none⟩ = some (.string t243) := bC BK246.out 4 rfl
                have hcz210_5 : wc.cell? ⟨gb246, 5, none⟩ = some (.int .i64 t244) := bC BK246.out 5 rfl
                have hfz210_0 := blk_frozen BK246.out 0
                have hfz210_1 := blk_frozen BK246.out 1
                have hfz210_2 := blk_frozen BK246.out 2
                have hfz210_3 := blk_frozen BK246.out 3
                have hfz210_4 := blk_frozen BK246.out 4
                have hfz210_5 := blk_frozen BK246.out 5
                have hnb211 := NB253_245.out
                have hnc211 := NB245_253.out
                have hnb212 := NB253_262.out
                have hnc212 := NB262_253.out
                have hcz213_0 : wc.cell? ⟨gb253, 0, none⟩ = some (.int .i64 t247) := bC BK253.out 0 rfl
                have hcz213_1 : wc.cell? ⟨gb253, 1, none⟩ = some (.int .i64 t248) := bC BK253.out 1 rfl
                have hcz213_2 : wc.cell? ⟨gb253, 2, none⟩ = some (.int .i64 t249) := bC BK253.out 2 rfl
                have hcz213_3 : wc.cell? ⟨gb253, 3, none⟩ = some (.string t250) := bC BK253.out 3 rfl
                have hcz213_4 : wc.cell? ⟨gb253, 4, none⟩ = some (.string t251) := bC BK253.out 4 rfl
                have hcz213_5 : wc.cell? ⟨gb253, 5, none⟩ = some (.int .i64 t252) := bC BK253.out 5 rfl
                have hfz213_0 := blk_frozen BK253.out 0
                have hfz213_1 := blk_frozen BK253.out 1
                have hfz213_2 := blk_frozen BK253.out 2
                have hfz213_3 := blk_frozen BK253.out 3
                have hfz213_4 := blk_frozen BK253.out 4
                have hfz213_5 := blk_frozen BK253.out 5
                go_wp2
                go_ret
                exact ⟨by first | rfl | (simp [errW_none, errW_some] <;> rfl) | (simp [*, errW_none, errW_some] <;> rfl), by repeat (first | (with_reducible first | exact HB.out | apply wA | apply wN | apply wD | refine bS ?_ GE245.out | refine bS ?_ GE246.out | refine bS ?_ GE253.out | refine bS ?_ GE262.out) | exact HB.out)⟩
               ·rw [if_neg c206] at H
                have c206b0 : t243.toList.isEmpty = false := by simpa using c206
                have c206b1 : (!t243.toList.isEmpty) = true := by simpa using c206
                have c206b2 : (t243.toList == ([] : List UInt8)) = false := beq_eq_false_iff_ne.mpr c206
                by_cases c214 : t251.toList = t243.toList
                ·rw [if_pos c214] at H
                 have c214b0 : (t251.toList == t243.toList) = true := beq_iff_eq.mpr c214
                 have c214b1 : (t251.toList != t243.toList) = false := bne_eq_false_iff_eq.mpr c214
                 clear c214
                 obtain rfl := Option.some.inj H
                 have hnb215 := NB246_245.out
                 have hnc215 := NB245_246.out
                 have hnb216 := NB246_253.out
                 have hnc216 := NB253_246.out
                 have hnb217 := NB246_262.out
                 have hnc217 := NB262_246.out
                 have hcz218_0 : wc.cell? ⟨gb246, 0, none⟩ = some (.int .i64 t239) := bC BK246.out 0 rfl
                 have hcz218_1 : wc.cell? ⟨gb246, 1, none⟩ = some (.int .i64 t240) := bC BK246.out 1 rfl
                 have hcz218_2 : wc.cell? ⟨gb246, 2, none⟩ = some (.int .i64 t241) := bC BK246.out 2 rfl
                 have hcz218_3 : wc.cell? ⟨gb246, 3, none⟩ = some (.string t242) := bC BK246.out 3 rfl
                 have hcz218_4 : wc.cell? ⟨gb246, 4, none⟩ = some (.string t243) := bC BK246.out 4 rfl
                 have hcz218_5 : wc.cell? ⟨gb246, 5, none⟩ = some (.int .i64 t244) := bC BK246.out 5 rfl
                 have hfz218_0 := blk_frozen BK246.out 0
                 have hfz218_1 := blk_frozen BK246.out 1
                 have hfz218_2 := blk_frozen BK246.out 2
                 have hfz218_3 := blk_frozen BK246.out 3
                 have hfz218_4 := blk_frozen BK246.out 4
                 have hfz218_5 := blk_frozen BK246.out 5
                 have hnb219 := NB253_245.out
                 have hnc219 := NB245_253.out
                 have hnb220 := NB253_262.out
                 have hnc220 := NB262_253.out
                 have hcz221_0 : wc.cell? ⟨gb253, 0, none⟩ = some (.int .i64 t247) := bC BK253.out 0 rfl
                 have hcz221_1 : wc.cell? ⟨gb253, 1, none⟩ = some (.int .i64 t248) := bC BK253.out 1 rfl
                 have hcz221_2 : wc.cell? ⟨gb253, 2, none⟩ = some (.int .i64 t249) := bC BK253.out 2 rfl
                 have hcz221_3 : wc.cell? ⟨gb253, 3, none⟩ = some (.string t250) := bC BK253.out 3 rfl
                 have hcz221_4 : wc.cell? ⟨gb253, 4, none⟩ = some (.string t251) := bC BK253.out 4 rfl
                 have hcz221_5 : wc.cell? ⟨gb253, 5, none⟩ = some (.int .i64 t252) := bC BK253.out 5 rfl
                 have hfz221_0 := blk_frozen BK253.out 0
                 have hfz221_1 := blk_frozen BK253.out 1
                 have hfz221_2 := blk_frozen BK253.out 2
                 have hfz221_3 := blk_frozen BK253.out 3
                 have hfz221_4 := blk_frozen BK253.out 4
                 have hfz221_5 := blk_frozen BK253.out 5
                 go_wp2
                 go_ret
                 exact ⟨by first | rfl | (simp [errW_none, errW_some] <;> rfl) | (simp [*, errW_none, errW_some] <;> rfl), by repeat (first | (with_reducible first | exact HB.out | apply wA | apply wN | apply wD | refine bS ?_ GE245.out | refine bS ?_ GE246.out | refine bS ?_ GE253.out | refine bS ?_ GE262.out) | exact HB.out)⟩
                ·rw [if_neg c214] at H
                 exact absurd H (by simp)
              ·rw [if_neg c205] at H
               have c205b0 : t242.toList.isEmpty = false := by simpa using c205
               have c205b1 : (!t242.toList.isEmpty) = true := by simpa using c205
               have c205b2 : (t242.toList == ([] : List UInt8)) = false := beq_eq_false_iff_ne.mpr c205
               by_cases c222 : t250.toList = t242.toList
               ·rw [if_pos c222] at H
                have c222b0 : (t250.toList == t242.toList) = true := beq_iff_eq.mpr c222
                have c222b1 : (t250.toList != t242.toList) = false := bne_eq_false_iff_eq.mpr c222
                clear c222
                by_cases c223 : t243.toList = ([] : List UInt8)
                ·rw [if_pos c223] at H
                 have c223b0 : t243.toList.isEmpty = true := by rw [c223]; rfl
                 have c223b1 : (!t243.toList.isEmpty) = false := by rw [c223]; rfl
                 have c223b2 : (t243.toList == ([] : List UInt8)) = true := beq_iff_eq.mpr c223
                 clear c223
                 obtain rfl := Option.some.inj H
                 have hnb224 := NB246_245.out
                 have hnc224 := NB245_246.out
                 have hnb225 := NB246_253.out
                 have hnc225 := NB253_246.out
                 have hnb226 := NB246_262.out
                 have hnc226 := NB262_246.out
                 have hcz227_0 : wc.cell? ⟨gb246, 0, none⟩ = some (.int .i64 t239) := bC BK246.out 0 rfl
                 have hcz227_1 : wc.cell? ⟨gb246, 1, none⟩ = some (.int .i64 t240) := bC BK246.out 1 rfl
                 have hcz227_2 : wc.cell? ⟨gb246, 2, none⟩ = some (.int .i64 t241) := bC BK246.out 2 rfl
                 have hcz227_3 : wc.cell? ⟨gb246, 3, none⟩ = some (.string t242) := bC BK246.out 3 rfl
                 have hcz227_4 : wc.cell? ⟨gb246, 4, none⟩ = some (.string t243) := bC BK246.out 4 rfl
                 have hcz227_5 : wc.cell? ⟨gb246, 5, none⟩ = some (.int .i64 t244) := bC BK246.out 5 rfl
                 have hfz227_0 := blk_frozen BK246.out 0
                 have hfz227_1 := blk_frozen BK246.out 1
                 have hfz227_2 := blk_frozen BK246.out 2
                 have hfz227_3 := blk_frozen BK246.out 3
                 have hfz227_4 := blk_frozen BK246.out 4
                 have hfz227_5 := blk_frozen BK246.out 5
                 have hnb228 := NB253_245.out
                 have hnc228 := NB245_253.out
                 have hnb229 := NB253_262.out
                 have hnc229 := NB262_253.out
                 have hcz230_0 : wc.cell? ⟨gb253, 0, none⟩ = some (.int .i64 t247) := bC BK253.out 0 rfl
                 have hcz230_1 : wc.cell? ⟨gb253, 1, none⟩ = some (.int .i64 t248) := bC BK253.out 1 rfl
                 have hcz230_2 : wc.cell? ⟨gb253, 2, none⟩ = some (.int .i64 t249) := bC BK253.out 2 rfl
                 have hcz230_3 : wc.cell? ⟨gb253, 3, none⟩ = some (.string t250) := bC BK253.out 3 rfl
                 have hcz230_4 : wc.cell? ⟨gb253, 4, none⟩ = some (.string t251) := bC BK253.out 4 rfl
                 have hcz230_5 : wc.cell? ⟨gb253, 5, none⟩ = some (.int .i64 t252) := bC BK253.out 5 rfl
                 have hfz230_0 := blk_frozen BK253.out 0
                 have hfz230_1 := blk_frozen BK253.out 1
                 have hfz230_2 := blk_frozen BK253.out 2
                 have hfz230_3 := blk_frozen BK253.out 3
                 have hfz230_4 := blk_frozen BK253.out 4
                 have hfz230_5 := blk_frozen BK253.out 5
                 go_wp2
                 go_ret
                 exact ⟨by first | rfl | (simp [errW_none, errW_some] <;> rfl) | (simp [*, errW_none, errW_some] <;> rfl), by repeat (first | (with_reducible first | exact HB.out | apply wA | apply wN | apply wD | refine bS ?_ GE245.out | refine bS ?_ GE246.out | refine bS ?_ GE253.out | refine bS ?_ GE262.out) | exact HB.out)⟩
                ·rw [if_neg c223] at H
                 have c223b0 : t243.toList.isEmpty = false := by simpa using c223
                 have c223b1 : (!t243.toList.isEmpty) = true := by simpa using c223
                 have c223b2 : (t243.toList == ([] : List UInt8)) = false := beq_eq_false_iff_ne.mpr c223
                 by_cases c231 : t251.toList = t243.toList
                 ·rw [if_pos c231] at H
                  have c231b0 : (t251.toList == t243.toList) = true := beq_iff_eq.mpr c231
                  have c231b1 : (t251.toList != t243.toList) = false := bne_eq_false_iff_eq.mpr c231
                  clear c231
                  obtain rfl := Option.some.inj H
                  have hnb232 := NB246_245.out
                  have hnc232 := NB245_246.out
                  have hnb233 := NB246_253.out
                  have hnc233 := NB253_246.out
                  have hnb234 := NB246_262.out
                  have hnc234 := NB262_246.out
                  have hcz235_0 : wc.cell? ⟨gb246, 0, none⟩ = some (.int .i64 t239) := bC BK246.out 0 rfl
                  have hcz235_1 : wc.cell? ⟨gb246, 1, none⟩ = some (.int .i64 t240) := bC BK246.out 1 rfl
                  have hcz235_2 : wc.cell? ⟨gb246, 2, none⟩ = some (.int .i64 t241) := bC BK246.out 2 rfl
                  have hcz235_3 : wc.cell? ⟨gb246, 3, none⟩ = some (.string t242) := bC BK246.out 3 rfl
                  have hcz235_4 : wc.cell? ⟨gb246, 4, none⟩ = some (.string t243) := bC BK246.out 4 rfl
                  have hcz235_5 : wc.cell? ⟨gb246, 5, none⟩ = some (.int .i64 t244) := bC BK246.out 5 rfl
                  have hfz235_0 := blk_frozen BK246.out 0
                  have hfz235_1 := blk_frozen BK246.out 1
                  have hfz235_2 := blk_frozen BK246.out 2
                  have hfz235_3 := blk_frozen BK246.out 3
                  have hfz235_4 := blk_frozen BK246.out 4
                  have hfz235_5 := blk_frozen BK246.out 5
                  have hnb236 := NB253_245.out
                  have hnc236 := NB245_253.out
                  have hnb237 := NB253_262.out
                  have hnc237 := NB262_253.out
                  have hcz238_0 : wc.cell? ⟨gb253, 0, none⟩ = some (.int .i64 t247) := bC BK253.out 0 rfl
                  have hcz238_1 : wc.cell? ⟨gb253, 1, none⟩ = some (.int .i64 t248) := bC BK253.out 1 rfl
                  have hcz238_2 : wc.cell? ⟨gb253, 2, none⟩ = some (.int .i64 t249) := bC BK253.out 2 rfl
                  have hcz238_3 : wc.cell? ⟨gb253, 3, none⟩ = some (.string t250) := bC BK253.out 3 rfl
                  have hcz238_4 : wc.cell? ⟨gb253, 4, none⟩ = some (.string t251) := bC BK253.out 4 rfl
                  have hcz238_5 : wc.cell? ⟨gb253, 5, none⟩ = some (.int .i64 t252) := bC BK253.out 5 rfl
                  have hfz238_0 := blk_frozen BK253.out 0
                  have hfz238_1 := blk_frozen BK253.out 1
                  have hfz238_2 := blk_frozen BK253.out 2
                  have hfz238_3 := blk_frozen BK253.out 3
                  have hfz238_4 := blk_frozen BK253.out 4
                  have hfz238_5 := blk_frozen BK253.out 5
                  go_wp2
                  go_ret
                  exact ⟨by first | rfl | (simp [errW_none, errW_some] <;> rfl) | (simp [*, errW_none, errW_some] <;> rfl), by repeat (first | (with_reducible first | exact HB.out | apply wA | apply wN | apply wD | refine bS ?_ GE245.out | refine bS ?_ GE246.out | refine bS ?_ GE253.out | refine bS ?_ GE262.out) | exact HB.out)⟩
                 ·rw [if_neg c231] at H
                  exact absurd H (by simp)
               ·rw [if_neg c222] at H
                exact absurd H (by simp)
             ·rw [if_neg c204] at H
              exact absurd H (by simp)
            ·rw [if_neg c203] at H
             exact absurd H (by simp)
          ·rw [if_neg c167] at H
           exact absurd H (by simp)

/-- THE ONE PURE STATEMENT of laws_FnLaid: yours. -/
def laws_FnLaid.Pure : Prop := ∀ (l0 : List Int), l0.length ≤ 9223372036854775807 → (∀ x ∈ l0, (Lit.int .u8 x).wf = true) → ∃ k, laws_FnLaid.f k l0 [[(⟨#[78, 83, 87]⟩ : ByteArray), (⟨#[82, 65]⟩ : ByteArray), (⟨#[45, 82, 65]⟩ : ByteArray), (⟨#[43, 82, 65]⟩ : ByteArray), (⟨#[83, 78]⟩ : ByteArray), (⟨#[45, 83, 78]⟩ : ByteArray), (⟨#[43, 83, 78]⟩ : ByteArray), (⟨#[84, 83, 82, 65]⟩ : ByteArray), (⟨#[70, 71]⟩ : ByteArray), (⟨#[66, 82]⟩ : ByteArray)]] [[(⟨#[70, 69, 87]⟩ : ByteArray), (⟨#[83, 67, 84]⟩ : ByteArray), (⟨#[66, 75, 78]⟩ : ByteArray), (⟨#[79, 86, 67]⟩ : ByteArray)]] = some true

end Go.Proofs.YtcdghhihfjojaabDoor.Q
