/- Plain Lean functions with the same answers as the Go functions of this seat, and a proof for each that the Go code comes to just these answers; no condition. Written by a program of this session (the kit's printer, turned). -/
import Derived.Test.YtcdghhihfjojaabQx0
import Derived.Test.YtcdghhihfjojaabQx11
import Derived.Test.YtcdghhihfjojaabQx12
import Derived.Test.YtcdghhihfjojaabQx13
namespace Go.Proofs.Ytcdghhihfjojaab.Q
open Go.RowKit Go.Proofs.YtcdghhihfjojaabW.PrintWords Go.Proofs.YtcdghhihfjojaabW.PrintLast Go.Proofs.YtcdghhihfjojaabW.PrintMore Go.Proofs.YtcdghhihfjojaabW.PrintFlt
attribute [local go_sem] cmp_lss cmp_leq cmp_gtr cmp_geq cmp_eql cmp_neq flt_l flt_r fgt_l fgt_r feq_l feq_r fne_l fne_r ord_lt ord_gt ord_eq ord_ne conv_int conv_flt foi_fold run_store_flt
attribute [local go_sem] max2_int min2_int max_two min_two max_three min_three max_four min_four   -- for this text's walks alone
set_option linter.unusedVariables false
set_option linter.unusedSimpArgs false

/-! ### impl_Drain: function 21 -/
mutual
def impl_Drain.l0 : Nat → Int → List Int → List Int → List Bool → List Int → Int → Int → Int → List Int → Option (List Int × List Int)
 | 0, _, _, _, _, _, _, _, _, _ => none
 | k + 1, x4, x5, x6, x7, x8, x9, x186000, x186001, x186002 => if x9 < x4 then (if x186001 = 0 then (none) else (if (wrap64 (Int.tdiv x9 x186001)) = 0 then (impl_Drain.j1 k x4 x5 x6 x7 x8 x9 true x186000 x186001 x186002) else (if (Int.tmod x9 x186001) = 0 then (impl_Drain.j1 k x4 x5 x6 x7 x8 x9 true x186000 x186001 x186002) else (if (wrap64 (Int.tdiv x9 x186001)) = (wrap64 (x186000 - 1)) then (impl_Drain.j1 k x4 x5 x6 x7 x8 x9 true x186000 x186001 x186002) else (impl_Drain.j1 k x4 x5 x6 x7 x8 x9 ((Int.tmod x9 x186001) == (wrap64 (x186001 - 1))) x186000 x186001 x186002))))) else (impl_Drain.l1 k x5 x6 x7 x8 x186000 x186001 x186002)
def impl_Drain.j1 : Nat → Int → List Int → List Int → List Bool → List Int → Int → Bool → Int → Int → List Int → Option (List Int × List Int)
 | 0, _, _, _, _, _, _, _, _, _, _ => none
 | k + 1, x4, x5, x6, x7, x8, x9, x71, x186000, x186001, x186002 => if x71 = true then (if x8.length < 17592186044416 then (if 0 ≤ x9 then (if x9 < (x186002.length : Int) then (if x9 < (x7.length : Int) then (if x9 < (x5.length : Int) then (if x9 < (x6.length : Int) then (impl_Drain.l0 k x4 (x5.set (x9 : Int).toNat (rd x186002 x9)) (x6.set (x9 : Int).toNat (-1)) (x7.set (x9 : Int).toNat true) (x8 ++ [x9]) (wrap64 (x9 + 1)) x186000 x186001 x186002) else (none)) else (none)) else (none)) else (none)) else (none)) else (none)) else (impl_Drain.l0 k x4 x5 x6 x7 x8 (wrap64 (x9 + 1)) x186000 x186001 x186002)
def impl_Drain.l1 : Nat → List Int → List Int → List Bool → List Int → Int → Int → List Int → Option (List Int × List Int)
 | 0, _, _, _, _, _, _, _ => none
 | k + 1, x5, x6, x7, x8, x186000, x186001, x186002 => if (x8.length : Int) > 0 then (impl_Drain.l2 k x5 x6 x7 x8 0 x8 (x8.length : Int) 0 x186000 x186001 x186002) else (some (x5, x6))
def impl_Drain.l2 : Nat → List Int → List Int → List Bool → List Int → Int → List Int → Int → Int → Int → Int → List Int → Option (List Int × List Int)
 | 0, _, _, _, _, _, _, _, _, _, _, _ => none
 | k + 1, x5, x6, x7, x8, x12, x93, x94, x95, x186000, x186001, x186002 => if x95 < x94 then (if 0 ≤ x95 then (if x95 < (x93.length : Int) then (if 0 ≤ x12 then (if x12 < (x8.length : Int) then (if 0 ≤ (rd x93 x95) then (if (rd x93 x95) < (x5.length : Int) then (if 0 ≤ (rd x8 x12) then (if (rd x8 x12) < (x5.length : Int) then (if (rd x5 (rd x93 x95)) < (rd x5 (rd x8 x12)) then (impl_Drain.j4 k x5 x6 x7 x8 x12 x95 x93 x94 x95 true x186000 x186001 x186002) else (if (rd x5 (rd x93 x95)) = (rd x5 (rd x8 x12)) then (impl_Drain.j4 k x5 x6 x7 x8 x12 x95 x93 x94 x95 (decide ((rd x93 x95) < (rd x8 x12))) x186000 x186001 x186002) else (impl_Drain.j4 k x5 x6 x7 x8 x12 x95 x93 x94 x95 false x186000 x186001 x186002))) else (none)) else (none)) else (none)) else (none)) else (none)) else (none)) else (none)) else (none)) else (if 0 ≤ x12 then (if x12 < (x8.length : Int) then ((slices_Delete_int64_int64.f x8 x12 (wrap64 (x12 + 1))).bind fun t213 => (if x186001 = 0 then (none) else ((some (([(⟨1, 0⟩ : S60), (⟨0, 1⟩ : S60), (⟨(-1), 0⟩ : S60), (⟨0, (-1)⟩ : S60)] : List (S60)) : List (S60))).bind fun y216 => (impl_Drain.l3 k x5 x6 x7 t213 (rd x8 x12) (wrap64 (Int.tdiv (rd x8 x12) x186001)) (Int.tmod (rd x8 x12) x186001) y216 (y216.length : Int) 0 x186000 x186001 x186002)))) else (none)) else (none))
def impl_Drain.j4 : Nat → List Int → List Int → List Bool → List Int → Int → Int → List Int → Int → Int → Bool → Int → Int → List Int → Option (List Int × List Int)
 | 0, _, _, _, _, _, _, _, _, _, _, _, _, _ => none
 | k + 1, x5, x6, x7, x8, x12, x13, x93, x94, x95, x128, x186000, x186001, x186002 => if x128 = true then (impl_Drain.l2 k x5 x6 x7 x8 x13 x93 x94 (wrap64 (x95 + 1)) x186000 x186001 x186002) else (impl_Drain.l2 k x5 x6 x7 x8 x12 x93 x94 (wrap64 (x95 + 1)) x186000 x186001 x186002)
def impl_Drain.l3 : Nat → List Int → List Int → List Bool → List Int → Int → Int → Int → List (S60) → Int → Int → Int → Int → List Int → Option (List Int × List Int)
 | 0, _, _, _, _, _, _, _, _, _, _, _, _, _ => none
 | k + 1, x5, x6, x7, x8, x16, x17, x18, x152, x153, x154, x186000, x186001, x186002 => if x154 < x153 then (if 0 ≤ x154 then (if x154 < (x152.length : Int) then ((impl_in.f (wrap64 (x17 + ((rd_T60 x152 x154).f0))) 0 (wrap64 (x186000 - 1))).bind fun t221 => (if t221 = true then ((impl_in.f (wrap64 (x18 + ((rd_T60 x152 x154).f1))) 0 (wrap64 (x186001 - 1))).bind fun t222 => (impl_Drain.j6 k x5 x6 x7 x8 x16 x17 x18 (wrap64 (x17 + ((rd_T60 x152 x154).f0))) (wrap64 (x18 + ((rd_T60 x152 x154).f1))) x152 x153 x154 (!t222) x186000 x186001 x186002)) else (impl_Drain.j6 k x5 x6 x7 x8 x16 x17 x18 (wrap64 (x17 + ((rd_T60 x152 x154).f0))) (wrap64 (x18 + ((rd_T60 x152 x154).f1))) x152 x153 x154 true x186000 x186001 x186002))) else (none)) else (none)) else (impl_Drain.l1 k x5 x6 x7 x8 x186000 x186001 x186002)
def impl_Drain.j6 : Nat → List Int → List Int → List Bool → List Int → Int → Int → Int → Int → Int → List (S60) → Int → Int → Bool → Int → Int → List Int → Option (List Int × List Int)
 | 0, _, _, _, _, _, _, _, _, _, _, _, _, _, _, _, _ => none
 | k + 1, x5, x6, x7, x8, x16, x17, x18, x21, x22, x152, x153, x154, x179, x186000, x186001, x186002 => if x179 = true then (impl_Drain.l3 k x5 x6 x7 x8 x16 x17 x18 x152 x153 (wrap64 (x154 + 1)) x186000 x186001 x186002) else (if 0 ≤ (wrap64 ((wrap64 (x21 * x186001)) + x22)) then (if (wrap64 ((wrap64 (x21 * x186001)) + x22)) < (x7.length : Int) then (if rdOf false x7 (wrap64 ((wrap64 (x21 * x186001)) + x22)) = true then (impl_Drain.l3 k x5 x6 x7 x8 x16 x17 x18 x152 x153 (wrap64 (x154 + 1)) x186000 x186001 x186002) else (if (wrap64 ((wrap64 (x21 * x186001)) + x22)) < (x186002.length : Int) then (if 0 ≤ x16 then (if x16 < (x5.length : Int) then (if (wrap64 ((wrap64 (x21 * x186001)) + x22)) < (x5.length : Int) then (if (wrap64 ((wrap64 (x21 * x186001)) + x22)) < (x6.length : Int) then (if x8.length < 17592186044416 then (impl_Drain.l3 k (x5.set ((wrap64 ((wrap64 (x21 * x186001)) + x22)) : Int).toNat (mx (rd x186002 (wrap64 ((wrap64 (x21 * x186001)) + x22))) (rd x5 x16))) (x6.set ((wrap64 ((wrap64 (x21 * x186001)) + x22)) : Int).toNat x16) (x7.set ((wrap64 ((wrap64 (x21 * x186001)) + x22)) : Int).toNat true) (x8 ++ [wrap64 ((wrap64 (x21 * x186001)) + x22)]) x16 x17 x18 x152 x153 (wrap64 (x154 + 1)) x186000 x186001 x186002) else (none)) else (none)) else (none)) else (none)) else (none)) else (none))) else (none)) else (none))
end
def impl_Drain.f (k : Nat) (a0_0 : Int) (a0_1 : Int) (l0_2 : List Int) : Option (List Int × List Int) := (impl_BoxOk.f k a0_0 a0_1 l0_2).bind fun t186 => (if t186 = true then (if 0 ≤ (wrap64 (a0_0 * a0_1)) then (if (wrap64 (a0_0 * a0_1) : Int).toNat ≤ 35184372088832 then (if (wrap64 (a0_0 * a0_1) : Int).toNat ≤ 281474976710656 then (impl_Drain.l0 k (wrap64 (a0_0 * a0_1)) (List.replicate (wrap64 (a0_0 * a0_1) : Int).toNat 0) (List.replicate (wrap64 (a0_0 * a0_1) : Int).toNat 0) (List.replicate (wrap64 (a0_0 * a0_1) : Int).toNat false) (([] : List Int)) 0 a0_0 a0_1 l0_2) else (none)) else (none)) else (none)) else (some (([] : List Int), ([] : List Int))))
theorem impl_Drain.mono_l : ∀ k, (∀ y0 y1 y2 y3 y4 y5 y6 y7 y8, LeO (impl_Drain.l0 k y0 y1 y2 y3 y4 y5 y6 y7 y8) (impl_Drain.l0 (k + 1) y0 y1 y2 y3 y4 y5 y6 y7 y8)) ∧ (∀ y0 y1 y2 y3 y4 y5 y6 y7 y8 y9, LeO (impl_Drain.j1 k y0 y1 y2 y3 y4 y5 y6 y7 y8 y9) (impl_Drain.j1 (k + 1) y0 y1 y2 y3 y4 y5 y6 y7 y8 y9)) ∧ (∀ y0 y1 y2 y3 y4 y5 y6, LeO (impl_Drain.l1 k y0 y1 y2 y3 y4 y5 y6) (impl_Drain.l1 (k + 1) y0 y1 y2 y3 y4 y5 y6)) ∧ (∀ y0 y1 y2 y3 y4 y5 y6 y7 y8 y9 y10, LeO (impl_Drain.l2 k y0 y1 y2 y3 y4 y5 y6 y7 y8 y9 y10) (impl_Drain.l2 (k + 1) y0 y1 y2 y3 y4 y5 y6 y7 y8 y9 y10)) ∧ (∀ y0 y1 y2 y3 y4 y5 y6 y7 y8 y9 y10 y11 y12, LeO (impl_Drain.j4 k y0 y1 y2 y3 y4 y5 y6 y7 y8 y9 y10 y11 y12) (impl_Drain.j4 (k + 1) y0 y1 y2 y3 y4 y5 y6 y7 y8 y9 y10 y11 y12)) ∧ (∀ y0 y1 y2 y3 y4 y5 y6 y7 y8 y9 y10 y11 y12, LeO (impl_Drain.l3 k y0 y1 y2 y3 y4 y5 y6 y7 y8 y9 y10 y11 y12) (impl_Drain.l3 (k + 1) y0 y1 y2 y3 y4 y5 y6 y7 y8 y9 y10 y11 y12)) ∧ (∀ y0 y1 y2 y3 y4 y5 y6 y7 y8 y9 y10 y11 y12 y13 y14 y15, LeO (impl_Drain.j6 k y0 y1 y2 y3 y4 y5 y6 y7 y8 y9 y10 y11 y12 y13 y14 y15) (impl_Drain.j6 (k + 1) y0 y1 y2 y3 y4 y5 y6 y7 y8 y9 y10 y11 y12 y13 y14 y15))
 | 0 => ⟨fun _ _ _ _ _ _ _ _ _ r h => by simp [impl_Drain.l0] at h, fun _ _ _ _ _ _ _ _ _ _ r h => by simp [impl_Drain.j1] at h, fun _ _ _ _ _ _ _ r h => by simp [impl_Drain.l1] at h, fun _ _ _ _ _ _ _ _ _ _ _ r h => by simp [impl_Drain.l2] at h, fun _ _ _ _ _ _ _ _ _ _ _ _ _ r h => by simp [impl_Drain.j4] at h, fun _ _ _ _ _ _ _ _ _ _ _ _ _ r h => by simp [impl_Drain.l3] at h, fun _ _ _ _ _ _ _ _ _ _ _ _ _ _ _ _ r h => by simp [impl_Drain.j6] at h⟩
 | k + 1 => by
  obtain ⟨ih0, ih1, ih2, ih3, ih4, ih5, ih6⟩ := impl_Drain.mono_l k
  refine ⟨?_, ?_, ?_, ?_, ?_, ?_, ?_⟩
  ·intro y0 y1 y2 y3 y4 y5 y6 y7 y8
   unfold impl_Drain.l0
   repeat' first
   | (with_reducible exact ih0 _ _ _ _ _ _ _ _ _)
   | (with_reducible exact ih1 _ _ _ _ _ _ _ _ _ _)
   | (with_reducible exact ih2 _ _ _ _ _ _ _)
   | (with_reducible exact ih3 _ _ _ _ _ _ _ _ _ _ _)
   | (with_reducible exact ih4 _ _ _ _ _ _ _ _ _ _ _ _ _)
   | (with_reducible exact ih5 _ _ _ _ _ _ _ _ _ _ _ _ _)
   | (with_reducible exact ih6 _ _ _ _ _ _ _ _ _ _ _ _ _ _ _ _)
   | (with_reducible exact impl_BoxOk.mono _ _ _ _)
   | (with_reducible exact LeO.refl _)
   | (with_reducible exact LeO.none _)
   | (with_reducible refine LeO.ite ?_ ?_)
   | (with_reducible refine LeO.bind ?_ (fun _ => ?_))
   | exact ih0 _ _ _ _ _ _ _ _ _
   | exact ih1 _ _ _ _ _ _ _ _ _ _
   | exact ih2 _ _ _ _ _ _ _
   | exact ih3 _ _ _ _ _ _ _ _ _ _ _
   | exact ih4 _ _ _ _ _ _ _ _ _ _ _ _ _
   | exact ih5 _ _ _ _ _ _ _ _ _ _ _ _ _
   | exact ih6 _ _ _ _ _ _ _ _ _ _ _ _ _ _ _ _
   | exact impl_BoxOk.mono _ _ _ _
   | exact LeO.none _
   | refine LeO.ite ?_ ?_
   | refine LeO.bind ?_ (fun _ => ?_)
  ·intro y0 y1 y2 y3 y4 y5 y6 y7 y8 y9
   unfold impl_Drain.j1
   repeat' first
   | (with_reducible exact ih0 _ _ _ _ _ _ _ _ _)
   | (with_reducible exact ih1 _ _ _ _ _ _ _ _ _ _)
   | (with_reducible exact ih2 _ _ _ _ _ _ _)
   | (with_reducible exact ih3 _ _ _ _ _ _ _ _ _ _ _)
   | (with_reducible exact ih4 _ _ _ _ _ _ _ _ _ _ _ _ _)
   | (with_reducible exact ih5 _ _ _ _ _ _ _ _ _ _ _ _ _)
   | (with_reducible exact ih6 _ _ _ _ _ _ _ _ _ _ _ _ _ _ _ _)
   | (with_reducible exact impl_BoxOk.mono _ _ _ _)
   | (with_reducible exact LeO.refl _)
   | (with_reducible exact LeO.none _)
   | (with_reducible refine LeO.ite ?_ ?_)
   | (with_reducible refine LeO.bind ?_ (fun _ => ?_))
   | exact ih0 _ _ _ _ _ _ _ _ _
   | exact ih1 _ _ _ _ _ _ _ _ _ _
   | exact ih2 _ _ _ _ _ _ _
   | exact ih3 _ _ _ _ _ _ _ _ _ _ _
   | exact ih4 _ _ _ _ _ _ _ _ _ _ _ _ _
   | exact ih5 _ _ _ _ _ _ _ _ _ _ _ _ _
   | exact ih6 _ _ _ _ _ _ _ _ _ _ _ _ _ _ _ _
   | exact impl_BoxOk.mono _ _ _ _
   | exact LeO.none _
   | refine LeO.ite ?_ ?_
   | refine LeO.bind ?_ (fun _ => ?_)
  ·intro y0 y1 y2 y3 y4 y5 y6
   unfold impl_Drain.l1
   repeat' first
   | (with_reducible exact ih0 _ _ _ _ _ _ _ _ _)
   | (with_reducible exact ih1 _ _ _ _ _ _ _ _ _ _)
   | (with_reducible exact ih2 _ _ _ _ _ _ _)
   | (with_reducible exact ih3 _ _ _ _ _ _ _ _ _ _ _)
   | (with_reducible exact ih4 _ _ _ _ _ _ _ _ _ _ _ _ _)
   | (with_reducible exact ih5 _ _ _ _ _ _ _ _ _ _ _ _ _)
   | (with_reducible exact ih6 _ _ _ _ _ _ _ _ _ _ _ _ _ _ _ _)
   | (with_reducible exact impl_BoxOk.mono _ _ _ _)
   | (with_reducible exact LeO.refl _)
   | (with_reducible exact LeO.none _)
   | (with_reducible refine LeO.ite ?_ ?_)
   | (with_reducible refine LeO.bind ?_ (fun _ => ?_))
   | exact ih0 _ _ _ _ _ _ _ _ _
   | exact ih1 _ _ _ _ _ _ _ _ _ _
   | exact ih2 _ _ _ _ _ _ _
   | exact ih3 _ _ _ _ _ _ _ _ _ _ _
   | exact ih4 _ _ _ _ _ _ _ _ _ _ _ _ _
   | exact ih5 _ _ _ _ _ _ _ _ _ _ _ _ _
   | exact ih6 _ _ _ _ _ _ _ _ _ _ _ _ _ _ _ _
   | exact impl_BoxOk.mono _ _ _ _
   | exact LeO.none _
   | refine LeO.ite ?_ ?_
   | refine LeO.bind ?_ (fun _ => ?_)
  ·intro y0 y1 y2 y3 y4 y5 y6 y7 y8 y9 y10
   unfold impl_Drain.l2
   repeat' first
   | (with_reducible exact ih0 _ _ _ _ _ _ _ _ _)
   | (with_reducible exact ih1 _ _ _ _ _ _ _ _ _ _)
   | (with_reducible exact ih2 _ _ _ _ _ _ _)
   | (with_reducible exact ih3 _ _ _ _ _ _ _ _ _ _ _)
   | (with_reducible exact ih4 _ _ _ _ _ _ _ _ _ _ _ _ _)
   | (with_reducible exact ih5 _ _ _ _ _ _ _ _ _ _ _ _ _)
   | (with_reducible exact ih6 _ _ _ _ _ _ _ _ _ _ _ _ _ _ _ _)
   | (with_reducible exact impl_BoxOk.mono _ _ _ _)
   | (with_reducible exact LeO.refl _)
   | (with_reducible exact LeO.none _)
   | (with_reducible refine LeO.ite ?_ ?_)
   | (with_reducible refine LeO.bind ?_ (fun _ => ?_))
   | exact ih0 _ _ _ _ _ _ _ _ _
   | exact ih1 _ _ _ _ _ _ _ _ _ _
   | exact ih2 _ _ _ _ _ _ _
   | exact ih3 _ _ _ _ _ _ _ _ _ _ _
   | exact ih4 _ _ _ _ _ _ _ _ _ _ _ _ _
   | exact ih5 _ _ _ _ _ _ _ _ _ _ _ _ _
   | exact ih6 _ _ _ _ _ _ _ _ _ _ _ _ _ _ _ _
   | exact impl_BoxOk.mono _ _ _ _
   | exact LeO.none _
   | refine LeO.ite ?_ ?_
   | refine LeO.bind ?_ (fun _ => ?_)
  ·intro y0 y1 y2 y3 y4 y5 y6 y7 y8 y9 y10 y11 y12
   unfold impl_Drain.j4
   repeat' first
   | (with_reducible exact ih0 _ _ _ _ _ _ _ _ _)
   | (with_reducible exact ih1 _ _ _ _ _ _ _ _ _ _)
   | (with_reducible exact ih2 _ _ _ _ _ _ _)
   | (with_reducible exact ih3 _ _ _ _ _ _ _ _ _ _ _)
   | (with_reducible exact ih4 _ _ _ _ _ _ _ _ _ _ _ _ _)
   | (with_reducible exact ih5 _ _ _ _ _ _ _ _ _ _ _ _ _)
   | (with_reducible exact ih6 _ _ _ _ _ _ _ _ _ _ _ _ _ _ _ _)
   | (with_reducible exact impl_BoxOk.mono _ _ _ _)
   | (with_reducible exact LeO.refl _)
   | (with_reducible exact LeO.none _)
   | (with_reducible refine LeO.ite ?_ ?_)
   | (with_reducible refine LeO.bind ?_ (fun _ => ?_))
   | exact ih0 _ _ _ _ _ _ _ _ _
   | exact ih1 _ _ _ _ _ _ _ _ _ _
   | exact ih2 _ _ _ _ _ _ _
   | exact ih3 _ _ _ _ _ _ _ _ _ _ _
   | exact ih4 _ _ _ _ _ _ _ _ _ _ _ _ _
   | exact ih5 _ _ _ _ _ _ _ _ _ _ _ _ _
   | exact ih6 _ _ _ _ _ _ _ _ _ _ _ _ _ _ _ _
   | exact impl_BoxOk.mono _ _ _ _
   | exact LeO.none _
   | refine LeO.ite ?_ ?_
   | refine LeO.bind ?_ (fun _ => ?_)
  ·intro y0 y1 y2 y3 y4 y5 y6 y7 y8 y9 y10 y11 y12
   unfold impl_Drain.l3
   repeat' first
   | (with_reducible exact ih0 _ _ _ _ _ _ _ _ _)
   | (with_reducible exact ih1 _ _ _ _ _ _ _ _ _ _)
   | (with_reducible exact ih2 _ _ _ _ _ _ _)
   | (with_reducible exact ih3 _ _ _ _ _ _ _ _ _ _ _)
   | (with_reducible exact ih4 _ _ _ _ _ _ _ _ _ _ _ _ _)
   | (with_reducible exact ih5 _ _ _ _ _ _ _ _ _ _ _ _ _)
   | (with_reducible exact ih6 _ _ _ _ _ _ _ _ _ _ _ _ _ _ _ _)
   | (with_reducible exact impl_BoxOk.mono _ _ _ _)
   | (with_reducible exact LeO.refl _)
   | (with_reducible exact LeO.none _)
   | (with_reducible refine LeO.ite ?_ ?_)
   | (with_reducible refine LeO.bind ?_ (fun _ => ?_))
   | exact ih0 _ _ _ _ _ _ _ _ _
   | exact ih1 _ _ _ _ _ _ _ _ _ _
   | exact ih2 _ _ _ _ _ _ _
   | exact ih3 _ _ _ _ _ _ _ _ _ _ _
   | exact ih4 _ _ _ _ _ _ _ _ _ _ _ _ _
   | exact ih5 _ _ _ _ _ _ _ _ _ _ _ _ _
   | exact ih6 _ _ _ _ _ _ _ _ _ _ _ _ _ _ _ _
   | exact impl_BoxOk.mono _ _ _ _
   | exact LeO.none _
   | refine LeO.ite ?_ ?_
   | refine LeO.bind ?_ (fun _ => ?_)
  ·intro y0 y1 y2 y3 y4 y5 y6 y7 y8 y9 y10 y11 y12 y13 y14 y15
   unfold impl_Drain.j6
   repeat' first
   | (with_reducible exact ih0 _ _ _ _ _ _ _ _ _)
   | (with_reducible exact ih1 _ _ _ _ _ _ _ _ _ _)
   | (with_reducible exact ih2 _ _ _ _ _ _ _)
   | (with_reducible exact ih3 _ _ _ _ _ _ _ _ _ _ _)
   | (with_reducible exact ih4 _ _ _ _ _ _ _ _ _ _ _ _ _)
   | (with_reducible exact ih5 _ _ _ _ _ _ _ _ _ _ _ _ _)
   | (with_reducible exact ih6 _ _ _ _ _ _ _ _ _ _ _ _ _ _ _ _)
   | (with_reducible exact impl_BoxOk.mono _ _ _ _)
   | (with_reducible exact LeO.refl _)
   | (with_reducible exact LeO.none _)
   | (with_reducible refine LeO.ite ?_ ?_)
   | (with_reducible refine LeO.bind ?_ (fun _ => ?_))
   | exact ih0 _ _ _ _ _ _ _ _ _
   | exact ih1 _ _ _ _ _ _ _ _ _ _
   | exact ih2 _ _ _ _ _ _ _
   | exact ih3 _ _ _ _ _ _ _ _ _ _ _
   | exact ih4 _ _ _ _ _ _ _ _ _ _ _ _ _
   | exact ih5 _ _ _ _ _ _ _ _ _ _ _ _ _
   | exact ih6 _ _ _ _ _ _ _ _ _ _ _ _ _ _ _ _
   | exact impl_BoxOk.mono _ _ _ _
   | exact LeO.none _
   | refine LeO.ite ?_ ?_
   | refine LeO.bind ?_ (fun _ => ?_)
theorem impl_Drain.mono : ∀ a0 a1 a2 k, LeO (impl_Drain.f k a0 a1 a2) (impl_Drain.f (k + 1) a0 a1 a2) := by
 intro a0 a1 a2 k
 obtain ⟨ih0, ih1, ih2, ih3, ih4, ih5, ih6⟩ := impl_Drain.mono_l k
 unfold impl_Drain.f
 repeat' first
   | (with_reducible exact ih0 _ _ _ _ _ _ _ _ _)
   | (with_reducible exact ih1 _ _ _ _ _ _ _ _ _ _)
   | (with_reducible exact ih2 _ _ _ _ _ _ _)
   | (with_reducible exact ih3 _ _ _ _ _ _ _ _ _ _ _)
   | (with_reducible exact ih4 _ _ _ _ _ _ _ _ _ _ _ _ _)
   | (with_reducible exact ih5 _ _ _ _ _ _ _ _ _ _ _ _ _)
   | (with_reducible exact ih6 _ _ _ _ _ _ _ _ _ _ _ _ _ _ _ _)
   | (with_reducible exact impl_BoxOk.mono _ _ _ _)
   | (with_reducible exact LeO.refl _)
   | (with_reducible exact LeO.none _)
   | (with_reducible refine LeO.ite ?_ ?_)
   | (with_reducible refine LeO.bind ?_ (fun _ => ?_))
   | exact ih0 _ _ _ _ _ _ _ _ _
   | exact ih1 _ _ _ _ _ _ _ _ _ _
   | exact ih2 _ _ _ _ _ _ _
   | exact ih3 _ _ _ _ _ _ _ _ _ _ _
   | exact ih4 _ _ _ _ _ _ _ _ _ _ _ _ _
   | exact ih5 _ _ _ _ _ _ _ _ _ _ _ _ _
   | exact ih6 _ _ _ _ _ _ _ _ _ _ _ _ _ _ _ _
   | exact impl_BoxOk.mono _ _ _ _
   | exact LeO.none _
   | refine LeO.ite ?_ ?_
   | refine LeO.bind ?_ (fun _ => ?_)
def impl_Drain.T10 : Bool × List (List Nat × List Nat) := (true, [([], []), ([], []), ([1], [1]), ([0, 2], [0, 2]), ([], []), ([], []), ([5], [5]), ([4, 6], [4, 6]), ([3, 0, 1, 2, 3], [3]), ([7, 8, 0, 1, 2, 3, 4, 5, 6, 7, 8], [7])])
def impl_Drain.B10 : List Nat := [0, 0, 2, 7, 0, 0, 32, 112, 15, 511]
theorem impl_Drain.tab10 : rtab .any (opsOf Try.f21 10) = impl_Drain.T10 := by kernel_rfl
theorem impl_Drain.bits10 : waitsOk impl_Drain.T10.2 impl_Drain.B10 = true := by kernel_rfl
def impl_Drain.T20 : Bool × List (List Nat × List Nat) := (true, [([], []), ([], []), ([0, 1], [0, 1]), ([2], [2]), ([], []), ([], []), ([4, 5], [4, 5]), ([6], [6]), ([3, 7], [3, 7]), ([8], [8]), ([9], [9]), ([9], [9]), ([10, 11, 9], [9, 10, 11]), ([12, 9], [9, 12]), ([9], [9]), ([9], [9]), ([14, 15, 9], [9, 14, 15]), ([16, 9], [9, 16]), ([13, 17, 9], [9, 13, 17]), ([18, 9, 9], [9, 18]), ([19], [19]), ([19], [19]), ([20, 21, 19], [19, 20, 21]), ([19, 22, 9], [9, 19, 22]), ([9, 23], [9, 23])])
def impl_Drain.B20 : List Nat := [0, 0, 3, 7, 0, 0, 48, 112, 255, 511, 1023, 1023, 4095, 8191, 1023, 1023, 50175, 115711, 262143, 524287, 1048575, 1048575, 4194303, 8388607, 16777215]
theorem impl_Drain.tab20 : rtab .any (opsOf Try.f21 20) = impl_Drain.T20 := by kernel_rfl
theorem impl_Drain.bits20 : waitsOk impl_Drain.T20.2 impl_Drain.B20 = true := by kernel_rfl
def impl_Drain.T25 : Bool × List (List Nat × List Nat) := (true, [([], []), ([], []), ([1], [1]), ([0, 2], [0, 2]), ([], []), ([], []), ([5], [5]), ([4, 6], [4, 6]), ([3, 0, 1, 2, 3], [3]), ([7, 8, 0, 1, 2, 3, 4, 5, 6, 7, 8], [7])])
def impl_Drain.B25 : List Nat := [0, 0, 2, 7, 0, 0, 32, 112, 15, 511]
theorem impl_Drain.tab25 : rtab .any (opsOf Try.f21 25) = impl_Drain.T25 := by kernel_rfl
theorem impl_Drain.bits25 : waitsOk impl_Drain.T25.2 impl_Drain.B25 = true := by kernel_rfl
def impl_Drain.T29 : Bool × List (List Nat × List Nat) := (true, [([], []), ([], []), ([1], [1]), ([0, 2], [0, 2]), ([], []), ([], []), ([5], [5]), ([4, 6], [4, 6]), ([3, 0, 1, 2, 3], [3]), ([7, 8, 0, 1, 2, 3, 4, 5, 6, 7, 8], [7])])
def impl_Drain.B29 : List Nat := [0, 0, 2, 7, 0, 0, 32, 112, 15, 511]
theorem impl_Drain.tab29 : rtab .any (opsOf Try.f21 29) = impl_Drain.T29 := by kernel_rfl
theorem impl_Drain.bits29 : waitsOk impl_Drain.T29.2 impl_Drain.B29 = true := by kernel_rfl
def impl_Drain.T33 : Bool × List (List Nat × List Nat) := (true, [([], []), ([], []), ([], []), ([], []), ([], []), ([], []), ([], []), ([6], [6]), ([], []), ([7, 8], [7, 8]), ([9], [9]), ([], []), ([], []), ([11, 12], [11, 12]), ([13], [13]), ([10, 14], [10, 14]), ([], []), ([0, 1, 0, 1, 10, 14], [0, 1]), ([17, 0, 1, 10, 14], [17]), ([2, 3, 0, 1, 2, 3, 6, 7, 8, 9, 10, 11, 12, 13, 14, 15, 17, 18], [2, 3]), ([19, 15, 18, 0, 1, 2, 3, 6, 7, 8, 9, 10, 11, 12, 13, 14, 15, 17, 18], [15, 19]), ([4, 5, 0, 1, 2, 3, 4, 5, 6, 7, 8, 9, 10, 11, 12, 13, 14, 15, 16, 17, 18, 19, 20], [4, 5]), ([21, 16, 20, 0, 1, 2, 3, 4, 5, 6, 7, 8, 9, 10, 11, 12, 13, 14, 15, 16, 17, 18, 19, 20], [16, 21])])
def impl_Drain.B33 : List Nat := [0, 0, 0, 0, 0, 0, 0, 64, 0, 448, 960, 0, 0, 6144, 14336, 32704, 0, 32707, 163779, 458703, 982991, 2097151, 4194303]
theorem impl_Drain.tab33 : rtab .any (opsOf Try.f21 33) = impl_Drain.T33 := by kernel_rfl
theorem impl_Drain.bits33 : waitsOk impl_Drain.T33.2 impl_Drain.B33 = true := by kernel_rfl
set_option maxHeartbeats 8000000 in
set_option maxRecDepth 100000 in
theorem impl_Drain.calls (k : Nat) (a0_0 : Int) (a0_1 : Int) (A0_2 : Option Addr) (c0_2 : Nat) (l0_2 : List Int) (r1 : List Int) (r2 : List Int) (w : World) (hr0_2 : Kd.C (Kd.int .i64) w A0_2 l0_2.length l0_2) (hc0_2 : l0_2.length ≤ c0_2) (h : impl_Drain.f k a0_0 a0_1 l0_2 = some (r1, r2)) :
  Calls Try.prog 21 #[.agg #[.int .i64 a0_0, .int .i64 a0_1, .slice A0_2 l0_2.length c0_2]] w fun e w' => ∃ v0_ v1_ : Value, e = .returned (.tuple #[v0_, v1_]) ∧ Kd.R (Kd.int .i64) 2 w' w.heap.size (fun k_ => some k_ ≠ (v1_ : Value).ownBlock) v0_ r1 ∧ Kd.R (Kd.int .i64) 2 w' w.heap.size (fun k_ => some k_ ≠ (v0_ : Value).ownBlock) v1_ r2 ∧ Below w.heap.size w w' := by
 have hu27 := Try.underlying27
 have hu60 := Try.underlying60
 have HR0_2 := Aside0.mk hr0_2
 have HC0_2 := Aside0.mk hc0_2
 clear hr0_2 hc0_2
 have HB := A0 (Below.refl w.heap.size w)
 have H : ((impl_BoxOk.f k a0_0 a0_1 l0_2).bind fun t186 => (if t186 = true then (if 0 ≤ (wrap64 (a0_0 * a0_1)) then (if (wrap64 (a0_0 * a0_1) : Int).toNat ≤ 35184372088832 then (if (wrap64 (a0_0 * a0_1) : Int).toNat ≤ 281474976710656 then (impl_Drain.l0 k (wrap64 (a0_0 * a0_1)) (List.replicate (wrap64 (a0_0 * a0_1) : Int).toNat 0) (List.replicate (wrap64 (a0_0 * a0_1) : Int).toNat 0) (List.replicate (wrap64 (a0_0 * a0_1) : Int).toNat false) (([] : List Int)) 0 a0_0 a0_1 l0_2) else (none)) else (none)) else (none)) else (some (([] : List Int), ([] : List Int))))) = some (r1, r2) := h
 clear h
 replace H := Option.bind_eq_some_iff.mp H
 obtain ⟨t186, A20, H⟩ := H
 replace H : (if t186 = true then (if 0 ≤ (wrap64 (a0_0 * a0_1)) then (if (wrap64 (a0_0 * a0_1) : Int).toNat ≤ 35184372088832 then (if (wrap64 (a0_0 * a0_1) : Int).toNat ≤ 281474976710656 then (impl_Drain.l0 k (wrap64 (a0_0 * a0_1)) (List.replicate (wrap64 (a0_0 * a0_1) : Int).toNat 0) (List.replicate (wrap64 (a0_0 * a0_1) : Int).toNat 0) (List.replicate (wrap64 (a0_0 * a0_1) : Int).toNat false) (([] : List Int)) 0 a0_0 a0_1 l0_2) else (none)) else (none)) else (none)) else (some (([] : List Int), ([] : List Int)))) = some (r1, r2) := H
 have A2 := Aside0.mk A20
 clear A20
 by_cases c3 : t186 = true
 ·subst c3
  have H1 : (if 0 ≤ (wrap64 (a0_0 * a0_1)) then (if (wrap64 (a0_0 * a0_1) : Int).toNat ≤ 35184372088832 then (if (wrap64 (a0_0 * a0_1) : Int).toNat ≤ 281474976710656 then (impl_Drain.l0 k (wrap64 (a0_0 * a0_1)) (List.replicate (wrap64 (a0_0 * a0_1) : Int).toNat 0) (List.replicate (wrap64 (a0_0 * a0_1) : Int).toNat 0) (List.replicate (wrap64 (a0_0 * a0_1) : Int).toNat false) (([] : List Int)) 0 a0_0 a0_1 l0_2) else (none)) else (none)) else (none)) = some (r1, r2) := by rw [if_pos rfl] at H; exact H
  clear H
  have H := H1
  clear H1
  obtain ⟨ji4, hji4⟩ : ∃ j_ : Int, (wrap64 (a0_0 * a0_1)) = j_ := ⟨_, rfl⟩
  replace H : (if 0 ≤ (ji4) then (if (ji4 : Int).toNat ≤ 35184372088832 then (if (ji4 : Int).toNat ≤ 281474976710656 then (impl_Drain.l0 k ji4 (List.replicate (ji4 : Int).toNat 0) (List.replicate (ji4 : Int).toNat 0) (List.replicate (ji4 : Int).toNat false) (([] : List Int)) 0 a0_0 a0_1 l0_2) else (none)) else (none)) else (none)) = some (r1, r2) := by first | (rw [hji4] at H; exact H) | (simp only [hji4] at H ⊢; exact H)
  (try rw [hji4] at A2)
  have hji4w : (IntKind.i64.wrap (a0_0 * a0_1)) = ji4 := (i64_w _).trans hji4
  by_cases c5 : 0 ≤ (ji4)
  ·rw [if_pos c5] at H
   have c5b0 := eq_true c5
   have c5b1 : decide (0 ≤ (ji4)) = true := decide_eq_true c5
   clear c5
   by_cases c6 : (ji4 : Int).toNat ≤ 35184372088832
   ·rw [if_pos c6] at H
    have c6b0 := eq_true c6
    have c6b1 : decide ((ji4 : Int).toNat ≤ 35184372088832) = true := decide_eq_true c6
    clear c6
    obtain ⟨y187, hy187⟩ : ∃ y_ : List Int, y_ = (List.replicate (ji4 : Int).toNat 0) := ⟨_, rfl⟩
    replace H : (if (ji4 : Int).toNat ≤ 281474976710656 then (impl_Drain.l0 k ji4 y187 (List.replicate (ji4 : Int).toNat 0) (List.replicate (ji4 : Int).toNat false) (([] : List Int)) 0 a0_0 a0_1 l0_2) else (none)) = some (r1, r2) := by first | (rw [hy187]; with_reducible exact H) | (have H2_ := (Option.bind_some _ _).symm.trans H; rw [hy187]; with_reducible exact H2_) | (have H2_ := (Option.bind_some _ _).symm.trans H; with_reducible exact H2_) | with_reducible exact H | (rw [hy187]; exact H) | exact H
    have Ny187 := Aside0.mk hy187
    clear hy187
    obtain ⟨y190, hy190⟩ : ∃ y_ : List Int, y_ = (List.replicate (ji4 : Int).toNat 0) := ⟨_, rfl⟩
    replace H : (if (ji4 : Int).toNat ≤ 281474976710656 then (impl_Drain.l0 k ji4 y187 y190 (List.replicate (ji4 : Int).toNat false) (([] : List Int)) 0 a0_0 a0_1 l0_2) else (none)) = some (r1, r2) := by first | (rw [hy190]; with_reducible exact H) | (have H2_ := (Option.bind_some _ _).symm.trans H; rw [hy190]; with_reducible exact H2_) | (have H2_ := (Option.bind_some _ _).symm.trans H; with_reducible exact H2_) | with_reducible exact H | (rw [hy190]; exact H) | exact H
    have Ny190 := Aside0.mk hy190
    clear hy190
    by_cases c7 : (ji4 : Int).toNat ≤ 281474976710656
    ·rw [if_pos c7] at H
     have c7b0 := eq_true c7
     have c7b1 : decide ((ji4 : Int).toNat ≤ 281474976710656) = true := decide_eq_true c7
     clear c7
     obtain ⟨y193, hy193⟩ : ∃ y_ : List Bool, y_ = (List.replicate (ji4 : Int).toNat false) := ⟨_, rfl⟩
     replace H : (impl_Drain.l0 k ji4 y187 y190 y193 (([] : List Int)) 0 a0_0 a0_1 l0_2) = some (r1, r2) := by first | (rw [hy193]; with_reducible exact H) | (have H2_ := (Option.bind_some _ _).symm.trans H; rw [hy193]; with_reducible exact H2_) | (have H2_ := (Option.bind_some _ _).symm.trans H; with_reducible exact H2_) | with_reducible exact H | (rw [hy193]; exact H) | exact H
     have Ny193 := Aside0.mk hy193
     clear hy193
     obtain ⟨y196, hy196⟩ : ∃ y_ : List Int, y_ = (([] : List Int)) := ⟨_, rfl⟩
     replace H : (impl_Drain.l0 k ji4 y187 y190 y193 y196 0 a0_0 a0_1 l0_2) = some (r1, r2) := by first | (rw [hy196]; with_reducible exact H) | (have H2_ := (Option.bind_some _ _).symm.trans H; rw [hy196]; with_reducible exact H2_) | (have H2_ := (Option.bind_some _ _).symm.trans H; with_reducible exact H2_) | with_reducible exact H | (rw [hy196]; exact H) | exact H
     have Ny196 := Aside0.mk hy196
     clear hy196
     have H' := Aside0.mk H
     clear H
     go_enter Try.func21, Try.ntmps21
     try go_wp2_with (first | ((with_reducible refine gate_dst (N := 1) rfl ?_); refine box_event ?hg (N := 1) ?hd (cs := #[.int .i64 a0_0, .int .i64 a0_1, .slice A0_2 l0_2.length c0_2]) (t := 27) ?hr ?_; (case hd => rfl); (case hg => rfl); (case hr => first | (go_simp; done) | (go_simp; rfl)); intro gb185 hg w8 hbox hb; have n0_ := A0 (below_step (by repeat (first | (with_reducible first | exact HB.out | apply wA | apply wN | apply wD) | exact HB.out)) hb); have n1_ := A0 (hbox); have n2_ := A0 ((by rw [hg]; exact (below_size (by repeat (first | (with_reducible first | exact HB.out | apply wA | apply wN | apply wD) | exact HB.out))) : w.heap.size ≤ gb185)); have n3_ := A0 ((by rw [hg]; exact (below_size (by repeat (first | (with_reducible first | exact HB.out | apply wA | apply wN | apply wD) | exact HB.out))) : w.heap.size ≤ gb185)); clear HB; have HB := n0_; have BK185 := n1_; have GW185 := n2_; have GE185 := n3_; clear n0_ n1_ n2_ n3_; clear hb hbox hg; have hcz9_0 : w8.cell? ⟨gb185, 0, none⟩ = some (.int .i64 a0_0) := bC BK185.out 0 rfl; have hcz9_1 : w8.cell? ⟨gb185, 1, none⟩ = some (.int .i64 a0_1) := bC BK185.out 1 rfl; have hcz9_2 : w8.cell? ⟨gb185, 2, none⟩ = some (.slice A0_2 l0_2.length c0_2) := bC BK185.out 2 rfl; have hfz9_0 := blk_frozen BK185.out 0; have hfz9_1 := blk_frozen BK185.out 1; have hfz9_2 := blk_frozen BK185.out 2) | ((with_reducible refine gate_callee (f := 36) rfl ?_); refine goesL_ (some 25) rfl rfl Try.func36 (by kernel_rfl) rfl #[.agg #[.int .i64 a0_0, .int .i64 a0_1, .slice A0_2 l0_2.length c0_2]] rfl (by (try simp only [lM, lC, lN]); first | done | rfl | (simp only [lD, lT]; rfl)) ?_; (with_reducible refine (impl_BoxOk.calls k a0_0 a0_1 _ _ l0_2 true _ ?side1 ?side2 A2.out).mono ?_); (case side1 => repeat (first | exact (Kd.C_below HR0_2.out HB.out) | (with_reducible refine Kd.C_alloc ?_ _) | (with_reducible refine Kd.C_drewN ?_ _) | (with_reducible refine Kd.C_drew ?_))); (case side2 => exact HC0_2.out); rintro e w10 ⟨rfl, hb⟩; refine ⟨_, rfl, ?_⟩; have n0_ := A0 (blk_below (g := gb185) (o := .cells #[.int .i64 a0_0, .int .i64 a0_1, .slice A0_2 l0_2.length c0_2] 27 (0, 0)) (by (with_reducible repeat (first | refine bN ?_ _ | refine bD ?_ | refine bA ?_ _)); exact BK185.out) hb); have n1_ := A0 (below_step (by repeat (first | (with_reducible first | exact HB.out | apply wA | apply wN | apply wD | refine bS ?_ GE185.out) | exact HB.out)) hb); clear BK185; clear HB; have BK185 := n0_; have HB := n1_; clear n0_ n1_; (try clear hb); (try clear hb2); (try clear hk); (try clear hi); have hcz11_0 : w10.cell? ⟨gb185, 0, none⟩ = some (.int .i64 a0_0) := bC BK185.out 0 rfl; have hcz11_1 : w10.cell? ⟨gb185, 1, none⟩ = some (.int .i64 a0_1) := bC BK185.out 1 rfl; have hcz11_2 : w10.cell? ⟨gb185, 2, none⟩ = some (.slice A0_2 l0_2.length c0_2) := bC BK185.out 2 rfl; have hfz11_0 := blk_frozen BK185.out 0; have hfz11_1 := blk_frozen BK185.out 1; have hfz11_2 := blk_frozen BK185.out 2))
     have n0_ := A0 (blk_drew BK185.out)
     have n1_ := A0 (below_drew1 HB.out)
     clear BK185
     clear HB
     have BK185 := n0_
     have HB := n1_
     clear n0_ n1_
     refine start_ (n := 6) (S := fun w' => True) (ds := []) #[false, false, false, false, false, false] (by kernel_rfl) rfl rfl trivial (fun hHeld => ?_)
     generalize w10.drew = w12 at BK185 HB hHeld ⊢
     refine pure_ (i := 0) (N := some 32) (v := ?_) (a' := ?_) #[true, false, false, false, false, false] rfl rfl (by kernel_rfl) (fun _ _ _ h => h) (Or.inl ⟨by rfl, ?_⟩) ?_ ?_
     rotate_left
     ·intro w'
      go_simp
      with_reducible rfl
     rotate_left
     ·simp only [Act.put, sqA, sqZ, sqS, i64_w, i32_w]
      rfl
     refine pure_ (i := 2) (N := some 34) (v := ?_) (a' := ?_) #[true, false, true, false, false, false] rfl rfl (by kernel_rfl) (fun _ _ _ h => h) (Or.inl ⟨by rfl, ?_⟩) ?_ ?_
     rotate_left
     ·intro w'
      go_simp
      with_reducible rfl
     rotate_left
     ·simp only [Act.put, sqA, sqZ, sqS, i64_w, i32_w]
      rfl
     refine join_ (σ := Value × Value) 1 #[true, true, true, true, true, false] (fun s_ => [(33, s_.1), (35, s_.2), (5, s_.1)]) (fun s_ w' => (Kd.R (Kd.int .i64) 2 w' w.heap.size (fun k_ => some k_ ≠ (s_.2 : Value).ownBlock) s_.1 y187) ∧ (Kd.R (Kd.int .i64) 2 w' w.heap.size (fun k_ => some k_ ≠ (s_.1 : Value).ownBlock) s_.2 y190) ∧ (w'.heap[gb185]? = some (.cells #[.int .i64 a0_0, .int .i64 a0_1, .slice A0_2 l0_2.length c0_2] 27 (0, 0))) ∧ (Below w.heap.size w w')) ?_ ?_
     rotate_left
     ·intro hCont
      refine two_ (i := 1) (j := 3) (Ni := some 33) (Nj := some 35) #[true, true, true, false, false, false] #[true, false, true, true, false, false] rfl rfl rfl rfl (by kernel_rfl) (by decide) (by decide) (fun K hK => ?_) (fun K hK => ?_)
      ·skip
       refine Kd.R_make_step (Kd.int .i64) _ 2 (by rfl) (N := 33) rfl 22 _ _ rfl ji4 rfl rfl Try.underlying22 (.int .i64 0) 8 info2 rfl (by decide) (by omega) 0 (ok := fun _ => True) (okp := fun _ => True) rfl (fun _ hk => hk) trivial (of_decide_eq_true (by first | (with_reducible assumption) | assumption)) (Nat.le_trans (Nat.mul_le_mul_right _ (of_decide_eq_true (by first | (with_reducible assumption) | assumption) : ji4.toNat ≤ 35184372088832)) (by omega)) (Below.refl _ _) (Nat.le_refl _) ?_
       intro v188 w13 ho14 hb hg_ hnew_
       clear hg_ hnew_
       (first | rw [← Ny187.out] at ho14 | (simp only [Int.reduceToNat] at ho14; rw [← Ny187.out] at ho14))
       have n0_ := A0 (Kd.R_lower ho14 (below_size (by repeat (first | (with_reducible first | exact HB.out | apply wA | apply wN | apply wD | refine bS ?_ GE185.out) | exact HB.out))))
       have n1_ := A0 (blk_below (g := gb185) (o := .cells #[.int .i64 a0_0, .int .i64 a0_1, .slice A0_2 l0_2.length c0_2] 27 (0, 0)) (by (with_reducible repeat (first | refine bN ?_ _ | refine bD ?_ | refine bA ?_ _)); exact BK185.out) hb)
       have n2_ := A0 (below_step (by repeat (first | (with_reducible first | exact HB.out | apply wA | apply wN | apply wD | refine bS ?_ GE185.out) | exact HB.out)) hb)
       clear BK185
       clear HB
       have HO189 := n0_
       have BK185 := n1_
       have HB := n2_
       clear n0_ n1_ n2_
       clear hb ho14
       refine hK.out _ _ trivial (fun hHeld => ?_)
       clear hK K
       refine norm_ (a' := ?_) ?_ ?_
       rotate_left
       ·show Act.put _ (some 33) _ = _
        simp only [Act.put, sqA, sqZ, sqS, i64_w, i32_w]
        rfl
       refine pure_ (i := 4) (N := some 5) (v := ?_) (a' := ?_) #[true, true, true, false, true, false] rfl rfl (by kernel_rfl) (fun _ _ _ h => h) (Or.inl ⟨by rfl, ?_⟩) ?_ ?_
       rotate_left
       ·intro w'
        go_simp
        with_reducible rfl
       rotate_left
       ·simp only [Act.put, sqA, sqZ, sqS, i64_w, i32_w]
        rfl
       refine one_ (i := 3) (N := some 35) #[true, true, true, true, true, false] rfl rfl (by kernel_rfl) (by decide) (fun K hK => ?_)
       refine Kd.R_make_step (Kd.int .i64) _ 2 (by rfl) (N := 35) rfl 22 _ _ rfl ji4 rfl rfl Try.underlying22 (.int .i64 0) 8 info2 rfl (by decide) (by omega) 0 (ok := fun _ => True) (okp := fun _ => True) rfl (fun _ hk => hk) trivial (of_decide_eq_true (by first | (with_reducible assumption) | assumption)) (Nat.le_trans (Nat.mul_le_mul_right _ (of_decide_eq_true (by first | (with_reducible assumption) | assumption) : ji4.toNat ≤ 35184372088832)) (by omega)) (Below.refl _ _) (Nat.le_refl _) ?_
       intro v191 w15 ho16 hb hg_ hnew_
       clear hg_ hnew_
       (first | rw [← Ny190.out] at ho16 | (simp only [Int.reduceToNat] at ho16; rw [← Ny190.out] at ho16))
       have n0_ := A0 (Kd.R_elder' (by (with_reducible repeat (first | apply Kd.R_alloc | apply Kd.R_drewN | apply Kd.R_drew)); exact HO189.out) (Kd.R_base ho16) hb)
       have n1_ := A0 (Kd.R_lower (Kd.R_new' ho16 (Kd.R_lt (by (with_reducible repeat (first | apply Kd.R_alloc | apply Kd.R_drewN | apply Kd.R_drew)); exact HO189.out))) (below_size (by repeat (first | (with_reducible first | exact HB.out | apply wA | apply wN | apply wD | refine bS ?_ GE185.out) | exact HB.out))))
       have n2_ := A0 (blk_below (g := gb185) (o := .cells #[.int .i64 a0_0, .int .i64 a0_1, .slice A0_2 l0_2.length c0_2] 27 (0, 0)) (by (with_reducible repeat (first | refine bN ?_ _ | refine bD ?_ | refine bA ?_ _)); exact BK185.out) hb)
       have n3_ := A0 (below_step (by repeat (first | (with_reducible first | exact HB.out | apply wA | apply wN | apply wD | refine bS ?_ GE185.out) | exact HB.out)) hb)
       clear HO189
       clear BK185
       clear HB
       have HO189 := n0_
       have HO192 := n1_
       have BK185 := n2_
       have HB := n3_
       clear n0_ n1_ n2_ n3_
       clear hb ho16
       refine hK.out _ _ trivial (fun hHeld => ?_)
       clear hK K
       refine norm_ (a' := ?_) ?_ ?_
       rotate_left
       ·show Act.put _ (some 35) _ = _
        simp only [Act.put, sqA, sqZ, sqS, i64_w, i32_w]
        rfl
       exact norm_ (by simp only [putAll, Act.put, sqA, sqZ, sqS]) (hCont (v188, v191) _ ⟨(by (with_reducible repeat (first | apply Kd.R_alloc | apply Kd.R_drewN | apply Kd.R_drew)); exact Kd.R_mono HO189.out (fun _ hk => hk.2)), (by (with_reducible repeat (first | apply Kd.R_alloc | apply Kd.R_drewN | apply Kd.R_drew)); exact Kd.R_mono HO192.out (fun _ hk => hk.2)), (by (with_reducible repeat (first | refine bN ?_ _ | refine bD ?_ | refine bA ?_ _)); exact BK185.out), (by repeat (first | (with_reducible first | exact HB.out | apply wA | apply wN | apply wD | refine bS ?_ GE185.out) | exact HB.out))⟩)
      ·skip
       refine Kd.R_make_step (Kd.int .i64) _ 2 (by rfl) (N := 35) rfl 22 _ _ rfl ji4 rfl rfl Try.underlying22 (.int .i64 0) 8 info2 rfl (by decide) (by omega) 0 (ok := fun _ => True) (okp := fun _ => True) rfl (fun _ hk => hk) trivial (of_decide_eq_true (by first | (with_reducible assumption) | assumption)) (Nat.le_trans (Nat.mul_le_mul_right _ (of_decide_eq_true (by first | (with_reducible assumption) | assumption) : ji4.toNat ≤ 35184372088832)) (by omega)) (Below.refl _ _) (Nat.le_refl _) ?_
       intro v191 w13 ho14 hb hg_ hnew_
       clear hg_ hnew_
       (first | rw [← Ny190.out] at ho14 | (simp only [Int.reduceToNat] at ho14; rw [← Ny190.out] at ho14))
       have n0_ := A0 (Kd.R_lower ho14 (below_size (by repeat (first | (with_reducible first | exact HB.out | apply wA | apply wN | apply wD | refine bS ?_ GE185.out) | exact HB.out))))
       have n1_ := A0 (blk_below (g := gb185) (o := .cells #[.int .i64 a0_0, .int .i64 a0_1, .slice A0_2 l0_2.length c0_2] 27 (0, 0)) (by (with_reducible repeat (first | refine bN ?_ _ | refine bD ?_ | refine bA ?_ _)); exact BK185.out) hb)
       have n2_ := A0 (below_step (by repeat (first | (with_reducible first | exact HB.out | apply wA | apply wN | apply wD | refine bS ?_ GE185.out) | exact HB.out)) hb)
       clear BK185
       clear HB
       have HO192 := n0_
       have BK185 := n1_
       have HB := n2_
       clear n0_ n1_ n2_
       clear hb ho14
       refine hK.out _ _ trivial (fun hHeld => ?_)
       clear hK K
       refine norm_ (a' := ?_) ?_ ?_
       rotate_left
       ·show Act.put _ (some 35) _ = _
        simp only [Act.put, sqA, sqZ, sqS, i64_w, i32_w]
        rfl
       refine one_ (i := 1) (N := some 33) #[true, true, true, true, false, false] rfl rfl (by kernel_rfl) (by decide) (fun K hK => ?_)
       refine Kd.R_make_step (Kd.int .i64) _ 2 (by rfl) (N := 33) rfl 22 _ _ rfl ji4 rfl rfl Try.underlying22 (.int .i64 0) 8 info2 rfl (by decide) (by omega) 0 (ok := fun _ => True) (okp := fun _ => True) rfl (fun _ hk => hk) trivial (of_decide_eq_true (by first | (with_reducible assumption) | assumption)) (Nat.le_trans (Nat.mul_le_mul_right _ (of_decide_eq_true (by first | (with_reducible assumption) | assumption) : ji4.toNat ≤ 35184372088832)) (by omega)) (Below.refl _ _) (Nat.le_refl _) ?_
       intro v188 w15 ho16 hb hg_ hnew_
       clear hg_ hnew_
       (first | rw [← Ny187.out] at ho16 | (simp only [Int.reduceToNat] at ho16; rw [← Ny187.out] at ho16))
       have n0_ := A0 (Kd.R_elder' (by (with_reducible repeat (first | apply Kd.R_alloc | apply Kd.R_drewN | apply Kd.R_drew)); exact HO192.out) (Kd.R_base ho16) hb)
       have n1_ := A0 (Kd.R_lower (Kd.R_new' ho16 (Kd.R_lt (by (with_reducible repeat (first | apply Kd.R_alloc | apply Kd.R_drewN | apply Kd.R_drew)); exact HO192.out))) (below_size (by repeat (first | (with_reducible first | exact HB.out | apply wA | apply wN | apply wD | refine bS ?_ GE185.out) | exact HB.out))))
       have n2_ := A0 (blk_below (g := gb185) (o := .cells #[.int .i64 a0_0, .int .i64 a0_1, .slice A0_2 l0_2.length c0_2] 27 (0, 0)) (by (with_reducible repeat (first | refine bN ?_ _ | refine bD ?_ | refine bA ?_ _)); exact BK185.out) hb)
       have n3_ := A0 (below_step (by repeat (first | (with_reducible first | exact HB.out | apply wA | apply wN | apply wD | refine bS ?_ GE185.out) | exact HB.out)) hb)
       clear HO192
       clear BK185
       clear HB
       have HO192 := n0_
       have HO189 := n1_
       have BK185 := n2_
       have HB := n3_
       clear n0_ n1_ n2_ n3_
       clear hb ho16
       refine hK.out _ _ trivial (fun hHeld => ?_)
       clear hK K
       refine norm_ (a' := ?_) ?_ ?_
       rotate_left
       ·show Act.put _ (some 33) _ = _
        simp only [Act.put, sqA, sqZ, sqS, i64_w, i32_w]
        rfl
       refine pure_ (i := 4) (N := some 5) (v := ?_) (a' := ?_) #[true, true, true, true, true, false] rfl rfl (by kernel_rfl) (fun _ _ _ h => h) (Or.inl ⟨by rfl, ?_⟩) ?_ ?_
       rotate_left
       ·intro w'
        go_simp
        with_reducible rfl
       rotate_left
       ·simp only [Act.put, sqA, sqZ, sqS, i64_w, i32_w]
        rfl
       exact norm_ (by simp only [putAll, Act.put, sqA, sqZ, sqS]) (hCont (v188, v191) _ ⟨(by (with_reducible repeat (first | apply Kd.R_alloc | apply Kd.R_drewN | apply Kd.R_drew)); exact Kd.R_mono HO189.out (fun _ hk => hk.2)), (by (with_reducible repeat (first | apply Kd.R_alloc | apply Kd.R_drewN | apply Kd.R_drew)); exact Kd.R_mono HO192.out (fun _ hk => hk.2)), (by (with_reducible repeat (first | refine bN ?_ _ | refine bD ?_ | refine bA ?_ _)); exact BK185.out), (by repeat (first | (with_reducible first | exact HB.out | apply wA | apply wN | apply wD | refine bS ?_ GE185.out) | exact HB.out))⟩)
     rintro ⟨v188, v191⟩ w17 ⟨h0_, h1_, h2_, h3_⟩
     have n0_ : Aside0 (Kd.R (Kd.int .i64) 2 w17 w.heap.size (fun k_ => some k_ ≠ (v191 : Value).ownBlock) v188 y187) := ⟨h0_⟩
     have n1_ : Aside0 (Kd.R (Kd.int .i64) 2 w17 w.heap.size (fun k_ => some k_ ≠ (v188 : Value).ownBlock) v191 y190) := ⟨h1_⟩
     have n2_ : Aside0 (w17.heap[gb185]? = some (.cells #[.int .i64 a0_0, .int .i64 a0_1, .slice A0_2 l0_2.length c0_2] 27 (0, 0))) := ⟨h2_⟩
     have n3_ : Aside0 (Below w.heap.size w w17) := ⟨h3_⟩
     clear BK185
     clear HB
     clear h0_ h1_ h2_ h3_
     have HO189 := n0_
     have HO192 := n1_
     have BK185 := n2_
     have HB := n3_
     clear n0_ n1_ n2_ n3_
     have hHeld := trivial
     refine norm_ (a' := ?_) ?_ ?_
     rotate_left
     ·simp only [putAll, Act.put, sqA, sqZ, sqS]
      rfl
     refine pure_ (i := 5) (N := some 6) (v := ?_) (a' := ?_) #[true, true, true, true, true, true] rfl rfl (by kernel_rfl) (fun _ _ _ h => h) (Or.inl ⟨by rfl, ?_⟩) ?_ ?_
     rotate_left
     ·intro w'
      go_simp
      with_reducible rfl
     rotate_left
     ·simp only [Act.put, sqA, sqZ, sqS, i64_w, i32_w]
      rfl
     refine done_ (by kernel_rfl) ?_
     try go_wp2_with (first | ((with_reducible refine gate_dst (N := 37) rfl ?_); refine Kd.R_make Kd.bool _ 4 rfl (N := 37) rfl 65 _ _ rfl ji4 rfl rfl Try.underlying65 (.bool false) 1 info4 rfl (by decide) (by omega) false (ok := fun _ => True) (okp := fun _ => True) rfl (fun _ hk => hk) trivial (of_decide_eq_true (by first | (with_reducible assumption) | assumption)) (Nat.le_trans (Nat.mul_le_mul_right _ (of_decide_eq_true (by first | (with_reducible assumption) | assumption) : ji4.toNat ≤ 281474976710656)) (by omega)) (Below.refl _ _) (Nat.le_refl _) ?_; intro v194 w18 ho19 hb hg_ hnew_; clear hg_ hnew_; (first | rw [← Ny193.out] at ho19 | (simp only [Int.reduceToNat] at ho19; rw [← Ny193.out] at ho19)); have n0_ := A0 (Kd.R_elder' (by (with_reducible repeat (first | apply Kd.R_alloc | apply Kd.R_drewN | apply Kd.R_drew)); exact HO189.out) (Kd.R_base ho19) hb); have n1_ := A0 (Kd.R_elder' (by (with_reducible repeat (first | apply Kd.R_alloc | apply Kd.R_drewN | apply Kd.R_drew)); exact HO192.out) (Kd.R_base ho19) hb); have n2_ := A0 (Kd.R_lower (Kd.R_new' (Kd.R_new' ho19 (Kd.R_lt (by (with_reducible repeat (first | apply Kd.R_alloc | apply Kd.R_drewN | apply Kd.R_drew)); exact HO189.out))) (Kd.R_lt (by (with_reducible repeat (first | apply Kd.R_alloc | apply Kd.R_drewN | apply Kd.R_drew)); exact HO192.out))) (below_size (by repeat (first | (with_reducible first | exact HB.out | apply wA | apply wN | apply wD | refine bS ?_ GE185.out) | exact HB.out)))); have n3_ := A0 (blk_below (g := gb185) (o := .cells #[.int .i64 a0_0, .int .i64 a0_1, .slice A0_2 l0_2.length c0_2] 27 (0, 0)) (by (with_reducible repeat (first | refine bN ?_ _ | refine bD ?_ | refine bA ?_ _)); exact BK185.out) hb); have n4_ := A0 (below_step (by repeat (first | (with_reducible first | exact HB.out | apply wA | apply wN | apply wD | refine bS ?_ GE185.out) | exact HB.out)) hb); clear HO189; clear HO192; clear BK185; clear HB; have HO189 := n0_; have HO192 := n1_; have HO195 := n2_; have BK185 := n3_; have HB := n4_; clear n0_ n1_ n2_ n3_ n4_; clear hb ho19) | ((with_reducible refine gate_dst (N := 38) rfl ?_); refine Kd.R_lit (Kd.int .i64) _ 2 ?hg (N := 38) ?hd (xs := ([] : List Int)) (inner := []) (ok := fun _ => True) (okp := fun _ => True) ?hr ?hp (fun _ hk => hk) trivial (Below.refl _ _) (Nat.le_refl _) (by simp) ?_; (case hd => rfl); (case hg => rfl); (case hr => first | (go_simp; done) | (go_simp; rfl)); (case hp => exact (Reps.none _ _)); intro v197 w20 ho21 hb hg_ hnew_; clear hg_ hnew_; (first | rw [← Ny196.out] at ho21 | (simp only [Int.reduceToNat] at ho21; rw [← Ny196.out] at ho21)); have n0_ := A0 (Kd.R_elder' (by (with_reducible repeat (first | apply Kd.R_alloc | apply Kd.R_drewN | apply Kd.R_drew)); exact HO189.out) (Kd.R_base ho21) hb); have n1_ := A0 (Kd.R_elder' (by (with_reducible repeat (first | apply Kd.R_alloc | apply Kd.R_drewN | apply Kd.R_drew)); exact HO192.out) (Kd.R_base ho21) hb); have n2_ := A0 (Kd.R_elder' (by (with_reducible repeat (first | apply Kd.R_alloc | apply Kd.R_drewN | apply Kd.R_drew)); exact HO195.out) (Kd.R_base ho21) hb); have n3_ := A0 (Kd.R_lower (Kd.R_new' (Kd.R_new' (Kd.R_new' ho21 (Kd.R_lt (by (with_reducible repeat (first | apply Kd.R_alloc | apply Kd.R_drewN | apply Kd.R_drew)); exact HO189.out))) (Kd.R_lt (by (with_reducible repeat (first | apply Kd.R_alloc | apply Kd.R_drewN | apply Kd.R_drew)); exact HO192.out))) (Kd.R_lt (by (with_reducible repeat (first | apply Kd.R_alloc | apply Kd.R_drewN | apply Kd.R_drew)); exact HO195.out))) (below_size (by repeat (first | (with_reducible first | exact HB.out | apply wA | apply wN | apply wD | refine bS ?_ GE185.out) | exact HB.out)))); have n4_ := A0 (blk_below (g := gb185) (o := .cells #[.int .i64 a0_0, .int .i64 a0_1, .slice A0_2 l0_2.length c0_2] 27 (0, 0)) (by (with_reducible repeat (first | refine bN ?_ _ | refine bD ?_ | refine bA ?_ _)); exact BK185.out) hb); have n5_ := A0 (below_step (by repeat (first | (with_reducible first | exact HB.out | apply wA | apply wN | apply wD | refine bS ?_ GE185.out) | exact HB.out)) hb); clear HO189; clear HO192; clear HO195; clear BK185; clear HB; have HO189 := n0_; have HO192 := n1_; have HO195 := n2_; have HO198 := n3_; have BK185 := n4_; have HB := n5_; clear n0_ n1_ n2_ n3_ n4_ n5_; clear hb ho21))
     go_loopg [8, 9] k (fun kq v8 v9 w' => ∃ (x5_1 : List Int) (x6_1 : List Int) (x7_1 : List Bool) (x8_1 : List Int) (x9_1 : Int), v9 = .int .i64 x9_1 ∧ Aside0 (impl_Drain.l0 kq ji4 x5_1 x6_1 x7_1 x8_1 x9_1 a0_0 a0_1 l0_2 = some (r1, r2)) ∧ Aside0 (kq ≤ k) ∧ Aside0 (Kd.R (Kd.int .i64) 2 w' w.heap.size (fun k_ => some k_ ≠ (v191 : Value).ownBlock ∧ some k_ ≠ (v194 : Value).ownBlock ∧ some k_ ≠ (v8 : Value).ownBlock) v188 x5_1) ∧ Aside0 (Kd.R (Kd.int .i64) 2 w' w.heap.size (fun k_ => some k_ ≠ (v188 : Value).ownBlock ∧ some k_ ≠ (v194 : Value).ownBlock ∧ some k_ ≠ (v8 : Value).ownBlock) v191 x6_1) ∧ Aside0 (Kd.R Kd.bool 4 w' w.heap.size (fun k_ => some k_ ≠ (v188 : Value).ownBlock ∧ some k_ ≠ (v191 : Value).ownBlock ∧ some k_ ≠ (v8 : Value).ownBlock) v194 x7_1) ∧ Aside0 (Kd.R (Kd.int .i64) 2 w' w.heap.size (fun k_ => some k_ ≠ (v188 : Value).ownBlock ∧ some k_ ≠ (v191 : Value).ownBlock ∧ some k_ ≠ (v194 : Value).ownBlock) v8 x8_1) ∧ Aside0 (w'.heap[gb185]? = some (.cells #[.int .i64 a0_0, .int .i64 a0_1, (.slice A0_2 l0_2.length c0_2)] 27 (0, 0))) ∧ Aside0 (Below w.heap.size w w'))
     case atStart => exact ⟨(y187), (y190), (y193), (y196), (0), (by first | rfl | (simp; done) | (simp [*]; done)), H', ⟨Nat.le_refl _⟩, ⟨by (with_reducible repeat (first | apply Kd.R_alloc | apply Kd.R_drewN | apply Kd.R_drew)); exact Kd.R_mono HO189.out (fun _ hk => ⟨hk.1.1, ⟨hk.1.2, hk.2⟩⟩)⟩, ⟨by (with_reducible repeat (first | apply Kd.R_alloc | apply Kd.R_drewN | apply Kd.R_drew)); exact Kd.R_mono HO192.out (fun _ hk => ⟨hk.1.1, ⟨hk.1.2, hk.2⟩⟩)⟩, ⟨by (with_reducible repeat (first | apply Kd.R_alloc | apply Kd.R_drewN | apply Kd.R_drew)); exact Kd.R_mono HO195.out (fun _ hk => ⟨hk.1.1.2, ⟨hk.1.2, hk.2⟩⟩)⟩, ⟨by (with_reducible repeat (first | apply Kd.R_alloc | apply Kd.R_drewN | apply Kd.R_drew)); exact Kd.R_mono HO198.out (fun _ hk => ⟨hk.1.1.2, ⟨hk.1.2, hk.2⟩⟩)⟩, ⟨by (with_reducible repeat (first | refine bN ?_ _ | refine bD ?_ | refine bA ?_ _)); exact BK185.out⟩, ⟨by repeat (first | (with_reducible first | exact HB.out | apply wA | apply wN | apply wD | refine bS ?_ GE185.out) | exact HB.out)⟩⟩
     case round =>
      clear H'
      try clear c2
      try clear p2
      try clear c3
      try clear c5
      try clear c5b0
      try clear c5b1
      try clear c6
      try clear c6b0
      try clear c6b1
      try clear p6
      try clear c7
      try clear c7b0
      try clear c7b1
      try clear c21
      try clear hcz11_0
      try clear hcz11_1
      try clear hcz11_2
      try clear hcz9_0
      try clear hcz9_1
      try clear hcz9_2
      try clear hfz11_0
      try clear hfz11_1
      try clear hfz11_2
      try clear hfz9_0
      try clear hfz9_1
      try clear hfz9_2
      obtain ⟨x5_1, x6_1, x7_1, x8_1, x9_1, rfl, HA, HK1, HO_5, HO_6, HO_7, HO_8, BK185, HB⟩ := hrel
      cases gk with
      | zero => exact absurd HA.out (by simp [impl_Drain.l0])
      | succ k1 =>
       have H := HA.out
       clear HA
       simp only [impl_Drain.l0] at H
       by_cases c22 : x9_1 < ji4
       ·rw [if_pos c22] at H
        have c22b0 : decide (x9_1 < ji4) = true := decide_eq_true c22
        clear c22
        by_cases c23 : a0_1 = 0
        ·rw [if_pos c23] at H
         exact absurd H (by simp)
        ·rw [if_neg c23] at H
         have c23b0 : (a0_1 == 0) = false := beq_eq_false_iff_ne.mpr c23
         have c23b1 : (a0_1 != 0) = true := bne_iff_ne.mpr c23
         have HC24 := Aside0.mk H
         clear H
         try go_wp2
         have n0_ := A0 (Kd.R_drew HO_5.out)
         have n1_ := A0 (Kd.R_drew HO_6.out)
         have n2_ := A0 (Kd.R_drew HO_7.out)
         have n3_ := A0 (Kd.R_drew HO_8.out)
         have n4_ := A0 (blk_drew BK185.out)
         have n5_ := A0 (below_drew1 HB.out)
         clear HO_5
         clear HO_6
         clear HO_7
         clear HO_8
         clear BK185
         clear HB
         have HO_5 := n0_
         have HO_6 := n1_
         have HO_7 := n2_
         have HO_8 := n3_
         have BK185 := n4_
         have HB := n5_
         clear n0_ n1_ n2_ n3_ n4_ n5_
         refine start_ (n := 10) (S := fun w' => w'.cell? ⟨gb185, 0, none⟩ = some (.int .i64 a0_0) ∧ w'.cell? ⟨gb185, 1, none⟩ = some (.int .i64 a0_1) ∧ w'.cell? ⟨gb185, 2, none⟩ = some (.slice A0_2 l0_2.length c0_2)) (ds := []) #[false, false, false, false, false, false, false, false, false, false] (by kernel_rfl) rfl rfl ⟨bC BK185.out 0 rfl, bC BK185.out 1 rfl, bC BK185.out 2 rfl⟩ (fun hHeld => ?_); refine with_tabW impl_Drain.tab10 impl_Drain.bits10 (fun HT_ HW_ => ?_)
         generalize wr.drew = w25 at HO_5 HO_6 HO_7 HO_8 BK185 HB hHeld ⊢
         refine pure_ (i := 0) (N := some 44) (v := ?_) (a' := ?_) #[true, false, false, false, false, false, false, false, false, false] rfl rfl (any_of HT_.out (by kernel_rfl)) (fun _ _ _ h => h) (Or.inl ⟨by rfl, ?_⟩) ?_ ?_
         rotate_left
         ·intro w'
          go_simp
          with_reducible rfl
         rotate_left
         ·simp only [Act.put, sqA, sqZ, sqS, i64_w, i32_w]
          rfl
         refine pure_ (i := 1) (N := some 45) (v := ?_) (a' := ?_) #[true, true, false, false, false, false, false, false, false, false] rfl rfl (any_of HT_.out (by kernel_rfl)) (fun _ _ _ h => h) (Or.inl ⟨by rfl, ?_⟩) ?_ ?_
         rotate_left
         ·intro w'
          go_simp
          with_reducible rfl
         rotate_left
         ·simp only [Act.put, sqA, sqZ, sqS, i64_w, i32_w]
          rfl
         refine pure_ (i := 4) (N := some 48) (v := ?_) (a' := ?_) #[true, true, false, false, true, false, false, false, false, false] rfl rfl (any_of HT_.out (by kernel_rfl)) (fun _ _ _ h => h) (Or.inl ⟨by rfl, ?_⟩) ?_ ?_
         rotate_left
         ·intro w'
          go_simp
          with_reducible rfl
         rotate_left
         ·simp only [Act.put, sqA, sqZ, sqS, i64_w, i32_w]
          rfl
         refine pure_ (i := 5) (N := some 49) (v := ?_) (a' := ?_) #[true, true, false, false, true, true, false, false, false, false] rfl rfl (any_of HT_.out (by kernel_rfl)) (fun _ _ _ h => h) (Or.inl ⟨by rfl, ?_⟩) ?_ ?_
         rotate_left
         ·intro w'
          go_simp
          with_reducible rfl
         rotate_left
         ·simp only [Act.put, sqA, sqZ, sqS, i64_w, i32_w]
          rfl
         refine take_ (i := 2) (N := some 46) (v := ?_) (a' := ?_) #[true, true, true, false, true, true, false, false, false, false] rfl rfl (take_ofW HT_.out HW_.out (by kernel_rfl)) (fun _ _ _ h => h) (Or.inl ⟨by rfl, ?_⟩) hHeld ?_ ?_
         rotate_left
         ·rintro w' ⟨s0, s1, s2⟩
          go_simp
          with_reducible rfl
         rotate_left
         ·simp only [Act.put, sqA, sqZ, sqS, i64_w, i32_w]
          rfl
         refine pure_ (i := 3) (N := some 47) (v := ?_) (a' := ?_) #[true, true, true, true, true, true, false, false, false, false] rfl rfl (any_of HT_.out (by kernel_rfl)) (fun _ _ _ h => h) (Or.inl ⟨by rfl, ?_⟩) ?_ ?_
         rotate_left
         ·intro w'
          go_simp
          with_reducible rfl
         rotate_left
         ·simp only [Act.put, sqA, sqZ, sqS, i64_w, i32_w]
          rfl
         refine pure_ (i := 8) (N := some 10) (v := ?_) (a' := ?_) #[true, true, true, true, true, true, false, false, true, false] rfl rfl (any_of HT_.out (by kernel_rfl)) (fun _ _ _ h => h) (Or.inl ⟨by rfl, ?_⟩) ?_ ?_
         rotate_left
         ·intro w'
          go_simp
          with_reducible rfl
         rotate_left
         ·simp only [Act.put, sqA, sqZ, sqS, i64_w, i32_w]
          rfl
         refine take_ (i := 6) (N := some 50) (v := ?_) (a' := ?_) #[true, true, true, true, true, true, true, false, true, false] rfl rfl (take_ofW HT_.out HW_.out (by kernel_rfl)) (fun _ _ _ h => h) (Or.inl ⟨by rfl, ?_⟩) hHeld ?_ ?_
         rotate_left
         ·rintro w' ⟨s0, s1, s2⟩
          go_simp
          with_reducible rfl
         rotate_left
         ·simp only [Act.put, sqA, sqZ, sqS, i64_w, i32_w]
          rfl
         refine pure_ (i := 7) (N := some 51) (v := ?_) (a' := ?_) #[true, true, true, true, true, true, true, true, true, false] rfl rfl (any_of HT_.out (by kernel_rfl)) (fun _ _ _ h => h) (Or.inl ⟨by rfl, ?_⟩) ?_ ?_
         rotate_left
         ·intro w'
          go_simp
          with_reducible rfl
         rotate_left
         ·simp only [Act.put, sqA, sqZ, sqS, i64_w, i32_w]
          rfl
         refine pure_ (i := 9) (N := some 11) (v := ?_) (a' := ?_) #[true, true, true, true, true, true, true, true, true, true] rfl rfl (any_of HT_.out (by kernel_rfl)) (fun _ _ _ h => h) (Or.inl ⟨by rfl, ?_⟩) ?_ ?_
         rotate_left
         ·intro w'
          go_simp
          with_reducible rfl
         rotate_left
         ·simp only [Act.put, sqA, sqZ, sqS, i64_w, i32_w]
          rfl
         refine done_ (done_of HT_.out (by kernel_rfl)) ?_
         go_upto_region 11 with (fail)
         go_cut [71] (fun v71 wc => ∃ (kq : Nat) (x71_23 : Bool), v71 = .bool x71_23 ∧ Aside0 (impl_Drain.j1 kq ji4 x5_1 x6_1 x7_1 x8_1 x9_1 x71_23 a0_0 a0_1 l0_2 = some (r1, r2)) ∧ Aside0 (kq ≤ k1) ∧ Aside0 (Kd.R (Kd.int .i64) 2 wc w.heap.size (fun k_ => some k_ ≠ (v191 : Value).ownBlock ∧ some k_ ≠ (v194 : Value).ownBlock ∧ some k_ ≠ (u8 : Value).ownBlock) v188 x5_1) ∧ Aside0 (Kd.R (Kd.int .i64) 2 wc w.heap.size (fun k_ => some k_ ≠ (v188 : Value).ownBlock ∧ some k_ ≠ (v194 : Value).ownBlock ∧ some k_ ≠ (u8 : Value).ownBlock) v191 x6_1) ∧ Aside0 (Kd.R Kd.bool 4 wc w.heap.size (fun k_ => some k_ ≠ (v188 : Value).ownBlock ∧ some k_ ≠ (v191 : Value).ownBlock ∧ some k_ ≠ (u8 : Value).ownBlock) v194 x7_1) ∧ Aside0 (Kd.R (Kd.int .i64) 2 wc w.heap.size (fun k_ => some k_ ≠ (v188 : Value).ownBlock ∧ some k_ ≠ (v191 : Value).ownBlock ∧ some k_ ≠ (v194 : Value).ownBlock) u8 x8_1) ∧ Aside0 (wc.heap[gb185]? = some (.cells #[.int .i64 a0_0, .int .i64 a0_1, (.slice A0_2 l0_2.length c0_2)] 27 (0, 0))) ∧ Aside0 (Below w.heap.size w wc))
         case first =>
          have H := HC24.out
          clear HC24
          by_cases c26 : (wrap64 (Int.tdiv x9_1 a0_1)) = 0
          ·rw [if_pos c26] at H
           have c26b0 : ((wrap64 (Int.tdiv x9_1 a0_1)) == 0) = true := beq_iff_eq.mpr c26
           have c26b1 : ((wrap64 (Int.tdiv x9_1 a0_1)) != 0) = false := bne_eq_false_iff_eq.mpr c26
           clear c26
           (first | rw [c26b0] | (simp only [i64_w, i32_w]; rw [c26b0]) | skip)
           have H' := Aside0.mk H
           clear H
           go_wp2
           go_meet
           case rel => exact ⟨_, (true), (by first | rfl | (simp; done) | (simp [*]; done)), H', ⟨by have := HK1.out; first | omega | exact Nat.le_refl _⟩, ⟨by (with_reducible repeat (first | apply Kd.R_alloc | apply Kd.R_drewN | apply Kd.R_drew)); exact HO_5.out⟩, ⟨by (with_reducible repeat (first | apply Kd.R_alloc | apply Kd.R_drewN | apply Kd.R_drew)); exact HO_6.out⟩, ⟨by (with_reducible repeat (first | apply Kd.R_alloc | apply Kd.R_drewN | apply Kd.R_drew)); exact HO_7.out⟩, ⟨by (with_reducible repeat (first | apply Kd.R_alloc | apply Kd.R_drewN | apply Kd.R_drew)); exact HO_8.out⟩, ⟨by (with_reducible repeat (first | refine bN ?_ _ | refine bD ?_ | refine bA ?_ _)); exact BK185.out⟩, ⟨by repeat (first | (with_reducible first | exact HB.out | apply wA | apply wN | apply wD | refine bS ?_ GE185.out) | exact HB.out)⟩⟩
          ·rw [if_neg c26] at H
           have c26b0 : ((wrap64 (Int.tdiv x9_1 a0_1)) == 0) = false := beq_eq_false_iff_ne.mpr c26
           have c26b1 : ((wrap64 (Int.tdiv x9_1 a0_1)) != 0) = true := bne_iff_ne.mpr c26
           (first | rw [c26b0] | (simp only [i64_w, i32_w]; rw [c26b0]) | skip)
           by_cases c27 : (Int.tmod x9_1 a0_1) = 0
           ·rw [if_pos c27] at H
            have c27b0 : ((Int.tmod x9_1 a0_1) == 0) = true := beq_iff_eq.mpr c27
            have c27b1 : ((Int.tmod x9_1 a0_1) != 0) = false := bne_eq_false_iff_eq.mpr c27
            clear c27
            have H' := Aside0.mk H
            clear H
            go_wp2
            go_meet
            case rel => exact ⟨_, (true), (by first | rfl | (simp; done) | (simp [*]; done)), H', ⟨by have := HK1.out; first | omega | exact Nat.le_refl _⟩, ⟨by (with_reducible repeat (first | apply Kd.R_alloc | apply Kd.R_drewN | apply Kd.R_drew)); exact HO_5.out⟩, ⟨by (with_reducible repeat (first | apply Kd.R_alloc | apply Kd.R_drewN | apply Kd.R_drew)); exact HO_6.out⟩, ⟨by (with_reducible repeat (first | apply Kd.R_alloc | apply Kd.R_drewN | apply Kd.R_drew)); exact HO_7.out⟩, ⟨by (with_reducible repeat (first | apply Kd.R_alloc | apply Kd.R_drewN | apply Kd.R_drew)); exact HO_8.out⟩, ⟨by (with_reducible repeat (first | refine bN ?_ _ | refine bD ?_ | refine bA ?_ _)); exact BK185.out⟩, ⟨by repeat (first | (with_reducible first | exact HB.out | apply wA | apply wN | apply wD | refine bS ?_ GE185.out) | exact HB.out)⟩⟩
           ·rw [if_neg c27] at H
            have c27b0 : ((Int.tmod x9_1 a0_1) == 0) = false := beq_eq_false_iff_ne.mpr c27
            have c27b1 : ((Int.tmod x9_1 a0_1) != 0) = true := bne_iff_ne.mpr c27
            by_cases c28 : (wrap64 (Int.tdiv x9_1 a0_1)) = (wrap64 (a0_0 - 1))
            ·rw [if_pos c28] at H
             have c28b0 : ((wrap64 (Int.tdiv x9_1 a0_1)) == (wrap64 (a0_0 - 1))) = true := beq_iff_eq.mpr c28
             have c28b1 : ((wrap64 (Int.tdiv x9_1 a0_1)) != (wrap64 (a0_0 - 1))) = false := bne_eq_false_iff_eq.mpr c28
             clear c28
             have H' := Aside0.mk H
             clear H
             have hcz29_0 : w25.cell? ⟨gb185, 0, none⟩ = some (.int .i64 a0_0) := bC BK185.out 0 rfl
             have hcz29_1 : w25.cell? ⟨gb185, 1, none⟩ = some (.int .i64 a0_1) := bC BK185.out 1 rfl
             have hcz29_2 : w25.cell? ⟨gb185, 2, none⟩ = some (.slice A0_2 l0_2.length c0_2) := bC BK185.out 2 rfl
             have hfz29_0 := blk_frozen BK185.out 0
             have hfz29_1 := blk_frozen BK185.out 1
             have hfz29_2 := blk_frozen BK185.out 2
             go_wp2
             go_meet
             case rel => exact ⟨_, (true), (by first | rfl | (simp; done) | (simp [*]; done)), H', ⟨by have := HK1.out; first | omega | exact Nat.le_refl _⟩, ⟨by (with_reducible repeat (first | apply Kd.R_alloc | apply Kd.R_drewN | apply Kd.R_drew)); exact HO_5.out⟩, ⟨by (with_reducible repeat (first | apply Kd.R_alloc | apply Kd.R_drewN | apply Kd.R_drew)); exact HO_6.out⟩, ⟨by (with_reducible repeat (first | apply Kd.R_alloc | apply Kd.R_drewN | apply Kd.R_drew)); exact HO_7.out⟩, ⟨by (with_reducible repeat (first | apply Kd.R_alloc | apply Kd.R_drewN | apply Kd.R_drew)); exact HO_8.out⟩, ⟨by (with_reducible repeat (first | refine bN ?_ _ | refine bD ?_ | refine bA ?_ _)); exact BK185.out⟩, ⟨by repeat (first | (with_reducible first | exact HB.out | apply wA | apply wN | apply wD | refine bS ?_ GE185.out) | exact HB.out)⟩⟩
            ·rw [if_neg c28] at H
             have c28b0 : ((wrap64 (Int.tdiv x9_1 a0_1)) == (wrap64 (a0_0 - 1))) = false := beq_eq_false_iff_ne.mpr c28
             have c28b1 : ((wrap64 (Int.tdiv x9_1 a0_1)) != (wrap64 (a0_0 - 1))) = true := bne_iff_ne.mpr c28
             have H' := Aside0.mk H
             clear H
             have hcz30_0 : w25.cell? ⟨gb185, 0, none⟩ = some (.int .i64 a0_0) := bC BK185.out 0 rfl
             have hcz30_1 : w25.cell? ⟨gb185, 1, none⟩ = some (.int .i64 a0_1) := bC BK185.out 1 rfl
             have hcz30_2 : w25.cell? ⟨gb185, 2, none⟩ = some (.slice A0_2 l0_2.length c0_2) := bC BK185.out 2 rfl
             have hfz30_0 := blk_frozen BK185.out 0
             have hfz30_1 := blk_frozen BK185.out 1
             have hfz30_2 := blk_frozen BK185.out 2
             go_wp2
             go_meet
             case rel => exact ⟨_, (((Int.tmod x9_1 a0_1) == (wrap64 (a0_1 - 1)))), (by first | rfl | (simp; done) | (simp [*]; done)), H', ⟨by have := HK1.out; first | omega | exact Nat.le_refl _⟩, ⟨by (with_reducible repeat (first | apply Kd.R_alloc | apply Kd.R_drewN | apply Kd.R_drew)); exact HO_5.out⟩, ⟨by (with_reducible repeat (first | apply Kd.R_alloc | apply Kd.R_drewN | apply Kd.R_drew)); exact HO_6.out⟩, ⟨by (with_reducible repeat (first | apply Kd.R_alloc | apply Kd.R_drewN | apply Kd.R_drew)); exact HO_7.out⟩, ⟨by (with_reducible repeat (first | apply Kd.R_alloc | apply Kd.R_drewN | apply Kd.R_drew)); exact HO_8.out⟩, ⟨by (with_reducible repeat (first | refine bN ?_ _ | refine bD ?_ | refine bA ?_ _)); exact BK185.out⟩, ⟨by repeat (first | (with_reducible first | exact HB.out | apply wA | apply wN | apply wD | refine bS ?_ GE185.out) | exact HB.out)⟩⟩
         case rest =>
          clear HC24
          try clear c2
          try clear p2
          try clear c3
          try clear c5
          try clear c5b0
          try clear c5b1
          try clear c6
          try clear c6b0
          try clear c6b1
          try clear p6
          try clear c7
          try clear c7b0
          try clear c7b1
          try clear c21
          try clear c22
          try clear c22b0
          try clear c23
          try clear c23b0
          try clear c23b1
          try clear c26
          try clear c26b0
          try clear c26b1
          try clear c27
          try clear c27b0
          try clear c27b1
          try clear c28
          try clear c28b0
          try clear c28b1
          try clear hcz11_0
          try clear hcz11_1
          try clear hcz11_2
          try clear hcz29_0
          try clear hcz29_1
          try clear hcz29_2
          try clear hcz30_0
          try clear hcz30_1
          try clear hcz30_2
          try clear hcz9_0
          try clear hcz9_1
          try clear hcz9_2
          try clear hfz11_0
          try clear hfz11_1
          try clear hfz11_2
          try clear hfz29_0
          try clear hfz29_1
          try clear hfz29_2
          try clear hfz30_0
          try clear hfz30_1
          try clear hfz30_2
          try clear hfz9_0
          try clear hfz9_1
          try clear hfz9_2
          try clear p2
          try clear p6
          obtain ⟨kq, x71_23, rfl, HA, HJ23, HO_5, HO_6, HO_7, HO_8, BK185, HB⟩ := hcut
          cases kq with
          | zero => exact absurd HA.out (by simp [impl_Drain.j1])
          | succ kj23 =>
           have H := HA.out
           clear HA
           simp only [impl_Drain.j1] at H
           by_cases c31 : x71_23 = true
           ·subst c31
            have H1 : (if x8_1.length < 17592186044416 then (if 0 ≤ x9_1 then (if x9_1 < (l0_2.length : Int) then (if x9_1 < (x7_1.length : Int) then (if x9_1 < (x5_1.length : Int) then (if x9_1 < (x6_1.length : Int) then (impl_Drain.l0 kj23 ji4 (x5_1.set (x9_1 : Int).toNat (rd l0_2 x9_1)) (x6_1.set (x9_1 : Int).toNat (-1)) (x7_1.set (x9_1 : Int).toNat true) (x8_1 ++ [x9_1]) (wrap64 (x9_1 + 1)) a0_0 a0_1 l0_2) else (none)) else (none)) else (none)) else (none)) else (none)) else (none)) = some (r1, r2) := by rw [if_pos rfl] at H; exact H
            clear H
            have H := H1
            clear H1
            by_cases c32 : x8_1.length < 17592186044416
            ·rw [if_pos c32] at H
             have LMc32 := Aside0.mk c32
             clear c32
             obtain ⟨y199, hy199⟩ : ∃ y_ : List Int, y_ = (x8_1 ++ [x9_1]) := ⟨_, rfl⟩
             replace H : (if 0 ≤ x9_1 then (if x9_1 < (l0_2.length : Int) then (if x9_1 < (x7_1.length : Int) then (if x9_1 < (x5_1.length : Int) then (if x9_1 < (x6_1.length : Int) then (impl_Drain.l0 kj23 ji4 (x5_1.set (x9_1 : Int).toNat (rd l0_2 x9_1)) (x6_1.set (x9_1 : Int).toNat (-1)) (x7_1.set (x9_1 : Int).toNat true) y199 (wrap64 (x9_1 + 1)) a0_0 a0_1 l0_2) else (none)) else (none)) else (none)) else (none)) else (none)) = some (r1, r2) := by first | (rw [hy199]; with_reducible exact H) | (have H2_ := (Option.bind_some _ _).symm.trans H; rw [hy199]; with_reducible exact H2_) | (have H2_ := (Option.bind_some _ _).symm.trans H; with_reducible exact H2_) | with_reducible exact H | (rw [hy199]; exact H) | exact H
             have Ny199 := Aside0.mk hy199
             clear hy199
             by_cases c33 : 0 ≤ x9_1
             ·rw [if_pos c33] at H
              have c33b0 : decide (0 ≤ x9_1) = true := decide_eq_true c33
              clear c33
              by_cases c34 : x9_1 < (l0_2.length : Int)
              ·rw [if_pos c34] at H
               have c34b0 : decide (x9_1 < (l0_2.length : Int)) = true := decide_eq_true c34
               clear c34
               by_cases c35 : x9_1 < (x7_1.length : Int)
               ·rw [if_pos c35] at H
                have c35b0 : decide (x9_1 < (x7_1.length : Int)) = true := decide_eq_true c35
                clear c35
                obtain ⟨y203, hy203⟩ : ∃ y_ : List Bool, y_ = (x7_1.set (x9_1 : Int).toNat true) := ⟨_, rfl⟩
                replace H : (if x9_1 < (x5_1.length : Int) then (if x9_1 < (x6_1.length : Int) then (impl_Drain.l0 kj23 ji4 (x5_1.set (x9_1 : Int).toNat (rd l0_2 x9_1)) (x6_1.set (x9_1 : Int).toNat (-1)) y203 y199 (wrap64 (x9_1 + 1)) a0_0 a0_1 l0_2) else (none)) else (none)) = some (r1, r2) := by first | (rw [hy203]; with_reducible exact H) | (have H2_ := (Option.bind_some _ _).symm.trans H; rw [hy203]; with_reducible exact H2_) | (have H2_ := (Option.bind_some _ _).symm.trans H; with_reducible exact H2_) | with_reducible exact H | (rw [hy203]; exact H) | exact H
                have Ny203 := Aside0.mk hy203
                clear hy203
                by_cases c37 : x9_1 < (x5_1.length : Int)
                ·rw [if_pos c37] at H
                 have c37b0 : decide (x9_1 < (x5_1.length : Int)) = true := decide_eq_true c37
                 clear c37
                 obtain ⟨y204, hy204⟩ : ∃ y_ : List Int, y_ = (x5_1.set (x9_1 : Int).toNat (rd l0_2 x9_1)) := ⟨_, rfl⟩
                 replace H : (if x9_1 < (x6_1.length : Int) then (impl_Drain.l0 kj23 ji4 y204 (x6_1.set (x9_1 : Int).toNat (-1)) y203 y199 (wrap64 (x9_1 + 1)) a0_0 a0_1 l0_2) else (none)) = some (r1, r2) := by first | (rw [hy204]; with_reducible exact H) | (have H2_ := (Option.bind_some _ _).symm.trans H; rw [hy204]; with_reducible exact H2_) | (have H2_ := (Option.bind_some _ _).symm.trans H; with_reducible exact H2_) | with_reducible exact H | (rw [hy204]; exact H) | exact H
                 have Ny204 := Aside0.mk hy204
                 clear hy204
                 by_cases c39 : x9_1 < (x6_1.length : Int)
                 ·rw [if_pos c39] at H
                  have c39b0 : decide (x9_1 < (x6_1.length : Int)) = true := decide_eq_true c39
                  clear c39
                  obtain ⟨y205, hy205⟩ : ∃ y_ : List Int, y_ = (x6_1.set (x9_1 : Int).toNat (-1)) := ⟨_, rfl⟩
                  replace H : (impl_Drain.l0 kj23 ji4 y204 y205 y203 y199 (wrap64 (x9_1 + 1)) a0_0 a0_1 l0_2) = some (r1, r2) := by first | (rw [hy205]; with_reducible exact H) | (have H2_ := (Option.bind_some _ _).symm.trans H; rw [hy205]; with_reducible exact H2_) | (have H2_ := (Option.bind_some _ _).symm.trans H; with_reducible exact H2_) | with_reducible exact H | (rw [hy205]; exact H) | exact H
                  have Ny205 := Aside0.mk hy205
                  clear hy205
                  have H' := Aside0.mk H
                  clear H
                  go_wp2_with (first | ((with_reducible refine gate_builtin (b := .append) (xs := #[.tmp 72, .tmp 74]) rfl ?_); at_builtin; refine Kd.R_append (Kd.int .i64) (w0 := w) w.heap.size rfl (.tmp 72) (.tmp 74) 22 2 (.int .i64 0) 8 rfl Try.underlying22 info2 rfl (by decide) (by omega) u8 x8_1 x9_1 [.int .i64 x9_1] (fun k_ => some k_ ≠ (v188 : Value).ownBlock ∧ some k_ ≠ (v191 : Value).ownBlock ∧ some k_ ≠ (v194 : Value).ownBlock) (fun _ => False) rfl rfl ?aP (fun _ hk => hk.elim) ?aF ?aO ?aB ?aS ?aL ?_; (case aP => exact rfl); (case aB => exact (by repeat (first | (with_reducible first | exact HB.out | apply wA | apply wN | apply wD | refine bS ?_ GE185.out) | exact HB.out))); (case aF => exact (fun k_ hk => ⟨Kd.fresh' (Kd.R_lt (by (with_reducible repeat (first | apply Kd.R_alloc | apply Kd.R_drewN | apply Kd.R_drew)); exact HO_5.out)) k_ hk, Kd.fresh' (Kd.R_lt (by (with_reducible repeat (first | apply Kd.R_alloc | apply Kd.R_drewN | apply Kd.R_drew)); exact HO_6.out)) k_ hk, Kd.fresh' (Kd.R_lt (by (with_reducible repeat (first | apply Kd.R_alloc | apply Kd.R_drewN | apply Kd.R_drew)); exact HO_7.out)) k_ hk⟩)); (case aO => exact (by (with_reducible repeat (first | apply Kd.R_alloc | apply Kd.R_drewN | apply Kd.R_drew)); exact HO_8.out)); (case aS => exact (below_size (by repeat (first | (with_reducible first | exact HB.out | apply wA | apply wN | apply wD | refine bS ?_ GE185.out) | exact HB.out)))); (case aL => have := LMc32.out; omega); intro v200 w41 ho hb hg hat; rw [← Ny199.out] at ho; have n0_ := A0 (Kd.R_after (ok := (fun k_ => some k_ ≠ (v191 : Value).ownBlock ∧ some k_ ≠ (v194 : Value).ownBlock)) (by (with_reducible repeat (first | apply Kd.R_alloc | apply Kd.R_drewN | apply Kd.R_drew)); exact Kd.R_mono HO_5.out (fun _ hk => ⟨⟨hk.1, hk.2.1⟩, hk.2.2⟩)) hg hat); have n1_ := A0 (Kd.R_after (ok := (fun k_ => some k_ ≠ (v188 : Value).ownBlock ∧ some k_ ≠ (v194 : Value).ownBlock)) (by (with_reducible repeat (first | apply Kd.R_alloc | apply Kd.R_drewN | apply Kd.R_drew)); exact Kd.R_mono HO_6.out (fun _ hk => ⟨⟨hk.1, hk.2.1⟩, hk.2.2⟩)) hg hat); have n2_ := A0 (Kd.R_after (ok := (fun k_ => some k_ ≠ (v188 : Value).ownBlock ∧ some k_ ≠ (v191 : Value).ownBlock)) (by (with_reducible repeat (first | apply Kd.R_alloc | apply Kd.R_drewN | apply Kd.R_drew)); exact Kd.R_mono HO_7.out (fun _ hk => ⟨⟨hk.1, hk.2.1⟩, hk.2.2⟩)) hg hat); have n3_ := A0 (blk_grown (g := gb185) (o := .cells #[.int .i64 a0_0, .int .i64 a0_1, .slice A0_2 l0_2.length c0_2] 27 (0, 0)) (by (with_reducible repeat (first | refine bN ?_ _ | refine bD ?_ | refine bA ?_ _)); exact BK185.out) hg (Kd.R_ne HO_8.out BK185.out (by decide))); have n4_ := A0 (hb); have n5_ := A0 (ho); clear HO_5; clear HO_6; clear HO_7; clear BK185; clear HB; clear HO_8; have HO_5 := n0_; have HO_6 := n1_; have HO_7 := n2_; have BK185 := n3_; have HB := n4_; have HO201 := n5_; clear n0_ n1_ n2_ n3_ n4_ n5_; clear ho hb hg hat; have hcz42_0 : w41.cell? ⟨gb185, 0, none⟩ = some (.int .i64 a0_0) := bC BK185.out 0 rfl; have hcz42_1 : w41.cell? ⟨gb185, 1, none⟩ = some (.int .i64 a0_1) := bC BK185.out 1 rfl; have hcz42_2 : w41.cell? ⟨gb185, 2, none⟩ = some (.slice A0_2 l0_2.length c0_2) := bC BK185.out 2 rfl; have hfz42_0 := blk_frozen BK185.out 0; have hfz42_1 := blk_frozen BK185.out 1; have hfz42_2 := blk_frozen BK185.out 2; have p202 : 0 ≤ (x9_1 : Int) := of_decide_eq_true (by first | (with_reducible assumption) | assumption); have q202 : x9_1 < (l0_2.length : Int) := of_decide_eq_true (by first | (with_reducible assumption) | assumption); obtain ⟨ad202, e202, hx202_0⟩ := Kd.at_int HR0_2.out x9_1 p202 q202; cases e202; replace hx202_0 := (HB.out.cell (World.block_lt_of_cell? w _ hx202_0)).trans hx202_0; replace p202 := eq_true p202; replace q202 := eq_true q202; have p36 : 0 ≤ (x9_1 : Int) := of_decide_eq_true (by first | (with_reducible assumption) | assumption); have q36 : (x9_1 : Int) < ((x7_1.length : Int) : Int) := of_decide_eq_true (by first | (with_reducible assumption) | assumption); obtain ⟨go36, co36, eo36, gb36, gl36, cl36, HG36⟩ := Kd.R_form HO_7.out (by omega); (first | cases eo36 | (injection eo36 with ea_ en_ ec_; (first | subst ea_ | (injection ea_ with ea_; subst ea_)); subst ec_; clear en_)); have GB36 := Aside0.mk gb36; have GG36 := Aside0.mk HG36; clear gb36 gl36 HG36; obtain ⟨hx36_0, hf36_0⟩ := Kd.R_celln false HO_7.out (x9_1 : Int) p36 q36; replace p36 := eq_true p36; replace q36 := eq_true q36; have n_ := A0 (Kd.R_mono (ok' := (fun k_ => some k_ ≠ (v188 : Value).ownBlock ∧ some k_ ≠ (v191 : Value).ownBlock ∧ some k_ ≠ (v200 : Value).ownBlock)) HO_7.out (fun k_ hk => ⟨hk.1.1, ⟨hk.1.2, hk.2⟩⟩)); clear HO_7; have HO_7 := n_; clear n_; obtain ⟨hy43_, hz43_⟩ := Kd.R_celln false HO_7.out (x9_1 : Int) (of_decide_eq_true (by first | (with_reducible assumption) | assumption)) (of_decide_eq_true (by first | (with_reducible assumption) | assumption)); have HP43 := Kd.R_putg HO_7.out (x9_1 : Int) true) | ((with_reducible refine gate_store (t := 4) (p := 87) rfl ?_); refine store_event (t := 4) (p := 87) (v := ?vo_w44) (w1 := (w41.setCell ⟨go36, (x9_1 : Int).toNat, none⟩ (.bool true))) ?hg ?ho ?hn ?hr ?_; (case ho => rfl); (case hg => rfl); (case hn => rfl); (case hr => first | (go_simp; done) | (go_simp; rfl)); intro w44 hw; have hg : w41.grownBy w44 (some go36) := (by rw [hw]; exact HP43.2); have hp_ : Kd.R Kd.bool 4 w44 w.heap.size (fun k_ => some k_ ≠ (v188 : Value).ownBlock ∧ some k_ ≠ (v191 : Value).ownBlock ∧ some k_ ≠ (v200 : Value).ownBlock) (.slice (some ⟨go36, 0, none⟩) x7_1.length co36) y203 := (by rw [hw, Ny203.out]; exact HP43.1); clear HP43; have n0_ := A0 (Kd.R_after (v := (.slice (some ⟨go36, 0, none⟩) x7_1.length co36)) (v1 := (.slice (some ⟨go36, 0, none⟩) x7_1.length co36)) (ok := (fun k_ => some k_ ≠ (v191 : Value).ownBlock ∧ some k_ ≠ (v200 : Value).ownBlock)) (by (with_reducible repeat (first | apply Kd.R_alloc | apply Kd.R_drewN | apply Kd.R_drew)); exact Kd.R_mono HO_5.out (fun _ hk => ⟨⟨hk.1.1, hk.2⟩, hk.1.2⟩)) hg (.inl rfl)); have n1_ := A0 (Kd.R_after (v := (.slice (some ⟨go36, 0, none⟩) x7_1.length co36)) (v1 := (.slice (some ⟨go36, 0, none⟩) x7_1.length co36)) (ok := (fun k_ => some k_ ≠ (v188 : Value).ownBlock ∧ some k_ ≠ (v200 : Value).ownBlock)) (by (with_reducible repeat (first | apply Kd.R_alloc | apply Kd.R_drewN | apply Kd.R_drew)); exact Kd.R_mono HO_6.out (fun _ hk => ⟨⟨hk.1.1, hk.2⟩, hk.1.2⟩)) hg (.inl rfl)); have n2_ := A0 (hp_); have n3_ := A0 (blk_grown (g := gb185) (o := .cells #[.int .i64 a0_0, .int .i64 a0_1, .slice (some ad202) l0_2.length c0_2] 27 (0, 0)) (by (with_reducible repeat (first | refine bN ?_ _ | refine bD ?_ | refine bA ?_ _)); exact BK185.out) hg (Kd.R_ne HO_7.out BK185.out (by decide))); have n4_ := A0 (Kd.R_after (v := (.slice (some ⟨go36, 0, none⟩) x7_1.length co36)) (v1 := (.slice (some ⟨go36, 0, none⟩) x7_1.length co36)) (ok := (fun k_ => some k_ ≠ (v188 : Value).ownBlock ∧ some k_ ≠ (v191 : Value).ownBlock)) (by (with_reducible repeat (first | apply Kd.R_alloc | apply Kd.R_drewN | apply Kd.R_drew)); exact Kd.R_mono HO201.out (fun _ hk => ⟨⟨hk.1, hk.2.1⟩, hk.2.2⟩)) hg (.inl rfl)); have n5_ := A0 ((by rw [hw]; exact below_set (HB.out) GB36.out : Below w.heap.size w w44)); clear HO_5; clear HO_6; clear HO_7; clear BK185; clear HO201; clear HB; have HO_5 := n0_; have HO_6 := n1_; have HO_7 := n2_; have BK185 := n3_; have HO201 := n4_; have HB := n5_; clear n0_ n1_ n2_ n3_ n4_ n5_; clear hg hw hp_; have p38 : 0 ≤ (x9_1 : Int) := of_decide_eq_true (by first | (with_reducible assumption) | assumption); have q38 : (x9_1 : Int) < ((x5_1.length : Int) : Int) := of_decide_eq_true (by first | (with_reducible assumption) | assumption); obtain ⟨go38, co38, eo38, gb38, gl38, cl38, HG38⟩ := Kd.R_form HO_5.out (by omega); (first | cases eo38 | (injection eo38 with ea_ en_ ec_; (first | subst ea_ | (injection ea_ with ea_; subst ea_)); subst ec_; clear en_)); have GB38 := Aside0.mk gb38; have GG38 := Aside0.mk HG38; clear gb38 gl38 HG38; obtain ⟨hx38_0, hf38_0⟩ := Kd.R_celln 0 HO_5.out (x9_1 : Int) p38 q38; replace p38 := eq_true p38; replace q38 := eq_true q38; have n_ := A0 (Kd.R_mono (ok' := (fun k_ => some k_ ≠ (v191 : Value).ownBlock ∧ some k_ ≠ (.slice (some ⟨go36, 0, none⟩) x7_1.length co36 : Value).ownBlock ∧ some k_ ≠ (v200 : Value).ownBlock)) HO_5.out (fun k_ hk => ⟨hk.1.1, ⟨hk.2, hk.1.2⟩⟩)); clear HO_5; have HO_5 := n_; clear n_; obtain ⟨hy45_, hz45_⟩ := Kd.R_celln 0 HO_5.out (x9_1 : Int) (of_decide_eq_true (by first | (with_reducible assumption) | assumption)) (of_decide_eq_true (by first | (with_reducible assumption) | assumption)); have HP45 := Kd.R_putg HO_5.out (x9_1 : Int) (rd l0_2 x9_1)) | ((with_reducible refine gate_store (t := 2) (p := 88) rfl ?_); refine store_event (t := 2) (p := 88) (v := ?vo_w46) (w1 := (w44.setCell ⟨go38, (x9_1 : Int).toNat, none⟩ (.int .i64 (rd l0_2 x9_1)))) ?hg ?ho ?hn ?hr ?_; (case ho => rfl); (case hg => rfl); (case hn => rfl); (case hr => first | (go_simp; done) | (go_simp; rfl)); intro w46 hw; have hg : w44.grownBy w46 (some go38) := (by rw [hw]; exact HP45.2); have hp_ : Kd.R (Kd.int .i64) 2 w46 w.heap.size (fun k_ => some k_ ≠ (v191 : Value).ownBlock ∧ some k_ ≠ (.slice (some ⟨go36, 0, none⟩) x7_1.length co36 : Value).ownBlock ∧ some k_ ≠ (v200 : Value).ownBlock) (.slice (some ⟨go38, 0, none⟩) x5_1.length co38) y204 := (by rw [hw, Ny204.out]; exact HP45.1); clear HP45; have n0_ := A0 (hp_); have n1_ := A0 (Kd.R_after (v := (.slice (some ⟨go38, 0, none⟩) x5_1.length co38)) (v1 := (.slice (some ⟨go38, 0, none⟩) x5_1.length co38)) (ok := (fun k_ => some k_ ≠ (.slice (some ⟨go36, 0, none⟩) x7_1.length co36 : Value).ownBlock ∧ some k_ ≠ (v200 : Value).ownBlock)) (by (with_reducible repeat (first | apply Kd.R_alloc | apply Kd.R_drewN | apply Kd.R_drew)); exact Kd.R_mono HO_6.out (fun _ hk => ⟨⟨hk.2, hk.1.2⟩, hk.1.1⟩)) hg (.inl rfl)); have n2_ := A0 (Kd.R_after (v := (.slice (some ⟨go38, 0, none⟩) x5_1.length co38)) (v1 := (.slice (some ⟨go38, 0, none⟩) x5_1.length co38)) (ok := (fun k_ => some k_ ≠ (v191 : Value).ownBlock ∧ some k_ ≠ (v200 : Value).ownBlock)) (by (with_reducible repeat (first | apply Kd.R_alloc | apply Kd.R_drewN | apply Kd.R_drew)); exact Kd.R_mono HO_7.out (fun _ hk => ⟨⟨hk.2.1, hk.2.2⟩, hk.1⟩)) hg (.inl rfl)); have n3_ := A0 (blk_grown (g := gb185) (o := .cells #[.int .i64 a0_0, .int .i64 a0_1, .slice (some ad202) l0_2.length c0_2] 27 (0, 0)) (by (with_reducible repeat (first | refine bN ?_ _ | refine bD ?_ | refine bA ?_ _)); exact BK185.out) hg (Kd.R_ne HO_5.out BK185.out (by decide))); have n4_ := A0 (Kd.R_after (v := (.slice (some ⟨go38, 0, none⟩) x5_1.length co38)) (v1 := (.slice (some ⟨go38, 0, none⟩) x5_1.length co38)) (ok := (fun k_ => some k_ ≠ (v191 : Value).ownBlock ∧ some k_ ≠ (.slice (some ⟨go36, 0, none⟩) x7_1.length co36 : Value).ownBlock)) (by (with_reducible repeat (first | apply Kd.R_alloc | apply Kd.R_drewN | apply Kd.R_drew)); exact Kd.R_mono HO201.out (fun _ hk => ⟨⟨hk.1.2, hk.2⟩, hk.1.1⟩)) hg (.inl rfl)); have n5_ := A0 ((by rw [hw]; exact below_set (HB.out) GB38.out : Below w.heap.size w w46)); clear HO_5; clear HO_6; clear HO_7; clear BK185; clear HO201; clear HB; have HO_5 := n0_; have HO_6 := n1_; have HO_7 := n2_; have BK185 := n3_; have HO201 := n4_; have HB := n5_; clear n0_ n1_ n2_ n3_ n4_ n5_; clear hg hw hp_; have p40 : 0 ≤ (x9_1 : Int) := of_decide_eq_true (by first | (with_reducible assumption) | assumption); have q40 : (x9_1 : Int) < ((x6_1.length : Int) : Int) := of_decide_eq_true (by first | (with_reducible assumption) | assumption); obtain ⟨go40, co40, eo40, gb40, gl40, cl40, HG40⟩ := Kd.R_form HO_6.out (by omega); (first | cases eo40 | (injection eo40 with ea_ en_ ec_; (first | subst ea_ | (injection ea_ with ea_; subst ea_)); subst ec_; clear en_)); have GB40 := Aside0.mk gb40; have GG40 := Aside0.mk HG40; clear gb40 gl40 HG40; obtain ⟨hx40_0, hf40_0⟩ := Kd.R_celln 0 HO_6.out (x9_1 : Int) p40 q40; replace p40 := eq_true p40; replace q40 := eq_true q40; have n_ := A0 (Kd.R_mono (ok' := (fun k_ => some k_ ≠ (.slice (some ⟨go38, 0, none⟩) x5_1.length co38 : Value).ownBlock ∧ some k_ ≠ (.slice (some ⟨go36, 0, none⟩) x7_1.length co36 : Value).ownBlock ∧ some k_ ≠ (v200 : Value).ownBlock)) HO_6.out (fun k_ hk => ⟨hk.2, ⟨hk.1.1, hk.1.2⟩⟩)); clear HO_6; have HO_6 := n_; clear n_; obtain ⟨hy47_, hz47_⟩ := Kd.R_celln 0 HO_6.out (x9_1 : Int) (of_decide_eq_true (by first | (with_reducible assumption) | assumption)) (of_decide_eq_true (by first | (with_reducible assumption) | assumption)); have HP47 := Kd.R_putg HO_6.out (x9_1 : Int) (-1)) | ((with_reducible refine gate_store (t := 2) (p := 89) rfl ?_); refine store_event (t := 2) (p := 89) (v := ?vo_w48) (w1 := (w46.setCell ⟨go40, (x9_1 : Int).toNat, none⟩ (.int .i64 (-1)))) ?hg ?ho ?hn ?hr ?_; (case ho => rfl); (case hg => rfl); (case hn => rfl); (case hr => first | (go_simp; done) | (go_simp; rfl)); intro w48 hw; have hg : w46.grownBy w48 (some go40) := (by rw [hw]; exact HP47.2); have hp_ : Kd.R (Kd.int .i64) 2 w48 w.heap.size (fun k_ => some k_ ≠ (.slice (some ⟨go38, 0, none⟩) x5_1.length co38 : Value).ownBlock ∧ some k_ ≠ (.slice (some ⟨go36, 0, none⟩) x7_1.length co36 : Value).ownBlock ∧ some k_ ≠ (v200 : Value).ownBlock) (.slice (some ⟨go40, 0, none⟩) x6_1.length co40) y205 := (by rw [hw, Ny205.out]; exact HP47.1); clear HP47; have n0_ := A0 (Kd.R_after (v := (.slice (some ⟨go40, 0, none⟩) x6_1.length co40)) (v1 := (.slice (some ⟨go40, 0, none⟩) x6_1.length co40)) (ok := (fun k_ => some k_ ≠ (.slice (some ⟨go36, 0, none⟩) x7_1.length co36 : Value).ownBlock ∧ some k_ ≠ (v200 : Value).ownBlock)) (by (with_reducible repeat (first | apply Kd.R_alloc | apply Kd.R_drewN | apply Kd.R_drew)); exact Kd.R_mono HO_5.out (fun _ hk => ⟨⟨hk.2.1, hk.2.2⟩, hk.1⟩)) hg (.inl rfl)); have n1_ := A0 (hp_); have n2_ := A0 (Kd.R_after (v := (.slice (some ⟨go40, 0, none⟩) x6_1.length co40)) (v1 := (.slice (some ⟨go40, 0, none⟩) x6_1.length co40)) (ok := (fun k_ => some k_ ≠ (.slice (some ⟨go38, 0, none⟩) x5_1.length co38 : Value).ownBlock ∧ some k_ ≠ (v200 : Value).ownBlock)) (by (with_reducible repeat (first | apply Kd.R_alloc | apply Kd.R_drewN | apply Kd.R_drew)); exact Kd.R_mono HO_7.out (fun _ hk => ⟨⟨hk.2, hk.1.2⟩, hk.1.1⟩)) hg (.inl rfl)); have n3_ := A0 (blk_grown (g := gb185) (o := .cells #[.int .i64 a0_0, .int .i64 a0_1, .slice (some ad202) l0_2.length c0_2] 27 (0, 0)) (by (with_reducible repeat (first | refine bN ?_ _ | refine bD ?_ | refine bA ?_ _)); exact BK185.out) hg (Kd.R_ne HO_6.out BK185.out (by decide))); have n4_ := A0 (Kd.R_after (v := (.slice (some ⟨go40, 0, none⟩) x6_1.length co40)) (v1 := (.slice (some ⟨go40, 0, none⟩) x6_1.length co40)) (ok := (fun k_ => some k_ ≠ (.slice (some ⟨go38, 0, none⟩) x5_1.length co38 : Value).ownBlock ∧ some k_ ≠ (.slice (some ⟨go36, 0, none⟩) x7_1.length co36 : Value).ownBlock)) (by (with_reducible repeat (first | apply Kd.R_alloc | apply Kd.R_drewN | apply Kd.R_drew)); exact Kd.R_mono HO201.out (fun _ hk => ⟨⟨hk.2, hk.1.2⟩, hk.1.1⟩)) hg (.inl rfl)); have n5_ := A0 ((by rw [hw]; exact below_set (HB.out) GB40.out : Below w.heap.size w w48)); clear HO_5; clear HO_6; clear HO_7; clear BK185; clear HO201; clear HB; have HO_5 := n0_; have HO_6 := n1_; have HO_7 := n2_; have BK185 := n3_; have HO201 := n4_; have HB := n5_; clear n0_ n1_ n2_ n3_ n4_ n5_; clear hg hw hp_))
                  go_roundg kj23
                  case measure => have := HK1.out; have := HJ23.out; omega
                  case rel => exact ⟨(y204), (y205), (y203), (y199), (wrap64 (x9_1 + 1)), (by first | rfl | (simp; done) | (simp [*]; done)), H', ⟨by have := HK1.out; have := HJ23.out; omega⟩, ⟨by (with_reducible repeat (first | apply Kd.R_alloc | apply Kd.R_drewN | apply Kd.R_drew)); exact Kd.R_mono HO_5.out (fun _ hk => ⟨hk.2, ⟨hk.1.1, hk.1.2⟩⟩)⟩, ⟨by (with_reducible repeat (first | apply Kd.R_alloc | apply Kd.R_drewN | apply Kd.R_drew)); exact HO_6.out⟩, ⟨by (with_reducible repeat (first | apply Kd.R_alloc | apply Kd.R_drewN | apply Kd.R_drew)); exact Kd.R_mono HO_7.out (fun _ hk => ⟨hk.1.1, ⟨hk.2, hk.1.2⟩⟩)⟩, ⟨by (with_reducible repeat (first | apply Kd.R_alloc | apply Kd.R_drewN | apply Kd.R_drew)); exact Kd.R_mono HO201.out (fun _ hk => ⟨hk.1.1, ⟨hk.2, hk.1.2⟩⟩)⟩, ⟨by (with_reducible repeat (first | refine bN ?_ _ | refine bD ?_ | refine bA ?_ _)); exact BK185.out⟩, ⟨by repeat (first | (with_reducible first | exact HB.out | apply wA | apply wN | apply wD | refine bS ?_ GE185.out) | exact HB.out)⟩⟩
                 ·rw [if_neg c39] at H
                  exact absurd H (by simp)
                ·rw [if_neg c37] at H
                 exact absurd H (by simp)
               ·rw [if_neg c35] at H
                exact absurd H (by simp)
              ·rw [if_neg c34] at H
               exact absurd H (by simp)
             ·rw [if_neg c33] at H
              exact absurd H (by simp)
            ·rw [if_neg c32] at H
             exact absurd H (by simp)
           ·replace c31 := Bool.eq_false_iff.mpr c31
            subst c31
            have H1 : (impl_Drain.l0 kj23 ji4 x5_1 x6_1 x7_1 x8_1 (wrap64 (x9_1 + 1)) a0_0 a0_1 l0_2) = some (r1, r2) := by rw [if_neg (show ¬ (false = true) by decide)] at H; exact H
            clear H
            have H := H1
            clear H1
            have H' := Aside0.mk H
            clear H
            go_wp2
            go_roundg kj23
            case measure => have := HK1.out; have := HJ23.out; omega
            case rel => exact ⟨(x5_1), (x6_1), (x7_1), (x8_1), (wrap64 (x9_1 + 1)), (by first | rfl | (simp; done) | (simp [*]; done)), H', ⟨by have := HK1.out; have := HJ23.out; omega⟩, ⟨by (with_reducible repeat (first | apply Kd.R_alloc | apply Kd.R_drewN | apply Kd.R_drew)); exact HO_5.out⟩, ⟨by (with_reducible repeat (first | apply Kd.R_alloc | apply Kd.R_drewN | apply Kd.R_drew)); exact HO_6.out⟩, ⟨by (with_reducible repeat (first | apply Kd.R_alloc | apply Kd.R_drewN | apply Kd.R_drew)); exact HO_7.out⟩, ⟨by (with_reducible repeat (first | apply Kd.R_alloc | apply Kd.R_drewN | apply Kd.R_drew)); exact HO_8.out⟩, ⟨by (with_reducible repeat (first | refine bN ?_ _ | refine bD ?_ | refine bA ?_ _)); exact BK185.out⟩, ⟨by repeat (first | (with_reducible first | exact HB.out | apply wA | apply wN | apply wD | refine bS ?_ GE185.out) | exact HB.out)⟩⟩
       ·rw [if_neg c22] at H
        have c22b0 : decide (x9_1 < ji4) = false := decide_eq_false c22
        clear c22
        have H' := Aside0.mk H
        clear H
        go_wp2
        go_loopg [8] k1 (fun kq v8 w' => ∃ (x5_2 : List Int) (x6_2 : List Int) (x7_2 : List Bool) (x8_2 : List Int), Aside0 (impl_Drain.l1 kq x5_2 x6_2 x7_2 x8_2 a0_0 a0_1 l0_2 = some (r1, r2)) ∧ Aside0 (kq ≤ k1) ∧ Aside0 (Kd.R (Kd.int .i64) 2 w' w.heap.size (fun k_ => some k_ ≠ (v191 : Value).ownBlock ∧ some k_ ≠ (v194 : Value).ownBlock ∧ some k_ ≠ (v8 : Value).ownBlock) v188 x5_2) ∧ Aside0 (Kd.R (Kd.int .i64) 2 w' w.heap.size (fun k_ => some k_ ≠ (v188 : Value).ownBlock ∧ some k_ ≠ (v194 : Value).ownBlock ∧ some k_ ≠ (v8 : Value).ownBlock) v191 x6_2) ∧ Aside0 (Kd.R Kd.bool 4 w' w.heap.size (fun k_ => some k_ ≠ (v188 : Value).ownBlock ∧ some k_ ≠ (v191 : Value).ownBlock ∧ some k_ ≠ (v8 : Value).ownBlock) v194 x7_2) ∧ Aside0 (Kd.R (Kd.int .i64) 2 w' w.heap.size (fun k_ => some k_ ≠ (v188 : Value).ownBlock ∧ some k_ ≠ (v191 : Value).ownBlock ∧ some k_ ≠ (v194 : Value).ownBlock) v8 x8_2) ∧ Aside0 (w'.heap[gb185]? = some (.cells #[.int .i64 a0_0, .int .i64 a0_1, (.slice A0_2 l0_2.length c0_2)] 27 (0, 0))) ∧ Aside0 (Below w.heap.size w w'))
        case atStart => exact ⟨(x5_1), (x6_1), (x7_1), (x8_1), H', ⟨Nat.le_refl _⟩, ⟨by (with_reducible repeat (first | apply Kd.R_alloc | apply Kd.R_drewN | apply Kd.R_drew)); exact HO_5.out⟩, ⟨by (with_reducible repeat (first | apply Kd.R_alloc | apply Kd.R_drewN | apply Kd.R_drew)); exact HO_6.out⟩, ⟨by (with_reducible repeat (first | apply Kd.R_alloc | apply Kd.R_drewN | apply Kd.R_drew)); exact HO_7.out⟩, ⟨by (with_reducible repeat (first | apply Kd.R_alloc | apply Kd.R_drewN | apply Kd.R_drew)); exact HO_8.out⟩, ⟨by (with_reducible repeat (first | refine bN ?_ _ | refine bD ?_ | refine bA ?_ _)); exact BK185.out⟩, ⟨by repeat (first | (with_reducible first | exact HB.out | apply wA | apply wN | apply wD | refine bS ?_ GE185.out) | exact HB.out)⟩⟩
        case round =>
         clear H'
         try clear c2
         try clear p2
         try clear q2
         try clear hx2
         try clear c3
         try clear p3
         try clear q3
         try clear hx3
         try clear hf3
         try clear p4
         try clear q4
         try clear hx4
         try clear hf4
         try clear c5
         try clear c5b0
         try clear c5b1
         try clear c6
         try clear c6b0
         try clear c6b1
         try clear p6
         try clear c7
         try clear c7b0
         try clear c7b1
         try clear p20
         try clear q20
         try clear hx20
         try clear c21
         try clear c22
         try clear c22b0
         try clear c23
         try clear c23b0
         try clear c23b1
         try clear c26
         try clear c26b0
         try clear c26b1
         try clear c27
         try clear c27b0
         try clear c27b1
         try clear c28
         try clear c28b0
         try clear c28b1
         try clear c31
         try clear c32
         try clear c33
         try clear c33b0
         try clear c34
         try clear c34b0
         try clear c35
         try clear c35b0
         try clear c36
         try clear p36
         try clear q36
         try clear hx36
         try clear hf36
         try clear c37
         try clear c37b0
         try clear p38
         try clear q38
         try clear hx38
         try clear hf38
         try clear c39
         try clear c39b0
         try clear p40
         try clear q40
         try clear hx40
         try clear hf40
         try clear hcz11_0
         try clear hcz11_1
         try clear hcz11_2
         try clear hcz29_0
         try clear hcz29_1
         try clear hcz29_2
         try clear hcz30_0
         try clear hcz30_1
         try clear hcz30_2
         try clear hcz42_0
         try clear hcz42_1
         try clear hcz42_2
         try clear hcz9_0
         try clear hcz9_1
         try clear hcz9_2
         try clear hfz11_0
         try clear hfz11_1
         try clear hfz11_2
         try clear hfz29_0
         try clear hfz29_1
         try clear hfz29_2
         try clear hfz30_0
         try clear hfz30_1
         try clear hfz30_2
         try clear hfz42_0
         try clear hfz42_1
         try clear hfz42_2
         try clear hfz9_0
         try clear hfz9_1
         try clear hfz9_2
         try clear hx202_0
         try clear hx36_0
         try clear hx38_0
         try clear hx40_0
         try clear p2
         try clear p202
         try clear p36
         try clear p38
         try clear p40
         try clear p6
         try clear q202
         try clear q36
         try clear q38
         try clear q40
         obtain ⟨x5_2, x6_2, x7_2, x8_2, HA, HK2, HO_5, HO_6, HO_7, HO_8, BK185, HB⟩ := hrel
         cases gk with
         | zero => exact absurd HA.out (by simp [impl_Drain.l1])
         | succ k2 =>
          have H := HA.out
          clear HA
          simp only [impl_Drain.l1] at H
          by_cases c49 : (x8_2.length : Int) > 0
          ·rw [if_pos c49] at H
           have c49b0 : decide (0 < (x8_2.length : Int)) = true := decide_eq_true c49
           have c49b1 : decide (0 < x8_2.length) = true := decide_eq_true (by omega)
           clear c49
           have H' := Aside0.mk H
           clear H
           obtain ⟨Ao50, co50, eo50⟩ := Kd.R_slice HO_8.out
           subst eo50
           go_wp2
           go_loopg [12, 95] k2 (fun kq v12 v95 w' => ∃ (x12_3 : Int) (x95_3 : Int), v12 = .int .i64 x12_3 ∧ v95 = .int .i64 x95_3 ∧ Aside0 (impl_Drain.l2 kq x5_2 x6_2 x7_2 x8_2 x12_3 x8_2 (x8_2.length : Int) x95_3 a0_0 a0_1 l0_2 = some (r1, r2)) ∧ Aside0 (kq ≤ k2) ∧ Aside0 (Kd.R (Kd.int .i64) 2 w' w.heap.size (fun k_ => some k_ ≠ (v191 : Value).ownBlock ∧ some k_ ≠ (v194 : Value).ownBlock ∧ some k_ ≠ ((.slice Ao50 x8_2.length co50) : Value).ownBlock ∧ some k_ ≠ ((.slice Ao50 x8_2.length co50) : Value).ownBlock) v188 x5_2) ∧ Aside0 (Kd.R (Kd.int .i64) 2 w' w.heap.size (fun k_ => some k_ ≠ (v188 : Value).ownBlock ∧ some k_ ≠ (v194 : Value).ownBlock ∧ some k_ ≠ ((.slice Ao50 x8_2.length co50) : Value).ownBlock ∧ some k_ ≠ ((.slice Ao50 x8_2.length co50) : Value).ownBlock) v191 x6_2) ∧ Aside0 (Kd.R Kd.bool 4 w' w.heap.size (fun k_ => some k_ ≠ (v188 : Value).ownBlock ∧ some k_ ≠ (v191 : Value).ownBlock ∧ some k_ ≠ ((.slice Ao50 x8_2.length co50) : Value).ownBlock ∧ some k_ ≠ ((.slice Ao50 x8_2.length co50) : Value).ownBlock) v194 x7_2) ∧ Aside0 (Kd.R (Kd.int .i64) 2 w' w.heap.size (fun k_ => some k_ ≠ (v188 : Value).ownBlock ∧ some k_ ≠ (v191 : Value).ownBlock ∧ some k_ ≠ (v194 : Value).ownBlock) (.slice Ao50 x8_2.length co50) x8_2) ∧ Aside0 (Kd.R (Kd.int .i64) 2 w' w.heap.size (fun k_ => some k_ ≠ (v188 : Value).ownBlock ∧ some k_ ≠ (v191 : Value).ownBlock ∧ some k_ ≠ (v194 : Value).ownBlock) (.slice Ao50 x8_2.length co50) x8_2) ∧ Aside0 (w'.heap[gb185]? = some (.cells #[.int .i64 a0_0, .int .i64 a0_1, (.slice A0_2 l0_2.length c0_2)] 27 (0, 0))) ∧ Aside0 (Below w.heap.size w w'))
           case atStart => exact ⟨(0), (0), (by first | rfl | (simp; done) | (simp [*]; done)), (by first | rfl | (simp; done) | (simp [*]; done)), H', ⟨Nat.le_refl _⟩, ⟨by (with_reducible repeat (first | apply Kd.R_alloc | apply Kd.R_drewN | apply Kd.R_drew)); exact Kd.R_mono HO_5.out (fun _ hk => ⟨hk.1, ⟨hk.2.1, ⟨hk.2.2, hk.2.2⟩⟩⟩)⟩, ⟨by (with_reducible repeat (first | apply Kd.R_alloc | apply Kd.R_drewN | apply Kd.R_drew)); exact Kd.R_mono HO_6.out (fun _ hk => ⟨hk.1, ⟨hk.2.1, ⟨hk.2.2, hk.2.2⟩⟩⟩)⟩, ⟨by (with_reducible repeat (first | apply Kd.R_alloc | apply Kd.R_drewN | apply Kd.R_drew)); exact Kd.R_mono HO_7.out (fun _ hk => ⟨hk.1, ⟨hk.2.1, ⟨hk.2.2, hk.2.2⟩⟩⟩)⟩, ⟨by (with_reducible repeat (first | apply Kd.R_alloc | apply Kd.R_drewN | apply Kd.R_drew)); exact HO_8.out⟩, ⟨by (with_reducible repeat (first | apply Kd.R_alloc | apply Kd.R_drewN | apply Kd.R_drew)); exact HO_8.out⟩, ⟨by (with_reducible repeat (first | refine bN ?_ _ | refine bD ?_ | refine bA ?_ _)); exact BK185.out⟩, ⟨by repeat (first | (with_reducible first | exact HB.out | apply wA | apply wN | apply wD | refine bS ?_ GE185.out) | exact HB.out)⟩⟩
           case round =>
            clear H'
            try clear c2
            try clear p2
            try clear q2
            try clear hx2
            try clear c3
            try clear p3
            try clear q3
            try clear hx3
            try clear hf3
            try clear c4
            try clear p4
            try clear q4
            try clear hx4
            try clear hf4
            try clear c5
            try clear c5b0
            try clear c5b1
            try clear c6
            try clear c6b0
            try clear c6b1
            try clear p6
            try clear c7
            try clear c7b0
            try clear c7b1
            try clear p20
            try clear q20
            try clear hx20
            try clear c21
            try clear c22
            try clear c22b0
            try clear c23
            try clear c23b0
            try clear c23b1
            try clear c26
            try clear c26b0
            try clear c26b1
            try clear c27
            try clear c27b0
            try clear c27b1
            try clear c28
            try clear c28b0
            try clear c28b1
            try clear c31
            try clear c32
            try clear c33
            try clear c33b0
            try clear c34
            try clear c34b0
            try clear c35
            try clear c35b0
            try clear c36
            try clear p36
            try clear q36
            try clear hx36
            try clear hf36
            try clear c37
            try clear c37b0
            try clear p38
            try clear q38
            try clear hx38
            try clear hf38
            try clear c39
            try clear c39b0
            try clear p40
            try clear q40
            try clear hx40
            try clear hf40
            try clear c49
            try clear c49b0
            try clear c49b1
            try clear hcz11_0
            try clear hcz11_1
            try clear hcz11_2
            try clear hcz29_0
            try clear hcz29_1
            try clear hcz29_2
            try clear hcz30_0
            try clear hcz30_1
            try clear hcz30_2
            try clear hcz42_0
            try clear hcz42_1
            try clear hcz42_2
            try clear hcz9_0
            try clear hcz9_1
            try clear hcz9_2
            try clear hfz11_0
            try clear hfz11_1
            try clear hfz11_2
            try clear hfz29_0
            try clear hfz29_1
            try clear hfz29_2
            try clear hfz30_0
            try clear hfz30_1
            try clear hfz30_2
            try clear hfz42_0
            try clear hfz42_1
            try clear hfz42_2
            try clear hfz9_0
            try clear hfz9_1
            try clear hfz9_2
            try clear hx202_0
            try clear hx36_0
            try clear hx38_0
            try clear hx40_0
            try clear p2
            try clear p20
            try clear p202
            try clear p3
            try clear p36
            try clear p38
            try clear p4
            try clear p40
            try clear p6
            try clear q2
            try clear q20
            try clear q202
            try clear q3
            try clear q36
            try clear q38
            try clear q4
            try clear q40
            obtain ⟨x12_3, x95_3, rfl, rfl, HA, HK3, HO_5, HO_6, HO_7, HO_8, HO_93, BK185, HB⟩ := hrel
            cases gk with
            | zero => exact absurd HA.out (by simp [impl_Drain.l2])
            | succ k3 =>
             have H := HA.out
             clear HA
             simp only [impl_Drain.l2] at H
             by_cases c51 : x95_3 < (x8_2.length : Int)
             ·rw [if_pos c51] at H
              have c51b0 : decide (x95_3 < (x8_2.length : Int)) = true := decide_eq_true c51
              clear c51
              by_cases c52 : 0 ≤ x95_3
              ·rw [if_pos c52] at H
               have c52b0 : decide (0 ≤ x95_3) = true := decide_eq_true c52
               clear c52
               by_cases c53 : x95_3 < (x8_2.length : Int)
               ·rw [if_pos c53] at H
                have c53b0 : decide (x95_3 < (x8_2.length : Int)) = true := decide_eq_true c53
                clear c53
                by_cases c54 : 0 ≤ x12_3
                ·rw [if_pos c54] at H
                 have c54b0 : decide (0 ≤ x12_3) = true := decide_eq_true c54
                 clear c54
                 by_cases c55 : x12_3 < (x8_2.length : Int)
                 ·rw [if_pos c55] at H
                  have c55b0 : decide (x12_3 < (x8_2.length : Int)) = true := decide_eq_true c55
                  clear c55
                  have HC56 := Aside0.mk H
                  clear H
                  have p206 : 0 ≤ (x95_3 : Int) := of_decide_eq_true (by first | (with_reducible assumption) | assumption)
                  have q206 : x95_3 < (x8_2.length : Int) := of_decide_eq_true (by first | (with_reducible assumption) | assumption)
                  obtain ⟨ad206, e206, hx206_0⟩ := Kd.at_int (Kd.R_reads' HO_93.out).2.2 x95_3 p206 q206
                  cases e206
                  replace p206 := eq_true p206
                  replace q206 := eq_true q206
                  have p207 : 0 ≤ (x12_3 : Int) := of_decide_eq_true (by first | (with_reducible assumption) | assumption)
                  have q207 : x12_3 < (x8_2.length : Int) := of_decide_eq_true (by first | (with_reducible assumption) | assumption)
                  obtain ⟨ad207, e207, hx207_0⟩ := Kd.at_int (Kd.R_reads' HO_8.out).2.2 x12_3 p207 q207
                  obtain rfl : ad206 = ad207 := (by injection e207)
                  replace p207 := eq_true p207
                  replace q207 := eq_true q207
                  go_upto_region 20 with (fail)
                  go_cut [128] (fun v128 wc => ∃ (kq : Nat) (x128_55 : Bool), v128 = .bool x128_55 ∧ Aside0 (impl_Drain.j4 kq x5_2 x6_2 x7_2 x8_2 x12_3 x95_3 x8_2 (x8_2.length : Int) x95_3 x128_55 a0_0 a0_1 l0_2 = some (r1, r2)) ∧ Aside0 (kq ≤ k3) ∧ Aside0 (Kd.R (Kd.int .i64) 2 wc w.heap.size (fun k_ => some k_ ≠ (v191 : Value).ownBlock ∧ some k_ ≠ (v194 : Value).ownBlock ∧ some k_ ≠ ((.slice (some ad206) x8_2.length co50) : Value).ownBlock ∧ some k_ ≠ ((.slice (some ad206) x8_2.length co50) : Value).ownBlock) v188 x5_2) ∧ Aside0 (Kd.R (Kd.int .i64) 2 wc w.heap.size (fun k_ => some k_ ≠ (v188 : Value).ownBlock ∧ some k_ ≠ (v194 : Value).ownBlock ∧ some k_ ≠ ((.slice (some ad206) x8_2.length co50) : Value).ownBlock ∧ some k_ ≠ ((.slice (some ad206) x8_2.length co50) : Value).ownBlock) v191 x6_2) ∧ Aside0 (Kd.R Kd.bool 4 wc w.heap.size (fun k_ => some k_ ≠ (v188 : Value).ownBlock ∧ some k_ ≠ (v191 : Value).ownBlock ∧ some k_ ≠ ((.slice (some ad206) x8_2.length co50) : Value).ownBlock ∧ some k_ ≠ ((.slice (some ad206) x8_2.length co50) : Value).ownBlock) v194 x7_2) ∧ Aside0 (Kd.R (Kd.int .i64) 2 wc w.heap.size (fun k_ => some k_ ≠ (v188 : Value).ownBlock ∧ some k_ ≠ (v191 : Value).ownBlock ∧ some k_ ≠ (v194 : Value).ownBlock) (.slice (some ad206) x8_2.length co50) x8_2) ∧ Aside0 (Kd.R (Kd.int .i64) 2 wc w.heap.size (fun k_ => some k_ ≠ (v188 : Value).ownBlock ∧ some k_ ≠ (v191 : Value).ownBlock ∧ some k_ ≠ (v194 : Value).ownBlock) (.slice (some ad206) x8_2.length co50) x8_2) ∧ Aside0 (wc.heap[gb185]? = some (.cells #[.int .i64 a0_0, .int .i64 a0_1, (.slice A0_2 l0_2.length c0_2)] 27 (0, 0))) ∧ Aside0 (Below w.heap.size w wc))
                  case first =>
                   have H := HC56.out
                   clear HC56
                   by_cases c57 : 0 ≤ (rd x8_2 x95_3)
                   ·rw [if_pos c57] at H
                    have c57b0 : decide (0 ≤ (rd x8_2 x95_3)) = true := decide_eq_true c57
                    clear c57
                    (first | rw [c57b0] | (simp only [i64_w, i32_w]; rw [c57b0]) | skip)
                    by_cases c58 : (rd x8_2 x95_3) < (x5_2.length : Int)
                    ·rw [if_pos c58] at H
                     have c58b0 : decide ((rd x8_2 x95_3) < (x5_2.length : Int)) = true := decide_eq_true c58
                     clear c58
                     by_cases c59 : 0 ≤ (rd x8_2 x12_3)
                     ·rw [if_pos c59] at H
                      have c59b0 : decide (0 ≤ (rd x8_2 x12_3)) = true := decide_eq_true c59
                      clear c59
                      by_cases c60 : (rd x8_2 x12_3) < (x5_2.length : Int)
                      ·rw [if_pos c60] at H
                       have c60b0 : decide ((rd x8_2 x12_3) < (x5_2.length : Int)) = true := decide_eq_true c60
                       clear c60
                       by_cases c61 : (rd x5_2 (rd x8_2 x95_3)) < (rd x5_2 (rd x8_2 x12_3))
                       ·rw [if_pos c61] at H
                        have c61b0 : decide ((rd x5_2 (rd x8_2 x95_3)) < (rd x5_2 (rd x8_2 x12_3))) = true := decide_eq_true c61
                        clear c61
                        have H' := Aside0.mk H
                        clear H
                        try go_wp2
                        have n0_ := A0 (Kd.R_drew HO_5.out)
                        have n1_ := A0 (Kd.R_drew HO_6.out)
                        have n2_ := A0 (Kd.R_drew HO_7.out)
                        have n3_ := A0 (Kd.R_drew HO_8.out)
                        have n4_ := A0 (Kd.R_drew HO_93.out)
                        have n5_ := A0 (blk_drew BK185.out)
                        have n6_ := A0 (below_drew1 HB.out)
                        clear HO_5
                        clear HO_6
                        clear HO_7
                        clear HO_8
                        clear HO_93
                        clear BK185
                        clear HB
                        have HO_5 := n0_
                        have HO_6 := n1_
                        have HO_7 := n2_
                        have HO_8 := n3_
                        have HO_93 := n4_
                        have BK185 := n5_
                        have HB := n6_
                        clear n0_ n1_ n2_ n3_ n4_ n5_ n6_
                        obtain ⟨Ao63, co63, eo63⟩ := Kd.R_slice HO_5.out
                        (first | subst eo63 | (injection eo63 with f1_ f2_ f3_; have f4_ := f1_.symm; have f5_ := f3_.symm; clear f1_ f2_ f3_; subst f4_; subst f5_))
                        have p208 : 0 ≤ ((rd x8_2 x95_3) : Int) := of_decide_eq_true (by first | (with_reducible assumption) | assumption)
                        have q208 : (rd x8_2 x95_3) < (x5_2.length : Int) := of_decide_eq_true (by first | (with_reducible assumption) | assumption)
                        obtain ⟨ad208, e208, hx208_0⟩ := Kd.at_int (Kd.R_reads' HO_5.out).2.2 (rd x8_2 x95_3) p208 q208
                        cases e208
                        replace p208 := eq_true p208
                        replace q208 := eq_true q208
                        have p209 : 0 ≤ ((rd x8_2 x12_3) : Int) := of_decide_eq_true (by first | (with_reducible assumption) | assumption)
                        have q209 : (rd x8_2 x12_3) < (x5_2.length : Int) := of_decide_eq_true (by first | (with_reducible assumption) | assumption)
                        obtain ⟨ad209, e209, hx209_0⟩ := Kd.at_int (Kd.R_reads' HO_5.out).2.2 (rd x8_2 x12_3) p209 q209
                        obtain rfl : ad208 = ad209 := (by injection e209)
                        replace p209 := eq_true p209
                        replace q209 := eq_true q209
                        refine start_ (n := 25) (S := fun w' => w'.cell? (ad208.add ((rd x8_2 x95_3)).toNat) = some (.int .i64 (rd x5_2 (rd x8_2 x95_3))) ∧ w'.cell? (ad208.add ((rd x8_2 x12_3)).toNat) = some (.int .i64 (rd x5_2 (rd x8_2 x12_3)))) (ds := []) #[false, false, false, false, false, false, false, false, false, false, false, false, false, false, false, false, false, false, false, false, false, false, false, false, false] (by kernel_rfl) rfl rfl ⟨hx208_0, hx209_0⟩ (fun hHeld => ?_); refine with_tabW impl_Drain.tab20 impl_Drain.bits20 (fun HT_ HW_ => ?_)
                        generalize wr.drew = w62 at HO_5 HO_6 HO_7 HO_8 HO_93 BK185 HB hx208_0 hx209_0 hHeld ⊢
                        refine pure_ (i := 0) (N := some 104) (v := ?_) (a' := ?_) #[true, false, false, false, false, false, false, false, false, false, false, false, false, false, false, false, false, false, false, false, false, false, false, false, false] rfl rfl (any_of HT_.out (by kernel_rfl)) (fun _ _ _ h => h) (Or.inl ⟨by rfl, ?_⟩) ?_ ?_
                        rotate_left
                        ·intro w'
                         go_simp
                         with_reducible rfl
                        rotate_left
                        ·simp only [Act.put, sqA, sqZ, sqS, i64_w, i32_w]
                         rfl
                        refine pure_ (i := 1) (N := some 105) (v := ?_) (a' := ?_) #[true, true, false, false, false, false, false, false, false, false, false, false, false, false, false, false, false, false, false, false, false, false, false, false, false] rfl rfl (any_of HT_.out (by kernel_rfl)) (fun _ _ _ h => h) (Or.inl ⟨by rfl, ?_⟩) ?_ ?_
                        rotate_left
                        ·intro w'
                         go_simp
                         with_reducible rfl
                        rotate_left
                        ·simp only [Act.put, sqA, sqZ, sqS, i64_w, i32_w]
                         rfl
                        refine pure_ (i := 2) (N := some 106) (v := ?_) (a' := ?_) #[true, true, true, false, false, false, false, false, false, false, false, false, false, false, false, false, false, false, false, false, false, false, false, false, false] rfl rfl (any_of HT_.out (by kernel_rfl)) (fun _ _ _ h => h) (Or.inl ⟨by rfl, ?_⟩) ?_ ?_
                        rotate_left
                        ·intro w'
                         go_simp
                         with_reducible rfl
                        rotate_left
                        ·simp only [Act.put, sqA, sqZ, sqS, i64_w, i32_w]
                         rfl
                        refine pure_ (i := 4) (N := some 108) (v := ?_) (a' := ?_) #[true, true, true, false, true, false, false, false, false, false, false, false, false, false, false, false, false, false, false, false, false, false, false, false, false] rfl rfl (any_of HT_.out (by kernel_rfl)) (fun _ _ _ h => h) (Or.inl ⟨by rfl, ?_⟩) ?_ ?_
                        rotate_left
                        ·intro w'
                         go_simp
                         with_reducible rfl
                        rotate_left
                        ·simp only [Act.put, sqA, sqZ, sqS, i64_w, i32_w]
                         rfl
                        refine pure_ (i := 5) (N := some 109) (v := ?_) (a' := ?_) #[true, true, true, false, true, true, false, false, false, false, false, false, false, false, false, false, false, false, false, false, false, false, false, false, false] rfl rfl (any_of HT_.out (by kernel_rfl)) (fun _ _ _ h => h) (Or.inl ⟨by rfl, ?_⟩) ?_ ?_
                        rotate_left
                        ·intro w'
                         go_simp
                         with_reducible rfl
                        rotate_left
                        ·simp only [Act.put, sqA, sqZ, sqS, i64_w, i32_w]
                         rfl
                        refine pure_ (i := 6) (N := some 110) (v := ?_) (a' := ?_) #[true, true, true, false, true, true, true, false, false, false, false, false, false, false, false, false, false, false, false, false, false, false, false, false, false] rfl rfl (any_of HT_.out (by kernel_rfl)) (fun _ _ _ h => h) (Or.inl ⟨by rfl, ?_⟩) ?_ ?_
                        rotate_left
                        ·intro w'
                         go_simp
                         with_reducible rfl
                        rotate_left
                        ·simp only [Act.put, sqA, sqZ, sqS, i64_w, i32_w]
                         rfl
                        refine take_ (i := 3) (N := some 107) (v := ?_) (a' := ?_) #[true, true, true, true, true, true, true, false, false, false, false, false, false, false, false, false, false, false, false, false, false, false, false, false, false] rfl rfl (take_ofW HT_.out HW_.out (by kernel_rfl)) (fun _ _ _ h => h) (Or.inl ⟨by rfl, ?_⟩) hHeld ?_ ?_
                        rotate_left
                        ·rintro w' ⟨s0, s1⟩
                         go_simp
                         with_reducible rfl
                        rotate_left
                        ·simp only [Act.put, sqA, sqZ, sqS, i64_w, i32_w]
                         rfl
                        refine take_ (i := 7) (N := some 111) (v := ?_) (a' := ?_) #[true, true, true, true, true, true, true, true, false, false, false, false, false, false, false, false, false, false, false, false, false, false, false, false, false] rfl rfl (take_ofW HT_.out HW_.out (by kernel_rfl)) (fun _ _ _ h => h) (Or.inl ⟨by rfl, ?_⟩) hHeld ?_ ?_
                        rotate_left
                        ·rintro w' ⟨s0, s1⟩
                         go_simp
                         with_reducible rfl
                        rotate_left
                        ·simp only [Act.put, sqA, sqZ, sqS, i64_w, i32_w]
                         rfl
                        refine pure_ (i := 8) (N := some 112) (v := ?_) (a' := ?_) #[true, true, true, true, true, true, true, true, true, false, false, false, false, false, false, false, false, false, false, false, false, false, false, false, false] rfl rfl (any_of HT_.out (by kernel_rfl)) (fun _ _ _ h => h) (Or.inl ⟨by rfl, ?_⟩) ?_ ?_
                        rotate_left
                        ·intro w'
                         go_simp
                         with_reducible rfl
                        rotate_left
                        ·simp only [Act.put, sqA, sqZ, sqS, i64_w, i32_w]
                         rfl
                        refine pure_ (i := 9) (N := some 113) (v := ?_) (a' := ?_) #[true, true, true, true, true, true, true, true, true, true, false, false, false, false, false, false, false, false, false, false, false, false, false, false, false] rfl rfl (any_of HT_.out (by kernel_rfl)) (fun _ _ _ h => h) (Or.inl ⟨by rfl, ?_⟩) ?_ ?_
                        rotate_left
                        ·intro w'
                         go_simp
                         with_reducible rfl
                        rotate_left
                        ·simp only [Act.put, sqA, sqZ, sqS, i64_w, i32_w]
                         rfl
                        refine pure_ (i := 10) (N := some 114) (v := undef) (a' := ?_) #[true, true, true, true, true, true, true, true, true, true, true, false, false, false, false, false, false, false, false, false, false, false, false, false, false] rfl rfl (any_of HT_.out (by kernel_rfl)) (fun _ _ _ h => h) (Or.inr ⟨by rfl, rfl⟩) ?_ ?_
                        rotate_left
                        ·simp only [Act.put, sqA, sqZ, sqS, i64_w, i32_w]
                         rfl
                        refine pure_ (i := 11) (N := some 115) (v := undef) (a' := ?_) #[true, true, true, true, true, true, true, true, true, true, true, true, false, false, false, false, false, false, false, false, false, false, false, false, false] rfl rfl (any_of HT_.out (by kernel_rfl)) (fun _ _ _ h => h) (Or.inr ⟨by rfl, rfl⟩) ?_ ?_
                        rotate_left
                        ·simp only [Act.put, sqA, sqZ, sqS, i64_w, i32_w]
                         rfl
                        refine pure_ (i := 12) (N := some 116) (v := undef) (a' := ?_) #[true, true, true, true, true, true, true, true, true, true, true, true, true, false, false, false, false, false, false, false, false, false, false, false, false] rfl rfl (any_of HT_.out (by kernel_rfl)) (fun _ _ _ h => h) (Or.inr ⟨by rfl, rfl⟩) ?_ ?_
                        rotate_left
                        ·simp only [Act.put, sqA, sqZ, sqS, i64_w, i32_w]
                         rfl
                        refine pure_ (i := 13) (N := some 117) (v := undef) (a' := ?_) #[true, true, true, true, true, true, true, true, true, true, true, true, true, true, false, false, false, false, false, false, false, false, false, false, false] rfl rfl (any_of HT_.out (by kernel_rfl)) (fun _ _ _ h => h) (Or.inr ⟨by rfl, rfl⟩) ?_ ?_
                        rotate_left
                        ·simp only [Act.put, sqA, sqZ, sqS, i64_w, i32_w]
                         rfl
                        refine pure_ (i := 14) (N := some 118) (v := undef) (a' := ?_) #[true, true, true, true, true, true, true, true, true, true, true, true, true, true, true, false, false, false, false, false, false, false, false, false, false] rfl rfl (any_of HT_.out (by kernel_rfl)) (fun _ _ _ h => h) (Or.inr ⟨by rfl, rfl⟩) ?_ ?_
                        rotate_left
                        ·simp only [Act.put, sqA, sqZ, sqS, i64_w, i32_w]
                         rfl
                        refine pure_ (i := 15) (N := some 119) (v := undef) (a' := ?_) #[true, true, true, true, true, true, true, true, true, true, true, true, true, true, true, true, false, false, false, false, false, false, false, false, false] rfl rfl (any_of HT_.out (by kernel_rfl)) (fun _ _ _ h => h) (Or.inr ⟨by rfl, rfl⟩) ?_ ?_
                        rotate_left
                        ·simp only [Act.put, sqA, sqZ, sqS, i64_w, i32_w]
                         rfl
                        refine pure_ (i := 16) (N := some 120) (v := undef) (a' := ?_) #[true, true, true, true, true, true, true, true, true, true, true, true, true, true, true, true, true, false, false, false, false, false, false, false, false] rfl rfl (any_of HT_.out (by kernel_rfl)) (fun _ _ _ h => h) (Or.inr ⟨by rfl, rfl⟩) ?_ ?_
                        rotate_left
                        ·simp only [Act.put, sqA, sqZ, sqS, i64_w, i32_w]
                         rfl
                        refine pure_ (i := 17) (N := some 121) (v := undef) (a' := ?_) #[true, true, true, true, true, true, true, true, true, true, true, true, true, true, true, true, true, true, false, false, false, false, false, false, false] rfl rfl (any_of HT_.out (by kernel_rfl)) (fun _ _ _ h => h) (Or.inr ⟨by rfl, rfl⟩) ?_ ?_
                        rotate_left
                        ·simp only [Act.put, sqA, sqZ, sqS, i64_w, i32_w]
                         rfl
                        refine pure_ (i := 18) (N := some 122) (v := undef) (a' := ?_) #[true, true, true, true, true, true, true, true, true, true, true, true, true, true, true, true, true, true, true, false, false, false, false, false, false] rfl rfl (any_of HT_.out (by kernel_rfl)) (fun _ _ _ h => h) (Or.inr ⟨by rfl, rfl⟩) ?_ ?_
                        rotate_left
                        ·simp only [Act.put, sqA, sqZ, sqS, i64_w, i32_w]
                         rfl
                        refine pure_ (i := 19) (N := some 123) (v := undef) (a' := ?_) #[true, true, true, true, true, true, true, true, true, true, true, true, true, true, true, true, true, true, true, true, false, false, false, false, false] rfl rfl (any_of HT_.out (by kernel_rfl)) (fun _ _ _ h => h) (Or.inr ⟨by rfl, rfl⟩) ?_ ?_
                        rotate_left
                        ·simp only [Act.put, sqA, sqZ, sqS, i64_w, i32_w]
                         rfl
                        refine pure_ (i := 20) (N := some 124) (v := undef) (a' := ?_) #[true, true, true, true, true, true, true, true, true, true, true, true, true, true, true, true, true, true, true, true, true, false, false, false, false] rfl rfl (any_of HT_.out (by kernel_rfl)) (fun _ _ _ h => h) (Or.inr ⟨by rfl, rfl⟩) ?_ ?_
                        rotate_left
                        ·simp only [Act.put, sqA, sqZ, sqS, i64_w, i32_w]
                         rfl
                        refine pure_ (i := 21) (N := some 125) (v := undef) (a' := ?_) #[true, true, true, true, true, true, true, true, true, true, true, true, true, true, true, true, true, true, true, true, true, true, false, false, false] rfl rfl (any_of HT_.out (by kernel_rfl)) (fun _ _ _ h => h) (Or.inr ⟨by rfl, rfl⟩) ?_ ?_
                        rotate_left
                        ·simp only [Act.put, sqA, sqZ, sqS, i64_w, i32_w]
                         rfl
                        refine pure_ (i := 22) (N := some 126) (v := undef) (a' := ?_) #[true, true, true, true, true, true, true, true, true, true, true, true, true, true, true, true, true, true, true, true, true, true, true, false, false] rfl rfl (any_of HT_.out (by kernel_rfl)) (fun _ _ _ h => h) (Or.inr ⟨by rfl, rfl⟩) ?_ ?_
                        rotate_left
                        ·simp only [Act.put, sqA, sqZ, sqS, i64_w, i32_w]
                         rfl
                        refine pure_ (i := 23) (N := some 127) (v := undef) (a' := ?_) #[true, true, true, true, true, true, true, true, true, true, true, true, true, true, true, true, true, true, true, true, true, true, true, true, false] rfl rfl (any_of HT_.out (by kernel_rfl)) (fun _ _ _ h => h) (Or.inr ⟨by rfl, rfl⟩) ?_ ?_
                        rotate_left
                        ·simp only [Act.put, sqA, sqZ, sqS, i64_w, i32_w]
                         rfl
                        refine pure_ (i := 24) (N := some 128) (v := ?_) (a' := ?_) #[true, true, true, true, true, true, true, true, true, true, true, true, true, true, true, true, true, true, true, true, true, true, true, true, true] rfl rfl (any_of HT_.out (by kernel_rfl)) (fun _ _ _ h => h) (Or.inl ⟨by rfl, ?_⟩) ?_ ?_
                        rotate_left
                        ·intro w'
                         go_simp
                         with_reducible rfl
                        rotate_left
                        ·simp only [Act.put, sqA, sqZ, sqS, i64_w, i32_w]
                         rfl
                        refine done_ (done_of HT_.out (by kernel_rfl)) ?_
                        try go_wp2
                        go_meet
                        case rel => exact ⟨_, (true), (by first | rfl | (simp; done) | (simp [*]; done)), H', ⟨by have := HK1.out; have := HK2.out; have := HK3.out; first | omega | exact Nat.le_refl _⟩, ⟨by (with_reducible repeat (first | apply Kd.R_alloc | apply Kd.R_drewN | apply Kd.R_drew)); exact HO_5.out⟩, ⟨by (with_reducible repeat (first | apply Kd.R_alloc | apply Kd.R_drewN | apply Kd.R_drew)); exact HO_6.out⟩, ⟨by (with_reducible repeat (first | apply Kd.R_alloc | apply Kd.R_drewN | apply Kd.R_drew)); exact HO_7.out⟩, ⟨by (with_reducible repeat (first | apply Kd.R_alloc | apply Kd.R_drewN | apply Kd.R_drew)); exact HO_8.out⟩, ⟨by (with_reducible repeat (first | apply Kd.R_alloc | apply Kd.R_drewN | apply Kd.R_drew)); exact HO_93.out⟩, ⟨by (with_reducible repeat (first | refine bN ?_ _ | refine bD ?_ | refine bA ?_ _)); exact BK185.out⟩, ⟨by repeat (first | (with_reducible first | exact HB.out | apply wA | apply wN | apply wD | refine bS ?_ GE185.out) | exact HB.out)⟩⟩
                       ·rw [if_neg c61] at H
                        have c61b0 : decide ((rd x5_2 (rd x8_2 x95_3)) < (rd x5_2 (rd x8_2 x12_3))) = false := decide_eq_false c61
                        clear c61
                        by_cases c64 : (rd x5_2 (rd x8_2 x95_3)) = (rd x5_2 (rd x8_2 x12_3))
                        ·rw [if_pos c64] at H
                         have c64b0 : ((rd x5_2 (rd x8_2 x95_3)) == (rd x5_2 (rd x8_2 x12_3))) = true := beq_iff_eq.mpr c64
                         have c64b1 : ((rd x5_2 (rd x8_2 x95_3)) != (rd x5_2 (rd x8_2 x12_3))) = false := bne_eq_false_iff_eq.mpr c64
                         clear c64
                         have H' := Aside0.mk H
                         clear H
                         try go_wp2
                         have n0_ := A0 (Kd.R_drew HO_5.out)
                         have n1_ := A0 (Kd.R_drew HO_6.out)
                         have n2_ := A0 (Kd.R_drew HO_7.out)
                         have n3_ := A0 (Kd.R_drew HO_8.out)
                         have n4_ := A0 (Kd.R_drew HO_93.out)
                         have n5_ := A0 (blk_drew BK185.out)
                         have n6_ := A0 (below_drew1 HB.out)
                         clear HO_5
                         clear HO_6
                         clear HO_7
                         clear HO_8
                         clear HO_93
                         clear BK185
                         clear HB
                         have HO_5 := n0_
                         have HO_6 := n1_
                         have HO_7 := n2_
                         have HO_8 := n3_
                         have HO_93 := n4_
                         have BK185 := n5_
                         have HB := n6_
                         clear n0_ n1_ n2_ n3_ n4_ n5_ n6_
                         obtain ⟨Ao66, co66, eo66⟩ := Kd.R_slice HO_5.out
                         (first | subst eo66 | (injection eo66 with f1_ f2_ f3_; have f4_ := f1_.symm; have f5_ := f3_.symm; clear f1_ f2_ f3_; subst f4_; subst f5_))
                         have p208 : 0 ≤ ((rd x8_2 x95_3) : Int) := of_decide_eq_true (by first | (with_reducible assumption) | assumption)
                         have q208 : (rd x8_2 x95_3) < (x5_2.length : Int) := of_decide_eq_true (by first | (with_reducible assumption) | assumption)
                         obtain ⟨ad208, e208, hx208_0⟩ := Kd.at_int (Kd.R_reads' HO_5.out).2.2 (rd x8_2 x95_3) p208 q208
                         cases e208
                         replace p208 := eq_true p208
                         replace q208 := eq_true q208
                         have p209 : 0 ≤ ((rd x8_2 x12_3) : Int) := of_decide_eq_true (by first | (with_reducible assumption) | assumption)
                         have q209 : (rd x8_2 x12_3) < (x5_2.length : Int) := of_decide_eq_true (by first | (with_reducible assumption) | assumption)
                         obtain ⟨ad209, e209, hx209_0⟩ := Kd.at_int (Kd.R_reads' HO_5.out).2.2 (rd x8_2 x12_3) p209 q209
                         obtain rfl : ad208 = ad209 := (by injection e209)
                         replace p209 := eq_true p209
                         replace q209 := eq_true q209
                         have p210 : 0 ≤ ((rd x8_2 x95_3) : Int) := of_decide_eq_true (by first | (with_reducible assumption) | assumption)
                         have q210 : (rd x8_2 x95_3) < (x5_2.length : Int) := of_decide_eq_true (by first | (with_reducible assumption) | assumption)
                         obtain ⟨ad210, e210, hx210_0⟩ := Kd.at_int (Kd.R_reads' HO_5.out).2.2 (rd x8_2 x95_3) p210 q210
                         obtain rfl : ad208 = ad210 := (by injection e210)
                         replace p210 := eq_true p210
                         replace q210 := eq_true q210
                         have p211 : 0 ≤ ((rd x8_2 x12_3) : Int) := of_decide_eq_true (by first | (with_reducible assumption) | assumption)
                         have q211 : (rd x8_2 x12_3) < (x5_2.length : Int) := of_decide_eq_true (by first | (with_reducible assumption) | assumption)
                         obtain ⟨ad211, e211, hx211_0⟩ := Kd.at_int (Kd.R_reads' HO_5.out).2.2 (rd x8_2 x12_3) p211 q211
                         obtain rfl : ad208 = ad211 := (by injection e211)
                         replace p211 := eq_true p211
                         replace q211 := eq_true q211
                         refine start_ (n := 25) (S := fun w' => w'.cell? (ad208.add ((rd x8_2 x95_3)).toNat) = some (.int .i64 (rd x5_2 (rd x8_2 x95_3))) ∧ w'.cell? (ad208.add ((rd x8_2 x12_3)).toNat) = some (.int .i64 (rd x5_2 (rd x8_2 x12_3))) ∧ w'.cell? (ad208.add ((rd x8_2 x95_3)).toNat) = some (.int .i64 (rd x5_2 (rd x8_2 x95_3))) ∧ w'.cell? (ad208.add ((rd x8_2 x12_3)).toNat) = some (.int .i64 (rd x5_2 (rd x8_2 x12_3)))) (ds := []) #[false, false, false, false, false, false, false, false, false, false, false, false, false, false, false, false, false, false, false, false, false, false, false, false, false] (by kernel_rfl) rfl rfl ⟨hx208_0, hx209_0, hx210_0, hx211_0⟩ (fun hHeld => ?_); refine with_tabW impl_Drain.tab20 impl_Drain.bits20 (fun HT_ HW_ => ?_)
                         generalize wr.drew = w65 at HO_5 HO_6 HO_7 HO_8 HO_93 BK185 HB hx208_0 hx209_0 hx210_0 hx211_0 hHeld ⊢
                         refine pure_ (i := 0) (N := some 104) (v := ?_) (a' := ?_) #[true, false, false, false, false, false, false, false, false, false, false, false, false, false, false, false, false, false, false, false, false, false, false, false, false] rfl rfl (any_of HT_.out (by kernel_rfl)) (fun _ _ _ h => h) (Or.inl ⟨by rfl, ?_⟩) ?_ ?_
                         rotate_left
                         ·intro w'
                          go_simp
                          with_reducible rfl
                         rotate_left
                         ·simp only [Act.put, sqA, sqZ, sqS, i64_w, i32_w]
                          rfl
                         refine pure_ (i := 1) (N := some 105) (v := ?_) (a' := ?_) #[true, true, false, false, false, false, false, false, false, false, false, false, false, false, false, false, false, false, false, false, false, false, false, false, false] rfl rfl (any_of HT_.out (by kernel_rfl)) (fun _ _ _ h => h) (Or.inl ⟨by rfl, ?_⟩) ?_ ?_
                         rotate_left
                         ·intro w'
                          go_simp
                          with_reducible rfl
                         rotate_left
                         ·simp only [Act.put, sqA, sqZ, sqS, i64_w, i32_w]
                          rfl
                         refine pure_ (i := 2) (N := some 106) (v := ?_) (a' := ?_) #[true, true, true, false, false, false, false, false, false, false, false, false, false, false, false, false, false, false, false, false, false, false, false, false, false] rfl rfl (any_of HT_.out (by kernel_rfl)) (fun _ _ _ h => h) (Or.inl ⟨by rfl, ?_⟩) ?_ ?_
                         rotate_left
                         ·intro w'
                          go_simp
                          with_reducible rfl
                         rotate_left
                         ·simp only [Act.put, sqA, sqZ, sqS, i64_w, i32_w]
                          rfl
                         refine pure_ (i := 4) (N := some 108) (v := ?_) (a' := ?_) #[true, true, true, false, true, false, false, false, false, false, false, false, false, false, false, false, false, false, false, false, false, false, false, false, false] rfl rfl (any_of HT_.out (by kernel_rfl)) (fun _ _ _ h => h) (Or.inl ⟨by rfl, ?_⟩) ?_ ?_
                         rotate_left
                         ·intro w'
                          go_simp
                          with_reducible rfl
                         rotate_left
                         ·simp only [Act.put, sqA, sqZ, sqS, i64_w, i32_w]
                          rfl
                         refine pure_ (i := 5) (N := some 109) (v := ?_) (a' := ?_) #[true, true, true, false, true, true, false, false, false, false, false, false, false, false, false, false, false, false, false, false, false, false, false, false, false] rfl rfl (any_of HT_.out (by kernel_rfl)) (fun _ _ _ h => h) (Or.inl ⟨by rfl, ?_⟩) ?_ ?_
                         rotate_left
                         ·intro w'
                          go_simp
                          with_reducible rfl
                         rotate_left
                         ·simp only [Act.put, sqA, sqZ, sqS, i64_w, i32_w]
                          rfl
                         refine pure_ (i := 6) (N := some 110) (v := ?_) (a' := ?_) #[true, true, true, false, true, true, true, false, false, false, false, false, false, false, false, false, false, false, false, false, false, false, false, false, false] rfl rfl (any_of HT_.out (by kernel_rfl)) (fun _ _ _ h => h) (Or.inl ⟨by rfl, ?_⟩) ?_ ?_
                         rotate_left
                         ·intro w'
                          go_simp
                          with_reducible rfl
                         rotate_left
                         ·simp only [Act.put, sqA, sqZ, sqS, i64_w, i32_w]
                          rfl
                         refine take_ (i := 3) (N := some 107) (v := ?_) (a' := ?_) #[true, true, true, true, true, true, true, false, false, false, false, false, false, false, false, false, false, false, false, false, false, false, false, false, false] rfl rfl (take_ofW HT_.out HW_.out (by kernel_rfl)) (fun _ _ _ h => h) (Or.inl ⟨by rfl, ?_⟩) hHeld ?_ ?_
                         rotate_left
                         ·rintro w' ⟨s0, s1, s2, s3⟩
                          go_simp
                          with_reducible rfl
                         rotate_left
                         ·simp only [Act.put, sqA, sqZ, sqS, i64_w, i32_w]
                          rfl
                         refine take_ (i := 7) (N := some 111) (v := ?_) (a' := ?_) #[true, true, true, true, true, true, true, true, false, false, false, false, false, false, false, false, false, false, false, false, false, false, false, false, false] rfl rfl (take_ofW HT_.out HW_.out (by kernel_rfl)) (fun _ _ _ h => h) (Or.inl ⟨by rfl, ?_⟩) hHeld ?_ ?_
                         rotate_left
                         ·rintro w' ⟨s0, s1, s2, s3⟩
                          go_simp
                          with_reducible rfl
                         rotate_left
                         ·simp only [Act.put, sqA, sqZ, sqS, i64_w, i32_w]
                          rfl
                         refine pure_ (i := 8) (N := some 112) (v := ?_) (a' := ?_) #[true, true, true, true, true, true, true, true, true, false, false, false, false, false, false, false, false, false, false, false, false, false, false, false, false] rfl rfl (any_of HT_.out (by kernel_rfl)) (fun _ _ _ h => h) (Or.inl ⟨by rfl, ?_⟩) ?_ ?_
                         rotate_left
                         ·intro w'
                          go_simp
                          with_reducible rfl
                         rotate_left
                         ·simp only [Act.put, sqA, sqZ, sqS, i64_w, i32_w]
                          rfl
                         refine pure_ (i := 9) (N := some 113) (v := ?_) (a' := ?_) #[true, true, true, true, true, true, true, true, true, true, false, false, false, false, false, false, false, false, false, false, false, false, false, false, false] rfl rfl (any_of HT_.out (by kernel_rfl)) (fun _ _ _ h => h) (Or.inl ⟨by rfl, ?_⟩) ?_ ?_
                         rotate_left
                         ·intro w'
                          go_simp
                          with_reducible rfl
                         rotate_left
                         ·simp only [Act.put, sqA, sqZ, sqS, i64_w, i32_w]
                          rfl
                         refine pure_ (i := 10) (N := some 114) (v := ?_) (a' := ?_) #[true, true, true, true, true, true, true, true, true, true, true, false, false, false, false, false, false, false, false, false, false, false, false, false, false] rfl rfl (any_of HT_.out (by kernel_rfl)) (fun _ _ _ h => h) (Or.inl ⟨by rfl, ?_⟩) ?_ ?_
                         rotate_left
                         ·intro w'
                          go_simp
                          with_reducible rfl
                         rotate_left
                         ·simp only [Act.put, sqA, sqZ, sqS, i64_w, i32_w]
                          rfl
                         refine pure_ (i := 11) (N := some 115) (v := ?_) (a' := ?_) #[true, true, true, true, true, true, true, true, true, true, true, true, false, false, false, false, false, false, false, false, false, false, false, false, false] rfl rfl (any_of HT_.out (by kernel_rfl)) (fun _ _ _ h => h) (Or.inl ⟨by rfl, ?_⟩) ?_ ?_
                         rotate_left
                         ·intro w'
                          go_simp
                          with_reducible rfl
                         rotate_left
                         ·simp only [Act.put, sqA, sqZ, sqS, i64_w, i32_w]
                          rfl
                         refine pure_ (i := 12) (N := some 116) (v := ?_) (a' := ?_) #[true, true, true, true, true, true, true, true, true, true, true, true, true, false, false, false, false, false, false, false, false, false, false, false, false] rfl rfl (any_of HT_.out (by kernel_rfl)) (fun _ _ _ h => h) (Or.inl ⟨by rfl, ?_⟩) ?_ ?_
                         rotate_left
                         ·intro w'
                          go_simp
                          with_reducible rfl
                         rotate_left
                         ·simp only [Act.put, sqA, sqZ, sqS, i64_w, i32_w]
                          rfl
                         refine pure_ (i := 14) (N := some 118) (v := ?_) (a' := ?_) #[true, true, true, true, true, true, true, true, true, true, true, true, true, false, true, false, false, false, false, false, false, false, false, false, false] rfl rfl (any_of HT_.out (by kernel_rfl)) (fun _ _ _ h => h) (Or.inl ⟨by rfl, ?_⟩) ?_ ?_
                         rotate_left
                         ·intro w'
                          go_simp
                          with_reducible rfl
                         rotate_left
                         ·simp only [Act.put, sqA, sqZ, sqS, i64_w, i32_w]
                          rfl
                         refine pure_ (i := 15) (N := some 119) (v := ?_) (a' := ?_) #[true, true, true, true, true, true, true, true, true, true, true, true, true, false, true, true, false, false, false, false, false, false, false, false, false] rfl rfl (any_of HT_.out (by kernel_rfl)) (fun _ _ _ h => h) (Or.inl ⟨by rfl, ?_⟩) ?_ ?_
                         rotate_left
                         ·intro w'
                          go_simp
                          with_reducible rfl
                         rotate_left
                         ·simp only [Act.put, sqA, sqZ, sqS, i64_w, i32_w]
                          rfl
                         refine pure_ (i := 16) (N := some 120) (v := ?_) (a' := ?_) #[true, true, true, true, true, true, true, true, true, true, true, true, true, false, true, true, true, false, false, false, false, false, false, false, false] rfl rfl (any_of HT_.out (by kernel_rfl)) (fun _ _ _ h => h) (Or.inl ⟨by rfl, ?_⟩) ?_ ?_
                         rotate_left
                         ·intro w'
                          go_simp
                          with_reducible rfl
                         rotate_left
                         ·simp only [Act.put, sqA, sqZ, sqS, i64_w, i32_w]
                          rfl
                         refine take_ (i := 13) (N := some 117) (v := ?_) (a' := ?_) #[true, true, true, true, true, true, true, true, true, true, true, true, true, true, true, true, true, false, false, false, false, false, false, false, false] rfl rfl (take_ofW HT_.out HW_.out (by kernel_rfl)) (fun _ _ _ h => h) (Or.inl ⟨by rfl, ?_⟩) hHeld ?_ ?_
                         rotate_left
                         ·rintro w' ⟨s0, s1, s2, s3⟩
                          go_simp
                          with_reducible rfl
                         rotate_left
                         ·simp only [Act.put, sqA, sqZ, sqS, i64_w, i32_w]
                          rfl
                         refine take_ (i := 17) (N := some 121) (v := ?_) (a' := ?_) #[true, true, true, true, true, true, true, true, true, true, true, true, true, true, true, true, true, true, false, false, false, false, false, false, false] rfl rfl (take_ofW HT_.out HW_.out (by kernel_rfl)) (fun _ _ _ h => h) (Or.inl ⟨by rfl, ?_⟩) hHeld ?_ ?_
                         rotate_left
                         ·rintro w' ⟨s0, s1, s2, s3⟩
                          go_simp
                          with_reducible rfl
                         rotate_left
                         ·simp only [Act.put, sqA, sqZ, sqS, i64_w, i32_w]
                          rfl
                         refine pure_ (i := 18) (N := some 122) (v := ?_) (a' := ?_) #[true, true, true, true, true, true, true, true, true, true, true, true, true, true, true, true, true, true, true, false, false, false, false, false, false] rfl rfl (any_of HT_.out (by kernel_rfl)) (fun _ _ _ h => h) (Or.inl ⟨by rfl, ?_⟩) ?_ ?_
                         rotate_left
                         ·intro w'
                          go_simp
                          with_reducible rfl
                         rotate_left
                         ·simp only [Act.put, sqA, sqZ, sqS, i64_w, i32_w]
                          rfl
                         refine pure_ (i := 19) (N := some 123) (v := ?_) (a' := ?_) #[true, true, true, true, true, true, true, true, true, true, true, true, true, true, true, true, true, true, true, true, false, false, false, false, false] rfl rfl (any_of HT_.out (by kernel_rfl)) (fun _ _ _ h => h) (Or.inl ⟨by rfl, ?_⟩) ?_ ?_
                         rotate_left
                         ·intro w'
                          go_simp
                          with_reducible rfl
                         rotate_left
                         ·simp only [Act.put, sqA, sqZ, sqS, i64_w, i32_w]
                          rfl
                         refine pure_ (i := 20) (N := some 124) (v := ?_) (a' := ?_) #[true, true, true, true, true, true, true, true, true, true, true, true, true, true, true, true, true, true, true, true, true, false, false, false, false] rfl rfl (any_of HT_.out (by kernel_rfl)) (fun _ _ _ h => h) (Or.inl ⟨by rfl, ?_⟩) ?_ ?_
                         rotate_left
                         ·intro w'
                          go_simp
                          with_reducible rfl
                         rotate_left
                         ·simp only [Act.put, sqA, sqZ, sqS, i64_w, i32_w]
                          rfl
                         refine pure_ (i := 21) (N := some 125) (v := ?_) (a' := ?_) #[true, true, true, true, true, true, true, true, true, true, true, true, true, true, true, true, true, true, true, true, true, true, false, false, false] rfl rfl (any_of HT_.out (by kernel_rfl)) (fun _ _ _ h => h) (Or.inl ⟨by rfl, ?_⟩) ?_ ?_
                         rotate_left
                         ·intro w'
                          go_simp
                          with_reducible rfl
                         rotate_left
                         ·simp only [Act.put, sqA, sqZ, sqS, i64_w, i32_w]
                          rfl
                         refine pure_ (i := 22) (N := some 126) (v := ?_) (a' := ?_) #[true, true, true, true, true, true, true, true, true, true, true, true, true, true, true, true, true, true, true, true, true, true, true, false, false] rfl rfl (any_of HT_.out (by kernel_rfl)) (fun _ _ _ h => h) (Or.inl ⟨by rfl, ?_⟩) ?_ ?_
                         rotate_left
                         ·intro w'
                          go_simp
                          with_reducible rfl
                         rotate_left
                         ·simp only [Act.put, sqA, sqZ, sqS, i64_w, i32_w]
                          rfl
                         refine pure_ (i := 23) (N := some 127) (v := ?_) (a' := ?_) #[true, true, true, true, true, true, true, true, true, true, true, true, true, true, true, true, true, true, true, true, true, true, true, true, false] rfl rfl (any_of HT_.out (by kernel_rfl)) (fun _ _ _ h => h) (Or.inl ⟨by rfl, ?_⟩) ?_ ?_
                         rotate_left
                         ·intro w'
                          go_simp
                          with_reducible rfl
                         rotate_left
                         ·simp only [Act.put, sqA, sqZ, sqS, i64_w, i32_w]
                          rfl
                         refine pure_ (i := 24) (N := some 128) (v := ?_) (a' := ?_) #[true, true, true, true, true, true, true, true, true, true, true, true, true, true, true, true, true, true, true, true, true, true, true, true, true] rfl rfl (any_of HT_.out (by kernel_rfl)) (fun _ _ _ h => h) (Or.inl ⟨by rfl, ?_⟩) ?_ ?_
                         rotate_left
                         ·intro w'
                          go_simp
                          with_reducible rfl
                         rotate_left
                         ·simp only [Act.put, sqA, sqZ, sqS, i64_w, i32_w]
                          rfl
                         refine done_ (done_of HT_.out (by kernel_rfl)) ?_
                         try go_wp2
                         go_meet
                         case rel => exact ⟨_, (decide ((rd x8_2 x95_3) < (rd x8_2 x12_3))), (by first | rfl | (simp; done) | (simp [*]; done)), H', ⟨by have := HK1.out; have := HK2.out; have := HK3.out; first | omega | exact Nat.le_refl _⟩, ⟨by (with_reducible repeat (first | apply Kd.R_alloc | apply Kd.R_drewN | apply Kd.R_drew)); exact HO_5.out⟩, ⟨by (with_reducible repeat (first | apply Kd.R_alloc | apply Kd.R_drewN | apply Kd.R_drew)); exact HO_6.out⟩, ⟨by (with_reducible repeat (first | apply Kd.R_alloc | apply Kd.R_drewN | apply Kd.R_drew)); exact HO_7.out⟩, ⟨by (with_reducible repeat (first | apply Kd.R_alloc | apply Kd.R_drewN | apply Kd.R_drew)); exact HO_8.out⟩, ⟨by (with_reducible repeat (first | apply Kd.R_alloc | apply Kd.R_drewN | apply Kd.R_drew)); exact HO_93.out⟩, ⟨by (with_reducible repeat (first | refine bN ?_ _ | refine bD ?_ | refine bA ?_ _)); exact BK185.out⟩, ⟨by repeat (first | (with_reducible first | exact HB.out | apply wA | apply wN | apply wD | refine bS ?_ GE185.out) | exact HB.out)⟩⟩
                        ·rw [if_neg c64] at H
                         have c64b0 : ((rd x5_2 (rd x8_2 x95_3)) == (rd x5_2 (rd x8_2 x12_3))) = false := beq_eq_false_iff_ne.mpr c64
                         have c64b1 : ((rd x5_2 (rd x8_2 x95_3)) != (rd x5_2 (rd x8_2 x12_3))) = true := bne_iff_ne.mpr c64
                         have H' := Aside0.mk H
                         clear H
                         try go_wp2
                         have n0_ := A0 (Kd.R_drew HO_5.out)
                         have n1_ := A0 (Kd.R_drew HO_6.out)
                         have n2_ := A0 (Kd.R_drew HO_7.out)
                         have n3_ := A0 (Kd.R_drew HO_8.out)
                         have n4_ := A0 (Kd.R_drew HO_93.out)
                         have n5_ := A0 (blk_drew BK185.out)
                         have n6_ := A0 (below_drew1 HB.out)
                         clear HO_5
                         clear HO_6
                         clear HO_7
                         clear HO_8
                         clear HO_93
                         clear BK185
                         clear HB
                         have HO_5 := n0_
                         have HO_6 := n1_
                         have HO_7 := n2_
                         have HO_8 := n3_
                         have HO_93 := n4_
                         have BK185 := n5_
                         have HB := n6_
                         clear n0_ n1_ n2_ n3_ n4_ n5_ n6_
                         obtain ⟨Ao68, co68, eo68⟩ := Kd.R_slice HO_5.out
                         (first | subst eo68 | (injection eo68 with f1_ f2_ f3_; have f4_ := f1_.symm; have f5_ := f3_.symm; clear f1_ f2_ f3_; subst f4_; subst f5_))
                         have p208 : 0 ≤ ((rd x8_2 x95_3) : Int) := of_decide_eq_true (by first | (with_reducible assumption) | assumption)
                         have q208 : (rd x8_2 x95_3) < (x5_2.length : Int) := of_decide_eq_true (by first | (with_reducible assumption) | assumption)
                         obtain ⟨ad208, e208, hx208_0⟩ := Kd.at_int (Kd.R_reads' HO_5.out).2.2 (rd x8_2 x95_3) p208 q208
                         cases e208
                         replace p208 := eq_true p208
                         replace q208 := eq_true q208
                         have p209 : 0 ≤ ((rd x8_2 x12_3) : Int) := of_decide_eq_true (by first | (with_reducible assumption) | assumption)
                         have q209 : (rd x8_2 x12_3) < (x5_2.length : Int) := of_decide_eq_true (by first | (with_reducible assumption) | assumption)
                         obtain ⟨ad209, e209, hx209_0⟩ := Kd.at_int (Kd.R_reads' HO_5.out).2.2 (rd x8_2 x12_3) p209 q209
                         obtain rfl : ad208 = ad209 := (by injection e209)
                         replace p209 := eq_true p209
                         replace q209 := eq_true q209
                         have p210 : 0 ≤ ((rd x8_2 x95_3) : Int) := of_decide_eq_true (by first | (with_reducible assumption) | assumption)
                         have q210 : (rd x8_2 x95_3) < (x5_2.length : Int) := of_decide_eq_true (by first | (with_reducible assumption) | assumption)
                         obtain ⟨ad210, e210, hx210_0⟩ := Kd.at_int (Kd.R_reads' HO_5.out).2.2 (rd x8_2 x95_3) p210 q210
                         obtain rfl : ad208 = ad210 := (by injection e210)
                         replace p210 := eq_true p210
                         replace q210 := eq_true q210
                         have p211 : 0 ≤ ((rd x8_2 x12_3) : Int) := of_decide_eq_true (by first | (with_reducible assumption) | assumption)
                         have q211 : (rd x8_2 x12_3) < (x5_2.length : Int) := of_decide_eq_true (by first | (with_reducible assumption) | assumption)
                         obtain ⟨ad211, e211, hx211_0⟩ := Kd.at_int (Kd.R_reads' HO_5.out).2.2 (rd x8_2 x12_3) p211 q211
                         obtain rfl : ad208 = ad211 := (by injection e211)
                         replace p211 := eq_true p211
                         replace q211 := eq_true q211
                         refine start_ (n := 25) (S := fun w' => w'.cell? (ad208.add ((rd x8_2 x95_3)).toNat) = some (.int .i64 (rd x5_2 (rd x8_2 x95_3))) ∧ w'.cell? (ad208.add ((rd x8_2 x12_3)).toNat) = some (.int .i64 (rd x5_2 (rd x8_2 x12_3))) ∧ w'.cell? (ad208.add ((rd x8_2 x95_3)).toNat) = some (.int .i64 (rd x5_2 (rd x8_2 x95_3))) ∧ w'.cell? (ad208.add ((rd x8_2 x12_3)).toNat) = some (.int .i64 (rd x5_2 (rd x8_2 x12_3)))) (ds := []) #[false, false, false, false, false, false, false, false, false, false, false, false, false, false, false, false, false, false, false, false, false, false, false, false, false] (by kernel_rfl) rfl rfl ⟨hx208_0, hx209_0, hx210_0, hx211_0⟩ (fun hHeld => ?_); refine with_tabW impl_Drain.tab20 impl_Drain.bits20 (fun HT_ HW_ => ?_)
                         generalize wr.drew = w67 at HO_5 HO_6 HO_7 HO_8 HO_93 BK185 HB hx208_0 hx209_0 hx210_0 hx211_0 hHeld ⊢
                         refine pure_ (i := 0) (N := some 104) (v := ?_) (a' := ?_) #[true, false, false, false, false, false, false, false, false, false, false, false, false, false, false, false, false, false, false, false, false, false, false, false, false] rfl rfl (any_of HT_.out (by kernel_rfl)) (fun _ _ _ h => h) (Or.inl ⟨by rfl, ?_⟩) ?_ ?_
                         rotate_left
                         ·intro w'
                          go_simp
                          with_reducible rfl
                         rotate_left
                         ·simp only [Act.put, sqA, sqZ, sqS, i64_w, i32_w]
                          rfl
                         refine pure_ (i := 1) (N := some 105) (v := ?_) (a' := ?_) #[true, true, false, false, false, false, false, false, false, false, false, false, false, false, false, false, false, false, false, false, false, false, false, false, false] rfl rfl (any_of HT_.out (by kernel_rfl)) (fun _ _ _ h => h) (Or.inl ⟨by rfl, ?_⟩) ?_ ?_
                         rotate_left
                         ·intro w'
                          go_simp
                          with_reducible rfl
                         rotate_left
                         ·simp only [Act.put, sqA, sqZ, sqS, i64_w, i32_w]
                          rfl
                         refine pure_ (i := 2) (N := some 106) (v := ?_) (a' := ?_) #[true, true, true, false, false, false, false, false, false, false, false, false, false, false, false, false, false, false, false, false, false, false, false, false, false] rfl rfl (any_of HT_.out (by kernel_rfl)) (fun _ _ _ h => h) (Or.inl ⟨by rfl, ?_⟩) ?_ ?_
                         rotate_left
                         ·intro w'
                          go_simp
                          with_reducible rfl
                         rotate_left
                         ·simp only [Act.put, sqA, sqZ, sqS, i64_w, i32_w]
                          rfl
                         refine pure_ (i := 4) (N := some 108) (v := ?_) (a' := ?_) #[true, true, true, false, true, false, false, false, false, false, false, false, false, false, false, false, false, false, false, false, false, false, false, false, false] rfl rfl (any_of HT_.out (by kernel_rfl)) (fun _ _ _ h => h) (Or.inl ⟨by rfl, ?_⟩) ?_ ?_
                         rotate_left
                         ·intro w'
                          go_simp
                          with_reducible rfl
                         rotate_left
                         ·simp only [Act.put, sqA, sqZ, sqS, i64_w, i32_w]
                          rfl
                         refine pure_ (i := 5) (N := some 109) (v := ?_) (a' := ?_) #[true, true, true, false, true, true, false, false, false, false, false, false, false, false, false, false, false, false, false, false, false, false, false, false, false] rfl rfl (any_of HT_.out (by kernel_rfl)) (fun _ _ _ h => h) (Or.inl ⟨by rfl, ?_⟩) ?_ ?_
                         rotate_left
                         ·intro w'
                          go_simp
                          with_reducible rfl
                         rotate_left
                         ·simp only [Act.put, sqA, sqZ, sqS, i64_w, i32_w]
                          rfl
                         refine pure_ (i := 6) (N := some 110) (v := ?_) (a' := ?_) #[true, true, true, false, true, true, true, false, false, false, false, false, false, false, false, false, false, false, false, false, false, false, false, false, false] rfl rfl (any_of HT_.out (by kernel_rfl)) (fun _ _ _ h => h) (Or.inl ⟨by rfl, ?_⟩) ?_ ?_
                         rotate_left
                         ·intro w'
                          go_simp
                          with_reducible rfl
                         rotate_left
                         ·simp only [Act.put, sqA, sqZ, sqS, i64_w, i32_w]
                          rfl
                         refine take_ (i := 3) (N := some 107) (v := ?_) (a' := ?_) #[true, true, true, true, true, true, true, false, false, false, false, false, false, false, false, false, false, false, false, false, false, false, false, false, false] rfl rfl (take_ofW HT_.out HW_.out (by kernel_rfl)) (fun _ _ _ h => h) (Or.inl ⟨by rfl, ?_⟩) hHeld ?_ ?_
                         rotate_left
                         ·rintro w' ⟨s0, s1, s2, s3⟩
                          go_simp
                          with_reducible rfl
                         rotate_left
                         ·simp only [Act.put, sqA, sqZ, sqS, i64_w, i32_w]
                          rfl
                         refine take_ (i := 7) (N := some 111) (v := ?_) (a' := ?_) #[true, true, true, true, true, true, true, true, false, false, false, false, false, false, false, false, false, false, false, false, false, false, false, false, false] rfl rfl (take_ofW HT_.out HW_.out (by kernel_rfl)) (fun _ _ _ h => h) (Or.inl ⟨by rfl, ?_⟩) hHeld ?_ ?_
                         rotate_left
                         ·rintro w' ⟨s0, s1, s2, s3⟩
                          go_simp
                          with_reducible rfl
                         rotate_left
                         ·simp only [Act.put, sqA, sqZ, sqS, i64_w, i32_w]
                          rfl
                         refine pure_ (i := 8) (N := some 112) (v := ?_) (a' := ?_) #[true, true, true, true, true, true, true, true, true, false, false, false, false, false, false, false, false, false, false, false, false, false, false, false, false] rfl rfl (any_of HT_.out (by kernel_rfl)) (fun _ _ _ h => h) (Or.inl ⟨by rfl, ?_⟩) ?_ ?_
                         rotate_left
                         ·intro w'
                          go_simp
                          with_reducible rfl
                         rotate_left
                         ·simp only [Act.put, sqA, sqZ, sqS, i64_w, i32_w]
                          rfl
                         refine pure_ (i := 9) (N := some 113) (v := ?_) (a' := ?_) #[true, true, true, true, true, true, true, true, true, true, false, false, false, false, false, false, false, false, false, false, false, false, false, false, false] rfl rfl (any_of HT_.out (by kernel_rfl)) (fun _ _ _ h => h) (Or.inl ⟨by rfl, ?_⟩) ?_ ?_
                         rotate_left
                         ·intro w'
                          go_simp
                          with_reducible rfl
                         rotate_left
                         ·simp only [Act.put, sqA, sqZ, sqS, i64_w, i32_w]
                          rfl
                         refine pure_ (i := 10) (N := some 114) (v := ?_) (a' := ?_) #[true, true, true, true, true, true, true, true, true, true, true, false, false, false, false, false, false, false, false, false, false, false, false, false, false] rfl rfl (any_of HT_.out (by kernel_rfl)) (fun _ _ _ h => h) (Or.inl ⟨by rfl, ?_⟩) ?_ ?_
                         rotate_left
                         ·intro w'
                          go_simp
                          with_reducible rfl
                         rotate_left
                         ·simp only [Act.put, sqA, sqZ, sqS, i64_w, i32_w]
                          rfl
                         refine pure_ (i := 11) (N := some 115) (v := ?_) (a' := ?_) #[true, true, true, true, true, true, true, true, true, true, true, true, false, false, false, false, false, false, false, false, false, false, false, false, false] rfl rfl (any_of HT_.out (by kernel_rfl)) (fun _ _ _ h => h) (Or.inl ⟨by rfl, ?_⟩) ?_ ?_
                         rotate_left
                         ·intro w'
                          go_simp
                          with_reducible rfl
                         rotate_left
                         ·simp only [Act.put, sqA, sqZ, sqS, i64_w, i32_w]
                          rfl
                         refine pure_ (i := 12) (N := some 116) (v := ?_) (a' := ?_) #[true, true, true, true, true, true, true, true, true, true, true, true, true, false, false, false, false, false, false, false, false, false, false, false, false] rfl rfl (any_of HT_.out (by kernel_rfl)) (fun _ _ _ h => h) (Or.inl ⟨by rfl, ?_⟩) ?_ ?_
                         rotate_left
                         ·intro w'
                          go_simp
                          with_reducible rfl
                         rotate_left
                         ·simp only [Act.put, sqA, sqZ, sqS, i64_w, i32_w]
                          rfl
                         refine pure_ (i := 14) (N := some 118) (v := ?_) (a' := ?_) #[true, true, true, true, true, true, true, true, true, true, true, true, true, false, true, false, false, false, false, false, false, false, false, false, false] rfl rfl (any_of HT_.out (by kernel_rfl)) (fun _ _ _ h => h) (Or.inl ⟨by rfl, ?_⟩) ?_ ?_
                         rotate_left
                         ·intro w'
                          go_simp
                          with_reducible rfl
                         rotate_left
                         ·simp only [Act.put, sqA, sqZ, sqS, i64_w, i32_w]
                          rfl
                         refine pure_ (i := 15) (N := some 119) (v := ?_) (a' := ?_) #[true, true, true, true, true, true, true, true, true, true, true, true, true, false, true, true, false, false, false, false, false, false, false, false, false] rfl rfl (any_of HT_.out (by kernel_rfl)) (fun _ _ _ h => h) (Or.inl ⟨by rfl, ?_⟩) ?_ ?_
                         rotate_left
                         ·intro w'
                          go_simp
                          with_reducible rfl
                         rotate_left
                         ·simp only [Act.put, sqA, sqZ, sqS, i64_w, i32_w]
                          rfl
                         refine pure_ (i := 16) (N := some 120) (v := ?_) (a' := ?_) #[true, true, true, true, true, true, true, true, true, true, true, true, true, false, true, true, true, false, false, false, false, false, false, false, false] rfl rfl (any_of HT_.out (by kernel_rfl)) (fun _ _ _ h => h) (Or.inl ⟨by rfl, ?_⟩) ?_ ?_
                         rotate_left
                         ·intro w'
                          go_simp
                          with_reducible rfl
                         rotate_left
                         ·simp only [Act.put, sqA, sqZ, sqS, i64_w, i32_w]
                          rfl
                         refine take_ (i := 13) (N := some 117) (v := ?_) (a' := ?_) #[true, true, true, true, true, true, true, true, true, true, true, true, true, true, true, true, true, false, false, false, false, false, false, false, false] rfl rfl (take_ofW HT_.out HW_.out (by kernel_rfl)) (fun _ _ _ h => h) (Or.inl ⟨by rfl, ?_⟩) hHeld ?_ ?_
                         rotate_left
                         ·rintro w' ⟨s0, s1, s2, s3⟩
                          go_simp
                          with_reducible rfl
                         rotate_left
                         ·simp only [Act.put, sqA, sqZ, sqS, i64_w, i32_w]
                          rfl
                         refine take_ (i := 17) (N := some 121) (v := ?_) (a' := ?_) #[true, true, true, true, true, true, true, true, true, true, true, true, true, true, true, true, true, true, false, false, false, false, false, false, false] rfl rfl (take_ofW HT_.out HW_.out (by kernel_rfl)) (fun _ _ _ h => h) (Or.inl ⟨by rfl, ?_⟩) hHeld ?_ ?_
                         rotate_left
                         ·rintro w' ⟨s0, s1, s2, s3⟩
                          go_simp
                          with_reducible rfl
                         rotate_left
                         ·simp only [Act.put, sqA, sqZ, sqS, i64_w, i32_w]
                          rfl
                         refine pure_ (i := 18) (N := some 122) (v := ?_) (a' := ?_) #[true, true, true, true, true, true, true, true, true, true, true, true, true, true, true, true, true, true, true, false, false, false, false, false, false] rfl rfl (any_of HT_.out (by kernel_rfl)) (fun _ _ _ h => h) (Or.inl ⟨by rfl, ?_⟩) ?_ ?_
                         rotate_left
                         ·intro w'
                          go_simp
                          with_reducible rfl
                         rotate_left
                         ·simp only [Act.put, sqA, sqZ, sqS, i64_w, i32_w]
                          rfl
                         refine pure_ (i := 19) (N := some 123) (v := ?_) (a' := ?_) #[true, true, true, true, true, true, true, true, true, true, true, true, true, true, true, true, true, true, true, true, false, false, false, false, false] rfl rfl (any_of HT_.out (by kernel_rfl)) (fun _ _ _ h => h) (Or.inl ⟨by rfl, ?_⟩) ?_ ?_
                         rotate_left
                         ·intro w'
                          go_simp
                          with_reducible rfl
                         rotate_left
                         ·simp only [Act.put, sqA, sqZ, sqS, i64_w, i32_w]
                          rfl
                         refine pure_ (i := 20) (N := some 124) (v := undef) (a' := ?_) #[true, true, true, true, true, true, true, true, true, true, true, true, true, true, true, true, true, true, true, true, true, false, false, false, false] rfl rfl (any_of HT_.out (by kernel_rfl)) (fun _ _ _ h => h) (Or.inr ⟨by rfl, rfl⟩) ?_ ?_
                         rotate_left
                         ·simp only [Act.put, sqA, sqZ, sqS, i64_w, i32_w]
                          rfl
                         refine pure_ (i := 21) (N := some 125) (v := undef) (a' := ?_) #[true, true, true, true, true, true, true, true, true, true, true, true, true, true, true, true, true, true, true, true, true, true, false, false, false] rfl rfl (any_of HT_.out (by kernel_rfl)) (fun _ _ _ h => h) (Or.inr ⟨by rfl, rfl⟩) ?_ ?_
                         rotate_left
                         ·simp only [Act.put, sqA, sqZ, sqS, i64_w, i32_w]
                          rfl
                         refine pure_ (i := 22) (N := some 126) (v := undef) (a' := ?_) #[true, true, true, true, true, true, true, true, true, true, true, true, true, true, true, true, true, true, true, true, true, true, true, false, false] rfl rfl (any_of HT_.out (by kernel_rfl)) (fun _ _ _ h => h) (Or.inr ⟨by rfl, rfl⟩) ?_ ?_
                         rotate_left
                         ·simp only [Act.put, sqA, sqZ, sqS, i64_w, i32_w]
                          rfl
                         refine pure_ (i := 23) (N := some 127) (v := ?_) (a' := ?_) #[true, true, true, true, true, true, true, true, true, true, true, true, true, true, true, true, true, true, true, true, true, true, true, true, false] rfl rfl (any_of HT_.out (by kernel_rfl)) (fun _ _ _ h => h) (Or.inl ⟨by rfl, ?_⟩) ?_ ?_
                         rotate_left
                         ·intro w'
                          go_simp
                          with_reducible rfl
                         rotate_left
                         ·simp only [Act.put, sqA, sqZ, sqS, i64_w, i32_w]
                          rfl
                         refine pure_ (i := 24) (N := some 128) (v := ?_) (a' := ?_) #[true, true, true, true, true, true, true, true, true, true, true, true, true, true, true, true, true, true, true, true, true, true, true, true, true] rfl rfl (any_of HT_.out (by kernel_rfl)) (fun _ _ _ h => h) (Or.inl ⟨by rfl, ?_⟩) ?_ ?_
                         rotate_left
                         ·intro w'
                          go_simp
                          with_reducible rfl
                         rotate_left
                         ·simp only [Act.put, sqA, sqZ, sqS, i64_w, i32_w]
                          rfl
                         refine done_ (done_of HT_.out (by kernel_rfl)) ?_
                         try go_wp2
                         go_meet
                         case rel => exact ⟨_, (false), (by first | rfl | (simp; done) | (simp [*]; done)), H', ⟨by have := HK1.out; have := HK2.out; have := HK3.out; first | omega | exact Nat.le_refl _⟩, ⟨by (with_reducible repeat (first | apply Kd.R_alloc | apply Kd.R_drewN | apply Kd.R_drew)); exact HO_5.out⟩, ⟨by (with_reducible repeat (first | apply Kd.R_alloc | apply Kd.R_drewN | apply Kd.R_drew)); exact HO_6.out⟩, ⟨by (with_reducible repeat (first | apply Kd.R_alloc | apply Kd.R_drewN | apply Kd.R_drew)); exact HO_7.out⟩, ⟨by (with_reducible repeat (first | apply Kd.R_alloc | apply Kd.R_drewN | apply Kd.R_drew)); exact HO_8.out⟩, ⟨by (with_reducible repeat (first | apply Kd.R_alloc | apply Kd.R_drewN | apply Kd.R_drew)); exact HO_93.out⟩, ⟨by (with_reducible repeat (first | refine bN ?_ _ | refine bD ?_ | refine bA ?_ _)); exact BK185.out⟩, ⟨by repeat (first | (with_reducible first | exact HB.out | apply wA | apply wN | apply wD | refine bS ?_ GE185.out) | exact HB.out)⟩⟩
                      ·rw [if_neg c60] at H
                       exact absurd H (by simp)
                     ·rw [if_neg c59] at H
                      exact absurd H (by simp)
                    ·rw [if_neg c58] at H
                     exact absurd H (by simp)
                   ·rw [if_neg c57] at H
                    exact absurd H (by simp)
                  case rest =>
                   clear HC56
                   try clear p2
                   try clear q2
                   try clear hx2
                   try clear c5
                   try clear c6
                   try clear p20
                   try clear q20
                   try clear hx20
                   try clear p21
                   try clear q21
                   try clear hx21
                   try clear c57
                   try clear c58
                   try clear c59
                   try clear c60
                   try clear c61
                   try clear c61b0
                   try clear c64
                   try clear c64b0
                   try clear c64b1
                   try clear hx208_0
                   try clear hx209_0
                   try clear hx210_0
                   try clear hx211_0
                   try clear p208
                   try clear p209
                   try clear p210
                   try clear p211
                   try clear q208
                   try clear q209
                   try clear q210
                   try clear q211
                   obtain ⟨kq, x128_55, rfl, HA, HJ55, HO_5, HO_6, HO_7, HO_8, HO_93, BK185, HB⟩ := hcut
                   cases kq with
                   | zero => exact absurd HA.out (by simp [impl_Drain.j4])
                   | succ kj55 =>
                    have H := HA.out
                    clear HA
                    simp only [impl_Drain.j4] at H
                    by_cases c69 : x128_55 = true
                    ·subst c69
                     have H1 : (impl_Drain.l2 kj55 x5_2 x6_2 x7_2 x8_2 x95_3 x8_2 (x8_2.length : Int) (wrap64 (x95_3 + 1)) a0_0 a0_1 l0_2) = some (r1, r2) := by rw [if_pos rfl] at H; exact H
                     clear H
                     have H := H1
                     clear H1
                     have H' := Aside0.mk H
                     clear H
                     go_wp2
                     go_roundg kj55
                     case measure => have := HK1.out; have := HK2.out; have := HK3.out; have := HJ55.out; omega
                     case rel => exact ⟨(x95_3), (wrap64 (x95_3 + 1)), (by first | rfl | (simp; done) | (simp [*]; done)), (by first | rfl | (simp; done) | (simp [*]; done)), H', ⟨by have := HK1.out; have := HK2.out; have := HK3.out; have := HJ55.out; omega⟩, ⟨by (with_reducible repeat (first | apply Kd.R_alloc | apply Kd.R_drewN | apply Kd.R_drew)); exact HO_5.out⟩, ⟨by (with_reducible repeat (first | apply Kd.R_alloc | apply Kd.R_drewN | apply Kd.R_drew)); exact HO_6.out⟩, ⟨by (with_reducible repeat (first | apply Kd.R_alloc | apply Kd.R_drewN | apply Kd.R_drew)); exact HO_7.out⟩, ⟨by (with_reducible repeat (first | apply Kd.R_alloc | apply Kd.R_drewN | apply Kd.R_drew)); exact HO_8.out⟩, ⟨by (with_reducible repeat (first | apply Kd.R_alloc | apply Kd.R_drewN | apply Kd.R_drew)); exact HO_93.out⟩, ⟨by (with_reducible repeat (first | refine bN ?_ _ | refine bD ?_ | refine bA ?_ _)); exact BK185.out⟩, ⟨by repeat (first | (with_reducible first | exact HB.out | apply wA | apply wN | apply wD | refine bS ?_ GE185.out) | exact HB.out)⟩⟩
                    ·replace c69 := Bool.eq_false_iff.mpr c69
                     subst c69
                     have H1 : (impl_Drain.l2 kj55 x5_2 x6_2 x7_2 x8_2 x12_3 x8_2 (x8_2.length : Int) (wrap64 (x95_3 + 1)) a0_0 a0_1 l0_2) = some (r1, r2) := by rw [if_neg (show ¬ (false = true) by decide)] at H; exact H
                     clear H
                     have H := H1
                     clear H1
                     have H' := Aside0.mk H
                     clear H
                     go_wp2
                     go_roundg kj55
                     case measure => have := HK1.out; have := HK2.out; have := HK3.out; have := HJ55.out; omega
                     case rel => exact ⟨(x12_3), (wrap64 (x95_3 + 1)), (by first | rfl | (simp; done) | (simp [*]; done)), (by first | rfl | (simp; done) | (simp [*]; done)), H', ⟨by have := HK1.out; have := HK2.out; have := HK3.out; have := HJ55.out; omega⟩, ⟨by (with_reducible repeat (first | apply Kd.R_alloc | apply Kd.R_drewN | apply Kd.R_drew)); exact HO_5.out⟩, ⟨by (with_reducible repeat (first | apply Kd.R_alloc | apply Kd.R_drewN | apply Kd.R_drew)); exact HO_6.out⟩, ⟨by (with_reducible repeat (first | apply Kd.R_alloc | apply Kd.R_drewN | apply Kd.R_drew)); exact HO_7.out⟩, ⟨by (with_reducible repeat (first | apply Kd.R_alloc | apply Kd.R_drewN | apply Kd.R_drew)); exact HO_8.out⟩, ⟨by (with_reducible repeat (first | apply Kd.R_alloc | apply Kd.R_drewN | apply Kd.R_drew)); exact HO_93.out⟩, ⟨by (with_reducible repeat (first | refine bN ?_ _ | refine bD ?_ | refine bA ?_ _)); exact BK185.out⟩, ⟨by repeat (first | (with_reducible first | exact HB.out | apply wA | apply wN | apply wD | refine bS ?_ GE185.out) | exact HB.out)⟩⟩
                 ·rw [if_neg c55] at H
                  exact absurd H (by simp)
                ·rw [if_neg c54] at H
                 exact absurd H (by simp)
               ·rw [if_neg c53] at H
                exact absurd H (by simp)
              ·rw [if_neg c52] at H
               exact absurd H (by simp)
             ·rw [if_neg c51] at H
              have c51b0 : decide (x95_3 < (x8_2.length : Int)) = false := decide_eq_false c51
              clear c51
              by_cases c70 : 0 ≤ x12_3
              ·rw [if_pos c70] at H
               have c70b0 : decide (0 ≤ x12_3) = true := decide_eq_true c70
               clear c70
               by_cases c71 : x12_3 < (x8_2.length : Int)
               ·rw [if_pos c71] at H
                have c71b0 : decide (x12_3 < (x8_2.length : Int)) = true := decide_eq_true c71
                clear c71
                replace H := Option.bind_eq_some_iff.mp H
                obtain ⟨t213, A720, H⟩ := H
                replace H : (if a0_1 = 0 then (none) else ((some (([(⟨1, 0⟩ : S60), (⟨0, 1⟩ : S60), (⟨(-1), 0⟩ : S60), (⟨0, (-1)⟩ : S60)] : List (S60)) : List (S60))).bind fun y216 => (impl_Drain.l3 k3 x5_2 x6_2 x7_2 t213 (rd x8_2 x12_3) (wrap64 (Int.tdiv (rd x8_2 x12_3) a0_1)) (Int.tmod (rd x8_2 x12_3) a0_1) y216 (y216.length : Int) 0 a0_0 a0_1 l0_2))) = some (r1, r2) := H
                have A72 := Aside0.mk A720
                clear A720
                by_cases c73 : a0_1 = 0
                ·rw [if_pos c73] at H
                 exact absurd H (by simp)
                ·rw [if_neg c73] at H
                 have c73b0 : (a0_1 == 0) = false := beq_eq_false_iff_ne.mpr c73
                 have c73b1 : (a0_1 != 0) = true := bne_iff_ne.mpr c73
                 obtain ⟨y216, hy216⟩ : ∃ y_ : List (S60), y_ = (([(⟨1, 0⟩ : S60), (⟨0, 1⟩ : S60), (⟨(-1), 0⟩ : S60), (⟨0, (-1)⟩ : S60)] : List (S60))) := ⟨_, rfl⟩
                 replace H : (impl_Drain.l3 k3 x5_2 x6_2 x7_2 t213 (rd x8_2 x12_3) (wrap64 (Int.tdiv (rd x8_2 x12_3) a0_1)) (Int.tmod (rd x8_2 x12_3) a0_1) y216 (y216.length : Int) 0 a0_0 a0_1 l0_2) = some (r1, r2) := by first | (rw [hy216]; with_reducible exact H) | (have H2_ := (Option.bind_some _ _).symm.trans H; rw [hy216]; with_reducible exact H2_) | (have H2_ := (Option.bind_some _ _).symm.trans H; with_reducible exact H2_) | with_reducible exact H | (rw [hy216]; exact H) | exact H
                 have Ny216 := Aside0.mk hy216
                 clear hy216
                 have H' := Aside0.mk H
                 clear H
                 have p212 : 0 ≤ (x12_3 : Int) := of_decide_eq_true (by first | (with_reducible assumption) | assumption)
                 have q212 : x12_3 < (x8_2.length : Int) := of_decide_eq_true (by first | (with_reducible assumption) | assumption)
                 obtain ⟨ad212, e212, hx212_0⟩ := Kd.at_int (Kd.R_reads' HO_8.out).2.2 x12_3 p212 q212
                 cases e212
                 replace p212 := eq_true p212
                 replace q212 := eq_true q212
                 try go_wp2_with (first | ((with_reducible refine gate_callee (f := 42) rfl ?_); refine goesL_ (some 139) rfl rfl Try.func42 (by kernel_rfl) rfl #[.slice (some ad212) x8_2.length co50, .int .i64 x12_3, .int .i64 (wrap64 (x12_3 + 1))] rfl (by (try simp only [lM, lC, lN]); first | done | rfl | (simp only [lD, lT]; rfl)) ?_; (with_reducible refine (slices_Delete_int64_int64.calls (fun k_ => some k_ = (.slice (some ad212) x8_2.length co50 : Value).ownBlock) (.slice (some ad212) x8_2.length co50) x8_2 x12_3 (wrap64 (x12_3 + 1)) t213 w _ ?side1 ?side2 A72.out).mono ?_); (case side1 => repeat (first | (with_reducible first | exact HB.out | apply wA | apply wN | apply wD | refine bS ?_ GE185.out) | exact HB.out)); (case side2 => exact Kd.R_tight rfl HO_8.out); rintro e w74 ⟨v214, rfl, ho0, hb, hkp⟩; refine ⟨_, rfl, ?_⟩; have n0_ := A0 (Kd.R_mono (ok' := fun k_ => some k_ ≠ (v191 : Value).ownBlock ∧ some k_ ≠ (v194 : Value).ownBlock ∧ some k_ ≠ (.slice (some ad212) x8_2.length co50 : Value).ownBlock ∧ some k_ ≠ (v214 : Value).ownBlock) (Kd.R_keptB (HO_5.out) hkp (fun k_ hk_ hs_ => (hk_.2.2.1) hs_)) (fun k_ hk_ => ⟨hk_.1.1, hk_.1.2.1, hk_.1.2.2.2, fun e_ => Or.elim (ho0.1 k_ e_.symm) (fun hs_ => hk_.2.1 hs_) (fun hn_ => Nat.not_le.2 hk_.2.2 hn_)⟩)); have n1_ := A0 (Kd.R_mono (ok' := fun k_ => some k_ ≠ (v188 : Value).ownBlock ∧ some k_ ≠ (v194 : Value).ownBlock ∧ some k_ ≠ (.slice (some ad212) x8_2.length co50 : Value).ownBlock ∧ some k_ ≠ (v214 : Value).ownBlock) (Kd.R_keptB (HO_6.out) hkp (fun k_ hk_ hs_ => (hk_.2.2.1) hs_)) (fun k_ hk_ => ⟨hk_.1.1, hk_.1.2.1, hk_.1.2.2.2, fun e_ => Or.elim (ho0.1 k_ e_.symm) (fun hs_ => hk_.2.1 hs_) (fun hn_ => Nat.not_le.2 hk_.2.2 hn_)⟩)); have n2_ := A0 (Kd.R_mono (ok' := fun k_ => some k_ ≠ (v188 : Value).ownBlock ∧ some k_ ≠ (v191 : Value).ownBlock ∧ some k_ ≠ (.slice (some ad212) x8_2.length co50 : Value).ownBlock ∧ some k_ ≠ (v214 : Value).ownBlock) (Kd.R_keptB (HO_7.out) hkp (fun k_ hk_ hs_ => (hk_.2.2.1) hs_)) (fun k_ hk_ => ⟨hk_.1.1, hk_.1.2.1, hk_.1.2.2.2, fun e_ => Or.elim (ho0.1 k_ e_.symm) (fun hs_ => hk_.2.1 hs_) (fun hn_ => Nat.not_le.2 hk_.2.2 hn_)⟩)); have n3_ := A0 (blk_kept (by (with_reducible repeat (first | refine bN ?_ _ | refine bD ?_ | refine bA ?_ _)); exact BK185.out) hkp (fun hs_ => (fun e_ => (Kd.R_ne HO_8.out BK185.out (by decide)) e_) hs_)); have n4_ := A0 (Kd.R_mono (ok' := fun k_ => some k_ ≠ (v188 : Value).ownBlock ∧ some k_ ≠ (v191 : Value).ownBlock ∧ some k_ ≠ (v194 : Value).ownBlock) ho0 (fun k_ hk_ => ⟨Or.elim hk_ (fun hs_ => fun e_ => (((HO_5.out).1 k_ e_.symm).2.2.1) hs_) (fun hn_ => (Kd.fresh' (Kd.R_lt (by (with_reducible repeat (first | apply Kd.R_alloc | apply Kd.R_drewN | apply Kd.R_drew)); exact HO_5.out)) k_ hn_)), Or.elim hk_ (fun hs_ => fun e_ => (((HO_6.out).1 k_ e_.symm).2.2.1) hs_) (fun hn_ => (Kd.fresh' (Kd.R_lt (by (with_reducible repeat (first | apply Kd.R_alloc | apply Kd.R_drewN | apply Kd.R_drew)); exact HO_6.out)) k_ hn_)), Or.elim hk_ (fun hs_ => fun e_ => (((HO_7.out).1 k_ e_.symm).2.2.1) hs_) (fun hn_ => (Kd.fresh' (Kd.R_lt (by (with_reducible repeat (first | apply Kd.R_alloc | apply Kd.R_drewN | apply Kd.R_drew)); exact HO_7.out)) k_ hn_))⟩)); have n5_ := A0 (hb); clear HO_5; clear HO_6; clear HO_7; clear BK185; clear HB; clear HO_8; clear HO_93; have HO_5 := n0_; have HO_6 := n1_; have HO_7 := n2_; have BK185 := n3_; have HO215 := n4_; have HB := n5_; clear n0_ n1_ n2_ n3_ n4_ n5_; (try clear hb); (try clear hkp); (try clear ho0)))
                 have n0_ := A0 (Kd.R_drew HO_5.out)
                 have n1_ := A0 (Kd.R_drew HO_6.out)
                 have n2_ := A0 (Kd.R_drew HO_7.out)
                 have n3_ := A0 (Kd.R_drew HO215.out)
                 have n4_ := A0 (blk_drew BK185.out)
                 have n5_ := A0 (below_drew1 HB.out)
                 clear HO_5
                 clear HO_6
                 clear HO_7
                 clear HO215
                 clear BK185
                 clear HB
                 have HO_5 := n0_
                 have HO_6 := n1_
                 have HO_7 := n2_
                 have HO215 := n3_
                 have BK185 := n4_
                 have HB := n5_
                 clear n0_ n1_ n2_ n3_ n4_ n5_
                 refine start_ (n := 10) (S := fun w' => w'.cell? ⟨gb185, 0, none⟩ = some (.int .i64 a0_0) ∧ w'.cell? ⟨gb185, 1, none⟩ = some (.int .i64 a0_1) ∧ w'.cell? ⟨gb185, 2, none⟩ = some (.slice A0_2 l0_2.length c0_2)) (ds := []) #[false, false, false, false, false, false, false, false, false, false] (by kernel_rfl) rfl rfl ⟨bC BK185.out 0 rfl, bC BK185.out 1 rfl, bC BK185.out 2 rfl⟩ (fun hHeld => ?_); refine with_tabW impl_Drain.tab25 impl_Drain.bits25 (fun HT_ HW_ => ?_)
                 generalize w74.drew = w75 at HO_5 HO_6 HO_7 HO215 BK185 HB hHeld ⊢
                 refine pure_ (i := 0) (N := some 140) (v := ?_) (a' := ?_) #[true, false, false, false, false, false, false, false, false, false] rfl rfl (any_of HT_.out (by kernel_rfl)) (fun _ _ _ h => h) (Or.inl ⟨by rfl, ?_⟩) ?_ ?_
                 rotate_left
                 ·intro w'
                  go_simp
                  with_reducible rfl
                 rotate_left
                 ·simp only [Act.put, sqA, sqZ, sqS, i64_w, i32_w]
                  rfl
                 refine pure_ (i := 1) (N := some 141) (v := ?_) (a' := ?_) #[true, true, false, false, false, false, false, false, false, false] rfl rfl (any_of HT_.out (by kernel_rfl)) (fun _ _ _ h => h) (Or.inl ⟨by rfl, ?_⟩) ?_ ?_
                 rotate_left
                 ·intro w'
                  go_simp
                  with_reducible rfl
                 rotate_left
                 ·simp only [Act.put, sqA, sqZ, sqS, i64_w, i32_w]
                  rfl
                 refine pure_ (i := 4) (N := some 144) (v := ?_) (a' := ?_) #[true, true, false, false, true, false, false, false, false, false] rfl rfl (any_of HT_.out (by kernel_rfl)) (fun _ _ _ h => h) (Or.inl ⟨by rfl, ?_⟩) ?_ ?_
                 rotate_left
                 ·intro w'
                  go_simp
                  with_reducible rfl
                 rotate_left
                 ·simp only [Act.put, sqA, sqZ, sqS, i64_w, i32_w]
                  rfl
                 refine pure_ (i := 5) (N := some 145) (v := ?_) (a' := ?_) #[true, true, false, false, true, true, false, false, false, false] rfl rfl (any_of HT_.out (by kernel_rfl)) (fun _ _ _ h => h) (Or.inl ⟨by rfl, ?_⟩) ?_ ?_
                 rotate_left
                 ·intro w'
                  go_simp
                  with_reducible rfl
                 rotate_left
                 ·simp only [Act.put, sqA, sqZ, sqS, i64_w, i32_w]
                  rfl
                 refine take_ (i := 2) (N := some 142) (v := ?_) (a' := ?_) #[true, true, true, false, true, true, false, false, false, false] rfl rfl (take_ofW HT_.out HW_.out (by kernel_rfl)) (fun _ _ _ h => h) (Or.inl ⟨by rfl, ?_⟩) hHeld ?_ ?_
                 rotate_left
                 ·rintro w' ⟨s0, s1, s2⟩
                  go_simp
                  with_reducible rfl
                 rotate_left
                 ·simp only [Act.put, sqA, sqZ, sqS, i64_w, i32_w]
                  rfl
                 refine pure_ (i := 3) (N := some 143) (v := ?_) (a' := ?_) #[true, true, true, true, true, true, false, false, false, false] rfl rfl (any_of HT_.out (by kernel_rfl)) (fun _ _ _ h => h) (Or.inl ⟨by rfl, ?_⟩) ?_ ?_
                 rotate_left
                 ·intro w'
                  go_simp
                  with_reducible rfl
                 rotate_left
                 ·simp only [Act.put, sqA, sqZ, sqS, i64_w, i32_w]
                  rfl
                 refine pure_ (i := 8) (N := some 17) (v := ?_) (a' := ?_) #[true, true, true, true, true, true, false, false, true, false] rfl rfl (any_of HT_.out (by kernel_rfl)) (fun _ _ _ h => h) (Or.inl ⟨by rfl, ?_⟩) ?_ ?_
                 rotate_left
                 ·intro w'
                  go_simp
                  with_reducible rfl
                 rotate_left
                 ·simp only [Act.put, sqA, sqZ, sqS, i64_w, i32_w]
                  rfl
                 refine take_ (i := 6) (N := some 146) (v := ?_) (a' := ?_) #[true, true, true, true, true, true, true, false, true, false] rfl rfl (take_ofW HT_.out HW_.out (by kernel_rfl)) (fun _ _ _ h => h) (Or.inl ⟨by rfl, ?_⟩) hHeld ?_ ?_
                 rotate_left
                 ·rintro w' ⟨s0, s1, s2⟩
                  go_simp
                  with_reducible rfl
                 rotate_left
                 ·simp only [Act.put, sqA, sqZ, sqS, i64_w, i32_w]
                  rfl
                 refine pure_ (i := 7) (N := some 147) (v := ?_) (a' := ?_) #[true, true, true, true, true, true, true, true, true, false] rfl rfl (any_of HT_.out (by kernel_rfl)) (fun _ _ _ h => h) (Or.inl ⟨by rfl, ?_⟩) ?_ ?_
                 rotate_left
                 ·intro w'
                  go_simp
                  with_reducible rfl
                 rotate_left
                 ·simp only [Act.put, sqA, sqZ, sqS, i64_w, i32_w]
                  rfl
                 refine pure_ (i := 9) (N := some 18) (v := ?_) (a' := ?_) #[true, true, true, true, true, true, true, true, true, true] rfl rfl (any_of HT_.out (by kernel_rfl)) (fun _ _ _ h => h) (Or.inl ⟨by rfl, ?_⟩) ?_ ?_
                 rotate_left
                 ·intro w'
                  go_simp
                  with_reducible rfl
                 rotate_left
                 ·simp only [Act.put, sqA, sqZ, sqS, i64_w, i32_w]
                  rfl
                 refine done_ (done_of HT_.out (by kernel_rfl)) ?_
                 try go_wp2_with (first | ((with_reducible refine gate_dst (N := 152) rfl ?_); refine Kd.R_lit k60 _ 60 ?hg (N := 152) ?hd (xs := ([(⟨1, 0⟩ : S60), (⟨0, 1⟩ : S60), (⟨(-1), 0⟩ : S60), (⟨0, (-1)⟩ : S60)] : List (S60))) (inner := [.int .i64 1, .int .i64 0, .int .i64 0, .int .i64 1, .int .i64 (-1), .int .i64 0, .int .i64 0, .int .i64 (-1)]) (ok := fun _ => True) (okp := fun _ => True) ?hr ?hp (fun _ hk => hk) trivial (Below.refl _ _) (Nat.le_refl _) (by simp) ?_; (case hd => rfl); (case hg => rfl); (case hr => first | (go_simp; done) | (go_simp; rfl)); (case hp => exact (Reps.c2 (show Kd.M k60 _ _ _ (⟨1, 0⟩ : S60) [.int .i64 1, .int .i64 0] from (k60_mkM _ _ _ (⟨1, 0⟩ : S60) )) (Reps.c2 (show Kd.M k60 _ _ _ (⟨0, 1⟩ : S60) [.int .i64 0, .int .i64 1] from (k60_mkM _ _ _ (⟨0, 1⟩ : S60) )) (Reps.c2 (show Kd.M k60 _ _ _ (⟨(-1), 0⟩ : S60) [.int .i64 (-1), .int .i64 0] from (k60_mkM _ _ _ (⟨(-1), 0⟩ : S60) )) (Reps.c2 (show Kd.M k60 _ _ _ (⟨0, (-1)⟩ : S60) [.int .i64 0, .int .i64 (-1)] from (k60_mkM _ _ _ (⟨0, (-1)⟩ : S60) )) (Reps.none _ _)))))); intro v217 w76 ho77 hb hg_ hnew_; clear hg_ hnew_; (first | rw [← Ny216.out] at ho77 | (simp only [Int.reduceToNat] at ho77; rw [← Ny216.out] at ho77)); have n0_ := A0 (Kd.R_elder' (by (with_reducible repeat (first | apply Kd.R_alloc | apply Kd.R_drewN | apply Kd.R_drew)); exact HO_5.out) (Kd.R_base ho77) hb); have n1_ := A0 (Kd.R_elder' (by (with_reducible repeat (first | apply Kd.R_alloc | apply Kd.R_drewN | apply Kd.R_drew)); exact HO_6.out) (Kd.R_base ho77) hb); have n2_ := A0 (Kd.R_elder' (by (with_reducible repeat (first | apply Kd.R_alloc | apply Kd.R_drewN | apply Kd.R_drew)); exact HO_7.out) (Kd.R_base ho77) hb); have n3_ := A0 (Kd.R_elder' (by (with_reducible repeat (first | apply Kd.R_alloc | apply Kd.R_drewN | apply Kd.R_drew)); exact HO215.out) (Kd.R_base ho77) hb); have n4_ := A0 (Kd.R_lower (Kd.R_new' (Kd.R_new' (Kd.R_new' (Kd.R_new' ho77 (Kd.R_lt (by (with_reducible repeat (first | apply Kd.R_alloc | apply Kd.R_drewN | apply Kd.R_drew)); exact HO_5.out))) (Kd.R_lt (by (with_reducible repeat (first | apply Kd.R_alloc | apply Kd.R_drewN | apply Kd.R_drew)); exact HO_6.out))) (Kd.R_lt (by (with_reducible repeat (first | apply Kd.R_alloc | apply Kd.R_drewN | apply Kd.R_drew)); exact HO_7.out))) (Kd.R_lt (by (with_reducible repeat (first | apply Kd.R_alloc | apply Kd.R_drewN | apply Kd.R_drew)); exact HO215.out))) (below_size (by repeat (first | (with_reducible first | exact HB.out | apply wA | apply wN | apply wD | refine bS ?_ GE185.out) | exact HB.out)))); have n5_ := A0 (blk_below (g := gb185) (o := .cells #[.int .i64 a0_0, .int .i64 a0_1, .slice A0_2 l0_2.length c0_2] 27 (0, 0)) (by (with_reducible repeat (first | refine bN ?_ _ | refine bD ?_ | refine bA ?_ _)); exact BK185.out) hb); have n6_ := A0 (below_step (by repeat (first | (with_reducible first | exact HB.out | apply wA | apply wN | apply wD | refine bS ?_ GE185.out) | exact HB.out)) hb); clear HO_5; clear HO_6; clear HO_7; clear HO215; clear BK185; clear HB; have HO_5 := n0_; have HO_6 := n1_; have HO_7 := n2_; have HO215 := n3_; have HO218 := n4_; have BK185 := n5_; have HB := n6_; clear n0_ n1_ n2_ n3_ n4_ n5_ n6_; clear hb ho77; obtain ⟨Ao78, co78, eo78⟩ := Kd.R_slice HO218.out; subst eo78))
                 go_loopg [8, 154] k3 (fun kq v8 v154 w' => ∃ (x5_4 : List Int) (x6_4 : List Int) (x7_4 : List Bool) (x8_4 : List Int) (x154_4 : Int), v154 = .int .i64 x154_4 ∧ Aside0 (impl_Drain.l3 kq x5_4 x6_4 x7_4 x8_4 (rd x8_2 x12_3) (wrap64 (Int.tdiv (rd x8_2 x12_3) a0_1)) (Int.tmod (rd x8_2 x12_3) a0_1) y216 (y216.length : Int) x154_4 a0_0 a0_1 l0_2 = some (r1, r2)) ∧ Aside0 (kq ≤ k3) ∧ Aside0 (Kd.R (Kd.int .i64) 2 w' w.heap.size (fun k_ => some k_ ≠ (v191 : Value).ownBlock ∧ some k_ ≠ (v194 : Value).ownBlock ∧ some k_ ≠ (v8 : Value).ownBlock ∧ some k_ ≠ ((.slice Ao78 y216.length co78) : Value).ownBlock) v188 x5_4) ∧ Aside0 (Kd.R (Kd.int .i64) 2 w' w.heap.size (fun k_ => some k_ ≠ (v188 : Value).ownBlock ∧ some k_ ≠ (v194 : Value).ownBlock ∧ some k_ ≠ (v8 : Value).ownBlock ∧ some k_ ≠ ((.slice Ao78 y216.length co78) : Value).ownBlock) v191 x6_4) ∧ Aside0 (Kd.R Kd.bool 4 w' w.heap.size (fun k_ => some k_ ≠ (v188 : Value).ownBlock ∧ some k_ ≠ (v191 : Value).ownBlock ∧ some k_ ≠ (v8 : Value).ownBlock ∧ some k_ ≠ ((.slice Ao78 y216.length co78) : Value).ownBlock) v194 x7_4) ∧ Aside0 (Kd.R (Kd.int .i64) 2 w' w.heap.size (fun k_ => some k_ ≠ (v188 : Value).ownBlock ∧ some k_ ≠ (v191 : Value).ownBlock ∧ some k_ ≠ (v194 : Value).ownBlock ∧ some k_ ≠ ((.slice Ao78 y216.length co78) : Value).ownBlock) v8 x8_4) ∧ Aside0 (Kd.R k60 60 w' w.heap.size (fun k_ => some k_ ≠ (v188 : Value).ownBlock ∧ some k_ ≠ (v191 : Value).ownBlock ∧ some k_ ≠ (v194 : Value).ownBlock ∧ some k_ ≠ (v8 : Value).ownBlock) (.slice Ao78 y216.length co78) y216) ∧ Aside0 (w'.heap[gb185]? = some (.cells #[.int .i64 a0_0, .int .i64 a0_1, (.slice A0_2 l0_2.length c0_2)] 27 (0, 0))) ∧ Aside0 (Below w.heap.size w w'))
                 case atStart => exact ⟨(x5_2), (x6_2), (x7_2), (t213), (0), (by first | rfl | (simp; done) | (simp [*]; done)), H', ⟨Nat.le_refl _⟩, ⟨by (with_reducible repeat (first | apply Kd.R_alloc | apply Kd.R_drewN | apply Kd.R_drew)); exact Kd.R_mono HO_5.out (fun _ hk => ⟨hk.1.1, ⟨hk.1.2.1, ⟨hk.1.2.2.2, hk.2⟩⟩⟩)⟩, ⟨by (with_reducible repeat (first | apply Kd.R_alloc | apply Kd.R_drewN | apply Kd.R_drew)); exact Kd.R_mono HO_6.out (fun _ hk => ⟨hk.1.1, ⟨hk.1.2.1, ⟨hk.1.2.2.2, hk.2⟩⟩⟩)⟩, ⟨by (with_reducible repeat (first | apply Kd.R_alloc | apply Kd.R_drewN | apply Kd.R_drew)); exact Kd.R_mono HO_7.out (fun _ hk => ⟨hk.1.1, ⟨hk.1.2.1, ⟨hk.1.2.2.2, hk.2⟩⟩⟩)⟩, ⟨by (with_reducible repeat (first | apply Kd.R_alloc | apply Kd.R_drewN | apply Kd.R_drew)); exact Kd.R_mono HO215.out (fun _ hk => ⟨hk.1.1, ⟨hk.1.2.1, ⟨hk.1.2.2, hk.2⟩⟩⟩)⟩, ⟨by (with_reducible repeat (first | apply Kd.R_alloc | apply Kd.R_drewN | apply Kd.R_drew)); exact Kd.R_mono HO218.out (fun _ hk => ⟨hk.1.1.1.2, ⟨hk.1.1.2, ⟨hk.1.2, hk.2⟩⟩⟩)⟩, ⟨by (with_reducible repeat (first | refine bN ?_ _ | refine bD ?_ | refine bA ?_ _)); exact BK185.out⟩, ⟨by repeat (first | (with_reducible first | exact HB.out | apply wA | apply wN | apply wD | refine bS ?_ GE185.out) | exact HB.out)⟩⟩
                 case round =>
                  clear H'
                  try clear c2
                  try clear p2
                  try clear q2
                  try clear hx2
                  try clear c4
                  try clear c5
                  try clear c6
                  try clear p6
                  try clear c7
                  try clear p20
                  try clear q20
                  try clear hx20
                  try clear p21
                  try clear q21
                  try clear hx21
                  try clear c42
                  try clear c51
                  try clear c51b0
                  try clear c52
                  try clear c53
                  try clear c54
                  try clear c55
                  try clear c57
                  try clear c58
                  try clear c59
                  try clear c60
                  try clear c61
                  try clear c61b0
                  try clear c64
                  try clear c64b0
                  try clear c64b1
                  try clear p64
                  try clear c69
                  try clear c70
                  try clear c70b0
                  try clear c71
                  try clear c71b0
                  try clear c73
                  try clear c73b0
                  try clear c73b1
                  try clear hx208_0
                  try clear hx209_0
                  try clear hx210_0
                  try clear hx211_0
                  try clear hx212_0
                  try clear p2
                  try clear p20
                  try clear p208
                  try clear p209
                  try clear p21
                  try clear p210
                  try clear p211
                  try clear p212
                  try clear q2
                  try clear q20
                  try clear q208
                  try clear q209
                  try clear q21
                  try clear q210
                  try clear q211
                  try clear q212
                  obtain ⟨x5_4, x6_4, x7_4, x8_4, x154_4, rfl, HA, HK4, HO_5, HO_6, HO_7, HO_8, HO_152, BK185, HB⟩ := hrel
                  cases gk with
                  | zero => exact absurd HA.out (by simp [impl_Drain.l3])
                  | succ k4 =>
                   have H := HA.out
                   clear HA
                   simp only [impl_Drain.l3] at H
                   by_cases c79 : x154_4 < (y216.length : Int)
                   ·rw [if_pos c79] at H
                    have c79b0 : decide (x154_4 < (y216.length : Int)) = true := decide_eq_true c79
                    clear c79
                    by_cases c80 : 0 ≤ x154_4
                    ·rw [if_pos c80] at H
                     have c80b0 : decide (0 ≤ x154_4) = true := decide_eq_true c80
                     clear c80
                     by_cases c81 : x154_4 < (y216.length : Int)
                     ·rw [if_pos c81] at H
                      have c81b0 : decide (x154_4 < (y216.length : Int)) = true := decide_eq_true c81
                      clear c81
                      have HC82 := Aside0.mk H
                      clear H
                      have p219 : 0 ≤ (x154_4 : Int) := of_decide_eq_true (by first | (with_reducible assumption) | assumption)
                      have q219 : x154_4 < (y216.length : Int) := of_decide_eq_true (by first | (with_reducible assumption) | assumption)
                      obtain ⟨ad219, e219, hx219_0, hx219_1⟩ := at_T60 (Kd.R_reads' HO_152.out).2.2 x154_4 p219 q219
                      cases e219
                      replace p219 := eq_true p219
                      replace q219 := eq_true q219
                      try go_wp2_with (first | ((with_reducible refine gate_dst (N := 20) rfl ?_); refine box_event ?hg (N := 20) ?hd (cs := #[.int .i64 0, .int .i64 0]) (t := 60) ?hr ?_; (case hd => rfl); (case hg => rfl); (case hr => first | (go_simp; done) | (go_simp; rfl)); intro gb220 hg w83 hbox hb; have n0_ := A0 (Kd.R_below (by (with_reducible repeat (first | apply Kd.R_alloc | apply Kd.R_drewN | apply Kd.R_drew)); exact HO_5.out) hb); have n1_ := A0 (Kd.R_below (by (with_reducible repeat (first | apply Kd.R_alloc | apply Kd.R_drewN | apply Kd.R_drew)); exact HO_6.out) hb); have n2_ := A0 (Kd.R_below (by (with_reducible repeat (first | apply Kd.R_alloc | apply Kd.R_drewN | apply Kd.R_drew)); exact HO_7.out) hb); have n3_ := A0 (Kd.R_below (by (with_reducible repeat (first | apply Kd.R_alloc | apply Kd.R_drewN | apply Kd.R_drew)); exact HO_8.out) hb); have n4_ := A0 (Kd.R_below (Kd.R_elderB (by (with_reducible repeat (first | apply Kd.R_alloc | apply Kd.R_drewN | apply Kd.R_drew)); exact HO_152.out) gb220 (Nat.le_of_eq hg.symm)) hb); have n5_ := A0 (blk_below (g := gb185) (o := .cells #[.int .i64 a0_0, .int .i64 a0_1, .slice A0_2 l0_2.length c0_2] 27 (0, 0)) (by (with_reducible repeat (first | refine bN ?_ _ | refine bD ?_ | refine bA ?_ _)); exact BK185.out) hb); have n6_ := A0 (below_step (by repeat (first | (with_reducible first | exact HB.out | apply wA | apply wN | apply wD | refine bS ?_ GE185.out) | exact HB.out)) hb); have n7_ := A0 (hbox); have n8_ := A0 ((by rw [hg]; exact (below_size (by repeat (first | (with_reducible first | exact HB.out | apply wA | apply wN | apply wD | refine bS ?_ GE185.out) | exact HB.out))) : w.heap.size ≤ gb220)); have n9_ := A0 ((by rw [hg]; exact (below_size (by repeat (first | (with_reducible first | exact HB.out | apply wA | apply wN | apply wD | refine bS ?_ GE185.out) | exact HB.out))) : w.heap.size ≤ gb220)); have n10_ := A0 ((by rw [hg]; exact Nat.ne_of_lt (blk_lt (g := gb185) (o := .cells #[.int .i64 a0_0, .int .i64 a0_1, .slice A0_2 l0_2.length c0_2] 27 (0, 0)) (by (with_reducible repeat (first | refine bN ?_ _ | refine bD ?_ | refine bA ?_ _)); exact BK185.out)) : gb185 ≠ gb220)); have n11_ := A0 ((by rw [hg]; exact Nat.ne_of_gt (blk_lt (g := gb185) (o := .cells #[.int .i64 a0_0, .int .i64 a0_1, .slice A0_2 l0_2.length c0_2] 27 (0, 0)) (by (with_reducible repeat (first | refine bN ?_ _ | refine bD ?_ | refine bA ?_ _)); exact BK185.out)) : gb220 ≠ gb185)); clear HO_5; clear HO_6; clear HO_7; clear HO_8; clear HO_152; clear BK185; clear HB; have HO_5 := n0_; have HO_6 := n1_; have HO_7 := n2_; have HO_8 := n3_; have HO_152 := n4_; have BK185 := n5_; have HB := n6_; have BK220 := n7_; have GW220 := n8_; have GE220 := n9_; have NB185_220 := n10_; have NB220_185 := n11_; clear n0_ n1_ n2_ n3_ n4_ n5_ n6_ n7_ n8_ n9_ n10_ n11_; clear hb hbox hg; have hnb84 := NB220_185.out; have hnc84 := NB185_220.out; have hcz85_0 : w83.cell? ⟨gb220, 0, none⟩ = some (.int .i64 0) := bC BK220.out 0 rfl; have hcz85_1 : w83.cell? ⟨gb220, 1, none⟩ = some (.int .i64 0) := bC BK220.out 1 rfl; have hfz85_0 := blk_frozen BK220.out 0; have hfz85_1 := blk_frozen BK220.out 1))
                      have n0_ : Aside0 (Kd.R (Kd.int .i64) 2 ((w83.setCell ⟨gb220, 0, none⟩ (.int .i64 ((rd_T60 y216 x154_4).f0))).setCell ⟨gb220, 1, none⟩ (.int .i64 ((rd_T60 y216 x154_4).f1))) w.heap.size (fun k_ => some k_ ≠ (v191 : Value).ownBlock ∧ some k_ ≠ (v194 : Value).ownBlock ∧ some k_ ≠ (u8 : Value).ownBlock ∧ some k_ ≠ (.slice (some ad219) y216.length co78 : Value).ownBlock) v188 x5_4) := ⟨by (with_reducible repeat (first | apply Kd.R_alloc | apply Kd.R_drewN | apply Kd.R_drew)); exact Kd.R_mono (Kd.R_far (p := ⟨gb220, 1, none⟩) (Kd.R_far (p := ⟨gb220, 0, none⟩) (Kd.R_types HO_5.out BK220.out (by decide)) (fun _ hk => hk.2) (.int .i64 ((rd_T60 y216 x154_4).f0))) (fun _ hk => hk.2) (.int .i64 ((rd_T60 y216 x154_4).f1))) (fun _ hk => ⟨hk.1.1, ⟨hk.1.2.1, ⟨hk.1.2.2.1, hk.1.2.2.2⟩⟩⟩)⟩
                      have n1_ : Aside0 (Kd.R (Kd.int .i64) 2 ((w83.setCell ⟨gb220, 0, none⟩ (.int .i64 ((rd_T60 y216 x154_4).f0))).setCell ⟨gb220, 1, none⟩ (.int .i64 ((rd_T60 y216 x154_4).f1))) w.heap.size (fun k_ => some k_ ≠ (v188 : Value).ownBlock ∧ some k_ ≠ (v194 : Value).ownBlock ∧ some k_ ≠ (u8 : Value).ownBlock ∧ some k_ ≠ (.slice (some ad219) y216.length co78 : Value).ownBlock) v191 x6_4) := ⟨by (with_reducible repeat (first | apply Kd.R_alloc | apply Kd.R_drewN | apply Kd.R_drew)); exact Kd.R_mono (Kd.R_far (p := ⟨gb220, 1, none⟩) (Kd.R_far (p := ⟨gb220, 0, none⟩) (Kd.R_types HO_6.out BK220.out (by decide)) (fun _ hk => hk.2) (.int .i64 ((rd_T60 y216 x154_4).f0))) (fun _ hk => hk.2) (.int .i64 ((rd_T60 y216 x154_4).f1))) (fun _ hk => ⟨hk.1.1, ⟨hk.1.2.1, ⟨hk.1.2.2.1, hk.1.2.2.2⟩⟩⟩)⟩
                      have n2_ : Aside0 (Kd.R Kd.bool 4 ((w83.setCell ⟨gb220, 0, none⟩ (.int .i64 ((rd_T60 y216 x154_4).f0))).setCell ⟨gb220, 1, none⟩ (.int .i64 ((rd_T60 y216 x154_4).f1))) w.heap.size (fun k_ => some k_ ≠ (v188 : Value).ownBlock ∧ some k_ ≠ (v191 : Value).ownBlock ∧ some k_ ≠ (u8 : Value).ownBlock ∧ some k_ ≠ (.slice (some ad219) y216.length co78 : Value).ownBlock) v194 x7_4) := ⟨by (with_reducible repeat (first | apply Kd.R_alloc | apply Kd.R_drewN | apply Kd.R_drew)); exact Kd.R_mono (Kd.R_far (p := ⟨gb220, 1, none⟩) (Kd.R_far (p := ⟨gb220, 0, none⟩) (Kd.R_types HO_7.out BK220.out (by decide)) (fun _ hk => hk.2) (.int .i64 ((rd_T60 y216 x154_4).f0))) (fun _ hk => hk.2) (.int .i64 ((rd_T60 y216 x154_4).f1))) (fun _ hk => ⟨hk.1.1, ⟨hk.1.2.1, ⟨hk.1.2.2.1, hk.1.2.2.2⟩⟩⟩)⟩
                      have n3_ : Aside0 (Kd.R (Kd.int .i64) 2 ((w83.setCell ⟨gb220, 0, none⟩ (.int .i64 ((rd_T60 y216 x154_4).f0))).setCell ⟨gb220, 1, none⟩ (.int .i64 ((rd_T60 y216 x154_4).f1))) w.heap.size (fun k_ => some k_ ≠ (v188 : Value).ownBlock ∧ some k_ ≠ (v191 : Value).ownBlock ∧ some k_ ≠ (v194 : Value).ownBlock ∧ some k_ ≠ (.slice (some ad219) y216.length co78 : Value).ownBlock) u8 x8_4) := ⟨by (with_reducible repeat (first | apply Kd.R_alloc | apply Kd.R_drewN | apply Kd.R_drew)); exact Kd.R_mono (Kd.R_far (p := ⟨gb220, 1, none⟩) (Kd.R_far (p := ⟨gb220, 0, none⟩) (Kd.R_types HO_8.out BK220.out (by decide)) (fun _ hk => hk.2) (.int .i64 ((rd_T60 y216 x154_4).f0))) (fun _ hk => hk.2) (.int .i64 ((rd_T60 y216 x154_4).f1))) (fun _ hk => ⟨hk.1.1, ⟨hk.1.2.1, ⟨hk.1.2.2.1, hk.1.2.2.2⟩⟩⟩)⟩
                      have n4_ : Aside0 (Kd.R k60 60 ((w83.setCell ⟨gb220, 0, none⟩ (.int .i64 ((rd_T60 y216 x154_4).f0))).setCell ⟨gb220, 1, none⟩ (.int .i64 ((rd_T60 y216 x154_4).f1))) w.heap.size (fun k_ => some k_ ≠ (v188 : Value).ownBlock ∧ some k_ ≠ (v191 : Value).ownBlock ∧ some k_ ≠ (v194 : Value).ownBlock ∧ some k_ ≠ (u8 : Value).ownBlock ∧ k_ ≠ gb220) (.slice (some ad219) y216.length co78) y216) := ⟨by (with_reducible repeat (first | apply Kd.R_alloc | apply Kd.R_drewN | apply Kd.R_drew)); exact Kd.R_mono (Kd.R_far (p := ⟨gb220, 1, none⟩) (Kd.R_far (p := ⟨gb220, 0, none⟩) (Kd.R_mono HO_152.out (fun k_ hk => (⟨hk, hk.2⟩ : _ ∧ k_ ≠ gb220))) (fun _ hk => hk.2) (.int .i64 ((rd_T60 y216 x154_4).f0))) (fun _ hk => hk.2) (.int .i64 ((rd_T60 y216 x154_4).f1))) (fun _ hk => ⟨hk.1.1.1, ⟨hk.1.1.2.1, ⟨hk.1.1.2.2.1, ⟨hk.1.1.2.2.2, hk.1.2⟩⟩⟩⟩)⟩
                      have n5_ : Aside0 (((w83.setCell ⟨gb220, 0, none⟩ (.int .i64 ((rd_T60 y216 x154_4).f0))).setCell ⟨gb220, 1, none⟩ (.int .i64 ((rd_T60 y216 x154_4).f1))).heap[gb185]? = some (.cells #[.int .i64 a0_0, .int .i64 a0_1, .slice A0_2 l0_2.length c0_2] 27 (0, 0))) := ⟨by (with_reducible repeat (first | refine bN ?_ _ | refine bD ?_ | refine bA ?_ _)); refine blk_far ?_ NB185_220.out _; (with_reducible repeat (first | refine bN ?_ _ | refine bD ?_ | refine bA ?_ _)); refine blk_far ?_ NB185_220.out _; (with_reducible repeat (first | refine bN ?_ _ | refine bD ?_ | refine bA ?_ _)); exact BK185.out⟩
                      have n6_ : Aside0 (((w83.setCell ⟨gb220, 0, none⟩ (.int .i64 ((rd_T60 y216 x154_4).f0))).setCell ⟨gb220, 1, none⟩ (.int .i64 ((rd_T60 y216 x154_4).f1))).heap[gb220]? = some (.cells #[.int .i64 ((rd_T60 y216 x154_4).f0), .int .i64 ((rd_T60 y216 x154_4).f1)] 60 (0, 0))) := ⟨by (with_reducible repeat (first | refine bN ?_ _ | refine bD ?_ | refine bA ?_ _)); refine blk_put (cs := #[.int .i64 ((rd_T60 y216 x154_4).f0), .int .i64 0]) ?_ 1 _ rfl; (with_reducible repeat (first | refine bN ?_ _ | refine bD ?_ | refine bA ?_ _)); refine blk_put (cs := #[.int .i64 0, .int .i64 0]) ?_ 0 _ rfl; (with_reducible repeat (first | refine bN ?_ _ | refine bD ?_ | refine bA ?_ _)); exact BK220.out⟩
                      have n7_ : Aside0 (Below w.heap.size w ((w83.setCell ⟨gb220, 0, none⟩ (.int .i64 ((rd_T60 y216 x154_4).f0))).setCell ⟨gb220, 1, none⟩ (.int .i64 ((rd_T60 y216 x154_4).f1)))) := ⟨by repeat (first | (with_reducible first | exact HB.out | apply wA | apply wN | apply wD | refine bS ?_ GE185.out | refine bS ?_ GE220.out) | exact HB.out)⟩
                      (try clear HO_5)
                      (try clear HO_6)
                      (try clear HO_7)
                      (try clear HO_8)
                      (try clear HO_152)
                      (try clear BK185)
                      (try clear BK220)
                      (try clear HB)
                      generalize ((w83.setCell ⟨gb220, 0, none⟩ (.int .i64 ((rd_T60 y216 x154_4).f0))).setCell ⟨gb220, 1, none⟩ (.int .i64 ((rd_T60 y216 x154_4).f1))) = w86 at n0_ n1_ n2_ n3_ n4_ n5_ n6_ n7_ ⊢
                      have HO_5 := n0_
                      have HO_6 := n1_
                      have HO_7 := n2_
                      have HO_8 := n3_
                      have HO_152 := n4_
                      have BK185 := n5_
                      have BK220 := n6_
                      have HB := n7_
                      clear n0_ n1_ n2_ n3_ n4_ n5_ n6_ n7_
                      have n0_ := A0 (Kd.R_drew HO_5.out)
                      have n1_ := A0 (Kd.R_drew HO_6.out)
                      have n2_ := A0 (Kd.R_drew HO_7.out)
                      have n3_ := A0 (Kd.R_drew HO_8.out)
                      have n4_ := A0 (Kd.R_drew HO_152.out)
                      have n5_ := A0 (blk_drew BK185.out)
                      have n6_ := A0 (blk_drew BK220.out)
                      have n7_ := A0 (below_drew1 HB.out)
                      clear HO_5
                      clear HO_6
                      clear HO_7
                      clear HO_8
                      clear HO_152
                      clear BK185
                      clear BK220
                      clear HB
                      have HO_5 := n0_
                      have HO_6 := n1_
                      have HO_7 := n2_
                      have HO_8 := n3_
                      have HO_152 := n4_
                      have BK185 := n5_
                      have BK220 := n6_
                      have HB := n7_
                      clear n0_ n1_ n2_ n3_ n4_ n5_ n6_ n7_
                      refine start_ (n := 10) (S := fun w' => w'.cell? ⟨gb220, 0, none⟩ = some (.int .i64 ((rd_T60 y216 x154_4).f0)) ∧ w'.cell? ⟨gb220, 1, none⟩ = some (.int .i64 ((rd_T60 y216 x154_4).f1))) (ds := []) #[false, false, false, false, false, false, false, false, false, false] (by kernel_rfl) rfl rfl ⟨bC BK220.out 0 rfl, bC BK220.out 1 rfl⟩ (fun hHeld => ?_); refine with_tabW impl_Drain.tab29 impl_Drain.bits29 (fun HT_ HW_ => ?_)
                      generalize w86.drew = w87 at HO_5 HO_6 HO_7 HO_8 HO_152 BK185 BK220 HB hHeld ⊢
                      refine pure_ (i := 0) (N := some 158) (v := ?_) (a' := ?_) #[true, false, false, false, false, false, false, false, false, false] rfl rfl (any_of HT_.out (by kernel_rfl)) (fun _ _ _ h => h) (Or.inl ⟨by rfl, ?_⟩) ?_ ?_
                      rotate_left
                      ·intro w'
                       go_simp
                       with_reducible rfl
                      rotate_left
                      ·simp only [Act.put, sqA, sqZ, sqS, i64_w, i32_w]
                       rfl
                      refine pure_ (i := 1) (N := some 159) (v := ?_) (a' := ?_) #[true, true, false, false, false, false, false, false, false, false] rfl rfl (any_of HT_.out (by kernel_rfl)) (fun _ _ _ h => h) (Or.inl ⟨by rfl, ?_⟩) ?_ ?_
                      rotate_left
                      ·intro w'
                       go_simp
                       with_reducible rfl
                      rotate_left
                      ·simp only [Act.put, sqA, sqZ, sqS, i64_w, i32_w]
                       rfl
                      refine pure_ (i := 4) (N := some 162) (v := ?_) (a' := ?_) #[true, true, false, false, true, false, false, false, false, false] rfl rfl (any_of HT_.out (by kernel_rfl)) (fun _ _ _ h => h) (Or.inl ⟨by rfl, ?_⟩) ?_ ?_
                      rotate_left
                      ·intro w'
                       go_simp
                       with_reducible rfl
                      rotate_left
                      ·simp only [Act.put, sqA, sqZ, sqS, i64_w, i32_w]
                       rfl
                      refine pure_ (i := 5) (N := some 163) (v := ?_) (a' := ?_) #[true, true, false, false, true, true, false, false, false, false] rfl rfl (any_of HT_.out (by kernel_rfl)) (fun _ _ _ h => h) (Or.inl ⟨by rfl, ?_⟩) ?_ ?_
                      rotate_left
                      ·intro w'
                       go_simp
                       with_reducible rfl
                      rotate_left
                      ·simp only [Act.put, sqA, sqZ, sqS, i64_w, i32_w]
                       rfl
                      refine take_ (i := 2) (N := some 160) (v := ?_) (a' := ?_) #[true, true, true, false, true, true, false, false, false, false] rfl rfl (take_ofW HT_.out HW_.out (by kernel_rfl)) (fun _ _ _ h => h) (Or.inl ⟨by rfl, ?_⟩) hHeld ?_ ?_
                      rotate_left
                      ·rintro w' ⟨s0, s1⟩
                       go_simp
                       with_reducible rfl
                      rotate_left
                      ·simp only [Act.put, sqA, sqZ, sqS, i64_w, i32_w]
                       rfl
                      refine pure_ (i := 3) (N := some 161) (v := ?_) (a' := ?_) #[true, true, true, true, true, true, false, false, false, false] rfl rfl (any_of HT_.out (by kernel_rfl)) (fun _ _ _ h => h) (Or.inl ⟨by rfl, ?_⟩) ?_ ?_
                      rotate_left
                      ·intro w'
                       go_simp
                       with_reducible rfl
                      rotate_left
                      ·simp only [Act.put, sqA, sqZ, sqS, i64_w, i32_w]
                       rfl
                      refine pure_ (i := 8) (N := some 21) (v := ?_) (a' := ?_) #[true, true, true, true, true, true, false, false, true, false] rfl rfl (any_of HT_.out (by kernel_rfl)) (fun _ _ _ h => h) (Or.inl ⟨by rfl, ?_⟩) ?_ ?_
                      rotate_left
                      ·intro w'
                       go_simp
                       with_reducible rfl
                      rotate_left
                      ·simp only [Act.put, sqA, sqZ, sqS, i64_w, i32_w]
                       rfl
                      refine take_ (i := 6) (N := some 164) (v := ?_) (a' := ?_) #[true, true, true, true, true, true, true, false, true, false] rfl rfl (take_ofW HT_.out HW_.out (by kernel_rfl)) (fun _ _ _ h => h) (Or.inl ⟨by rfl, ?_⟩) hHeld ?_ ?_
                      rotate_left
                      ·rintro w' ⟨s0, s1⟩
                       go_simp
                       with_reducible rfl
                      rotate_left
                      ·simp only [Act.put, sqA, sqZ, sqS, i64_w, i32_w]
                       rfl
                      refine pure_ (i := 7) (N := some 165) (v := ?_) (a' := ?_) #[true, true, true, true, true, true, true, true, true, false] rfl rfl (any_of HT_.out (by kernel_rfl)) (fun _ _ _ h => h) (Or.inl ⟨by rfl, ?_⟩) ?_ ?_
                      rotate_left
                      ·intro w'
                       go_simp
                       with_reducible rfl
                      rotate_left
                      ·simp only [Act.put, sqA, sqZ, sqS, i64_w, i32_w]
                       rfl
                      refine pure_ (i := 9) (N := some 22) (v := ?_) (a' := ?_) #[true, true, true, true, true, true, true, true, true, true] rfl rfl (any_of HT_.out (by kernel_rfl)) (fun _ _ _ h => h) (Or.inl ⟨by rfl, ?_⟩) ?_ ?_
                      rotate_left
                      ·intro w'
                       go_simp
                       with_reducible rfl
                      rotate_left
                      ·simp only [Act.put, sqA, sqZ, sqS, i64_w, i32_w]
                       rfl
                      refine done_ (done_of HT_.out (by kernel_rfl)) ?_
                      go_upto_region 30 with (fail)
                      go_cut [179] (fun v179 wc => ∃ (kq : Nat) (x179_81 : Bool), v179 = .bool x179_81 ∧ Aside0 (impl_Drain.j6 kq x5_4 x6_4 x7_4 x8_4 (rd x8_2 x12_3) (wrap64 (Int.tdiv (rd x8_2 x12_3) a0_1)) (Int.tmod (rd x8_2 x12_3) a0_1) (wrap64 ((wrap64 (Int.tdiv (rd x8_2 x12_3) a0_1)) + ((rd_T60 y216 x154_4).f0))) (wrap64 ((Int.tmod (rd x8_2 x12_3) a0_1) + ((rd_T60 y216 x154_4).f1))) y216 (y216.length : Int) x154_4 x179_81 a0_0 a0_1 l0_2 = some (r1, r2)) ∧ Aside0 (kq ≤ k4) ∧ Aside0 (Kd.R (Kd.int .i64) 2 wc w.heap.size (fun k_ => some k_ ≠ (v191 : Value).ownBlock ∧ some k_ ≠ (v194 : Value).ownBlock ∧ some k_ ≠ (u8 : Value).ownBlock ∧ some k_ ≠ ((.slice (some ad219) y216.length co78) : Value).ownBlock) v188 x5_4) ∧ Aside0 (Kd.R (Kd.int .i64) 2 wc w.heap.size (fun k_ => some k_ ≠ (v188 : Value).ownBlock ∧ some k_ ≠ (v194 : Value).ownBlock ∧ some k_ ≠ (u8 : Value).ownBlock ∧ some k_ ≠ ((.slice (some ad219) y216.length co78) : Value).ownBlock) v191 x6_4) ∧ Aside0 (Kd.R Kd.bool 4 wc w.heap.size (fun k_ => some k_ ≠ (v188 : Value).ownBlock ∧ some k_ ≠ (v191 : Value).ownBlock ∧ some k_ ≠ (u8 : Value).ownBlock ∧ some k_ ≠ ((.slice (some ad219) y216.length co78) : Value).ownBlock) v194 x7_4) ∧ Aside0 (Kd.R (Kd.int .i64) 2 wc w.heap.size (fun k_ => some k_ ≠ (v188 : Value).ownBlock ∧ some k_ ≠ (v191 : Value).ownBlock ∧ some k_ ≠ (v194 : Value).ownBlock ∧ some k_ ≠ ((.slice (some ad219) y216.length co78) : Value).ownBlock) u8 x8_4) ∧ Aside0 (Kd.R k60 60 wc w.heap.size (fun k_ => some k_ ≠ (v188 : Value).ownBlock ∧ some k_ ≠ (v191 : Value).ownBlock ∧ some k_ ≠ (v194 : Value).ownBlock ∧ some k_ ≠ (u8 : Value).ownBlock ∧ k_ ≠ gb220) (.slice (some ad219) y216.length co78) y216) ∧ Aside0 (wc.heap[gb185]? = some (.cells #[.int .i64 a0_0, .int .i64 a0_1, (.slice A0_2 l0_2.length c0_2)] 27 (0, 0))) ∧ Aside0 (wc.heap[gb220]? = some (.cells #[.int .i64 ((rd_T60 y216 x154_4).f0), .int .i64 ((rd_T60 y216 x154_4).f1)] 60 (0, 0))) ∧ Aside0 (Below w.heap.size w wc))
                      case first =>
                       have H := HC82.out
                       clear HC82
                       replace H := Option.bind_eq_some_iff.mp H
                       obtain ⟨t221, A880, H⟩ := H
                       replace H : (if t221 = true then ((impl_in.f (wrap64 ((Int.tmod (rd x8_2 x12_3) a0_1) + ((rd_T60 y216 x154_4).f1))) 0 (wrap64 (a0_1 - 1))).bind fun t222 => (impl_Drain.j6 k4 x5_4 x6_4 x7_4 x8_4 (rd x8_2 x12_3) (wrap64 (Int.tdiv (rd x8_2 x12_3) a0_1)) (Int.tmod (rd x8_2 x12_3) a0_1) (wrap64 ((wrap64 (Int.tdiv (rd x8_2 x12_3) a0_1)) + ((rd_T60 y216 x154_4).f0))) (wrap64 ((Int.tmod (rd x8_2 x12_3) a0_1) + ((rd_T60 y216 x154_4).f1))) y216 (y216.length : Int) x154_4 (!t222) a0_0 a0_1 l0_2)) else (impl_Drain.j6 k4 x5_4 x6_4 x7_4 x8_4 (rd x8_2 x12_3) (wrap64 (Int.tdiv (rd x8_2 x12_3) a0_1)) (Int.tmod (rd x8_2 x12_3) a0_1) (wrap64 ((wrap64 (Int.tdiv (rd x8_2 x12_3) a0_1)) + ((rd_T60 y216 x154_4).f0))) (wrap64 ((Int.tmod (rd x8_2 x12_3) a0_1) + ((rd_T60 y216 x154_4).f1))) y216 (y216.length : Int) x154_4 true a0_0 a0_1 l0_2)) = some (r1, r2) := H
                       have A88 := Aside0.mk A880
                       clear A880
                       by_cases c89 : t221 = true
                       ·subst c89
                        have H1 : ((impl_in.f (wrap64 ((Int.tmod (rd x8_2 x12_3) a0_1) + ((rd_T60 y216 x154_4).f1))) 0 (wrap64 (a0_1 - 1))).bind fun t222 => (impl_Drain.j6 k4 x5_4 x6_4 x7_4 x8_4 (rd x8_2 x12_3) (wrap64 (Int.tdiv (rd x8_2 x12_3) a0_1)) (Int.tmod (rd x8_2 x12_3) a0_1) (wrap64 ((wrap64 (Int.tdiv (rd x8_2 x12_3) a0_1)) + ((rd_T60 y216 x154_4).f0))) (wrap64 ((Int.tmod (rd x8_2 x12_3) a0_1) + ((rd_T60 y216 x154_4).f1))) y216 (y216.length : Int) x154_4 (!t222) a0_0 a0_1 l0_2)) = some (r1, r2) := by rw [if_pos rfl] at H; exact H
                        clear H
                        have H := H1
                        clear H1
                        replace H := Option.bind_eq_some_iff.mp H
                        obtain ⟨t222, A900, H⟩ := H
                        replace H : (impl_Drain.j6 k4 x5_4 x6_4 x7_4 x8_4 (rd x8_2 x12_3) (wrap64 (Int.tdiv (rd x8_2 x12_3) a0_1)) (Int.tmod (rd x8_2 x12_3) a0_1) (wrap64 ((wrap64 (Int.tdiv (rd x8_2 x12_3) a0_1)) + ((rd_T60 y216 x154_4).f0))) (wrap64 ((Int.tmod (rd x8_2 x12_3) a0_1) + ((rd_T60 y216 x154_4).f1))) y216 (y216.length : Int) x154_4 (!t222) a0_0 a0_1 l0_2) = some (r1, r2) := H
                        have A90 := Aside0.mk A900
                        clear A900
                        have H' := Aside0.mk H
                        clear H
                        have hnb91 := NB185_220.out
                        have hnc91 := NB220_185.out
                        have hcz92_0 : w87.cell? ⟨gb185, 0, none⟩ = some (.int .i64 a0_0) := bC BK185.out 0 rfl
                        have hcz92_1 : w87.cell? ⟨gb185, 1, none⟩ = some (.int .i64 a0_1) := bC BK185.out 1 rfl
                        have hcz92_2 : w87.cell? ⟨gb185, 2, none⟩ = some (.slice A0_2 l0_2.length c0_2) := bC BK185.out 2 rfl
                        have hfz92_0 := blk_frozen BK185.out 0
                        have hfz92_1 := blk_frozen BK185.out 1
                        have hfz92_2 := blk_frozen BK185.out 2
                        go_wp2_with (first | ((with_reducible refine gate_callee (f := 43) rfl ?_); refine goesL_ (some 170) rfl rfl Try.func43 (by kernel_rfl) rfl #[.int .i64 (wrap64 ((wrap64 (Int.tdiv (rd x8_2 x12_3) a0_1)) + ((rd_T60 y216 x154_4).f0))), .int .i64 0, .int .i64 (wrap64 (a0_0 - 1))] rfl (by (try simp only [lM, lC, lN]); first | done | rfl | (simp only [lD, lT]; rfl)) ?_; (with_reducible refine (impl_in.calls (wrap64 ((wrap64 (Int.tdiv (rd x8_2 x12_3) a0_1)) + ((rd_T60 y216 x154_4).f0))) 0 (wrap64 (a0_0 - 1)) true _ A88.out).mono ?_); rintro e w' ⟨rfl, ⟨nd, rfl⟩⟩; refine ⟨_, rfl, ?_⟩) | (go_at_call 43; (with_reducible refine (impl_in.calls (wrap64 ((Int.tmod (rd x8_2 x12_3) a0_1) + ((rd_T60 y216 x154_4).f1))) 0 (wrap64 (a0_1 - 1)) t222 _ A90.out).mono ?_); rintro e w' ⟨rfl, ⟨nd, rfl⟩⟩))
                        go_meet
                        case rel => exact ⟨_, (!t222), (by first | rfl | (simp; done) | (simp [*]; done)), H', ⟨by have := HK1.out; have := HK2.out; have := HK3.out; have := HK4.out; first | omega | exact Nat.le_refl _⟩, ⟨by (with_reducible repeat (first | apply Kd.R_alloc | apply Kd.R_drewN | apply Kd.R_drew)); exact HO_5.out⟩, ⟨by (with_reducible repeat (first | apply Kd.R_alloc | apply Kd.R_drewN | apply Kd.R_drew)); exact HO_6.out⟩, ⟨by (with_reducible repeat (first | apply Kd.R_alloc | apply Kd.R_drewN | apply Kd.R_drew)); exact HO_7.out⟩, ⟨by (with_reducible repeat (first | apply Kd.R_alloc | apply Kd.R_drewN | apply Kd.R_drew)); exact HO_8.out⟩, ⟨by (with_reducible repeat (first | apply Kd.R_alloc | apply Kd.R_drewN | apply Kd.R_drew)); exact HO_152.out⟩, ⟨by (with_reducible repeat (first | refine bN ?_ _ | refine bD ?_ | refine bA ?_ _)); exact BK185.out⟩, ⟨by (with_reducible repeat (first | refine bN ?_ _ | refine bD ?_ | refine bA ?_ _)); exact BK220.out⟩, ⟨by repeat (first | (with_reducible first | exact HB.out | apply wA | apply wN | apply wD | refine bS ?_ GE185.out | refine bS ?_ GE220.out) | exact HB.out)⟩⟩
                       ·replace c89 := Bool.eq_false_iff.mpr c89
                        subst c89
                        have H1 : (impl_Drain.j6 k4 x5_4 x6_4 x7_4 x8_4 (rd x8_2 x12_3) (wrap64 (Int.tdiv (rd x8_2 x12_3) a0_1)) (Int.tmod (rd x8_2 x12_3) a0_1) (wrap64 ((wrap64 (Int.tdiv (rd x8_2 x12_3) a0_1)) + ((rd_T60 y216 x154_4).f0))) (wrap64 ((Int.tmod (rd x8_2 x12_3) a0_1) + ((rd_T60 y216 x154_4).f1))) y216 (y216.length : Int) x154_4 true a0_0 a0_1 l0_2) = some (r1, r2) := by rw [if_neg (show ¬ (false = true) by decide)] at H; exact H
                        clear H
                        have H := H1
                        clear H1
                        have H' := Aside0.mk H
                        clear H
                        have hnb93 := NB185_220.out
                        have hnc93 := NB220_185.out
                        have hcz94_0 : w87.cell? ⟨gb185, 0, none⟩ = some (.int .i64 a0_0) := bC BK185.out 0 rfl
                        have hcz94_1 : w87.cell? ⟨gb185, 1, none⟩ = some (.int .i64 a0_1) := bC BK185.out 1 rfl
                        have hcz94_2 : w87.cell? ⟨gb185, 2, none⟩ = some (.slice A0_2 l0_2.length c0_2) := bC BK185.out 2 rfl
                        have hfz94_0 := blk_frozen BK185.out 0
                        have hfz94_1 := blk_frozen BK185.out 1
                        have hfz94_2 := blk_frozen BK185.out 2
                        go_wp2_with (first | ((with_reducible refine gate_callee (f := 43) rfl ?_); refine goesL_ (some 170) rfl rfl Try.func43 (by kernel_rfl) rfl #[.int .i64 (wrap64 ((wrap64 (Int.tdiv (rd x8_2 x12_3) a0_1)) + ((rd_T60 y216 x154_4).f0))), .int .i64 0, .int .i64 (wrap64 (a0_0 - 1))] rfl (by (try simp only [lM, lC, lN]); first | done | rfl | (simp only [lD, lT]; rfl)) ?_; (with_reducible refine (impl_in.calls (wrap64 ((wrap64 (Int.tdiv (rd x8_2 x12_3) a0_1)) + ((rd_T60 y216 x154_4).f0))) 0 (wrap64 (a0_0 - 1)) false _ A88.out).mono ?_); rintro e w' ⟨rfl, ⟨nd, rfl⟩⟩; refine ⟨_, rfl, ?_⟩))
                        go_meet
                        case rel => exact ⟨_, (true), (by first | rfl | (simp; done) | (simp [*]; done)), H', ⟨by have := HK1.out; have := HK2.out; have := HK3.out; have := HK4.out; first | omega | exact Nat.le_refl _⟩, ⟨by (with_reducible repeat (first | apply Kd.R_alloc | apply Kd.R_drewN | apply Kd.R_drew)); exact HO_5.out⟩, ⟨by (with_reducible repeat (first | apply Kd.R_alloc | apply Kd.R_drewN | apply Kd.R_drew)); exact HO_6.out⟩, ⟨by (with_reducible repeat (first | apply Kd.R_alloc | apply Kd.R_drewN | apply Kd.R_drew)); exact HO_7.out⟩, ⟨by (with_reducible repeat (first | apply Kd.R_alloc | apply Kd.R_drewN | apply Kd.R_drew)); exact HO_8.out⟩, ⟨by (with_reducible repeat (first | apply Kd.R_alloc | apply Kd.R_drewN | apply Kd.R_drew)); exact HO_152.out⟩, ⟨by (with_reducible repeat (first | refine bN ?_ _ | refine bD ?_ | refine bA ?_ _)); exact BK185.out⟩, ⟨by (with_reducible repeat (first | refine bN ?_ _ | refine bD ?_ | refine bA ?_ _)); exact BK220.out⟩, ⟨by repeat (first | (with_reducible first | exact HB.out | apply wA | apply wN | apply wD | refine bS ?_ GE185.out | refine bS ?_ GE220.out) | exact HB.out)⟩⟩
                      case rest =>
                       clear HC82
                       try clear c2
                       try clear p2
                       try clear q2
                       try clear hx2
                       try clear c4
                       try clear c5
                       try clear c6
                       try clear p6
                       try clear c7
                       try clear c8
                       try clear c9
                       try clear p20
                       try clear q20
                       try clear hx20
                       try clear p21
                       try clear q21
                       try clear hx21
                       try clear c42
                       try clear c43
                       try clear c51
                       try clear c51b0
                       try clear c52
                       try clear c53
                       try clear c54
                       try clear c55
                       try clear c57
                       try clear c58
                       try clear c59
                       try clear c60
                       try clear c61
                       try clear c61b0
                       try clear c64
                       try clear c64b0
                       try clear c64b1
                       try clear p64
                       try clear c69
                       try clear c70
                       try clear c70b0
                       try clear c71
                       try clear c71b0
                       try clear c73
                       try clear c73b0
                       try clear c73b1
                       try clear c79
                       try clear c79b0
                       try clear c80
                       try clear c80b0
                       try clear c81
                       try clear c81b0
                       try clear c84
                       try clear c89
                       try clear c91
                       try clear c93
                       try clear hcz85_0
                       try clear hcz85_1
                       try clear hcz92_0
                       try clear hcz92_1
                       try clear hcz92_2
                       try clear hcz94_0
                       try clear hcz94_1
                       try clear hcz94_2
                       try clear hfz85_0
                       try clear hfz85_1
                       try clear hfz92_0
                       try clear hfz92_1
                       try clear hfz92_2
                       try clear hfz94_0
                       try clear hfz94_1
                       try clear hfz94_2
                       try clear hx208_0
                       try clear hx209_0
                       try clear hx210_0
                       try clear hx211_0
                       try clear hx212_0
                       try clear hx219_0
                       try clear hx219_1
                       try clear p2
                       try clear p20
                       try clear p208
                       try clear p209
                       try clear p21
                       try clear p210
                       try clear p211
                       try clear p212
                       try clear p219
                       try clear p6
                       try clear p64
                       try clear q2
                       try clear q20
                       try clear q208
                       try clear q209
                       try clear q21
                       try clear q210
                       try clear q211
                       try clear q212
                       try clear q219
                       obtain ⟨kq, x179_81, rfl, HA, HJ81, HO_5, HO_6, HO_7, HO_8, HO_152, BK185, BK220, HB⟩ := hcut
                       cases kq with
                       | zero => exact absurd HA.out (by simp [impl_Drain.j6])
                       | succ kj81 =>
                        have H := HA.out
                        clear HA
                        simp only [impl_Drain.j6] at H
                        by_cases c95 : x179_81 = true
                        ·subst c95
                         have H1 : (impl_Drain.l3 kj81 x5_4 x6_4 x7_4 x8_4 (rd x8_2 x12_3) (wrap64 (Int.tdiv (rd x8_2 x12_3) a0_1)) (Int.tmod (rd x8_2 x12_3) a0_1) y216 (y216.length : Int) (wrap64 (x154_4 + 1)) a0_0 a0_1 l0_2) = some (r1, r2) := by rw [if_pos rfl] at H; exact H
                         clear H
                         have H := H1
                         clear H1
                         have H' := Aside0.mk H
                         clear H
                         go_wp2
                         go_roundg kj81
                         case measure => have := HK1.out; have := HK2.out; have := HK3.out; have := HK4.out; have := HJ81.out; omega
                         case rel => exact ⟨(x5_4), (x6_4), (x7_4), (x8_4), (wrap64 (x154_4 + 1)), (by first | rfl | (simp; done) | (simp [*]; done)), H', ⟨by have := HK1.out; have := HK2.out; have := HK3.out; have := HK4.out; have := HJ81.out; omega⟩, ⟨by (with_reducible repeat (first | apply Kd.R_alloc | apply Kd.R_drewN | apply Kd.R_drew)); exact HO_5.out⟩, ⟨by (with_reducible repeat (first | apply Kd.R_alloc | apply Kd.R_drewN | apply Kd.R_drew)); exact HO_6.out⟩, ⟨by (with_reducible repeat (first | apply Kd.R_alloc | apply Kd.R_drewN | apply Kd.R_drew)); exact HO_7.out⟩, ⟨by (with_reducible repeat (first | apply Kd.R_alloc | apply Kd.R_drewN | apply Kd.R_drew)); exact HO_8.out⟩, ⟨by (with_reducible repeat (first | apply Kd.R_alloc | apply Kd.R_drewN | apply Kd.R_drew)); exact Kd.R_mono HO_152.out (fun _ hk => ⟨hk.1, ⟨hk.2.1, ⟨hk.2.2.1, hk.2.2.2.1⟩⟩⟩)⟩, ⟨by (with_reducible repeat (first | refine bN ?_ _ | refine bD ?_ | refine bA ?_ _)); exact BK185.out⟩, ⟨by repeat (first | (with_reducible first | exact HB.out | apply wA | apply wN | apply wD | refine bS ?_ GE185.out | refine bS ?_ GE220.out) | exact HB.out)⟩⟩
                        ·replace c95 := Bool.eq_false_iff.mpr c95
                         subst c95
                         have H1 : (if 0 ≤ (wrap64 ((wrap64 ((wrap64 ((wrap64 (Int.tdiv (rd x8_2 x12_3) a0_1)) + ((rd_T60 y216 x154_4).f0))) * a0_1)) + (wrap64 ((Int.tmod (rd x8_2 x12_3) a0_1) + ((rd_T60 y216 x154_4).f1))))) then (if (wrap64 ((wrap64 ((wrap64 ((wrap64 (Int.tdiv (rd x8_2 x12_3) a0_1)) + ((rd_T60 y216 x154_4).f0))) * a0_1)) + (wrap64 ((Int.tmod (rd x8_2 x12_3) a0_1) + ((rd_T60 y216 x154_4).f1))))) < (x7_4.length : Int) then (if rdOf false x7_4 (wrap64 ((wrap64 ((wrap64 ((wrap64 (Int.tdiv (rd x8_2 x12_3) a0_1)) + ((rd_T60 y216 x154_4).f0))) * a0_1)) + (wrap64 ((Int.tmod (rd x8_2 x12_3) a0_1) + ((rd_T60 y216 x154_4).f1))))) = true then (impl_Drain.l3 kj81 x5_4 x6_4 x7_4 x8_4 (rd x8_2 x12_3) (wrap64 (Int.tdiv (rd x8_2 x12_3) a0_1)) (Int.tmod (rd x8_2 x12_3) a0_1) y216 (y216.length : Int) (wrap64 (x154_4 + 1)) a0_0 a0_1 l0_2) else (if (wrap64 ((wrap64 ((wrap64 ((wrap64 (Int.tdiv (rd x8_2 x12_3) a0_1)) + ((rd_T60 y216 x154_4).f0))) * a0_1)) + (wrap64 ((Int.tmod (rd x8_2 x12_3) a0_1) + ((rd_T60 y216 x154_4).f1))))) < (l0_2.length : Int) then (if 0 ≤ (rd x8_2 x12_3) then (if (rd x8_2 x12_3) < (x5_4.length : Int) then (if (wrap64 ((wrap64 ((wrap64 ((wrap64 (Int.tdiv (rd x8_2 x12_3) a0_1)) + ((rd_T60 y216 x154_4).f0))) * a0_1)) + (wrap64 ((Int.tmod (rd x8_2 x12_3) a0_1) + ((rd_T60 y216 x154_4).f1))))) < (x5_4.length : Int) then (if (wrap64 ((wrap64 ((wrap64 ((wrap64 (Int.tdiv (rd x8_2 x12_3) a0_1)) + ((rd_T60 y216 x154_4).f0))) * a0_1)) + (wrap64 ((Int.tmod (rd x8_2 x12_3) a0_1) + ((rd_T60 y216 x154_4).f1))))) < (x6_4.length : Int) then (if x8_4.length < 17592186044416 then (impl_Drain.l3 kj81 (x5_4.set ((wrap64 ((wrap64 ((wrap64 ((wrap64 (Int.tdiv (rd x8_2 x12_3) a0_1)) + ((rd_T60 y216 x154_4).f0))) * a0_1)) + (wrap64 ((Int.tmod (rd x8_2 x12_3) a0_1) + ((rd_T60 y216 x154_4).f1))))) : Int).toNat (mx (rd l0_2 (wrap64 ((wrap64 ((wrap64 ((wrap64 (Int.tdiv (rd x8_2 x12_3) a0_1)) + ((rd_T60 y216 x154_4).f0))) * a0_1)) + (wrap64 ((Int.tmod (rd x8_2 x12_3) a0_1) + ((rd_T60 y216 x154_4).f1)))))) (rd x5_4 (rd x8_2 x12_3)))) (x6_4.set ((wrap64 ((wrap64 ((wrap64 ((wrap64 (Int.tdiv (rd x8_2 x12_3) a0_1)) + ((rd_T60 y216 x154_4).f0))) * a0_1)) + (wrap64 ((Int.tmod (rd x8_2 x12_3) a0_1) + ((rd_T60 y216 x154_4).f1))))) : Int).toNat (rd x8_2 x12_3)) (x7_4.set ((wrap64 ((wrap64 ((wrap64 ((wrap64 (Int.tdiv (rd x8_2 x12_3) a0_1)) + ((rd_T60 y216 x154_4).f0))) * a0_1)) + (wrap64 ((Int.tmod (rd x8_2 x12_3) a0_1) + ((rd_T60 y216 x154_4).f1))))) : Int).toNat true) (x8_4 ++ [wrap64 ((wrap64 ((wrap64 ((wrap64 (Int.tdiv (rd x8_2 x12_3) a0_1)) + ((rd_T60 y216 x154_4).f0))) * a0_1)) + (wrap64 ((Int.tmod (rd x8_2 x12_3) a0_1) + ((rd_T60 y216 x154_4).f1))))]) (rd x8_2 x12_3) (wrap64 (Int.tdiv (rd x8_2 x12_3) a0_1)) (Int.tmod (rd x8_2 x12_3) a0_1) y216 (y216.length : Int) (wrap64 (x154_4 + 1)) a0_0 a0_1 l0_2) else (none)) else (none)) else (none)) else (none)) else (none)) else (none))) else (none)) else (none)) = some (r1, r2) := by rw [if_neg (show ¬ (false = true) by decide)] at H; exact H
                         clear H
                         have H := H1
                         clear H1
                         obtain ⟨ji96, hji96⟩ : ∃ j_ : Int, (wrap64 ((wrap64 ((wrap64 ((wrap64 (Int.tdiv (rd x8_2 x12_3) a0_1)) + ((rd_T60 y216 x154_4).f0))) * a0_1)) + (wrap64 ((Int.tmod (rd x8_2 x12_3) a0_1) + ((rd_T60 y216 x154_4).f1))))) = j_ := ⟨_, rfl⟩
                         replace H : (if 0 ≤ (ji96) then (if (ji96) < (x7_4.length : Int) then (if rdOf false x7_4 (ji96) = true then (impl_Drain.l3 kj81 x5_4 x6_4 x7_4 x8_4 (rd x8_2 x12_3) (wrap64 (Int.tdiv (rd x8_2 x12_3) a0_1)) (Int.tmod (rd x8_2 x12_3) a0_1) y216 (y216.length : Int) (wrap64 (x154_4 + 1)) a0_0 a0_1 l0_2) else (if (ji96) < (l0_2.length : Int) then (if 0 ≤ (rd x8_2 x12_3) then (if (rd x8_2 x12_3) < (x5_4.length : Int) then (if (ji96) < (x5_4.length : Int) then (if (ji96) < (x6_4.length : Int) then (if x8_4.length < 17592186044416 then (impl_Drain.l3 kj81 (x5_4.set ((ji96) : Int).toNat (mx (rd l0_2 (ji96)) (rd x5_4 (rd x8_2 x12_3)))) (x6_4.set ((ji96) : Int).toNat (rd x8_2 x12_3)) (x7_4.set ((ji96) : Int).toNat true) (x8_4 ++ [ji96]) (rd x8_2 x12_3) (wrap64 (Int.tdiv (rd x8_2 x12_3) a0_1)) (Int.tmod (rd x8_2 x12_3) a0_1) y216 (y216.length : Int) (wrap64 (x154_4 + 1)) a0_0 a0_1 l0_2) else (none)) else (none)) else (none)) else (none)) else (none)) else (none))) else (none)) else (none)) = some (r1, r2) := by first | (rw [hji96] at H; exact H) | (simp only [hji96] at H ⊢; exact H)
                         have hji96w : (IntKind.i64.wrap ((wrap64 ((wrap64 ((wrap64 (Int.tdiv (rd x8_2 x12_3) a0_1)) + ((rd_T60 y216 x154_4).f0))) * a0_1)) + (wrap64 ((Int.tmod (rd x8_2 x12_3) a0_1) + ((rd_T60 y216 x154_4).f1))))) = ji96 := (i64_w _).trans hji96
                         by_cases c97 : 0 ≤ (ji96)
                         ·rw [if_pos c97] at H
                          have c97b0 : decide (0 ≤ (ji96)) = true := decide_eq_true c97
                          clear c97
                          by_cases c98 : (ji96) < (x7_4.length : Int)
                          ·rw [if_pos c98] at H
                           have c98b0 : decide ((ji96) < (x7_4.length : Int)) = true := decide_eq_true c98
                           clear c98
                           obtain ⟨bq99, hbq99⟩ : ∃ b_ : Bool, b_ = (rdOf false x7_4 (ji96)) := ⟨_, rfl⟩
                           replace H : (if bq99 = true then (impl_Drain.l3 kj81 x5_4 x6_4 x7_4 x8_4 (rd x8_2 x12_3) (wrap64 (Int.tdiv (rd x8_2 x12_3) a0_1)) (Int.tmod (rd x8_2 x12_3) a0_1) y216 (y216.length : Int) (wrap64 (x154_4 + 1)) a0_0 a0_1 l0_2) else (if (ji96) < (l0_2.length : Int) then (if 0 ≤ (rd x8_2 x12_3) then (if (rd x8_2 x12_3) < (x5_4.length : Int) then (if (ji96) < (x5_4.length : Int) then (if (ji96) < (x6_4.length : Int) then (if x8_4.length < 17592186044416 then (impl_Drain.l3 kj81 (x5_4.set ((ji96) : Int).toNat (mx (rd l0_2 (ji96)) (rd x5_4 (rd x8_2 x12_3)))) (x6_4.set ((ji96) : Int).toNat (rd x8_2 x12_3)) (x7_4.set ((ji96) : Int).toNat true) (x8_4 ++ [ji96]) (rd x8_2 x12_3) (wrap64 (Int.tdiv (rd x8_2 x12_3) a0_1)) (Int.tmod (rd x8_2 x12_3) a0_1) y216 (y216.length : Int) (wrap64 (x154_4 + 1)) a0_0 a0_1 l0_2) else (none)) else (none)) else (none)) else (none)) else (none)) else (none))) = some (r1, r2) := by rw [← hbq99] at H; exact H
                           have Nbq99 := Aside0.mk hbq99
                           clear hbq99
                           by_cases c100 : bq99 = true
                           ·subst c100
                            have H1 : (impl_Drain.l3 kj81 x5_4 x6_4 x7_4 x8_4 (rd x8_2 x12_3) (wrap64 (Int.tdiv (rd x8_2 x12_3) a0_1)) (Int.tmod (rd x8_2 x12_3) a0_1) y216 (y216.length : Int) (wrap64 (x154_4 + 1)) a0_0 a0_1 l0_2) = some (r1, r2) := by rw [if_pos rfl] at H; exact H
                            clear H
                            have H := H1
                            clear H1
                            have H' := Aside0.mk H
                            clear H
                            have hnb101 := NB185_220.out
                            have hnc101 := NB220_185.out
                            have hcz102_0 : wc.cell? ⟨gb185, 0, none⟩ = some (.int .i64 a0_0) := bC BK185.out 0 rfl
                            have hcz102_1 : wc.cell? ⟨gb185, 1, none⟩ = some (.int .i64 a0_1) := bC BK185.out 1 rfl
                            have hcz102_2 : wc.cell? ⟨gb185, 2, none⟩ = some (.slice A0_2 l0_2.length c0_2) := bC BK185.out 2 rfl
                            have hfz102_0 := blk_frozen BK185.out 0
                            have hfz102_1 := blk_frozen BK185.out 1
                            have hfz102_2 := blk_frozen BK185.out 2
                            obtain ⟨Ao103, co103, eo103⟩ := Kd.R_slice HO_7.out
                            subst eo103
                            have p223 : 0 ≤ ((ji96) : Int) := of_decide_eq_true (by first | (with_reducible assumption) | assumption)
                            have q223 : (ji96) < (x7_4.length : Int) := of_decide_eq_true (by first | (with_reducible assumption) | assumption)
                            obtain ⟨ad223, e223, hx223_0⟩ := Kd.at_bool (Kd.R_reads' HO_7.out).2.2 (ji96) p223 q223
                            (try rw [← Nbq99.out] at hx223_0)
                            cases e223
                            replace p223 := eq_true p223
                            replace q223 := eq_true q223
                            go_wp2
                            go_roundg kj81
                            case measure => have := HK1.out; have := HK2.out; have := HK3.out; have := HK4.out; have := HJ81.out; omega
                            case rel => exact ⟨(x5_4), (x6_4), (x7_4), (x8_4), (wrap64 (x154_4 + 1)), (by first | rfl | (simp; done) | (simp [*]; done)), H', ⟨by have := HK1.out; have := HK2.out; have := HK3.out; have := HK4.out; have := HJ81.out; omega⟩, ⟨by (with_reducible repeat (first | apply Kd.R_alloc | apply Kd.R_drewN | apply Kd.R_drew)); exact HO_5.out⟩, ⟨by (with_reducible repeat (first | apply Kd.R_alloc | apply Kd.R_drewN | apply Kd.R_drew)); exact HO_6.out⟩, ⟨by (with_reducible repeat (first | apply Kd.R_alloc | apply Kd.R_drewN | apply Kd.R_drew)); exact HO_7.out⟩, ⟨by (with_reducible repeat (first | apply Kd.R_alloc | apply Kd.R_drewN | apply Kd.R_drew)); exact HO_8.out⟩, ⟨by (with_reducible repeat (first | apply Kd.R_alloc | apply Kd.R_drewN | apply Kd.R_drew)); exact Kd.R_mono HO_152.out (fun _ hk => ⟨hk.1, ⟨hk.2.1, ⟨hk.2.2.1, hk.2.2.2.1⟩⟩⟩)⟩, ⟨by (with_reducible repeat (first | refine bN ?_ _ | refine bD ?_ | refine bA ?_ _)); exact BK185.out⟩, ⟨by repeat (first | (with_reducible first | exact HB.out | apply wA | apply wN | apply wD | refine bS ?_ GE185.out | refine bS ?_ GE220.out) | exact HB.out)⟩⟩
                           ·replace c100 := Bool.eq_false_iff.mpr c100
                            subst c100
                            have H1 : (if (ji96) < (l0_2.length : Int) then (if 0 ≤ (rd x8_2 x12_3) then (if (rd x8_2 x12_3) < (x5_4.length : Int) then (if (ji96) < (x5_4.length : Int) then (if (ji96) < (x6_4.length : Int) then (if x8_4.length < 17592186044416 then (impl_Drain.l3 kj81 (x5_4.set ((ji96) : Int).toNat (mx (rd l0_2 (ji96)) (rd x5_4 (rd x8_2 x12_3)))) (x6_4.set ((ji96) : Int).toNat (rd x8_2 x12_3)) (x7_4.set ((ji96) : Int).toNat true) (x8_4 ++ [ji96]) (rd x8_2 x12_3) (wrap64 (Int.tdiv (rd x8_2 x12_3) a0_1)) (Int.tmod (rd x8_2 x12_3) a0_1) y216 (y216.length : Int) (wrap64 (x154_4 + 1)) a0_0 a0_1 l0_2) else (none)) else (none)) else (none)) else (none)) else (none)) else (none)) = some (r1, r2) := by rw [if_neg (show ¬ (false = true) by decide)] at H; exact H
                            clear H
                            have H := H1
                            clear H1
                            by_cases c104 : (ji96) < (l0_2.length : Int)
                            ·rw [if_pos c104] at H
                             have c104b0 : decide ((ji96) < (l0_2.length : Int)) = true := decide_eq_true c104
                             clear c104
                             by_cases c105 : 0 ≤ (rd x8_2 x12_3)
                             ·rw [if_pos c105] at H
                              have c105b0 : decide (0 ≤ (rd x8_2 x12_3)) = true := decide_eq_true c105
                              clear c105
                              by_cases c106 : (rd x8_2 x12_3) < (x5_4.length : Int)
                              ·rw [if_pos c106] at H
                               have c106b0 : decide ((rd x8_2 x12_3) < (x5_4.length : Int)) = true := decide_eq_true c106
                               clear c106
                               obtain ⟨ji107, hji107⟩ : ∃ j_ : Int, (mx (rd l0_2 (ji96)) (rd x5_4 (rd x8_2 x12_3))) = j_ := ⟨_, rfl⟩
                               replace H : (if (ji96) < (x5_4.length : Int) then (if (ji96) < (x6_4.length : Int) then (if x8_4.length < 17592186044416 then (impl_Drain.l3 kj81 (x5_4.set ((ji96) : Int).toNat (ji107)) (x6_4.set ((ji96) : Int).toNat (rd x8_2 x12_3)) (x7_4.set ((ji96) : Int).toNat true) (x8_4 ++ [ji96]) (rd x8_2 x12_3) (wrap64 (Int.tdiv (rd x8_2 x12_3) a0_1)) (Int.tmod (rd x8_2 x12_3) a0_1) y216 (y216.length : Int) (wrap64 (x154_4 + 1)) a0_0 a0_1 l0_2) else (none)) else (none)) else (none)) = some (r1, r2) := by first | (rw [hji107] at H; exact H) | (simp only [hji107] at H ⊢; exact H)
                               have hji107_ : (if (rd l0_2 (ji96)) < (rd x5_4 (rd x8_2 x12_3)) then (rd x5_4 (rd x8_2 x12_3)) else (rd l0_2 (ji96))) = ji107 := hji107
                               obtain ⟨y226, hy226⟩ : ∃ y_ : List Bool, y_ = (x7_4.set ((ji96) : Int).toNat true) := ⟨_, rfl⟩
                               replace H : (if (ji96) < (x5_4.length : Int) then (if (ji96) < (x6_4.length : Int) then (if x8_4.length < 17592186044416 then (impl_Drain.l3 kj81 (x5_4.set ((ji96) : Int).toNat (ji107)) (x6_4.set ((ji96) : Int).toNat (rd x8_2 x12_3)) y226 (x8_4 ++ [ji96]) (rd x8_2 x12_3) (wrap64 (Int.tdiv (rd x8_2 x12_3) a0_1)) (Int.tmod (rd x8_2 x12_3) a0_1) y216 (y216.length : Int) (wrap64 (x154_4 + 1)) a0_0 a0_1 l0_2) else (none)) else (none)) else (none)) = some (r1, r2) := by first | (rw [hy226]; with_reducible exact H) | (have H2_ := (Option.bind_some _ _).symm.trans H; rw [hy226]; with_reducible exact H2_) | (have H2_ := (Option.bind_some _ _).symm.trans H; with_reducible exact H2_) | with_reducible exact H | (rw [hy226]; exact H) | exact H
                               have Ny226 := Aside0.mk hy226
                               clear hy226
                               by_cases c109 : (ji96) < (x5_4.length : Int)
                               ·rw [if_pos c109] at H
                                have c109b0 : decide ((ji96) < (x5_4.length : Int)) = true := decide_eq_true c109
                                clear c109
                                obtain ⟨y227, hy227⟩ : ∃ y_ : List Int, y_ = (x5_4.set ((ji96) : Int).toNat (ji107)) := ⟨_, rfl⟩
                                replace H : (if (ji96) < (x6_4.length : Int) then (if x8_4.length < 17592186044416 then (impl_Drain.l3 kj81 y227 (x6_4.set ((ji96) : Int).toNat (rd x8_2 x12_3)) y226 (x8_4 ++ [ji96]) (rd x8_2 x12_3) (wrap64 (Int.tdiv (rd x8_2 x12_3) a0_1)) (Int.tmod (rd x8_2 x12_3) a0_1) y216 (y216.length : Int) (wrap64 (x154_4 + 1)) a0_0 a0_1 l0_2) else (none)) else (none)) = some (r1, r2) := by first | (rw [hy227]; with_reducible exact H) | (have H2_ := (Option.bind_some _ _).symm.trans H; rw [hy227]; with_reducible exact H2_) | (have H2_ := (Option.bind_some _ _).symm.trans H; with_reducible exact H2_) | with_reducible exact H | (rw [hy227]; exact H) | exact H
                                have Ny227 := Aside0.mk hy227
                                clear hy227
                                by_cases c111 : (ji96) < (x6_4.length : Int)
                                ·rw [if_pos c111] at H
                                 have c111b0 : decide ((ji96) < (x6_4.length : Int)) = true := decide_eq_true c111
                                 clear c111
                                 obtain ⟨y228, hy228⟩ : ∃ y_ : List Int, y_ = (x6_4.set ((ji96) : Int).toNat (rd x8_2 x12_3)) := ⟨_, rfl⟩
                                 replace H : (if x8_4.length < 17592186044416 then (impl_Drain.l3 kj81 y227 y228 y226 (x8_4 ++ [ji96]) (rd x8_2 x12_3) (wrap64 (Int.tdiv (rd x8_2 x12_3) a0_1)) (Int.tmod (rd x8_2 x12_3) a0_1) y216 (y216.length : Int) (wrap64 (x154_4 + 1)) a0_0 a0_1 l0_2) else (none)) = some (r1, r2) := by first | (rw [hy228]; with_reducible exact H) | (have H2_ := (Option.bind_some _ _).symm.trans H; rw [hy228]; with_reducible exact H2_) | (have H2_ := (Option.bind_some _ _).symm.trans H; with_reducible exact H2_) | with_reducible exact H | (rw [hy228]; exact H) | exact H
                                 have Ny228 := Aside0.mk hy228
                                 clear hy228
                                 by_cases c113 : x8_4.length < 17592186044416
                                 ·rw [if_pos c113] at H
                                  have LMc113 := Aside0.mk c113
                                  clear c113
                                  obtain ⟨y229, hy229⟩ : ∃ y_ : List Int, y_ = (x8_4 ++ [ji96]) := ⟨_, rfl⟩
                                  replace H : (impl_Drain.l3 kj81 y227 y228 y226 y229 (rd x8_2 x12_3) (wrap64 (Int.tdiv (rd x8_2 x12_3) a0_1)) (Int.tmod (rd x8_2 x12_3) a0_1) y216 (y216.length : Int) (wrap64 (x154_4 + 1)) a0_0 a0_1 l0_2) = some (r1, r2) := by first | (rw [hy229]; with_reducible exact H) | (have H2_ := (Option.bind_some _ _).symm.trans H; rw [hy229]; with_reducible exact H2_) | (have H2_ := (Option.bind_some _ _).symm.trans H; with_reducible exact H2_) | with_reducible exact H | (rw [hy229]; exact H) | exact H
                                  have Ny229 := Aside0.mk hy229
                                  clear hy229
                                  have H' := Aside0.mk H
                                  clear H
                                  have hnb114 := NB185_220.out
                                  have hnc114 := NB220_185.out
                                  have hcz115_0 : wc.cell? ⟨gb185, 0, none⟩ = some (.int .i64 a0_0) := bC BK185.out 0 rfl
                                  have hcz115_1 : wc.cell? ⟨gb185, 1, none⟩ = some (.int .i64 a0_1) := bC BK185.out 1 rfl
                                  have hcz115_2 : wc.cell? ⟨gb185, 2, none⟩ = some (.slice A0_2 l0_2.length c0_2) := bC BK185.out 2 rfl
                                  have hfz115_0 := blk_frozen BK185.out 0
                                  have hfz115_1 := blk_frozen BK185.out 1
                                  have hfz115_2 := blk_frozen BK185.out 2
                                  obtain ⟨Ao116, co116, eo116⟩ := Kd.R_slice HO_7.out
                                  subst eo116
                                  have p223 : 0 ≤ ((ji96) : Int) := of_decide_eq_true (by first | (with_reducible assumption) | assumption)
                                  have q223 : (ji96) < (x7_4.length : Int) := of_decide_eq_true (by first | (with_reducible assumption) | assumption)
                                  obtain ⟨ad223, e223, hx223_0⟩ := Kd.at_bool (Kd.R_reads' HO_7.out).2.2 (ji96) p223 q223
                                  (try rw [← Nbq99.out] at hx223_0)
                                  cases e223
                                  replace p223 := eq_true p223
                                  replace q223 := eq_true q223
                                  try go_wp2
                                  have n0_ := A0 (Kd.R_drew HO_5.out)
                                  have n1_ := A0 (Kd.R_drew HO_6.out)
                                  have n2_ := A0 (Kd.R_drew HO_7.out)
                                  have n3_ := A0 (Kd.R_drew HO_8.out)
                                  have n4_ := A0 (Kd.R_drew HO_152.out)
                                  have n5_ := A0 (blk_drew BK185.out)
                                  have n6_ := A0 (blk_drew BK220.out)
                                  have n7_ := A0 (below_drew1 HB.out)
                                  clear HO_5
                                  clear HO_6
                                  clear HO_7
                                  clear HO_8
                                  clear HO_152
                                  clear BK185
                                  clear BK220
                                  clear HB
                                  have HO_5 := n0_
                                  have HO_6 := n1_
                                  have HO_7 := n2_
                                  have HO_8 := n3_
                                  have HO_152 := n4_
                                  have BK185 := n5_
                                  have BK220 := n6_
                                  have HB := n7_
                                  clear n0_ n1_ n2_ n3_ n4_ n5_ n6_ n7_
                                  have p224 : 0 ≤ ((ji96) : Int) := of_decide_eq_true (by first | (with_reducible assumption) | assumption)
                                  have q224 : (ji96) < (l0_2.length : Int) := of_decide_eq_true (by first | (with_reducible assumption) | assumption)
                                  obtain ⟨ad224, e224, hx224_0⟩ := Kd.at_int HR0_2.out (ji96) p224 q224
                                  have hw224_0 := hx224_0
                                  cases e224
                                  replace hx224_0 := (HB.out.cell (World.block_lt_of_cell? w _ hx224_0)).trans hx224_0
                                  replace p224 := eq_true p224
                                  replace q224 := eq_true q224
                                  obtain ⟨Ao118, co118, eo118⟩ := Kd.R_slice HO_5.out
                                  (first | subst eo118 | (injection eo118 with f1_ f2_ f3_; have f4_ := f1_.symm; have f5_ := f3_.symm; clear f1_ f2_ f3_; subst f4_; subst f5_))
                                  have p225 : 0 ≤ ((rd x8_2 x12_3) : Int) := of_decide_eq_true (by first | (with_reducible assumption) | assumption)
                                  have q225 : (rd x8_2 x12_3) < (x5_4.length : Int) := of_decide_eq_true (by first | (with_reducible assumption) | assumption)
                                  obtain ⟨ad225, e225, hx225_0⟩ := Kd.at_int (Kd.R_reads' HO_5.out).2.2 (rd x8_2 x12_3) p225 q225
                                  cases e225
                                  replace p225 := eq_true p225
                                  replace q225 := eq_true q225
                                  have p108 : 0 ≤ ((ji96) : Int) := of_decide_eq_true (by first | (with_reducible assumption) | assumption)
                                  have q108 : ((ji96) : Int) < ((x7_4.length : Int) : Int) := of_decide_eq_true (by first | (with_reducible assumption) | assumption)
                                  obtain ⟨go108, co108, eo108, gb108, gl108, cl108, HG108⟩ := Kd.R_form HO_7.out (by omega)
                                  (first | cases eo108 | (injection eo108 with ea_ en_ ec_; (first | subst ea_ | (injection ea_ with ea_; subst ea_)); subst ec_; clear en_))
                                  have GB108 := Aside0.mk gb108
                                  have GG108 := Aside0.mk HG108
                                  clear gb108 gl108 HG108
                                  (first | simp only [add_plain] at hx223_0 | skip)
                                  obtain ⟨hx108_0, hf108_0⟩ := Kd.R_celln false HO_7.out ((ji96) : Int) p108 q108
                                  replace p108 := eq_true p108
                                  replace q108 := eq_true q108
                                  have HP119 := Kd.R_putn HO_7.out ((ji96) : Int) true
                                  rw [← Ny226.out] at HP119
                                  have HQ119 := Aside0.mk HP119
                                  clear HP119
                                  have p110 : 0 ≤ ((ji96) : Int) := of_decide_eq_true (by first | (with_reducible assumption) | assumption)
                                  have q110 : ((ji96) : Int) < ((x5_4.length : Int) : Int) := of_decide_eq_true (by first | (with_reducible assumption) | assumption)
                                  obtain ⟨go110, co110, eo110, gb110, gl110, cl110, HG110⟩ := Kd.R_form HO_5.out (by omega)
                                  (first | cases eo110 | (injection eo110 with ea_ en_ ec_; (first | subst ea_ | (injection ea_ with ea_; subst ea_)); subst ec_; clear en_))
                                  have GB110 := Aside0.mk gb110
                                  have GG110 := Aside0.mk HG110
                                  clear gb110 gl110 HG110
                                  (first | simp only [add_plain] at hx225_0 | skip)
                                  obtain ⟨hx110_0, hf110_0⟩ := Kd.R_celln 0 (Kd.R_far (p := ⟨go108, ((ji96) : Int).toNat, none⟩) (Kd.R_mono HO_5.out (fun k_ hk => (⟨hk, fun e_ => hk.2.1 (by rw [e_]; rfl)⟩ : _ ∧ k_ ≠ go108))) (fun _ hk => hk.2) (.bool true)) ((ji96) : Int) p110 q110
                                  replace p110 := eq_true p110
                                  replace q110 := eq_true q110
                                  have HP120 := Kd.R_putn (Kd.R_far (p := ⟨go108, ((ji96) : Int).toNat, none⟩) (Kd.R_mono HO_5.out (fun k_ hk => (⟨hk, fun e_ => hk.2.1 (by rw [e_]; rfl)⟩ : _ ∧ k_ ≠ go108))) (fun _ hk => hk.2) (.bool true)) ((ji96) : Int) ji107
                                  rw [← Ny227.out] at HP120
                                  have HQ120 := Aside0.mk HP120
                                  clear HP120
                                  have p112 : 0 ≤ ((ji96) : Int) := of_decide_eq_true (by first | (with_reducible assumption) | assumption)
                                  have q112 : ((ji96) : Int) < ((x6_4.length : Int) : Int) := of_decide_eq_true (by first | (with_reducible assumption) | assumption)
                                  obtain ⟨go112, co112, eo112, gb112, gl112, cl112, HG112⟩ := Kd.R_form HO_6.out (by omega)
                                  (first | cases eo112 | (injection eo112 with ea_ en_ ec_; (first | subst ea_ | (injection ea_ with ea_; subst ea_)); subst ec_; clear en_))
                                  have GB112 := Aside0.mk gb112
                                  have GG112 := Aside0.mk HG112
                                  clear gb112 gl112 HG112
                                  obtain ⟨hx112_0, hf112_0⟩ := Kd.R_celln 0 (Kd.R_far (p := ⟨go110, ((ji96) : Int).toNat, none⟩) (Kd.R_far (p := ⟨go108, ((ji96) : Int).toNat, none⟩) (Kd.R_mono (Kd.R_mono HO_6.out (fun k_ hk => (⟨hk, fun e_ => hk.2.1 (by rw [e_]; rfl)⟩ : _ ∧ k_ ≠ go108))) (fun k_ hk => (⟨hk, fun e_ => hk.1.1 (by rw [e_]; rfl)⟩ : _ ∧ k_ ≠ go110))) (fun _ hk => hk.1.2) (.bool true)) (fun _ hk => hk.2) (.int .i64 ji107)) ((ji96) : Int) p112 q112
                                  replace p112 := eq_true p112
                                  replace q112 := eq_true q112
                                  have HP121 := Kd.R_putn (Kd.R_far (p := ⟨go110, ((ji96) : Int).toNat, none⟩) (Kd.R_far (p := ⟨go108, ((ji96) : Int).toNat, none⟩) (Kd.R_mono (Kd.R_mono HO_6.out (fun k_ hk => (⟨hk, fun e_ => hk.2.1 (by rw [e_]; rfl)⟩ : _ ∧ k_ ≠ go108))) (fun k_ hk => (⟨hk, fun e_ => hk.1.1 (by rw [e_]; rfl)⟩ : _ ∧ k_ ≠ go110))) (fun _ hk => hk.1.2) (.bool true)) (fun _ hk => hk.2) (.int .i64 ji107)) ((ji96) : Int) (rd x8_2 x12_3)
                                  rw [← Ny228.out] at HP121
                                  have HQ121 := Aside0.mk HP121
                                  clear HP121
                                  refine start_ (n := 23) (S := fun w' => w'.cell? ⟨gb185, 0, none⟩ = some (.int .i64 a0_0) ∧ w'.cell? ⟨gb185, 1, none⟩ = some (.int .i64 a0_1) ∧ w'.cell? ⟨gb185, 2, none⟩ = some (.slice (some ad224) l0_2.length c0_2) ∧ w'.cell? (ad224.add ((ji96)).toNat) = some (.int .i64 (rd l0_2 (ji96))) ∧ w'.cell? ⟨go110, ((rd x8_2 x12_3)).toNat, none⟩ = some (.int .i64 (rd x5_4 (rd x8_2 x12_3)))) (ds := [18, 20, 22]) #[false, false, false, false, false, false, false, false, false, false, false, false, false, false, false, false, false, false, false, false, false, false, false] (by kernel_rfl) rfl rfl ⟨bC BK185.out 0 rfl, bC BK185.out 1 rfl, bC BK185.out 2 rfl, ((HB.out.cell (World.block_lt_of_cell? w _ hw224_0)).trans hw224_0), hx225_0⟩ (fun hHeld => ?_); refine with_tabW impl_Drain.tab33 impl_Drain.bits33 (fun HT_ HW_ => ?_)
                                  generalize wc.drew = w117 at HO_5 HO_6 HO_7 HO_8 HO_152 BK185 BK220 HB GG108 GG110 GG112 HQ119 HQ120 HQ121 hf108_0 hf110_0 hf112_0 hx108_0 hx110_0 hx112_0 hx223_0 hx224_0 hx225_0 hHeld ⊢
                                  refine pure_ (i := 0) (N := some 190) (v := ?_) (a' := ?_) #[true, false, false, false, false, false, false, false, false, false, false, false, false, false, false, false, false, false, false, false, false, false, false] rfl rfl (any_of HT_.out (by kernel_rfl)) (fun _ _ _ h => h) (Or.inl ⟨by rfl, ?_⟩) ?_ ?_
                                  rotate_left
                                  ·intro w'
                                   go_simp
                                   with_reducible rfl
                                  rotate_left
                                  ·simp only [Act.put, sqA, sqZ, sqS, i64_w, i32_w]
                                   rfl
                                  refine pure_ (i := 1) (N := some 191) (v := ?_) (a' := ?_) #[true, true, false, false, false, false, false, false, false, false, false, false, false, false, false, false, false, false, false, false, false, false, false] rfl rfl (any_of HT_.out (by kernel_rfl)) (fun _ _ _ h => h) (Or.inl ⟨by rfl, ?_⟩) ?_ ?_
                                  rotate_left
                                  ·intro w'
                                   go_simp
                                   with_reducible rfl
                                  rotate_left
                                  ·simp only [Act.put, sqA, sqZ, sqS, i64_w, i32_w]
                                   rfl
                                  refine pure_ (i := 2) (N := some 192) (v := ?_) (a' := ?_) #[true, true, true, false, false, false, false, false, false, false, false, false, false, false, false, false, false, false, false, false, false, false, false] rfl rfl (any_of HT_.out (by kernel_rfl)) (fun _ _ _ h => h) (Or.inl ⟨by rfl, ?_⟩) ?_ ?_
                                  rotate_left
                                  ·intro w'
                                   go_simp
                                   with_reducible rfl
                                  rotate_left
                                  ·simp only [Act.put, sqA, sqZ, sqS, i64_w, i32_w]
                                   rfl
                                  refine pure_ (i := 3) (N := some 193) (v := ?_) (a' := ?_) #[true, true, true, true, false, false, false, false, false, false, false, false, false, false, false, false, false, false, false, false, false, false, false] rfl rfl (any_of HT_.out (by kernel_rfl)) (fun _ _ _ h => h) (Or.inl ⟨by rfl, ?_⟩) ?_ ?_
                                  rotate_left
                                  ·intro w'
                                   go_simp
                                   with_reducible rfl
                                  rotate_left
                                  ·simp only [Act.put, sqA, sqZ, sqS, i64_w, i32_w]
                                   rfl
                                  refine pure_ (i := 4) (N := some 194) (v := ?_) (a' := ?_) #[true, true, true, true, true, false, false, false, false, false, false, false, false, false, false, false, false, false, false, false, false, false, false] rfl rfl (any_of HT_.out (by kernel_rfl)) (fun _ _ _ h => h) (Or.inl ⟨by rfl, ?_⟩) ?_ ?_
                                  rotate_left
                                  ·intro w'
                                   go_simp
                                   with_reducible rfl
                                  rotate_left
                                  ·simp only [Act.put, sqA, sqZ, sqS, i64_w, i32_w]
                                   rfl
                                  refine pure_ (i := 5) (N := some 195) (v := ?_) (a' := ?_) #[true, true, true, true, true, true, false, false, false, false, false, false, false, false, false, false, false, false, false, false, false, false, false] rfl rfl (any_of HT_.out (by kernel_rfl)) (fun _ _ _ h => h) (Or.inl ⟨by rfl, ?_⟩) ?_ ?_
                                  rotate_left
                                  ·intro w'
                                   go_simp
                                   with_reducible rfl
                                  rotate_left
                                  ·simp only [Act.put, sqA, sqZ, sqS, i64_w, i32_w]
                                   rfl
                                  refine pure_ (i := 6) (N := some 196) (v := ?_) (a' := ?_) #[true, true, true, true, true, true, true, false, false, false, false, false, false, false, false, false, false, false, false, false, false, false, false] rfl rfl (any_of HT_.out (by kernel_rfl)) (fun _ _ _ h => h) (Or.inl ⟨by rfl, ?_⟩) ?_ ?_
                                  rotate_left
                                  ·intro w'
                                   go_simp
                                   with_reducible rfl
                                  rotate_left
                                  ·simp only [Act.put, sqA, sqZ, sqS, i64_w, i32_w]
                                   rfl
                                  refine pure_ (i := 8) (N := some 198) (v := ?_) (a' := ?_) #[true, true, true, true, true, true, true, false, true, false, false, false, false, false, false, false, false, false, false, false, false, false, false] rfl rfl (any_of HT_.out (by kernel_rfl)) (fun _ _ _ h => h) (Or.inl ⟨by rfl, ?_⟩) ?_ ?_
                                  rotate_left
                                  ·intro w'
                                   go_simp
                                   with_reducible rfl
                                  rotate_left
                                  ·simp only [Act.put, sqA, sqZ, sqS, i64_w, i32_w]
                                   rfl
                                  refine pure_ (i := 11) (N := some 201) (v := ?_) (a' := ?_) #[true, true, true, true, true, true, true, false, true, false, false, true, false, false, false, false, false, false, false, false, false, false, false] rfl rfl (any_of HT_.out (by kernel_rfl)) (fun _ _ _ h => h) (Or.inl ⟨by rfl, ?_⟩) ?_ ?_
                                  rotate_left
                                  ·intro w'
                                   go_simp
                                   with_reducible rfl
                                  rotate_left
                                  ·simp only [Act.put, sqA, sqZ, sqS, i64_w, i32_w]
                                   rfl
                                  refine pure_ (i := 12) (N := some 202) (v := ?_) (a' := ?_) #[true, true, true, true, true, true, true, false, true, false, false, true, true, false, false, false, false, false, false, false, false, false, false] rfl rfl (any_of HT_.out (by kernel_rfl)) (fun _ _ _ h => h) (Or.inl ⟨by rfl, ?_⟩) ?_ ?_
                                  rotate_left
                                  ·intro w'
                                   go_simp
                                   with_reducible rfl
                                  rotate_left
                                  ·simp only [Act.put, sqA, sqZ, sqS, i64_w, i32_w]
                                   rfl
                                  refine pure_ (i := 13) (N := some 203) (v := ?_) (a' := ?_) #[true, true, true, true, true, true, true, false, true, false, false, true, true, true, false, false, false, false, false, false, false, false, false] rfl rfl (any_of HT_.out (by kernel_rfl)) (fun _ _ _ h => h) (Or.inl ⟨by rfl, ?_⟩) ?_ ?_
                                  rotate_left
                                  ·intro w'
                                   go_simp
                                   with_reducible rfl
                                  rotate_left
                                  ·simp only [Act.put, sqA, sqZ, sqS, i64_w, i32_w]
                                   rfl
                                  refine pure_ (i := 16) (N := some 206) (v := ?_) (a' := ?_) #[true, true, true, true, true, true, true, false, true, false, false, true, true, true, false, false, true, false, false, false, false, false, false] rfl rfl (any_of HT_.out (by kernel_rfl)) (fun _ _ _ h => h) (Or.inl ⟨by rfl, ?_⟩) ?_ ?_
                                  rotate_left
                                  ·intro w'
                                   go_simp
                                   with_reducible rfl
                                  rotate_left
                                  ·simp only [Act.put, sqA, sqZ, sqS, i64_w, i32_w]
                                   rfl
                                  refine take_ (i := 7) (N := some 197) (v := ?_) (a' := ?_) #[true, true, true, true, true, true, true, true, true, false, false, true, true, true, false, false, true, false, false, false, false, false, false] rfl rfl (take_ofW HT_.out HW_.out (by kernel_rfl)) (fun _ _ _ h => h) (Or.inl ⟨by rfl, ?_⟩) hHeld ?_ ?_
                                  rotate_left
                                  ·rintro w' ⟨s0, s1, s2, s3, s4⟩
                                   go_simp
                                   with_reducible rfl
                                  rotate_left
                                  ·simp only [Act.put, sqA, sqZ, sqS, i64_w, i32_w]
                                   rfl
                                  refine pure_ (i := 9) (N := some 199) (v := ?_) (a' := ?_) #[true, true, true, true, true, true, true, true, true, true, false, true, true, true, false, false, true, false, false, false, false, false, false] rfl rfl (any_of HT_.out (by kernel_rfl)) (fun _ _ _ h => h) (Or.inl ⟨by rfl, ?_⟩) ?_ ?_
                                  rotate_left
                                  ·intro w'
                                   go_simp
                                   with_reducible rfl
                                  rotate_left
                                  ·simp only [Act.put, sqA, sqZ, sqS, i64_w, i32_w]
                                   rfl
                                  refine take_ (i := 10) (N := some 200) (v := ?_) (a' := ?_) #[true, true, true, true, true, true, true, true, true, true, true, true, true, true, false, false, true, false, false, false, false, false, false] rfl rfl (take_ofW HT_.out HW_.out (by kernel_rfl)) (fun _ _ _ h => h) (Or.inl ⟨by rfl, ?_⟩) hHeld ?_ ?_
                                  rotate_left
                                  ·rintro w' ⟨s0, s1, s2, s3, s4⟩
                                   go_simp
                                   with_reducible rfl
                                  rotate_left
                                  ·simp only [Act.put, sqA, sqZ, sqS, i64_w, i32_w]
                                   rfl
                                  refine take_ (i := 14) (N := some 204) (v := ?_) (a' := ?_) #[true, true, true, true, true, true, true, true, true, true, true, true, true, true, true, false, true, false, false, false, false, false, false] rfl rfl (take_ofW HT_.out HW_.out (by kernel_rfl)) (fun _ _ _ h => h) (Or.inl ⟨by rfl, ?_⟩) hHeld ?_ ?_
                                  rotate_left
                                  ·rintro w' ⟨s0, s1, s2, s3, s4⟩
                                   go_simp
                                   with_reducible rfl
                                  rotate_left
                                  ·simp only [Act.put, sqA, sqZ, sqS, i64_w, i32_w]
                                   rfl
                                  refine pure_ (i := 15) (N := some 205) (v := ?_) (a' := ?_) #[true, true, true, true, true, true, true, true, true, true, true, true, true, true, true, true, true, false, false, false, false, false, false] rfl rfl (any_of HT_.out (by kernel_rfl)) (fun _ _ _ h => h) (Or.inl ⟨by rfl, ?_⟩) ?_ ?_
                                  rotate_left
                                  ·intro w'
                                   go_simp
                                   with_reducible rfl
                                  rotate_left
                                  ·simp only [Act.put, sqA, sqZ, sqS, i64_w, i32_w]
                                   rfl
                                  refine pure_ (i := 17) (N := some 207) (v := ?_) (a' := ?_) #[true, true, true, true, true, true, true, true, true, true, true, true, true, true, true, true, true, true, false, false, false, false, false] rfl rfl (any_of HT_.out (by kernel_rfl)) (fun _ _ _ h => h) (Or.inl ⟨by rfl, ?_⟩) ?_ ?_
                                  rotate_left
                                  ·intro w'
                                   go_simp
                                   with_reducible rfl
                                  rotate_left
                                  ·simp only [Act.put, sqA, sqZ, sqS, i64_w, i32_w]
                                   rfl
                                  refine last_ (i := 18) (N := none) #[true, true, true, true, true, true, true, true, true, true, true, true, true, true, true, true, true, true, true, false, false, false, false] rfl rfl (one_of HT_.out (by kernel_rfl)) (by decide) (fun K hK => ?_)
                                  refine skip_ (w1 := ?_) (by rfl) rfl ?_ ?_
                                  rotate_left
                                  ·go_simp
                                   rfl
                                  refine hK.out _ _ ?_
                                  clear hK K
                                  refine pure_ (i := 19) (N := some 208) (v := ?_) (a' := ?_) #[true, true, true, true, true, true, true, true, true, true, true, true, true, true, true, true, true, true, true, true, false, false, false] rfl rfl (any_of HT_.out (by kernel_rfl)) (fun _ _ _ h => h) (Or.inl ⟨by rfl, ?_⟩) ?_ ?_
                                  rotate_left
                                  ·intro w'
                                   go_simp
                                   with_reducible rfl
                                  rotate_left
                                  ·simp only [Act.put, sqA, sqZ, sqS, i64_w, i32_w]
                                   rfl
                                  refine last_ (i := 20) (N := none) #[true, true, true, true, true, true, true, true, true, true, true, true, true, true, true, true, true, true, true, true, true, false, false] rfl rfl (one_of HT_.out (by kernel_rfl)) (by decide) (fun K hK => ?_)
                                  refine skip_ (w1 := ?_) (by rfl) rfl ?_ ?_
                                  rotate_left
                                  ·go_simp
                                   rfl
                                  refine hK.out _ _ ?_
                                  clear hK K
                                  refine pure_ (i := 21) (N := some 209) (v := ?_) (a' := ?_) #[true, true, true, true, true, true, true, true, true, true, true, true, true, true, true, true, true, true, true, true, true, true, false] rfl rfl (any_of HT_.out (by kernel_rfl)) (fun _ _ _ h => h) (Or.inl ⟨by rfl, ?_⟩) ?_ ?_
                                  rotate_left
                                  ·intro w'
                                   go_simp
                                   with_reducible rfl
                                  rotate_left
                                  ·simp only [Act.put, sqA, sqZ, sqS, i64_w, i32_w]
                                   rfl
                                  refine last_ (i := 22) (N := none) #[true, true, true, true, true, true, true, true, true, true, true, true, true, true, true, true, true, true, true, true, true, true, true] rfl rfl (one_of HT_.out (by kernel_rfl)) (by decide) (fun K hK => ?_)
                                  refine skip_ (w1 := ?_) (by rfl) rfl ?_ ?_
                                  rotate_left
                                  ·go_simp
                                   rfl
                                  refine hK.out _ _ ?_
                                  clear hK K
                                  refine done_ (done_of HT_.out (by kernel_rfl)) ?_
                                  try go_wp2_with (first | ((with_reducible refine gate_builtin (b := .append) (xs := #[.tmp 210, .tmp 212]) rfl ?_); at_builtin; refine Kd.R_append (Kd.int .i64) (w0 := w) w.heap.size rfl (.tmp 210) (.tmp 212) 22 2 (.int .i64 0) 8 rfl Try.underlying22 info2 rfl (by decide) (by omega) u8 x8_4 ji96 [.int .i64 ji96] (fun k_ => some k_ ≠ (.slice (some ⟨go110, 0, none⟩) x5_4.length co118 : Value).ownBlock ∧ some k_ ≠ (.slice (some ⟨go112, 0, none⟩) x6_4.length co112 : Value).ownBlock ∧ some k_ ≠ (.slice (some ⟨go108, 0, none⟩) x7_4.length co116 : Value).ownBlock ∧ some k_ ≠ (.slice (some ad219) y216.length co78 : Value).ownBlock) (fun _ => False) rfl (by first | (go_simp; done) | (go_simp; rfl)) ?aP (fun _ hk => hk.elim) ?aF ?aO ?aB ?aS ?aL ?_; (case aP => exact rfl); (case aB => exact (by repeat (first | (with_reducible first | exact HB.out | apply wA | apply wN | apply wD | refine bS ?_ GB108.out | refine bS ?_ GB110.out | refine bS ?_ GB112.out | refine bS ?_ GE185.out | refine bS ?_ GE220.out) | exact HB.out))); (case aF => exact (fun k_ hk => ⟨Kd.fresh' (Kd.R_lt (by (with_reducible repeat (first | apply Kd.R_alloc | apply Kd.R_drewN | apply Kd.R_drew)); exact (Kd.R_mono (Kd.R_mono (Kd.R_far (p := ⟨go112, ((ji96) : Int).toNat, none⟩) (Kd.R_mono HQ120.out (fun k_ hk => (⟨hk, fun e_ => hk.1.1 (by rw [e_]; rfl)⟩ : _ ∧ k_ ≠ go112))) (fun _ hk => hk.2) (.int .i64 (rd x8_2 x12_3))) (fun _ h_ => h_.1)) (fun _ h_ => h_.1)))) k_ hk, Kd.fresh' (Kd.R_lt (by (with_reducible repeat (first | apply Kd.R_alloc | apply Kd.R_drewN | apply Kd.R_drew)); exact (Kd.R_mono (Kd.R_mono HQ121.out (fun _ h_ => h_.1)) (fun _ h_ => h_.1)))) k_ hk, Kd.fresh' (Kd.R_lt (by (with_reducible repeat (first | apply Kd.R_alloc | apply Kd.R_drewN | apply Kd.R_drew)); exact (Kd.R_mono (Kd.R_mono (Kd.R_far (p := ⟨go112, ((ji96) : Int).toNat, none⟩) (Kd.R_far (p := ⟨go110, ((ji96) : Int).toNat, none⟩) (Kd.R_mono (Kd.R_mono HQ119.out (fun k_ hk => (⟨hk, fun e_ => hk.1 (by rw [e_]; rfl)⟩ : _ ∧ k_ ≠ go110))) (fun k_ hk => (⟨hk, fun e_ => hk.1.2.1 (by rw [e_]; rfl)⟩ : _ ∧ k_ ≠ go112))) (fun _ hk => hk.1.2) (.int .i64 ji107)) (fun _ hk => hk.2) (.int .i64 (rd x8_2 x12_3))) (fun _ h_ => h_.1)) (fun _ h_ => h_.1)))) k_ hk, Kd.fresh' (Kd.R_lt (by (with_reducible repeat (first | apply Kd.R_alloc | apply Kd.R_drewN | apply Kd.R_drew)); exact (Kd.R_mono (Kd.R_mono (Kd.R_mono (Kd.R_far (p := ⟨go112, ((ji96) : Int).toNat, none⟩) (Kd.R_far (p := ⟨go110, ((ji96) : Int).toNat, none⟩) (Kd.R_far (p := ⟨go108, ((ji96) : Int).toNat, none⟩) (Kd.R_mono (Kd.R_mono (Kd.R_mono HO_152.out (fun k_ hk => (⟨hk, fun e_ => hk.2.2.1 (by rw [e_]; rfl)⟩ : _ ∧ k_ ≠ go108))) (fun k_ hk => (⟨hk, fun e_ => hk.1.1 (by rw [e_]; rfl)⟩ : _ ∧ k_ ≠ go110))) (fun k_ hk => (⟨hk, fun e_ => hk.1.1.2.1 (by rw [e_]; rfl)⟩ : _ ∧ k_ ≠ go112))) (fun _ hk => hk.1.1.2) (.bool true)) (fun _ hk => hk.1.2) (.int .i64 ji107)) (fun _ hk => hk.2) (.int .i64 (rd x8_2 x12_3))) (fun _ h_ => h_.1)) (fun _ h_ => h_.1)) (fun _ h_ => h_.1)))) k_ hk⟩)); (case aO => exact (by (with_reducible repeat (first | apply Kd.R_alloc | apply Kd.R_drewN | apply Kd.R_drew)); exact Kd.R_mono (Kd.R_far (p := ⟨go112, ((ji96) : Int).toNat, none⟩) (Kd.R_far (p := ⟨go110, ((ji96) : Int).toNat, none⟩) (Kd.R_far (p := ⟨go108, ((ji96) : Int).toNat, none⟩) (Kd.R_mono (Kd.R_mono (Kd.R_mono HO_8.out (fun k_ hk => (⟨hk, fun e_ => hk.2.2.1 (by rw [e_]; rfl)⟩ : _ ∧ k_ ≠ go108))) (fun k_ hk => (⟨hk, fun e_ => hk.1.1 (by rw [e_]; rfl)⟩ : _ ∧ k_ ≠ go110))) (fun k_ hk => (⟨hk, fun e_ => hk.1.1.2.1 (by rw [e_]; rfl)⟩ : _ ∧ k_ ≠ go112))) (fun _ hk => hk.1.1.2) (.bool true)) (fun _ hk => hk.1.2) (.int .i64 ji107)) (fun _ hk => hk.2) (.int .i64 (rd x8_2 x12_3))) (fun _ hk => ⟨hk.1.1.1.1, ⟨hk.1.1.1.2.1, ⟨hk.1.1.1.2.2.1, hk.1.1.1.2.2.2⟩⟩⟩))); (case aS => exact (below_size (by repeat (first | (with_reducible first | exact HB.out | apply wA | apply wN | apply wD | refine bS ?_ GB108.out | refine bS ?_ GB110.out | refine bS ?_ GB112.out | refine bS ?_ GE185.out | refine bS ?_ GE220.out) | exact HB.out)))); (case aL => have := LMc113.out; omega); intro v230 w122 ho hb hg hat; rw [← Ny229.out] at ho; have n0_ := A0 (Kd.R_after (ok := (fun k_ => some k_ ≠ (.slice (some ⟨go112, 0, none⟩) x6_4.length co112 : Value).ownBlock ∧ some k_ ≠ (.slice (some ⟨go108, 0, none⟩) x7_4.length co116 : Value).ownBlock ∧ some k_ ≠ (.slice (some ad219) y216.length co78 : Value).ownBlock)) (by (with_reducible repeat (first | apply Kd.R_alloc | apply Kd.R_drewN | apply Kd.R_drew)); exact Kd.R_mono (Kd.R_far (p := ⟨go112, ((ji96) : Int).toNat, none⟩) (Kd.R_mono HQ120.out (fun k_ hk => (⟨hk, fun e_ => hk.1.1 (by rw [e_]; rfl)⟩ : _ ∧ k_ ≠ go112))) (fun _ hk => hk.2) (.int .i64 (rd x8_2 x12_3))) (fun _ hk => ⟨⟨hk.1.1.1, ⟨hk.1.1.2.1, hk.1.1.2.2.2⟩⟩, hk.1.1.2.2.1⟩)) hg hat); have n1_ := A0 (Kd.R_after (ok := (fun k_ => some k_ ≠ (.slice (some ⟨go110, 0, none⟩) x5_4.length co118 : Value).ownBlock ∧ some k_ ≠ (.slice (some ⟨go108, 0, none⟩) x7_4.length co116 : Value).ownBlock ∧ some k_ ≠ (.slice (some ad219) y216.length co78 : Value).ownBlock)) (by (with_reducible repeat (first | apply Kd.R_alloc | apply Kd.R_drewN | apply Kd.R_drew)); exact Kd.R_mono HQ121.out (fun _ hk => ⟨⟨hk.1.1.1, ⟨hk.1.1.2.1, hk.1.1.2.2.2⟩⟩, hk.1.1.2.2.1⟩)) hg hat); have n2_ := A0 (Kd.R_after (ok := (fun k_ => some k_ ≠ (.slice (some ⟨go110, 0, none⟩) x5_4.length co118 : Value).ownBlock ∧ some k_ ≠ (.slice (some ⟨go112, 0, none⟩) x6_4.length co112 : Value).ownBlock ∧ some k_ ≠ (.slice (some ad219) y216.length co78 : Value).ownBlock)) (by (with_reducible repeat (first | apply Kd.R_alloc | apply Kd.R_drewN | apply Kd.R_drew)); exact Kd.R_mono (Kd.R_far (p := ⟨go112, ((ji96) : Int).toNat, none⟩) (Kd.R_far (p := ⟨go110, ((ji96) : Int).toNat, none⟩) (Kd.R_mono (Kd.R_mono HQ119.out (fun k_ hk => (⟨hk, fun e_ => hk.1 (by rw [e_]; rfl)⟩ : _ ∧ k_ ≠ go110))) (fun k_ hk => (⟨hk, fun e_ => hk.1.2.1 (by rw [e_]; rfl)⟩ : _ ∧ k_ ≠ go112))) (fun _ hk => hk.1.2) (.int .i64 ji107)) (fun _ hk => hk.2) (.int .i64 (rd x8_2 x12_3))) (fun _ hk => ⟨⟨hk.1.1.1, ⟨hk.1.1.2.1, hk.1.1.2.2.2⟩⟩, hk.1.1.2.2.1⟩)) hg hat); have n3_ := A0 (Kd.R_after (ok := (fun k_ => some k_ ≠ (.slice (some ⟨go110, 0, none⟩) x5_4.length co118 : Value).ownBlock ∧ some k_ ≠ (.slice (some ⟨go112, 0, none⟩) x6_4.length co112 : Value).ownBlock ∧ some k_ ≠ (.slice (some ⟨go108, 0, none⟩) x7_4.length co116 : Value).ownBlock ∧ k_ ≠ gb220)) (by (with_reducible repeat (first | apply Kd.R_alloc | apply Kd.R_drewN | apply Kd.R_drew)); exact Kd.R_mono (Kd.R_far (p := ⟨go112, ((ji96) : Int).toNat, none⟩) (Kd.R_far (p := ⟨go110, ((ji96) : Int).toNat, none⟩) (Kd.R_far (p := ⟨go108, ((ji96) : Int).toNat, none⟩) (Kd.R_mono (Kd.R_mono (Kd.R_mono HO_152.out (fun k_ hk => (⟨hk, fun e_ => hk.2.2.1 (by rw [e_]; rfl)⟩ : _ ∧ k_ ≠ go108))) (fun k_ hk => (⟨hk, fun e_ => hk.1.1 (by rw [e_]; rfl)⟩ : _ ∧ k_ ≠ go110))) (fun k_ hk => (⟨hk, fun e_ => hk.1.1.2.1 (by rw [e_]; rfl)⟩ : _ ∧ k_ ≠ go112))) (fun _ hk => hk.1.1.2) (.bool true)) (fun _ hk => hk.1.2) (.int .i64 ji107)) (fun _ hk => hk.2) (.int .i64 (rd x8_2 x12_3))) (fun _ hk => ⟨⟨hk.1.1.1.1, ⟨hk.1.1.1.2.1, ⟨hk.1.1.1.2.2.1, hk.1.1.1.2.2.2.2⟩⟩⟩, hk.1.1.1.2.2.2.1⟩)) hg hat); have n4_ := A0 (blk_grown (g := gb185) (o := .cells #[.int .i64 a0_0, .int .i64 a0_1, .slice (some ad224) l0_2.length c0_2] 27 (0, 0)) (by (with_reducible repeat (first | refine bN ?_ _ | refine bD ?_ | refine bA ?_ _)); refine blk_far ?_ (by have h_ := Kd.R_ne HO_6.out BK185.out (by decide); intro e_; exact h_ (by rw [e_]; rfl)) _; (with_reducible repeat (first | refine bN ?_ _ | refine bD ?_ | refine bA ?_ _)); refine blk_far ?_ (by have h_ := Kd.R_ne HO_5.out BK185.out (by decide); intro e_; exact h_ (by rw [e_]; rfl)) _; (with_reducible repeat (first | refine bN ?_ _ | refine bD ?_ | refine bA ?_ _)); refine blk_far ?_ (by have h_ := Kd.R_ne HO_7.out BK185.out (by decide); intro e_; exact h_ (by rw [e_]; rfl)) _; (with_reducible repeat (first | refine bN ?_ _ | refine bD ?_ | refine bA ?_ _)); exact BK185.out) hg (Kd.R_ne HO_8.out BK185.out (by decide))); have n5_ := A0 (blk_grown (g := gb220) (o := .cells #[.int .i64 ((rd_T60 y216 x154_4).f0), .int .i64 ((rd_T60 y216 x154_4).f1)] 60 (0, 0)) (by (with_reducible repeat (first | refine bN ?_ _ | refine bD ?_ | refine bA ?_ _)); refine blk_far ?_ (by have h_ := Kd.R_ne HO_6.out BK220.out (by decide); intro e_; exact h_ (by rw [e_]; rfl)) _; (with_reducible repeat (first | refine bN ?_ _ | refine bD ?_ | refine bA ?_ _)); refine blk_far ?_ (by have h_ := Kd.R_ne HO_5.out BK220.out (by decide); intro e_; exact h_ (by rw [e_]; rfl)) _; (with_reducible repeat (first | refine bN ?_ _ | refine bD ?_ | refine bA ?_ _)); refine blk_far ?_ (by have h_ := Kd.R_ne HO_7.out BK220.out (by decide); intro e_; exact h_ (by rw [e_]; rfl)) _; (with_reducible repeat (first | refine bN ?_ _ | refine bD ?_ | refine bA ?_ _)); exact BK220.out) hg (Kd.R_ne HO_8.out BK220.out (by decide))); have n6_ := A0 (hb); have n7_ := A0 (ho); clear HO_5; clear HO_6; clear HO_7; clear HO_152; clear BK185; clear BK220; clear HB; clear HO_8; have HO_5 := n0_; have HO_6 := n1_; have HO_7 := n2_; have HO_152 := n3_; have BK185 := n4_; have BK220 := n5_; have HB := n6_; have HO231 := n7_; clear n0_ n1_ n2_ n3_ n4_ n5_ n6_ n7_; clear ho hb hg hat))
                                  go_roundg kj81
                                  case measure => have := HK1.out; have := HK2.out; have := HK3.out; have := HK4.out; have := HJ81.out; omega
                                  case rel => exact ⟨(y227), (y228), (y226), (y229), (wrap64 (x154_4 + 1)), (by first | rfl | (simp; done) | (simp [*]; done)), H', ⟨by have := HK1.out; have := HK2.out; have := HK3.out; have := HK4.out; have := HJ81.out; omega⟩, ⟨by (with_reducible repeat (first | apply Kd.R_alloc | apply Kd.R_drewN | apply Kd.R_drew)); exact Kd.R_mono HO_5.out (fun _ hk => ⟨hk.1.1, ⟨hk.1.2.1, ⟨hk.2, hk.1.2.2⟩⟩⟩)⟩, ⟨by (with_reducible repeat (first | apply Kd.R_alloc | apply Kd.R_drewN | apply Kd.R_drew)); exact Kd.R_mono HO_6.out (fun _ hk => ⟨hk.1.1, ⟨hk.1.2.1, ⟨hk.2, hk.1.2.2⟩⟩⟩)⟩, ⟨by (with_reducible repeat (first | apply Kd.R_alloc | apply Kd.R_drewN | apply Kd.R_drew)); exact Kd.R_mono HO_7.out (fun _ hk => ⟨hk.1.1, ⟨hk.1.2.1, ⟨hk.2, hk.1.2.2⟩⟩⟩)⟩, ⟨by (with_reducible repeat (first | apply Kd.R_alloc | apply Kd.R_drewN | apply Kd.R_drew)); exact HO231.out⟩, ⟨by (with_reducible repeat (first | apply Kd.R_alloc | apply Kd.R_drewN | apply Kd.R_drew)); exact Kd.R_mono HO_152.out (fun _ hk => ⟨hk.1.1, ⟨hk.1.2.1, ⟨hk.1.2.2.1, hk.2⟩⟩⟩)⟩, ⟨by (with_reducible repeat (first | refine bN ?_ _ | refine bD ?_ | refine bA ?_ _)); exact BK185.out⟩, ⟨by repeat (first | (with_reducible first | exact HB.out | apply wA | apply wN | apply wD | refine bS ?_ GE185.out | refine bS ?_ GE220.out) | exact HB.out)⟩⟩
                                 ·rw [if_neg c113] at H
                                  exact absurd H (by simp)
                                ·rw [if_neg c111] at H
                                 exact absurd H (by simp)
                               ·rw [if_neg c109] at H
                                exact absurd H (by simp)
                              ·rw [if_neg c106] at H
                               exact absurd H (by simp)
                             ·rw [if_neg c105] at H
                              exact absurd H (by simp)
                            ·rw [if_neg c104] at H
                             exact absurd H (by simp)
                          ·rw [if_neg c98] at H
                           exact absurd H (by simp)
                         ·rw [if_neg c97] at H
                          exact absurd H (by simp)
                     ·rw [if_neg c81] at H
                      exact absurd H (by simp)
                    ·rw [if_neg c80] at H
                     exact absurd H (by simp)
                   ·rw [if_neg c79] at H
                    have c79b0 : decide (x154_4 < (y216.length : Int)) = false := decide_eq_false c79
                    clear c79
                    have H' := Aside0.mk H
                    clear H
                    go_wp2
                    go_roundg k4
                    case measure => have := HK1.out; have := HK2.out; have := HK3.out; have := HK4.out; omega
                    case rel => exact ⟨(x5_4), (x6_4), (x7_4), (x8_4), H', ⟨by have := HK1.out; have := HK2.out; have := HK3.out; have := HK4.out; omega⟩, ⟨by (with_reducible repeat (first | apply Kd.R_alloc | apply Kd.R_drewN | apply Kd.R_drew)); exact Kd.R_mono HO_5.out (fun _ hk => ⟨hk.1, ⟨hk.2.1, hk.2.2.1⟩⟩)⟩, ⟨by (with_reducible repeat (first | apply Kd.R_alloc | apply Kd.R_drewN | apply Kd.R_drew)); exact Kd.R_mono HO_6.out (fun _ hk => ⟨hk.1, ⟨hk.2.1, hk.2.2.1⟩⟩)⟩, ⟨by (with_reducible repeat (first | apply Kd.R_alloc | apply Kd.R_drewN | apply Kd.R_drew)); exact Kd.R_mono HO_7.out (fun _ hk => ⟨hk.1, ⟨hk.2.1, hk.2.2.1⟩⟩)⟩, ⟨by (with_reducible repeat (first | apply Kd.R_alloc | apply Kd.R_drewN | apply Kd.R_drew)); exact Kd.R_mono HO_8.out (fun _ hk => ⟨hk.1, ⟨hk.2.1, hk.2.2.1⟩⟩)⟩, ⟨by (with_reducible repeat (first | refine bN ?_ _ | refine bD ?_ | refine bA ?_ _)); exact BK185.out⟩, ⟨by repeat (first | (with_reducible first | exact HB.out | apply wA | apply wN | apply wD | refine bS ?_ GE185.out) | exact HB.out)⟩⟩
               ·rw [if_neg c71] at H
                exact absurd H (by simp)
              ·rw [if_neg c70] at H
               exact absurd H (by simp)
          ·rw [if_neg c49] at H
           have c49b0 : decide (0 < (x8_2.length : Int)) = false := decide_eq_false c49
           have c49b1 : decide (0 < x8_2.length) = false := decide_eq_false (by omega)
           clear c49
           simp only [Option.some.injEq, Prod.mk.injEq] at H
           obtain ⟨rfl, rfl⟩ := H
           obtain ⟨Ao123, co123, eo123⟩ := Kd.R_slice HO_8.out
           subst eo123
           go_wp2
           go_ret2
           exact ⟨_, _, by first | rfl | (simp [errW_none, errW_some] <;> rfl) | (simp only [← hji4]; first | rfl | (simp [errW_none, errW_some] <;> rfl)) | (simp [*, errW_none, errW_some] <;> rfl), by (with_reducible repeat (first | apply Kd.R_alloc | apply Kd.R_drewN | apply Kd.R_drew)); exact Kd.R_mono HO_5.out (fun _ hk => hk.1), by (with_reducible repeat (first | apply Kd.R_alloc | apply Kd.R_drewN | apply Kd.R_drew)); exact Kd.R_mono HO_6.out (fun _ hk => hk.1), by repeat (first | (with_reducible first | exact HB.out | apply wA | apply wN | apply wD | refine bS ?_ GE185.out) | exact HB.out)⟩
    ·rw [if_neg c7] at H
     exact absurd H (by simp)
   ·rw [if_neg c6] at H
    exact absurd H (by simp)
  ·rw [if_neg c5] at H
   exact absurd H (by simp)
 ·replace c3 := Bool.eq_false_iff.mpr c3
  subst c3
  have H1 : (some (([] : List Int), ([] : List Int))) = some (r1, r2) := by rw [if_neg (show ¬ (false = true) by decide)] at H; exact H
  clear H
  have H := H1
  clear H1
  simp only [Option.some.injEq, Prod.mk.injEq] at H
  obtain ⟨rfl, rfl⟩ := H
  go_enter Try.func21, Try.ntmps21
  go_wp2_with (first | ((with_reducible refine gate_dst (N := 1) rfl ?_); refine box_event ?hg (N := 1) ?hd (cs := #[.int .i64 a0_0, .int .i64 a0_1, .slice A0_2 l0_2.length c0_2]) (t := 27) ?hr ?_; (case hd => rfl); (case hg => rfl); (case hr => first | (go_simp; done) | (go_simp; rfl)); intro gb185 hg w124 hbox hb; have n0_ := A0 (below_step (by repeat (first | (with_reducible first | exact HB.out | apply wA | apply wN | apply wD) | exact HB.out)) hb); have n1_ := A0 (hbox); have n2_ := A0 ((by rw [hg]; exact (below_size (by repeat (first | (with_reducible first | exact HB.out | apply wA | apply wN | apply wD) | exact HB.out))) : w.heap.size ≤ gb185)); have n3_ := A0 ((by rw [hg]; exact (below_size (by repeat (first | (with_reducible first | exact HB.out | apply wA | apply wN | apply wD) | exact HB.out))) : w.heap.size ≤ gb185)); clear HB; have HB := n0_; have BK185 := n1_; have GW185 := n2_; have GE185 := n3_; clear n0_ n1_ n2_ n3_; clear hb hbox hg; have hcz125_0 : w124.cell? ⟨gb185, 0, none⟩ = some (.int .i64 a0_0) := bC BK185.out 0 rfl; have hcz125_1 : w124.cell? ⟨gb185, 1, none⟩ = some (.int .i64 a0_1) := bC BK185.out 1 rfl; have hcz125_2 : w124.cell? ⟨gb185, 2, none⟩ = some (.slice A0_2 l0_2.length c0_2) := bC BK185.out 2 rfl; have hfz125_0 := blk_frozen BK185.out 0; have hfz125_1 := blk_frozen BK185.out 1; have hfz125_2 := blk_frozen BK185.out 2) | ((with_reducible refine gate_callee (f := 36) rfl ?_); refine goesL_ (some 25) rfl rfl Try.func36 (by kernel_rfl) rfl #[.agg #[.int .i64 a0_0, .int .i64 a0_1, .slice A0_2 l0_2.length c0_2]] rfl (by (try simp only [lM, lC, lN]); first | done | rfl | (simp only [lD, lT]; rfl)) ?_; (with_reducible refine (impl_BoxOk.calls k a0_0 a0_1 _ _ l0_2 false _ ?side1 ?side2 A2.out).mono ?_); (case side1 => repeat (first | exact (Kd.C_below HR0_2.out HB.out) | (with_reducible refine Kd.C_alloc ?_ _) | (with_reducible refine Kd.C_drewN ?_ _) | (with_reducible refine Kd.C_drew ?_))); (case side2 => exact HC0_2.out); rintro e w126 ⟨rfl, hb⟩; refine ⟨_, rfl, ?_⟩; have n0_ := A0 (blk_below (g := gb185) (o := .cells #[.int .i64 a0_0, .int .i64 a0_1, .slice A0_2 l0_2.length c0_2] 27 (0, 0)) (by (with_reducible repeat (first | refine bN ?_ _ | refine bD ?_ | refine bA ?_ _)); exact BK185.out) hb); have n1_ := A0 (below_step (by repeat (first | (with_reducible first | exact HB.out | apply wA | apply wN | apply wD | refine bS ?_ GE185.out) | exact HB.out)) hb); clear BK185; clear HB; have BK185 := n0_; have HB := n1_; clear n0_ n1_; (try clear hb); (try clear hb2); (try clear hk); (try clear hi)))
  go_ret2
  exact ⟨_, _, by first | rfl | (simp [errW_none, errW_some] <;> rfl) | (simp [*, errW_none, errW_some] <;> rfl), by first | exact Kd.R_nil _ _ _ _ _ | exact Kd.N_nil _ _ _ _ _ | exact Kd.V_nil _ _ _ _ _ | exact Kd.Q_nil _ _ _ _ _ | exact Kd.S_nil _ _ _ _ _, by first | exact Kd.R_nil _ _ _ _ _ | exact Kd.N_nil _ _ _ _ _ | exact Kd.V_nil _ _ _ _ _ | exact Kd.Q_nil _ _ _ _ _ | exact Kd.S_nil _ _ _ _ _, by repeat (first | (with_reducible first | exact HB.out | apply wA | apply wN | apply wD | refine bS ?_ GE185.out) | exact HB.out)⟩

end Go.Proofs.Ytcdghhihfjojaab.Q
