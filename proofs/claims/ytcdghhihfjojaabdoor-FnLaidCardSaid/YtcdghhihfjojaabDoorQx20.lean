/- Plain Lean functions with the same answers as the Go functions of this seat, and a proof for each that the Go code comes to just these answers; no condition. Written by a program of this session (the kit's printer, turned). -/
import Derived.Test.YtcdghhihfjojaabDoorQx0
import Derived.Test.YtcdghhihfjojaabDoorQx1
import Derived.Test.YtcdghhihfjojaabDoorQx15
import Derived.Test.YtcdghhihfjojaabDoorQx17
import Derived.Test.YtcdghhihfjojaabDoorQx18
import Derived.Test.YtcdghhihfjojaabDoorQx19
namespace Go.Proofs.YtcdghhihfjojaabDoor.Q
open Go.RowKit Go.Proofs.YtcdghhihfjojaabDoorW.PrintWords Go.Proofs.YtcdghhihfjojaabDoorW.PrintLast Go.Proofs.YtcdghhihfjojaabDoorW.PrintMore Go.Proofs.YtcdghhihfjojaabDoorW.PrintFlt
attribute [local go_sem] cmp_lss cmp_leq cmp_gtr cmp_geq cmp_eql cmp_neq flt_l flt_r fgt_l fgt_r feq_l feq_r fne_l fne_r ord_lt ord_gt ord_eq ord_ne conv_int conv_flt foi_fold run_store_flt
attribute [local go_sem] max2_int min2_int max_two min_two max_three min_three max_four min_four   -- for this text's walks alone
set_option linter.unusedVariables false
set_option linter.unusedSimpArgs false

attribute [local go_sem high] eqA25
/-! ### spec_l1Rd_sky: function 16 -/
mutual
def spec_l1Rd_sky.j0 : Nat → Bool → Bool → List Int → Int → Int → Int → Int → ByteArray → ByteArray → Int → Option (Int × Int × Int × ByteArray × ByteArray × Int × Int)
 | 0, _, _, _, _, _, _, _, _, _, _ => none
 | k + 1, x1, x11, x1000, x1001, x163000, x163001, x163002, x163003, x163004, x163005 => if x11 = true then ((spec_l1Rd_below.f x1000 x1001 36).bind fun bt165 => ((some (([wrap64 (1 + bt165.1), 99, 0] : List Int) : List Int)).bind fun y167 => ((spec_l1Rd_below.f x1000 bt165.2 3).bind fun bt170 => (if 0 ≤ bt170.1 then (if bt170.1 < (y167.length : Int) then ((spec_l1Rd_below.f x1000 bt170.2 60).bind fun bt173 => (if (rd y167 bt170.1) = 0 then (spec_l1Rd_sky.j1 k x1 x1000 bt173.2 (rd y167 bt170.1) 0 x163002 x163003 x163004 x163005) else (spec_l1Rd_sky.j1 k x1 x1000 bt173.2 (rd y167 bt170.1) (wrap64 (1 + bt173.1)) x163002 x163003 x163004 x163005))) else (none)) else (none))))) else (spec_l1Rd_sky.j1 k x1 x1000 x1001 x163000 x163001 x163002 x163003 x163004 x163005)
def spec_l1Rd_sky.j1 : Nat → Bool → List Int → Int → Int → Int → Int → ByteArray → ByteArray → Int → Option (Int × Int × Int × ByteArray × ByteArray × Int × Int)
 | 0, _, _, _, _, _, _, _, _, _ => none
 | k + 1, x1, x1000, x1001, x163000, x163001, x163002, x163003, x163004, x163005 => if x1 = true then (spec_l1Rd_sky.j2 k x1 true x1000 x1001 x163000 x163001 x163002 x163003 x163004 x163005) else ((spec_l1Rd_once.f x1000 x1001 2).bind fun bt175 => (spec_l1Rd_sky.j2 k x1 bt175.1 x1000 bt175.2 x163000 x163001 x163002 x163003 x163004 x163005))
def spec_l1Rd_sky.j2 : Nat → Bool → Bool → List Int → Int → Int → Int → Int → ByteArray → ByteArray → Int → Option (Int × Int × Int × ByteArray × ByteArray × Int × Int)
 | 0, _, _, _, _, _, _, _, _, _, _ => none
 | k + 1, x1, x33, x1000, x1001, x163000, x163001, x163002, x163003, x163004, x163005 => if x33 = true then ((spec_l1Rd_below.f x1000 x1001 100).bind fun bt177 => ((spec_l1Rd_once.f x1000 bt177.2 3).bind fun bt179 => (if bt179.1 = true then (spec_l1Rd_sky.j3 k x1 x1000 bt179.2 x163000 x163001 9999 x163003 x163004 x163005) else (spec_l1Rd_sky.j3 k x1 x1000 bt179.2 x163000 x163001 (wrap64 (bt177.1 * 100)) x163003 x163004 x163005)))) else (spec_l1Rd_sky.j3 k x1 x1000 x1001 x163000 x163001 x163002 x163003 x163004 x163005)
def spec_l1Rd_sky.j3 : Nat → Bool → List Int → Int → Int → Int → Int → ByteArray → ByteArray → Int → Option (Int × Int × Int × ByteArray × ByteArray × Int × Int)
 | 0, _, _, _, _, _, _, _, _, _ => none
 | k + 1, x1, x1000, x1001, x163000, x163001, x163002, x163003, x163004, x163005 => if x1 = true then (spec_l1Rd_sky.j4 k x1 true x1000 x1001 x163000 x163001 x163002 x163003 x163004 x163005) else ((spec_l1Rd_once.f x1000 x1001 2).bind fun bt181 => (spec_l1Rd_sky.j4 k x1 bt181.1 x1000 bt181.2 x163000 x163001 x163002 x163003 x163004 x163005))
def spec_l1Rd_sky.j4 : Nat → Bool → Bool → List Int → Int → Int → Int → Int → ByteArray → ByteArray → Int → Option (Int × Int × Int × ByteArray × ByteArray × Int × Int)
 | 0, _, _, _, _, _, _, _, _, _, _ => none
 | k + 1, x1, x45, x1000, x1001, x163000, x163001, x163002, x163003, x163004, x163005 => if x45 = true then ((some (([(⟨#[78, 83, 87]⟩ : ByteArray), (⟨#[82, 65]⟩ : ByteArray), (⟨#[45, 82, 65]⟩ : ByteArray), (⟨#[43, 82, 65]⟩ : ByteArray), (⟨#[83, 78]⟩ : ByteArray), (⟨#[45, 83, 78]⟩ : ByteArray), (⟨#[43, 83, 78]⟩ : ByteArray), (⟨#[84, 83, 82, 65]⟩ : ByteArray), (⟨#[70, 71]⟩ : ByteArray), (⟨#[66, 82]⟩ : ByteArray)] : List ByteArray) : List ByteArray)).bind fun y183 => ((spec_l1Rd_below.f x1000 x1001 10).bind fun bt186 => (if 0 ≤ bt186.1 then (if bt186.1 < (y183.length : Int) then (spec_l1Rd_sky.j5 k x1 x1000 bt186.2 x163000 x163001 x163002 (rdOf ByteArray.empty y183 bt186.1) x163004 x163005) else (none)) else (none)))) else (spec_l1Rd_sky.j5 k x1 x1000 x1001 x163000 x163001 x163002 x163003 x163004 x163005)
def spec_l1Rd_sky.j5 : Nat → Bool → List Int → Int → Int → Int → Int → ByteArray → ByteArray → Int → Option (Int × Int × Int × ByteArray × ByteArray × Int × Int)
 | 0, _, _, _, _, _, _, _, _, _ => none
 | k + 1, x1, x1000, x1001, x163000, x163001, x163002, x163003, x163004, x163005 => if x1 = true then (spec_l1Rd_sky.j6 k true x1000 x1001 x163000 x163001 x163002 x163003 x163004 x163005) else ((spec_l1Rd_once.f x1000 x1001 2).bind fun bt189 => (if bt189.1 = true then (spec_l1Rd_sky.j6 k true x1000 bt189.2 x163000 x163001 x163002 x163003 x163004 x163005) else ((spec_l21Unsaid.f).bind fun bt191 => (spec_l1Rd_sky.j6 k (x163000 == bt191.1 && (x163001 == bt191.2.1 && (x163002 == bt191.2.2.1 && (x163003.toList == bt191.2.2.2.1.toList && (x163004.toList == bt191.2.2.2.2.1.toList && (x163005 == bt191.2.2.2.2.2)))))) x1000 bt189.2 x163000 x163001 x163002 x163003 x163004 x163005))))
def spec_l1Rd_sky.j6 : Nat → Bool → List Int → Int → Int → Int → Int → ByteArray → ByteArray → Int → Option (Int × Int × Int × ByteArray × ByteArray × Int × Int)
 | 0, _, _, _, _, _, _, _, _, _ => none
 | k + 1, x61, x1000, x1001, x163000, x163001, x163002, x163003, x163004, x163005 => if x61 = true then ((some (([(⟨#[83, 75, 67]⟩ : ByteArray), (⟨#[70, 69, 87]⟩ : ByteArray), (⟨#[83, 67, 84]⟩ : ByteArray), (⟨#[66, 75, 78]⟩ : ByteArray), (⟨#[79, 86, 67]⟩ : ByteArray)] : List ByteArray) : List ByteArray)).bind fun y197 => ((spec_l1Rd_below.f x1000 x1001 5).bind fun bt200 => (if 0 ≤ bt200.1 then (if bt200.1 < (y197.length : Int) then (if (rdOf ByteArray.empty y197 bt200.1).toList = ([83, 75, 67] : List UInt8) then (some (x163000, x163001, x163002, x163003, rdOf ByteArray.empty y197 bt200.1, x163005, bt200.2)) else ((spec_l1Rd_below.f x1000 bt200.2 200).bind fun bt203 => (some (x163000, x163001, x163002, x163003, rdOf ByteArray.empty y197 bt200.1, wrap64 (1 + bt203.1), bt203.2)))) else (none)) else (none)))) else (some (x163000, x163001, x163002, x163003, x163004, x163005, x1001))
end
def spec_l1Rd_sky.f (k : Nat) (s0_0 : List Int) (s0_1 : Int) (a1 : Bool) : Option (Int × Int × Int × ByteArray × ByteArray × Int × Int) := (spec_l21Unsaid.f).bind fun bt156 => (if a1 = true then (spec_l1Rd_sky.j0 k a1 true s0_0 s0_1 bt156.1 bt156.2.1 bt156.2.2.1 bt156.2.2.2.1 bt156.2.2.2.2.1 bt156.2.2.2.2.2) else ((spec_l1Rd_once.f s0_0 s0_1 2).bind fun bt163 => (spec_l1Rd_sky.j0 k a1 bt163.1 s0_0 bt163.2 bt156.1 bt156.2.1 bt156.2.2.1 bt156.2.2.2.1 bt156.2.2.2.2.1 bt156.2.2.2.2.2)))
theorem spec_l1Rd_sky.mono_l : ∀ k, (∀ y0 y1 y2 y3 y4 y5 y6 y7 y8 y9, LeO (spec_l1Rd_sky.j0 k y0 y1 y2 y3 y4 y5 y6 y7 y8 y9) (spec_l1Rd_sky.j0 (k + 1) y0 y1 y2 y3 y4 y5 y6 y7 y8 y9)) ∧ (∀ y0 y1 y2 y3 y4 y5 y6 y7 y8, LeO (spec_l1Rd_sky.j1 k y0 y1 y2 y3 y4 y5 y6 y7 y8) (spec_l1Rd_sky.j1 (k + 1) y0 y1 y2 y3 y4 y5 y6 y7 y8)) ∧ (∀ y0 y1 y2 y3 y4 y5 y6 y7 y8 y9, LeO (spec_l1Rd_sky.j2 k y0 y1 y2 y3 y4 y5 y6 y7 y8 y9) (spec_l1Rd_sky.j2 (k + 1) y0 y1 y2 y3 y4 y5 y6 y7 y8 y9)) ∧ (∀ y0 y1 y2 y3 y4 y5 y6 y7 y8, LeO (spec_l1Rd_sky.j3 k y0 y1 y2 y3 y4 y5 y6 y7 y8) (spec_l1Rd_sky.j3 (k + 1) y0 y1 y2 y3 y4 y5 y6 y7 y8)) ∧ (∀ y0 y1 y2 y3 y4 y5 y6 y7 y8 y9, LeO (spec_l1Rd_sky.j4 k y0 y1 y2 y3 y4 y5 y6 y7 y8 y9) (spec_l1Rd_sky.j4 (k + 1) y0 y1 y2 y3 y4 y5 y6 y7 y8 y9)) ∧ (∀ y0 y1 y2 y3 y4 y5 y6 y7 y8, LeO (spec_l1Rd_sky.j5 k y0 y1 y2 y3 y4 y5 y6 y7 y8) (spec_l1Rd_sky.j5 (k + 1) y0 y1 y2 y3 y4 y5 y6 y7 y8)) ∧ (∀ y0 y1 y2 y3 y4 y5 y6 y7 y8, LeO (spec_l1Rd_sky.j6 k y0 y1 y2 y3 y4 y5 y6 y7 y8) (spec_l1Rd_sky.j6 (k + 1) y0 y1 y2 y3 y4 y5 y6 y7 y8))
 | 0 => ⟨fun _ _ _ _ _ _ _ _ _ _ r h => by simp [spec_l1Rd_sky.j0] at h, fun _ _ _ _ _ _ _ _ _ r h => by simp [spec_l1Rd_sky.j1] at h, fun _ _ _ _ _ _ _ _ _ _ r h => by simp [spec_l1Rd_sky.j2] at h, fun _ _ _ _ _ _ _ _ _ r h => by simp [spec_l1Rd_sky.j3] at h, fun _ _ _ _ _ _ _ _ _ _ r h => by simp [spec_l1Rd_sky.j4] at h, fun _ _ _ _ _ _ _ _ _ r h => by simp [spec_l1Rd_sky.j5] at h, fun _ _ _ _ _ _ _ _ _ r h => by simp [spec_l1Rd_sky.j6] at h⟩
 | k + 1 => by
  obtain ⟨ih0, ih1, ih2, ih3, ih4, ih5, ih6⟩ := spec_l1Rd_sky.mono_l k
  refine ⟨?_, ?_, ?_, ?_, ?_, ?_, ?_⟩
  ·intro y0 y1 y2 y3 y4 y5 y6 y7 y8 y9
   unfold spec_l1Rd_sky.j0
   repeat' first
   | (with_reducible exact ih0 _ _ _ _ _ _ _ _ _ _)
   | (with_reducible exact ih1 _ _ _ _ _ _ _ _ _)
   | (with_reducible exact ih2 _ _ _ _ _ _ _ _ _ _)
   | (with_reducible exact ih3 _ _ _ _ _ _ _ _ _)
   | (with_reducible exact ih4 _ _ _ _ _ _ _ _ _ _)
   | (with_reducible exact ih5 _ _ _ _ _ _ _ _ _)
   | (with_reducible exact ih6 _ _ _ _ _ _ _ _ _)
   | (with_reducible exact LeO.refl _)
   | (with_reducible exact LeO.none _)
   | (with_reducible refine LeO.ite ?_ ?_)
   | (with_reducible refine LeO.bind ?_ (fun _ => ?_))
   | exact ih0 _ _ _ _ _ _ _ _ _ _
   | exact ih1 _ _ _ _ _ _ _ _ _
   | exact ih2 _ _ _ _ _ _ _ _ _ _
   | exact ih3 _ _ _ _ _ _ _ _ _
   | exact ih4 _ _ _ _ _ _ _ _ _ _
   | exact ih5 _ _ _ _ _ _ _ _ _
   | exact ih6 _ _ _ _ _ _ _ _ _
   | exact LeO.none _
   | refine LeO.ite ?_ ?_
   | refine LeO.bind ?_ (fun _ => ?_)
  ·intro y0 y1 y2 y3 y4 y5 y6 y7 y8
   unfold spec_l1Rd_sky.j1
   repeat' first
   | (with_reducible exact ih0 _ _ _ _ _ _ _ _ _ _)
   | (with_reducible exact ih1 _ _ _ _ _ _ _ _ _)
   | (with_reducible exact ih2 _ _ _ _ _ _ _ _ _ _)
   | (with_reducible exact ih3 _ _ _ _ _ _ _ _ _)
   | (with_reducible exact ih4 _ _ _ _ _ _ _ _ _ _)
   | (with_reducible exact ih5 _ _ _ _ _ _ _ _ _)
   | (with_reducible exact ih6 _ _ _ _ _ _ _ _ _)
   | (with_reducible exact LeO.refl _)
   | (with_reducible exact LeO.none _)
   | (with_reducible refine LeO.ite ?_ ?_)
   | (with_reducible refine LeO.bind ?_ (fun _ => ?_))
   | exact ih0 _ _ _ _ _ _ _ _ _ _
   | exact ih1 _ _ _ _ _ _ _ _ _
   | exact ih2 _ _ _ _ _ _ _ _ _ _
   | exact ih3 _ _ _ _ _ _ _ _ _
   | exact ih4 _ _ _ _ _ _ _ _ _ _
   | exact ih5 _ _ _ _ _ _ _ _ _
   | exact ih6 _ _ _ _ _ _ _ _ _
   | exact LeO.none _
   | refine LeO.ite ?_ ?_
   | refine LeO.bind ?_ (fun _ => ?_)
  ·intro y0 y1 y2 y3 y4 y5 y6 y7 y8 y9
   unfold spec_l1Rd_sky.j2
   repeat' first
   | (with_reducible exact ih0 _ _ _ _ _ _ _ _ _ _)
   | (with_reducible exact ih1 _ _ _ _ _ _ _ _ _)
   | (with_reducible exact ih2 _ _ _ _ _ _ _ _ _ _)
   | (with_reducible exact ih3 _ _ _ _ _ _ _ _ _)
   | (with_reducible exact ih4 _ _ _ _ _ _ _ _ _ _)
   | (with_reducible exact ih5 _ _ _ _ _ _ _ _ _)
   | (with_reducible exact ih6 _ _ _ _ _ _ _ _ _)
   | (with_reducible exact LeO.refl _)
   | (with_reducible exact LeO.none _)
   | (with_reducible refine LeO.ite ?_ ?_)
   | (with_reducible refine LeO.bind ?_ (fun _ => ?_))
   | exact ih0 _ _ _ _ _ _ _ _ _ _
   | exact ih1 _ _ _ _ _ _ _ _ _
   | exact ih2 _ _ _ _ _ _ _ _ _ _
   | exact ih3 _ _ _ _ _ _ _ _ _
   | exact ih4 _ _ _ _ _ _ _ _ _ _
   | exact ih5 _ _ _ _ _ _ _ _ _
   | exact ih6 _ _ _ _ _ _ _ _ _
   | exact LeO.none _
   | refine LeO.ite ?_ ?_
   | refine LeO.bind ?_ (fun _ => ?_)
  ·intro y0 y1 y2 y3 y4 y5 y6 y7 y8
   unfold spec_l1Rd_sky.j3
   repeat' first
   | (with_reducible exact ih0 _ _ _ _ _ _ _ _ _ _)
   | (with_reducible exact ih1 _ _ _ _ _ _ _ _ _)
   | (with_reducible exact ih2 _ _ _ _ _ _ _ _ _ _)
   | (with_reducible exact ih3 _ _ _ _ _ _ _ _ _)
   | (with_reducible exact ih4 _ _ _ _ _ _ _ _ _ _)
   | (with_reducible exact ih5 _ _ _ _ _ _ _ _ _)
   | (with_reducible exact ih6 _ _ _ _ _ _ _ _ _)
   | (with_reducible exact LeO.refl _)
   | (with_reducible exact LeO.none _)
   | (with_reducible refine LeO.ite ?_ ?_)
   | (with_reducible refine LeO.bind ?_ (fun _ => ?_))
   | exact ih0 _ _ _ _ _ _ _ _ _ _
   | exact ih1 _ _ _ _ _ _ _ _ _
   | exact ih2 _ _ _ _ _ _ _ _ _ _
   | exact ih3 _ _ _ _ _ _ _ _ _
   | exact ih4 _ _ _ _ _ _ _ _ _ _
   | exact ih5 _ _ _ _ _ _ _ _ _
   | exact ih6 _ _ _ _ _ _ _ _ _
   | exact LeO.none _
   | refine LeO.ite ?_ ?_
   | refine LeO.bind ?_ (fun _ => ?_)
  ·intro y0 y1 y2 y3 y4 y5 y6 y7 y8 y9
   unfold spec_l1Rd_sky.j4
   repeat' first
   | (with_reducible exact ih0 _ _ _ _ _ _ _ _ _ _)
   | (with_reducible exact ih1 _ _ _ _ _ _ _ _ _)
   | (with_reducible exact ih2 _ _ _ _ _ _ _ _ _ _)
   | (with_reducible exact ih3 _ _ _ _ _ _ _ _ _)
   | (with_reducible exact ih4 _ _ _ _ _ _ _ _ _ _)
   | (with_reducible exact ih5 _ _ _ _ _ _ _ _ _)
   | (with_reducible exact ih6 _ _ _ _ _ _ _ _ _)
   | (with_reducible exact LeO.refl _)
   | (with_reducible exact LeO.none _)
   | (with_reducible refine LeO.ite ?_ ?_)
   | (with_reducible refine LeO.bind ?_ (fun _ => ?_))
   | exact ih0 _ _ _ _ _ _ _ _ _ _
   | exact ih1 _ _ _ _ _ _ _ _ _
   | exact ih2 _ _ _ _ _ _ _ _ _ _
   | exact ih3 _ _ _ _ _ _ _ _ _
   | exact ih4 _ _ _ _ _ _ _ _ _ _
   | exact ih5 _ _ _ _ _ _ _ _ _
   | exact ih6 _ _ _ _ _ _ _ _ _
   | exact LeO.none _
   | refine LeO.ite ?_ ?_
   | refine LeO.bind ?_ (fun _ => ?_)
  ·intro y0 y1 y2 y3 y4 y5 y6 y7 y8
   unfold spec_l1Rd_sky.j5
   repeat' first
   | (with_reducible exact ih0 _ _ _ _ _ _ _ _ _ _)
   | (with_reducible exact ih1 _ _ _ _ _ _ _ _ _)
   | (with_reducible exact ih2 _ _ _ _ _ _ _ _ _ _)
   | (with_reducible exact ih3 _ _ _ _ _ _ _ _ _)
   | (with_reducible exact ih4 _ _ _ _ _ _ _ _ _ _)
   | (with_reducible exact ih5 _ _ _ _ _ _ _ _ _)
   | (with_reducible exact ih6 _ _ _ _ _ _ _ _ _)
   | (with_reducible exact LeO.refl _)
   | (with_reducible exact LeO.none _)
   | (with_reducible refine LeO.ite ?_ ?_)
   | (with_reducible refine LeO.bind ?_ (fun _ => ?_))
   | exact ih0 _ _ _ _ _ _ _ _ _ _
   | exact ih1 _ _ _ _ _ _ _ _ _
   | exact ih2 _ _ _ _ _ _ _ _ _ _
   | exact ih3 _ _ _ _ _ _ _ _ _
   | exact ih4 _ _ _ _ _ _ _ _ _ _
   | exact ih5 _ _ _ _ _ _ _ _ _
   | exact ih6 _ _ _ _ _ _ _ _ _
   | exact LeO.none _
   | refine LeO.ite ?_ ?_
   | refine LeO.bind ?_ (fun _ => ?_)
  ·intro y0 y1 y2 y3 y4 y5 y6 y7 y8
   unfold spec_l1Rd_sky.j6
   repeat' first
   | (with_reducible exact ih0 _ _ _ _ _ _ _ _ _ _)
   | (with_reducible exact ih1 _ _ _ _ _ _ _ _ _)
   | (with_reducible exact ih2 _ _ _ _ _ _ _ _ _ _)
   | (with_reducible exact ih3 _ _ _ _ _ _ _ _ _)
   | (with_reducible exact ih4 _ _ _ _ _ _ _ _ _ _)
   | (with_reducible exact ih5 _ _ _ _ _ _ _ _ _)
   | (with_reducible exact ih6 _ _ _ _ _ _ _ _ _)
   | (with_reducible exact LeO.refl _)
   | (with_reducible exact LeO.none _)
   | (with_reducible refine LeO.ite ?_ ?_)
   | (with_reducible refine LeO.bind ?_ (fun _ => ?_))
   | exact ih0 _ _ _ _ _ _ _ _ _ _
   | exact ih1 _ _ _ _ _ _ _ _ _
   | exact ih2 _ _ _ _ _ _ _ _ _ _
   | exact ih3 _ _ _ _ _ _ _ _ _
   | exact ih4 _ _ _ _ _ _ _ _ _ _
   | exact ih5 _ _ _ _ _ _ _ _ _
   | exact ih6 _ _ _ _ _ _ _ _ _
   | exact LeO.none _
   | refine LeO.ite ?_ ?_
   | refine LeO.bind ?_ (fun _ => ?_)
theorem spec_l1Rd_sky.mono : ∀ a0 a1 a2 k, LeO (spec_l1Rd_sky.f k a0 a1 a2) (spec_l1Rd_sky.f (k + 1) a0 a1 a2) := by
 intro a0 a1 a2 k
 obtain ⟨ih0, ih1, ih2, ih3, ih4, ih5, ih6⟩ := spec_l1Rd_sky.mono_l k
 unfold spec_l1Rd_sky.f
 repeat' first
   | (with_reducible exact ih0 _ _ _ _ _ _ _ _ _ _)
   | (with_reducible exact ih1 _ _ _ _ _ _ _ _ _)
   | (with_reducible exact ih2 _ _ _ _ _ _ _ _ _ _)
   | (with_reducible exact ih3 _ _ _ _ _ _ _ _ _)
   | (with_reducible exact ih4 _ _ _ _ _ _ _ _ _ _)
   | (with_reducible exact ih5 _ _ _ _ _ _ _ _ _)
   | (with_reducible exact ih6 _ _ _ _ _ _ _ _ _)
   | (with_reducible exact LeO.refl _)
   | (with_reducible exact LeO.none _)
   | (with_reducible refine LeO.ite ?_ ?_)
   | (with_reducible refine LeO.bind ?_ (fun _ => ?_))
   | exact ih0 _ _ _ _ _ _ _ _ _ _
   | exact ih1 _ _ _ _ _ _ _ _ _
   | exact ih2 _ _ _ _ _ _ _ _ _ _
   | exact ih3 _ _ _ _ _ _ _ _ _
   | exact ih4 _ _ _ _ _ _ _ _ _ _
   | exact ih5 _ _ _ _ _ _ _ _ _
   | exact ih6 _ _ _ _ _ _ _ _ _
   | exact LeO.none _
   | refine LeO.ite ?_ ?_
   | refine LeO.bind ?_ (fun _ => ?_)
def spec_l1Rd_sky.T13 : Bool × List (List Nat × List Nat) := (true, [([], []), ([0], [0]), ([1], [1]), ([2, 1, 1], [1, 2]), ([1, 3], [1, 3]), ([4, 3], [4]), ([5], [5]), ([5, 5], [5]), ([6, 7, 5], [5, 6, 7]), ([5, 8], [5, 8])])
def spec_l1Rd_sky.B13 : List Nat := [0, 1, 3, 7, 15, 31, 63, 63, 255, 511]
theorem spec_l1Rd_sky.tab13 : rtab .any (opsOf Tryd.f16 13) = spec_l1Rd_sky.T13 := by kernel_rfl
theorem spec_l1Rd_sky.bits13 : waitsOk spec_l1Rd_sky.T13.2 spec_l1Rd_sky.B13 = true := by kernel_rfl
set_option maxHeartbeats 8000000 in
set_option maxRecDepth 100000 in
theorem spec_l1Rd_sky.calls (k : Nat) (g : Nat) (s0_0 : List Int) (s0_1 : Int) (a1 : Bool) (r1 : Int) (r2 : Int) (r3 : Int) (r4 : ByteArray) (r5 : ByteArray) (r6 : Int) (r7 : Int) (w0 w : World) (hI : IsS46 w0 w g s0_0 s0_1) (hB : Below w0.heap.size w0 w) (h : spec_l1Rd_sky.f k s0_0 s0_1 a1 = some (r1, r2, r3, r4, r5, r6, r7)) :
  Calls Tryd.prog 16 #[.pointer (some ⟨g, 0, none⟩), .bool a1] w fun e w' => e = .returned (.agg #[.int .i64 r1, .int .i64 r2, .int .i64 r3, .string r4, .string r5, .int .i64 r6]) ∧ IsS46 w0 w' g s0_0 r7 ∧ Below w0.heap.size w0 w' ∧ KeepBut w w' g none := by
 have hu25 := Tryd.underlying25
 have HI0 := Aside0.mk hI
 have HK := A0 (KeepBut.refl w g none)
 have HL := Aside0.mk hB.size
 clear hI
 have HW0 := Aside0.mk hB.size
 have HB := Aside0.mk hB
 clear hB
 have H : ((spec_l21Unsaid.f).bind fun bt156 => (if a1 = true then (spec_l1Rd_sky.j0 k a1 true s0_0 s0_1 bt156.1 bt156.2.1 bt156.2.2.1 bt156.2.2.2.1 bt156.2.2.2.2.1 bt156.2.2.2.2.2) else ((spec_l1Rd_once.f s0_0 s0_1 2).bind fun bt163 => (spec_l1Rd_sky.j0 k a1 bt163.1 s0_0 bt163.2 bt156.1 bt156.2.1 bt156.2.2.1 bt156.2.2.2.1 bt156.2.2.2.2.1 bt156.2.2.2.2.2)))) = some (r1, r2, r3, r4, r5, r6, r7) := h
 clear h
 replace H := Option.bind_eq_some_iff.mp H
 obtain ⟨⟨t156, t157, t158, t159, t160, t161⟩, A30, H⟩ := H
 replace H : (if a1 = true then (spec_l1Rd_sky.j0 k a1 true s0_0 s0_1 t156 t157 t158 t159 t160 t161) else ((spec_l1Rd_once.f s0_0 s0_1 2).bind fun bt163 => (spec_l1Rd_sky.j0 k a1 bt163.1 s0_0 bt163.2 t156 t157 t158 t159 t160 t161))) = some (r1, r2, r3, r4, r5, r6, r7) := H
 have A3 := Aside0.mk A30
 clear A30
 have HC4 := Aside0.mk H
 clear H
 go_enter Tryd.func16, Tryd.ntmps16
 go_upto_region 2 with (first | ((with_reducible refine gate_dst (N := 4) rfl ?_); refine box_event ?hg (N := 4) ?hd (cs := #[.int .i64 0, .int .i64 0, .int .i64 0, .string (⟨#[]⟩ : ByteArray), .string (⟨#[]⟩ : ByteArray), .int .i64 0]) (t := 25) ?hr ?_; (case hd => rfl); (case hg => rfl); (case hr => first | (go_simp; done) | (go_simp; rfl)); intro gb155 hg w5 hbox hb; have n0_ := A0 (IsS46.below (by repeat (first | (with_reducible first | exact HI0.out | apply IsS46.alloc | apply IsS46.drewN | apply IsS46.drew | apply IsS46.set_1) | exact HI0.out)) hb); have n1_ := A0 (KeepBut.trans (by repeat (first | (with_reducible first | exact HK.out | apply KeepBut.set_ | apply keep_drewN | apply keep_drew | apply keep_alloc) | exact HK.out)) (KeepBut.of_below hb g none) (.inl rfl)); have n2_ := A0 (below_step (by repeat (first | (with_reducible first | exact HB.out | apply wA | apply wN | apply wD | refine bS ?_ (IsS46.ge HI0.out)) | exact HB.out)) hb); have n3_ := A0 (hbox); have n4_ := A0 ((by rw [hg]; exact (keep_size (w := w) (g := g) (row := none) (by repeat (first | (with_reducible first | exact HK.out | apply KeepBut.set_ | apply keep_drewN | apply keep_drew | apply keep_alloc) | exact HK.out))) : w.heap.size ≤ gb155)); have n5_ := A0 ((Nat.le_trans HW0.out (by rw [hg]; exact (keep_size (w := w) (g := g) (row := none) (by repeat (first | (with_reducible first | exact HK.out | apply KeepBut.set_ | apply keep_drewN | apply keep_drew | apply keep_alloc) | exact HK.out))) : w.heap.size ≤ gb155) : w0.heap.size ≤ gb155)); have n6_ := A0 ((by rw [hg]; exact Nat.ne_of_lt (IsS46.lt (show IsS46 w0 _ g s0_0 s0_1 from by repeat (first | (with_reducible first | exact HI0.out | apply IsS46.alloc | apply IsS46.drewN | apply IsS46.drew | apply IsS46.set_1) | exact HI0.out))) : g ≠ gb155)); have n7_ := A0 ((by rw [hg]; exact Nat.ne_of_gt (IsS46.lt (show IsS46 w0 _ g s0_0 s0_1 from by repeat (first | (with_reducible first | exact HI0.out | apply IsS46.alloc | apply IsS46.drewN | apply IsS46.drew | apply IsS46.set_1) | exact HI0.out))) : gb155 ≠ g)); clear HI0; clear HK; clear HB; have HI0 := n0_; have HK := n1_; have HB := n2_; have BK155 := n3_; have GW155 := n4_; have GE155 := n5_; have NB0_155 := n6_; have NB155_0 := n7_; clear n0_ n1_ n2_ n3_ n4_ n5_ n6_ n7_; clear hb hbox hg) | ((with_reducible refine gate_callee (f := 24) rfl ?_); refine goesL_ (some 6) rfl rfl Tryd.func24 (by kernel_rfl) rfl #[] rfl (by (try simp only [lM, lC, lN]); first | done | rfl | (simp only [lD, lT]; rfl)) ?_; (with_reducible refine (spec_l21Unsaid.calls  t156 t157 t158 t159 t160 t161 _ A3.out).mono ?_); rintro e w6 ⟨rfl, hb⟩; refine ⟨_, rfl, ?_⟩; have n0_ := A0 (IsS46.below (by repeat (first | (with_reducible first | exact HI0.out | apply IsS46.alloc | apply IsS46.drewN | apply IsS46.drew | apply IsS46.set_1 | apply IsS46.far (hne := NB0_155.out)) | exact HI0.out)) hb); have n1_ := A0 (blk_below (g := gb155) (o := .cells #[.int .i64 0, .int .i64 0, .int .i64 0, .string (⟨#[]⟩ : ByteArray), .string (⟨#[]⟩ : ByteArray), .int .i64 0] 25 (0, 0)) (by (with_reducible repeat (first | refine bN ?_ _ | refine bD ?_ | refine bA ?_ _)); exact BK155.out) hb); have n2_ := A0 (KeepBut.trans (by repeat (first | (with_reducible first | exact HK.out | apply KeepBut.set_ | apply keep_drewN | apply keep_drew | apply keep_alloc | refine keep_far ?_ GW155.out _) | exact HK.out)) (KeepBut.of_below hb g none) (.inl rfl)); have n3_ := A0 (below_step (by repeat (first | (with_reducible first | exact HB.out | apply wA | apply wN | apply wD | refine bS ?_ (IsS46.ge HI0.out) | refine bS ?_ GE155.out) | exact HB.out)) hb); clear HI0; clear BK155; clear HK; clear HB; have HI0 := n0_; have BK155 := n1_; have HK := n2_; have HB := n3_; clear n0_ n1_ n2_ n3_; (try clear hb); (try clear hb2); (try clear hk); (try clear hi)) | ((with_reducible refine gate_dst (N := 5) rfl ?_); refine box_event ?hg (N := 5) ?hd (cs := #[.int .i64 0, .int .i64 0, .int .i64 0, .string (⟨#[]⟩ : ByteArray), .string (⟨#[]⟩ : ByteArray), .int .i64 0]) (t := 25) ?hr ?_; (case hd => rfl); (case hg => rfl); (case hr => first | (go_simp; done) | (go_simp; rfl)); intro gb162 hg w7 hbox hb; have n0_ := A0 (IsS46.below (by repeat (first | (with_reducible first | exact HI0.out | apply IsS46.alloc | apply IsS46.drewN | apply IsS46.drew | apply IsS46.set_1 | apply IsS46.far (hne := NB0_155.out)) | exact HI0.out)) hb); have n1_ := A0 (blk_below (g := gb155) (o := .cells #[.int .i64 0, .int .i64 0, .int .i64 0, .string (⟨#[]⟩ : ByteArray), .string (⟨#[]⟩ : ByteArray), .int .i64 0] 25 (0, 0)) (by (with_reducible repeat (first | refine bN ?_ _ | refine bD ?_ | refine bA ?_ _)); exact BK155.out) hb); have n2_ := A0 (KeepBut.trans (by repeat (first | (with_reducible first | exact HK.out | apply KeepBut.set_ | apply keep_drewN | apply keep_drew | apply keep_alloc | refine keep_far ?_ GW155.out _) | exact HK.out)) (KeepBut.of_below hb g none) (.inl rfl)); have n3_ := A0 (below_step (by repeat (first | (with_reducible first | exact HB.out | apply wA | apply wN | apply wD | refine bS ?_ (IsS46.ge HI0.out) | refine bS ?_ GE155.out) | exact HB.out)) hb); have n4_ := A0 (hbox); have n5_ := A0 ((by rw [hg]; exact (keep_size (w := w) (g := g) (row := none) (by repeat (first | (with_reducible first | exact HK.out | apply KeepBut.set_ | apply keep_drewN | apply keep_drew | apply keep_alloc | refine keep_far ?_ GW155.out _) | exact HK.out))) : w.heap.size ≤ gb162)); have n6_ := A0 ((Nat.le_trans HW0.out (by rw [hg]; exact (keep_size (w := w) (g := g) (row := none) (by repeat (first | (with_reducible first | exact HK.out | apply KeepBut.set_ | apply keep_drewN | apply keep_drew | apply keep_alloc | refine keep_far ?_ GW155.out _) | exact HK.out))) : w.heap.size ≤ gb162) : w0.heap.size ≤ gb162)); have n7_ := A0 ((by rw [hg]; exact Nat.ne_of_lt (blk_lt (g := gb155) (o := .cells #[.int .i64 0, .int .i64 0, .int .i64 0, .string (⟨#[]⟩ : ByteArray), .string (⟨#[]⟩ : ByteArray), .int .i64 0] 25 (0, 0)) (by (with_reducible repeat (first | refine bN ?_ _ | refine bD ?_ | refine bA ?_ _)); exact BK155.out)) : gb155 ≠ gb162)); have n8_ := A0 ((by rw [hg]; exact Nat.ne_of_gt (blk_lt (g := gb155) (o := .cells #[.int .i64 0, .int .i64 0, .int .i64 0, .string (⟨#[]⟩ : ByteArray), .string (⟨#[]⟩ : ByteArray), .int .i64 0] 25 (0, 0)) (by (with_reducible repeat (first | refine bN ?_ _ | refine bD ?_ | refine bA ?_ _)); exact BK155.out)) : gb162 ≠ gb155)); have n9_ := A0 ((by rw [hg]; exact Nat.ne_of_lt (IsS46.lt (show IsS46 w0 _ g s0_0 s0_1 from by repeat (first | (with_reducible first | exact HI0.out | apply IsS46.alloc | apply IsS46.drewN | apply IsS46.drew | apply IsS46.set_1 | apply IsS46.far (hne := NB0_155.out)) | exact HI0.out))) : g ≠ gb162)); have n10_ := A0 ((by rw [hg]; exact Nat.ne_of_gt (IsS46.lt (show IsS46 w0 _ g s0_0 s0_1 from by repeat (first | (with_reducible first | exact HI0.out | apply IsS46.alloc | apply IsS46.drewN | apply IsS46.drew | apply IsS46.set_1 | apply IsS46.far (hne := NB0_155.out)) | exact HI0.out))) : gb162 ≠ g)); clear HI0; clear BK155; clear HK; clear HB; have HI0 := n0_; have BK155 := n1_; have HK := n2_; have HB := n3_; have BK162 := n4_; have GW162 := n5_; have GE162 := n6_; have NB155_162 := n7_; have NB162_155 := n8_; have NB0_162 := n9_; have NB162_0 := n10_; clear n0_ n1_ n2_ n3_ n4_ n5_ n6_ n7_ n8_ n9_ n10_; clear hb hbox hg; have hnb8 := NB162_155.out; have hnc8 := NB155_162.out; have hnb9 := NB162_0.out; have hnc9 := NB0_162.out; have hcz10_0 : w7.cell? ⟨gb162, 0, none⟩ = some (.int .i64 0) := bC BK162.out 0 rfl; have hcz10_1 : w7.cell? ⟨gb162, 1, none⟩ = some (.int .i64 0) := bC BK162.out 1 rfl; have hcz10_2 : w7.cell? ⟨gb162, 2, none⟩ = some (.int .i64 0) := bC BK162.out 2 rfl; have hcz10_3 : w7.cell? ⟨gb162, 3, none⟩ = some (.string (⟨#[]⟩ : ByteArray)) := bC BK162.out 3 rfl; have hcz10_4 : w7.cell? ⟨gb162, 4, none⟩ = some (.string (⟨#[]⟩ : ByteArray)) := bC BK162.out 4 rfl; have hcz10_5 : w7.cell? ⟨gb162, 5, none⟩ = some (.int .i64 0) := bC BK162.out 5 rfl; have hfz10_0 := blk_frozen BK162.out 0; have hfz10_1 := blk_frozen BK162.out 1; have hfz10_2 := blk_frozen BK162.out 2; have hfz10_3 := blk_frozen BK162.out 3; have hfz10_4 := blk_frozen BK162.out 4; have hfz10_5 := blk_frozen BK162.out 5))
 (try simp only [Act.put, sqA, sqZ, sqS])
 go_cut [11] (fun v11 wc => ∃ (kq : Nat) (x11_3 : Bool) (x1001_3 : Int), v11 = .bool x11_3 ∧ Aside0 (spec_l1Rd_sky.j0 kq a1 x11_3 s0_0 x1001_3 t156 t157 t158 t159 t160 t161 = some (r1, r2, r3, r4, r5, r6, r7)) ∧ Aside0 (kq ≤ k) ∧ Aside0 (wc.heap[gb155]? = some (.cells #[.int .i64 0, .int .i64 0, .int .i64 0, .string (⟨#[]⟩ : ByteArray), .string (⟨#[]⟩ : ByteArray), .int .i64 0] 25 (0, 0))) ∧ Aside0 (wc.heap[gb162]? = some (.cells #[.int .i64 t156, .int .i64 t157, .int .i64 t158, .string t159, .string t160, .int .i64 t161] 25 (0, 0))) ∧ Aside0 (IsS46 w0 wc g s0_0 x1001_3) ∧ Aside0 (KeepBut w wc g none) ∧ Aside0 (Below w0.heap.size w0 wc))
 case first =>
  have H := HC4.out
  clear HC4
  by_cases c11 : a1 = true
  ·subst c11
   have H1 : (spec_l1Rd_sky.j0 k true true s0_0 s0_1 t156 t157 t158 t159 t160 t161) = some (r1, r2, r3, r4, r5, r6, r7) := by rw [if_pos rfl] at H; exact H
   clear H
   have H := H1
   clear H1
   have H' := Aside0.mk H
   clear H
   go_wp2
   go_meet
   case rel => exact ⟨_, (true), (s0_1), (by first | rfl | (simp; done) | (simp [*]; done)), H', ⟨by first | omega | exact Nat.le_refl _⟩, ⟨by (with_reducible repeat (first | refine bN ?_ _ | refine bD ?_ | refine bA ?_ _)); refine blk_far ?_ NB155_162.out _; (with_reducible repeat (first | refine bN ?_ _ | refine bD ?_ | refine bA ?_ _)); refine blk_far ?_ NB155_162.out _; (with_reducible repeat (first | refine bN ?_ _ | refine bD ?_ | refine bA ?_ _)); refine blk_far ?_ NB155_162.out _; (with_reducible repeat (first | refine bN ?_ _ | refine bD ?_ | refine bA ?_ _)); refine blk_far ?_ NB155_162.out _; (with_reducible repeat (first | refine bN ?_ _ | refine bD ?_ | refine bA ?_ _)); refine blk_far ?_ NB155_162.out _; (with_reducible repeat (first | refine bN ?_ _ | refine bD ?_ | refine bA ?_ _)); refine blk_far ?_ NB155_162.out _; (with_reducible repeat (first | refine bN ?_ _ | refine bD ?_ | refine bA ?_ _)); exact BK155.out⟩, ⟨by (with_reducible repeat (first | refine bN ?_ _ | refine bD ?_ | refine bA ?_ _)); refine blk_put (cs := #[.int .i64 t156, .int .i64 t157, .int .i64 t158, .string t159, .string t160, .int .i64 0]) ?_ 5 _ rfl; (with_reducible repeat (first | refine bN ?_ _ | refine bD ?_ | refine bA ?_ _)); refine blk_put (cs := #[.int .i64 t156, .int .i64 t157, .int .i64 t158, .string t159, .string (⟨#[]⟩ : ByteArray), .int .i64 0]) ?_ 4 _ rfl; (with_reducible repeat (first | refine bN ?_ _ | refine bD ?_ | refine bA ?_ _)); refine blk_put (cs := #[.int .i64 t156, .int .i64 t157, .int .i64 t158, .string (⟨#[]⟩ : ByteArray), .string (⟨#[]⟩ : ByteArray), .int .i64 0]) ?_ 3 _ rfl; (with_reducible repeat (first | refine bN ?_ _ | refine bD ?_ | refine bA ?_ _)); refine blk_put (cs := #[.int .i64 t156, .int .i64 t157, .int .i64 0, .string (⟨#[]⟩ : ByteArray), .string (⟨#[]⟩ : ByteArray), .int .i64 0]) ?_ 2 _ rfl; (with_reducible repeat (first | refine bN ?_ _ | refine bD ?_ | refine bA ?_ _)); refine blk_put (cs := #[.int .i64 t156, .int .i64 0, .int .i64 0, .string (⟨#[]⟩ : ByteArray), .string (⟨#[]⟩ : ByteArray), .int .i64 0]) ?_ 1 _ rfl; (with_reducible repeat (first | refine bN ?_ _ | refine bD ?_ | refine bA ?_ _)); refine blk_put (cs := #[.int .i64 0, .int .i64 0, .int .i64 0, .string (⟨#[]⟩ : ByteArray), .string (⟨#[]⟩ : ByteArray), .int .i64 0]) ?_ 0 _ rfl; (with_reducible repeat (first | refine bN ?_ _ | refine bD ?_ | refine bA ?_ _)); exact BK162.out⟩, ⟨by repeat (first | (with_reducible first | exact HI0.out | apply IsS46.alloc | apply IsS46.drewN | apply IsS46.drew | apply IsS46.set_1 | apply IsS46.far (hne := NB0_155.out) | apply IsS46.far (hne := NB0_162.out)) | exact HI0.out)⟩, ⟨by repeat (first | (with_reducible first | exact HK.out | apply KeepBut.set_ | apply keep_drewN | apply keep_drew | apply keep_alloc | refine keep_far ?_ GW155.out _ | refine keep_far ?_ GW162.out _) | exact HK.out)⟩, ⟨by repeat (first | (with_reducible first | exact HB.out | apply wA | apply wN | apply wD | refine bS ?_ (IsS46.ge HI0.out) | refine bS ?_ GE155.out | refine bS ?_ GE162.out) | exact HB.out)⟩⟩
  ·replace c11 := Bool.eq_false_iff.mpr c11
   subst c11
   have H1 : ((spec_l1Rd_once.f s0_0 s0_1 2).bind fun bt163 => (spec_l1Rd_sky.j0 k false bt163.1 s0_0 bt163.2 t156 t157 t158 t159 t160 t161)) = some (r1, r2, r3, r4, r5, r6, r7) := by rw [if_neg (show ¬ (false = true) by decide)] at H; exact H
   clear H
   have H := H1
   clear H1
   replace H := Option.bind_eq_some_iff.mp H
   obtain ⟨⟨t163, t164⟩, A120, H⟩ := H
   replace H : (spec_l1Rd_sky.j0 k false t163 s0_0 t164 t156 t157 t158 t159 t160 t161) = some (r1, r2, r3, r4, r5, r6, r7) := H
   have A12 := Aside0.mk A120
   clear A120
   have H' := Aside0.mk H
   clear H
   go_wp2_with (first | (go_at_call 17; (with_reducible refine (spec_l1Rd_once.calls g s0_0 s0_1 2 t163 t164 w0 _ ?side1 ?side2 A12.out).mono ?_); (case side1 => repeat (first | (with_reducible first | exact HI0.out | apply IsS46.alloc | apply IsS46.drewN | apply IsS46.drew | apply IsS46.set_1 | apply IsS46.far (hne := NB0_155.out) | apply IsS46.far (hne := NB0_162.out)) | exact HI0.out)); (case side2 => repeat (first | (with_reducible first | exact HB.out | apply wA | apply wN | apply wD | refine bS ?_ (IsS46.ge HI0.out) | refine bS ?_ GE155.out | refine bS ?_ GE162.out) | exact HB.out)); rintro e w13 ⟨rfl, hi, hb, hk⟩; have n0_ := A0 (KeepBut.blk hk (g' := gb155) (o := .cells #[.int .i64 0, .int .i64 0, .int .i64 0, .string (⟨#[]⟩ : ByteArray), .string (⟨#[]⟩ : ByteArray), .int .i64 0] 25 (0, 0)) (by (with_reducible repeat (first | refine bN ?_ _ | refine bD ?_ | refine bA ?_ _)); refine blk_far ?_ NB155_162.out _; (with_reducible repeat (first | refine bN ?_ _ | refine bD ?_ | refine bA ?_ _)); refine blk_far ?_ NB155_162.out _; (with_reducible repeat (first | refine bN ?_ _ | refine bD ?_ | refine bA ?_ _)); refine blk_far ?_ NB155_162.out _; (with_reducible repeat (first | refine bN ?_ _ | refine bD ?_ | refine bA ?_ _)); refine blk_far ?_ NB155_162.out _; (with_reducible repeat (first | refine bN ?_ _ | refine bD ?_ | refine bA ?_ _)); refine blk_far ?_ NB155_162.out _; (with_reducible repeat (first | refine bN ?_ _ | refine bD ?_ | refine bA ?_ _)); refine blk_far ?_ NB155_162.out _; (with_reducible repeat (first | refine bN ?_ _ | refine bD ?_ | refine bA ?_ _)); exact BK155.out) NB155_0.out (by simp)); have n1_ := A0 (KeepBut.blk hk (g' := gb162) (o := .cells #[.int .i64 t156, .int .i64 t157, .int .i64 t158, .string t159, .string t160, .int .i64 t161] 25 (0, 0)) (by (with_reducible repeat (first | refine bN ?_ _ | refine bD ?_ | refine bA ?_ _)); refine blk_put (cs := #[.int .i64 t156, .int .i64 t157, .int .i64 t158, .string t159, .string t160, .int .i64 0]) ?_ 5 _ rfl; (with_reducible repeat (first | refine bN ?_ _ | refine bD ?_ | refine bA ?_ _)); refine blk_put (cs := #[.int .i64 t156, .int .i64 t157, .int .i64 t158, .string t159, .string (⟨#[]⟩ : ByteArray), .int .i64 0]) ?_ 4 _ rfl; (with_reducible repeat (first | refine bN ?_ _ | refine bD ?_ | refine bA ?_ _)); refine blk_put (cs := #[.int .i64 t156, .int .i64 t157, .int .i64 t158, .string (⟨#[]⟩ : ByteArray), .string (⟨#[]⟩ : ByteArray), .int .i64 0]) ?_ 3 _ rfl; (with_reducible repeat (first | refine bN ?_ _ | refine bD ?_ | refine bA ?_ _)); refine blk_put (cs := #[.int .i64 t156, .int .i64 t157, .int .i64 0, .string (⟨#[]⟩ : ByteArray), .string (⟨#[]⟩ : ByteArray), .int .i64 0]) ?_ 2 _ rfl; (with_reducible repeat (first | refine bN ?_ _ | refine bD ?_ | refine bA ?_ _)); refine blk_put (cs := #[.int .i64 t156, .int .i64 0, .int .i64 0, .string (⟨#[]⟩ : ByteArray), .string (⟨#[]⟩ : ByteArray), .int .i64 0]) ?_ 1 _ rfl; (with_reducible repeat (first | refine bN ?_ _ | refine bD ?_ | refine bA ?_ _)); refine blk_put (cs := #[.int .i64 0, .int .i64 0, .int .i64 0, .string (⟨#[]⟩ : ByteArray), .string (⟨#[]⟩ : ByteArray), .int .i64 0]) ?_ 0 _ rfl; (with_reducible repeat (first | refine bN ?_ _ | refine bD ?_ | refine bA ?_ _)); exact BK162.out) NB162_0.out (by simp)); have n2_ := A0 (KeepBut.trans (by repeat (first | (with_reducible first | exact HK.out | apply KeepBut.set_ | apply keep_drewN | apply keep_drew | apply keep_alloc | refine keep_far ?_ GW155.out _ | refine keep_far ?_ GW162.out _) | exact HK.out)) hk (.inl rfl)); have n3_ := A0 (hb); have n4_ := A0 (hi); clear BK155; clear BK162; clear HK; clear HB; clear HI0; have BK155 := n0_; have BK162 := n1_; have HK := n2_; have HB := n3_; have HI0 := n4_; clear n0_ n1_ n2_ n3_ n4_; (try clear hb); (try clear hb2); (try clear hk); (try clear hi)))
   go_meet
   case rel => exact ⟨_, (t163), (t164), (by first | rfl | (simp; done) | (simp [*]; done)), H', ⟨by first | omega | exact Nat.le_refl _⟩, ⟨by (with_reducible repeat (first | refine bN ?_ _ | refine bD ?_ | refine bA ?_ _)); exact BK155.out⟩, ⟨by (with_reducible repeat (first | refine bN ?_ _ | refine bD ?_ | refine bA ?_ _)); exact BK162.out⟩, ⟨by repeat (first | (with_reducible first | exact HI0.out | apply IsS46.alloc | apply IsS46.drewN | apply IsS46.drew | apply IsS46.set_1 | apply IsS46.far (hne := NB0_155.out) | apply IsS46.far (hne := NB0_162.out)) | exact HI0.out)⟩, ⟨by repeat (first | (with_reducible first | exact HK.out | apply KeepBut.set_ | apply keep_drewN | apply keep_drew | apply keep_alloc | refine keep_far ?_ GW155.out _ | refine keep_far ?_ GW162.out _) | exact HK.out)⟩, ⟨by repeat (first | (with_reducible first | exact HB.out | apply wA | apply wN | apply wD | refine bS ?_ (IsS46.ge HI0.out) | refine bS ?_ GE155.out | refine bS ?_ GE162.out) | exact HB.out)⟩⟩
 case rest =>
  clear HC4
  try clear c1
  try clear c2
  try clear p2
  try clear c8
  try clear c9
  try clear c11
  try clear hcz10_0
  try clear hcz10_1
  try clear hcz10_2
  try clear hcz10_3
  try clear hcz10_4
  try clear hcz10_5
  try clear hfz10_0
  try clear hfz10_1
  try clear hfz10_2
  try clear hfz10_3
  try clear hfz10_4
  try clear hfz10_5
  obtain ⟨kq, x11_3, x1001_3, rfl, HA, HJ3, BK155, BK162, HI0, HK, HB⟩ := hcut
  cases kq with
  | zero => exact absurd HA.out (by simp [spec_l1Rd_sky.j0])
  | succ kj3 =>
   have H := HA.out
   clear HA
   simp only [spec_l1Rd_sky.j0] at H
   have HC14 := Aside0.mk H
   clear H
   go_upto_if 11 with (fail)
   go_cut [] (fun wc => ∃ (kq : Nat) (x1001_13 : Int) (x163000_13 : Int) (x163001_13 : Int), Aside0 (spec_l1Rd_sky.j1 kq a1 s0_0 x1001_13 x163000_13 x163001_13 t158 t159 t160 t161 = some (r1, r2, r3, r4, r5, r6, r7)) ∧ Aside0 (kq ≤ kj3) ∧ Aside0 (wc.heap[gb155]? = some (.cells #[.int .i64 0, .int .i64 0, .int .i64 0, .string (⟨#[]⟩ : ByteArray), .string (⟨#[]⟩ : ByteArray), .int .i64 0] 25 (0, 0))) ∧ Aside0 (wc.heap[gb162]? = some (.cells #[.int .i64 x163000_13, .int .i64 x163001_13, .int .i64 t158, .string t159, .string t160, .int .i64 t161] 25 (0, 0))) ∧ Aside0 (IsS46 w0 wc g s0_0 x1001_13) ∧ Aside0 (KeepBut w wc g none) ∧ Aside0 (Below w0.heap.size w0 wc))
   case first =>
    have H := HC14.out
    clear HC14
    by_cases c15 : x11_3 = true
    ·subst c15
     have H1 : ((spec_l1Rd_below.f s0_0 x1001_3 36).bind fun bt165 => ((some (([wrap64 (1 + bt165.1), 99, 0] : List Int) : List Int)).bind fun y167 => ((spec_l1Rd_below.f s0_0 bt165.2 3).bind fun bt170 => (if 0 ≤ bt170.1 then (if bt170.1 < (y167.length : Int) then ((spec_l1Rd_below.f s0_0 bt170.2 60).bind fun bt173 => (if (rd y167 bt170.1) = 0 then (spec_l1Rd_sky.j1 kj3 a1 s0_0 bt173.2 (rd y167 bt170.1) 0 t158 t159 t160 t161) else (spec_l1Rd_sky.j1 kj3 a1 s0_0 bt173.2 (rd y167 bt170.1) (wrap64 (1 + bt173.1)) t158 t159 t160 t161))) else (none)) else (none))))) = some (r1, r2, r3, r4, r5, r6, r7) := by rw [if_pos rfl] at H; exact H
     clear H
     have H := H1
     clear H1
     replace H := Option.bind_eq_some_iff.mp H
     obtain ⟨⟨t165, t166⟩, A160, H⟩ := H
     replace H : ((some (([wrap64 (1 + t165), 99, 0] : List Int) : List Int)).bind fun y167 => ((spec_l1Rd_below.f s0_0 t166 3).bind fun bt170 => (if 0 ≤ bt170.1 then (if bt170.1 < (y167.length : Int) then ((spec_l1Rd_below.f s0_0 bt170.2 60).bind fun bt173 => (if (rd y167 bt170.1) = 0 then (spec_l1Rd_sky.j1 kj3 a1 s0_0 bt173.2 (rd y167 bt170.1) 0 t158 t159 t160 t161) else (spec_l1Rd_sky.j1 kj3 a1 s0_0 bt173.2 (rd y167 bt170.1) (wrap64 (1 + bt173.1)) t158 t159 t160 t161))) else (none)) else (none)))) = some (r1, r2, r3, r4, r5, r6, r7) := H
     have A16 := Aside0.mk A160
     clear A160
     obtain ⟨y167, hy167⟩ : ∃ y_ : List Int, y_ = (([wrap64 (1 + t165), 99, 0] : List Int)) := ⟨_, rfl⟩
     replace H : ((spec_l1Rd_below.f s0_0 t166 3).bind fun bt170 => (if 0 ≤ bt170.1 then (if bt170.1 < (y167.length : Int) then ((spec_l1Rd_below.f s0_0 bt170.2 60).bind fun bt173 => (if (rd y167 bt170.1) = 0 then (spec_l1Rd_sky.j1 kj3 a1 s0_0 bt173.2 (rd y167 bt170.1) 0 t158 t159 t160 t161) else (spec_l1Rd_sky.j1 kj3 a1 s0_0 bt173.2 (rd y167 bt170.1) (wrap64 (1 + bt173.1)) t158 t159 t160 t161))) else (none)) else (none))) = some (r1, r2, r3, r4, r5, r6, r7) := by first | (rw [hy167]; with_reducible exact H) | (have H2_ := (Option.bind_some _ _).symm.trans H; rw [hy167]; with_reducible exact H2_) | (have H2_ := (Option.bind_some _ _).symm.trans H; with_reducible exact H2_) | with_reducible exact H | (rw [hy167]; exact H) | exact H
     have Ny167 := Aside0.mk hy167
     clear hy167
     replace H := Option.bind_eq_some_iff.mp H
     obtain ⟨⟨t170, t171⟩, A170, H⟩ := H
     replace H : (if 0 ≤ t170 then (if t170 < (y167.length : Int) then ((spec_l1Rd_below.f s0_0 t171 60).bind fun bt173 => (if (rd y167 t170) = 0 then (spec_l1Rd_sky.j1 kj3 a1 s0_0 bt173.2 (rd y167 t170) 0 t158 t159 t160 t161) else (spec_l1Rd_sky.j1 kj3 a1 s0_0 bt173.2 (rd y167 t170) (wrap64 (1 + bt173.1)) t158 t159 t160 t161))) else (none)) else (none)) = some (r1, r2, r3, r4, r5, r6, r7) := H
     have A17 := Aside0.mk A170
     clear A170
     by_cases c18 : 0 ≤ t170
     ·rw [if_pos c18] at H
      have c18b0 : decide (0 ≤ t170) = true := decide_eq_true c18
      clear c18
      (first | rw [c18b0] | (simp only [i64_w, i32_w]; rw [c18b0]) | skip)
      by_cases c19 : t170 < (y167.length : Int)
      ·rw [if_pos c19] at H
       have c19b0 : decide (t170 < (y167.length : Int)) = true := decide_eq_true c19
       clear c19
       replace H := Option.bind_eq_some_iff.mp H
       obtain ⟨⟨t173, t174⟩, A200, H⟩ := H
       replace H : (if (rd y167 t170) = 0 then (spec_l1Rd_sky.j1 kj3 a1 s0_0 t174 (rd y167 t170) 0 t158 t159 t160 t161) else (spec_l1Rd_sky.j1 kj3 a1 s0_0 t174 (rd y167 t170) (wrap64 (1 + t173)) t158 t159 t160 t161)) = some (r1, r2, r3, r4, r5, r6, r7) := H
       have A20 := Aside0.mk A200
       clear A200
       by_cases c21 : (rd y167 t170) = 0
       ·rw [if_pos c21] at H
        have c21b0 : ((rd y167 t170) == 0) = true := beq_iff_eq.mpr c21
        have c21b1 : ((rd y167 t170) != 0) = false := bne_eq_false_iff_eq.mpr c21
        clear c21
        have H' := Aside0.mk H
        clear H
        go_wp2_with (first | ((with_reducible refine gate_callee (f := 25) rfl ?_); refine goesL_ (some 13) rfl rfl Tryd.func25 (by kernel_rfl) rfl #[.pointer (some ⟨g, 0, none⟩), .int .i64 36] rfl (by (try simp only [lM, lC, lN]); first | done | rfl | (simp only [lD, lT]; rfl)) ?_; (with_reducible refine (spec_l1Rd_below.calls g s0_0 x1001_3 36 t165 t166 w0 _ ?side1 ?side2 A16.out).mono ?_); (case side1 => repeat (first | (with_reducible first | exact HI0.out | apply IsS46.alloc | apply IsS46.drewN | apply IsS46.drew | apply IsS46.set_1 | apply IsS46.far (hne := NB0_155.out) | apply IsS46.far (hne := NB0_162.out)) | exact HI0.out)); (case side2 => repeat (first | (with_reducible first | exact HB.out | apply wA | apply wN | apply wD | refine bS ?_ (IsS46.ge HI0.out) | refine bS ?_ GE155.out | refine bS ?_ GE162.out) | exact HB.out)); rintro e w22 ⟨rfl, hi, hb, hk⟩; refine ⟨_, rfl, ?_⟩; have n0_ := A0 (KeepBut.blk hk (g' := gb155) (o := .cells #[.int .i64 0, .int .i64 0, .int .i64 0, .string (⟨#[]⟩ : ByteArray), .string (⟨#[]⟩ : ByteArray), .int .i64 0] 25 (0, 0)) (by (with_reducible repeat (first | refine bN ?_ _ | refine bD ?_ | refine bA ?_ _)); exact BK155.out) NB155_0.out (by simp)); have n1_ := A0 (KeepBut.blk hk (g' := gb162) (o := .cells #[.int .i64 t156, .int .i64 t157, .int .i64 t158, .string t159, .string t160, .int .i64 t161] 25 (0, 0)) (by (with_reducible repeat (first | refine bN ?_ _ | refine bD ?_ | refine bA ?_ _)); exact BK162.out) NB162_0.out (by simp)); have n2_ := A0 (KeepBut.trans (by repeat (first | (with_reducible first | exact HK.out | apply KeepBut.set_ | apply keep_drewN | apply keep_drew | apply keep_alloc | refine keep_far ?_ GW155.out _ | refine keep_far ?_ GW162.out _) | exact HK.out)) hk (.inl rfl)); have n3_ := A0 (hb); have n4_ := A0 (hi); clear BK155; clear BK162; clear HK; clear HB; clear HI0; have BK155 := n0_; have BK162 := n1_; have HK := n2_; have HB := n3_; have HI0 := n4_; clear n0_ n1_ n2_ n3_ n4_; (try clear hb); (try clear hb2); (try clear hk); (try clear hi)) | ((with_reducible refine gate_dst (N := 15) rfl ?_); refine Kd.R_lit (Kd.int .i64) _ 2 ?hg (N := 15) ?hd (xs := ([wrap64 (1 + t165), 99, 0] : List Int)) (inner := [.int .i64 (wrap64 (1 + t165)), .int .i64 99, .int .i64 0]) (ok := fun _ => True) (okp := fun _ => True) ?hr ?hp (fun _ hk => hk) trivial (Below.refl _ _) (Nat.le_refl _) (by simp) ?_; (case hd => rfl); (case hg => rfl); (case hr => first | (go_simp; done) | (go_simp; rfl)); (case hp => exact (Reps.one (show Kd.M (Kd.int .i64) _ _ _ (wrap64 (1 + t165)) [.int .i64 (wrap64 (1 + t165))] from rfl) (Reps.one (show Kd.M (Kd.int .i64) _ _ _ 99 [.int .i64 99] from rfl) (Reps.one (show Kd.M (Kd.int .i64) _ _ _ 0 [.int .i64 0] from rfl) (Reps.none _ _))))); intro v168 w23 ho24 hb hg_ hnew_; clear hg_ hnew_; (first | rw [← Ny167.out] at ho24 | (simp only [Int.reduceToNat] at ho24; rw [← Ny167.out] at ho24)); have n0_ := A0 (Kd.R_lower ho24 (keep_size (w := w) (g := g) (row := none) (by repeat (first | (with_reducible first | exact HK.out | apply KeepBut.set_ | apply keep_drewN | apply keep_drew | apply keep_alloc | refine keep_far ?_ GW155.out _ | refine keep_far ?_ GW162.out _) | exact HK.out)))); have n1_ := A0 (blk_below (g := gb155) (o := .cells #[.int .i64 0, .int .i64 0, .int .i64 0, .string (⟨#[]⟩ : ByteArray), .string (⟨#[]⟩ : ByteArray), .int .i64 0] 25 (0, 0)) (by (with_reducible repeat (first | refine bN ?_ _ | refine bD ?_ | refine bA ?_ _)); exact BK155.out) hb); have n2_ := A0 (blk_below (g := gb162) (o := .cells #[.int .i64 t156, .int .i64 t157, .int .i64 t158, .string t159, .string t160, .int .i64 t161] 25 (0, 0)) (by (with_reducible repeat (first | refine bN ?_ _ | refine bD ?_ | refine bA ?_ _)); exact BK162.out) hb); have n3_ := A0 (IsS46.below (by repeat (first | (with_reducible first | exact HI0.out | apply IsS46.alloc | apply IsS46.drewN | apply IsS46.drew | apply IsS46.set_1 | apply IsS46.far (hne := NB0_155.out) | apply IsS46.far (hne := NB0_162.out)) | exact HI0.out)) hb); have n4_ := A0 (KeepBut.trans (by repeat (first | (with_reducible first | exact HK.out | apply KeepBut.set_ | apply keep_drewN | apply keep_drew | apply keep_alloc | refine keep_far ?_ GW155.out _ | refine keep_far ?_ GW162.out _) | exact HK.out)) (KeepBut.of_below hb g none) (.inl rfl)); have n5_ := A0 (below_step (by repeat (first | (with_reducible first | exact HB.out | apply wA | apply wN | apply wD | refine bS ?_ (IsS46.ge HI0.out) | refine bS ?_ GE155.out | refine bS ?_ GE162.out) | exact HB.out)) hb); clear BK155; clear BK162; clear HI0; clear HK; clear HB; have HO169 := n0_; have BK155 := n1_; have BK162 := n2_; have HI0 := n3_; have HK := n4_; have HB := n5_; clear n0_ n1_ n2_ n3_ n4_ n5_; clear hb ho24) | ((with_reducible refine gate_callee (f := 25) rfl ?_); refine goesL_ (some 17) rfl rfl Tryd.func25 (by kernel_rfl) rfl #[.pointer (some ⟨g, 0, none⟩), .int .i64 3] rfl (by (try simp only [lM, lC, lN]); first | done | rfl | (simp only [lD, lT]; rfl)) ?_; (with_reducible refine (spec_l1Rd_below.calls g s0_0 t166 3 t170 t171 w0 _ ?side1 ?side2 A17.out).mono ?_); (case side1 => repeat (first | (with_reducible first | exact HI0.out | apply IsS46.alloc | apply IsS46.drewN | apply IsS46.drew | apply IsS46.set_1 | apply IsS46.far (hne := NB0_155.out) | apply IsS46.far (hne := NB0_162.out)) | exact HI0.out)); (case side2 => repeat (first | (with_reducible first | exact HB.out | apply wA | apply wN | apply wD | refine bS ?_ (IsS46.ge HI0.out) | refine bS ?_ GE155.out | refine bS ?_ GE162.out) | exact HB.out)); rintro e w25 ⟨rfl, hi, hb, hk⟩; refine ⟨_, rfl, ?_⟩; have n0_ := A0 (KeepBut.blk hk (g' := gb155) (o := .cells #[.int .i64 0, .int .i64 0, .int .i64 0, .string (⟨#[]⟩ : ByteArray), .string (⟨#[]⟩ : ByteArray), .int .i64 0] 25 (0, 0)) (by (with_reducible repeat (first | refine bN ?_ _ | refine bD ?_ | refine bA ?_ _)); exact BK155.out) NB155_0.out (by simp)); have n1_ := A0 (KeepBut.blk hk (g' := gb162) (o := .cells #[.int .i64 t156, .int .i64 t157, .int .i64 t158, .string t159, .string t160, .int .i64 t161] 25 (0, 0)) (by (with_reducible repeat (first | refine bN ?_ _ | refine bD ?_ | refine bA ?_ _)); exact BK162.out) NB162_0.out (by simp)); have n2_ := A0 (Kd.R_mono (Kd.R_keep (IsS46.apart (show IsS46 w0 _ g s0_0 t166 from by repeat (first | (with_reducible first | exact HI0.out | apply IsS46.alloc | apply IsS46.drewN | apply IsS46.drew | apply IsS46.set_1 | apply IsS46.far (hne := NB0_155.out) | apply IsS46.far (hne := NB0_162.out)) | exact HI0.out)) (by (with_reducible repeat (first | apply Kd.R_alloc | apply Kd.R_drewN | apply Kd.R_drew)); exact HO169.out) (by decide)) hk (fun _ h => h.2)) (fun _ h => h.1)); have n3_ := A0 (KeepBut.trans (by repeat (first | (with_reducible first | exact HK.out | apply KeepBut.set_ | apply keep_drewN | apply keep_drew | apply keep_alloc | refine keep_far ?_ GW155.out _ | refine keep_far ?_ GW162.out _) | exact HK.out)) hk (.inl rfl)); have n4_ := A0 (hb); have n5_ := A0 (hi); clear BK155; clear BK162; clear HO169; clear HK; clear HB; clear HI0; have BK155 := n0_; have BK162 := n1_; have HO169 := n2_; have HK := n3_; have HB := n4_; have HI0 := n5_; clear n0_ n1_ n2_ n3_ n4_ n5_; (try clear hb); (try clear hb2); (try clear hk); (try clear hi); obtain ⟨Ao26, co26, eo26⟩ := Kd.R_slice HO169.out; subst eo26; have p172 : 0 ≤ (t170 : Int) := of_decide_eq_true (by first | (with_reducible assumption) | assumption); have q172 : t170 < (y167.length : Int) := of_decide_eq_true (by first | (with_reducible assumption) | assumption); obtain ⟨ad172, e172, hx172_0⟩ := Kd.at_int (Kd.R_reads' HO169.out).2.2 t170 p172 q172; cases e172; replace p172 := eq_true p172; replace q172 := eq_true q172; have hnb27 := NB162_155.out; have hnc27 := NB155_162.out; have hnb28 := NB162_0.out; have hnc28 := NB0_162.out; have hcz29_0 : w25.cell? ⟨gb162, 0, none⟩ = some (.int .i64 t156) := bC BK162.out 0 rfl; have hcz29_1 : w25.cell? ⟨gb162, 1, none⟩ = some (.int .i64 t157) := bC BK162.out 1 rfl; have hcz29_2 : w25.cell? ⟨gb162, 2, none⟩ = some (.int .i64 t158) := bC BK162.out 2 rfl; have hcz29_3 : w25.cell? ⟨gb162, 3, none⟩ = some (.string t159) := bC BK162.out 3 rfl; have hcz29_4 : w25.cell? ⟨gb162, 4, none⟩ = some (.string t160) := bC BK162.out 4 rfl; have hcz29_5 : w25.cell? ⟨gb162, 5, none⟩ = some (.int .i64 t161) := bC BK162.out 5 rfl; have hfz29_0 := blk_frozen BK162.out 0; have hfz29_1 := blk_frozen BK162.out 1; have hfz29_2 := blk_frozen BK162.out 2; have hfz29_3 := blk_frozen BK162.out 3; have hfz29_4 := blk_frozen BK162.out 4; have hfz29_5 := blk_frozen BK162.out 5) | ((with_reducible refine gate_callee (f := 25) rfl ?_); refine goesL_ (some 22) rfl rfl Tryd.func25 (by kernel_rfl) rfl #[.pointer (some ⟨g, 0, none⟩), .int .i64 60] rfl (by (try simp only [lM, lC, lN]); first | done | rfl | (simp only [lD, lT]; rfl)) ?_; (with_reducible refine (spec_l1Rd_below.calls g s0_0 t171 60 t173 t174 w0 _ ?side1 ?side2 A20.out).mono ?_); (case side1 => repeat (first | (with_reducible first | exact HI0.out | apply IsS46.alloc | apply IsS46.drewN | apply IsS46.drew | apply IsS46.set_1 | apply IsS46.far (hne := NB0_155.out) | apply IsS46.far (hne := NB0_162.out)) | exact HI0.out)); (case side2 => repeat (first | (with_reducible first | exact HB.out | apply wA | apply wN | apply wD | refine bS ?_ (IsS46.ge HI0.out) | refine bS ?_ GE155.out | refine bS ?_ GE162.out) | exact HB.out)); rintro e w30 ⟨rfl, hi, hb, hk⟩; refine ⟨_, rfl, ?_⟩; have n0_ := A0 (KeepBut.blk hk (g' := gb155) (o := .cells #[.int .i64 0, .int .i64 0, .int .i64 0, .string (⟨#[]⟩ : ByteArray), .string (⟨#[]⟩ : ByteArray), .int .i64 0] 25 (0, 0)) (by (with_reducible repeat (first | refine bN ?_ _ | refine bD ?_ | refine bA ?_ _)); refine blk_far ?_ NB155_162.out _; (with_reducible repeat (first | refine bN ?_ _ | refine bD ?_ | refine bA ?_ _)); exact BK155.out) NB155_0.out (by simp)); have n1_ := A0 (KeepBut.blk hk (g' := gb162) (o := .cells #[.int .i64 (rd y167 t170), .int .i64 t157, .int .i64 t158, .string t159, .string t160, .int .i64 t161] 25 (0, 0)) (by (with_reducible repeat (first | refine bN ?_ _ | refine bD ?_ | refine bA ?_ _)); refine blk_put (cs := #[.int .i64 t156, .int .i64 t157, .int .i64 t158, .string t159, .string t160, .int .i64 t161]) ?_ 0 _ rfl; (with_reducible repeat (first | refine bN ?_ _ | refine bD ?_ | refine bA ?_ _)); exact BK162.out) NB162_0.out (by simp)); have n2_ := A0 (Kd.R_mono (Kd.R_keep (IsS46.apart (show IsS46 w0 _ g s0_0 t171 from by repeat (first | (with_reducible first | exact HI0.out | apply IsS46.alloc | apply IsS46.drewN | apply IsS46.drew | apply IsS46.set_1 | apply IsS46.far (hne := NB0_155.out) | apply IsS46.far (hne := NB0_162.out)) | exact HI0.out)) (by (with_reducible repeat (first | apply Kd.R_alloc | apply Kd.R_drewN | apply Kd.R_drew)); exact (Kd.R_mono (Kd.R_far (p := ⟨gb162, 0, none⟩) (Kd.R_types HO169.out BK162.out (by decide)) (fun _ hk => hk.2) (.int .i64 (rd y167 t170))) (fun _ h_ => h_.1))) (by decide)) hk (fun _ h => h.2)) (fun _ h => h.1)); have n3_ := A0 (KeepBut.trans (by repeat (first | (with_reducible first | exact HK.out | apply KeepBut.set_ | apply keep_drewN | apply keep_drew | apply keep_alloc | refine keep_far ?_ GW155.out _ | refine keep_far ?_ GW162.out _) | exact HK.out)) hk (.inl rfl)); have n4_ := A0 (hb); have n5_ := A0 (hi); clear BK155; clear BK162; clear HO169; clear HK; clear HB; clear HI0; have BK155 := n0_; have BK162 := n1_; have HO169 := n2_; have HK := n3_; have HB := n4_; have HI0 := n5_; clear n0_ n1_ n2_ n3_ n4_ n5_; (try clear hb); (try clear hb2); (try clear hk); (try clear hi); have hcz31_0 : w30.cell? ⟨gb162, 0, none⟩ = some (.int .i64 (rd y167 t170)) := bC BK162.out 0 rfl; have hcz31_1 : w30.cell? ⟨gb162, 1, none⟩ = some (.int .i64 t157) := bC BK162.out 1 rfl; have hcz31_2 : w30.cell? ⟨gb162, 2, none⟩ = some (.int .i64 t158) := bC BK162.out 2 rfl; have hcz31_3 : w30.cell? ⟨gb162, 3, none⟩ = some (.string t159) := bC BK162.out 3 rfl; have hcz31_4 : w30.cell? ⟨gb162, 4, none⟩ = some (.string t160) := bC BK162.out 4 rfl; have hcz31_5 : w30.cell? ⟨gb162, 5, none⟩ = some (.int .i64 t161) := bC BK162.out 5 rfl; have hfz31_0 := blk_frozen BK162.out 0; have hfz31_1 := blk_frozen BK162.out 1; have hfz31_2 := blk_frozen BK162.out 2; have hfz31_3 := blk_frozen BK162.out 3; have hfz31_4 := blk_frozen BK162.out 4; have hfz31_5 := blk_frozen BK162.out 5) | ((with_reducible refine gate_store (t := 2) (p := 24) rfl ?_); refine store_event (t := 2) (p := 24) (v := ?vo_w32) (w1 := (w30.setCell ⟨gb162, 1, none⟩ (.int .i64 (wrap64 (1 + t173))))) ?hg ?ho ?hn ?hr ?_; (case ho => rfl); (case hg => rfl); (case hn => rfl); (case hr => first | (go_simp; done) | (go_simp; rfl)); intro w32 hw; have n0_ : Aside0 (Kd.R (Kd.int .i64) 2 w32 w.heap.size (fun _ => True) (.slice (some ad172) y167.length co26) y167) := ⟨(by rw [hw]; exact (by (with_reducible repeat (first | apply Kd.R_alloc | apply Kd.R_drewN | apply Kd.R_drew)); exact Kd.R_mono (Kd.R_far (p := ⟨gb162, 1, none⟩) (Kd.R_types HO169.out BK162.out (by decide)) (fun _ hk => hk.2) (.int .i64 (wrap64 (1 + t173)))) (fun _ hk => trivial)))⟩; have n1_ : Aside0 (w32.heap[gb155]? = some (.cells #[.int .i64 0, .int .i64 0, .int .i64 0, .string (⟨#[]⟩ : ByteArray), .string (⟨#[]⟩ : ByteArray), .int .i64 0] 25 (0, 0))) := ⟨(by rw [hw]; exact (by (with_reducible repeat (first | refine bN ?_ _ | refine bD ?_ | refine bA ?_ _)); refine blk_far ?_ NB155_162.out _; (with_reducible repeat (first | refine bN ?_ _ | refine bD ?_ | refine bA ?_ _)); exact BK155.out))⟩; have n2_ : Aside0 (w32.heap[gb162]? = some (.cells #[.int .i64 (rd y167 t170), .int .i64 (wrap64 (1 + t173)), .int .i64 t158, .string t159, .string t160, .int .i64 t161] 25 (0, 0))) := ⟨(by rw [hw]; exact (by (with_reducible repeat (first | refine bN ?_ _ | refine bD ?_ | refine bA ?_ _)); refine blk_put (cs := #[.int .i64 (rd y167 t170), .int .i64 t157, .int .i64 t158, .string t159, .string t160, .int .i64 t161]) ?_ 1 _ rfl; (with_reducible repeat (first | refine bN ?_ _ | refine bD ?_ | refine bA ?_ _)); exact BK162.out))⟩; have n3_ : Aside0 (IsS46 w0 w32 g s0_0 t174) := ⟨(by rw [hw]; exact (by repeat (first | (with_reducible first | exact HI0.out | apply IsS46.alloc | apply IsS46.drewN | apply IsS46.drew | apply IsS46.set_1 | apply IsS46.far (hne := NB0_155.out) | apply IsS46.far (hne := NB0_162.out)) | exact HI0.out)))⟩; have n4_ : Aside0 (KeepBut w w32 g none) := ⟨(by rw [hw]; exact (by repeat (first | (with_reducible first | exact HK.out | apply KeepBut.set_ | apply keep_drewN | apply keep_drew | apply keep_alloc | refine keep_far ?_ GW155.out _ | refine keep_far ?_ GW162.out _) | exact HK.out)))⟩; have n5_ : Aside0 (Below w0.heap.size w0 w32) := ⟨(by rw [hw]; exact (by repeat (first | (with_reducible first | exact HB.out | apply wA | apply wN | apply wD | refine bS ?_ (IsS46.ge HI0.out) | refine bS ?_ GE155.out | refine bS ?_ GE162.out) | exact HB.out)))⟩; clear hw; clear HO169; clear BK155; clear BK162; clear HI0; clear HK; clear HB; have HO169 := n0_; have BK155 := n1_; have BK162 := n2_; have HI0 := n3_; have HK := n4_; have HB := n5_; clear n0_ n1_ n2_ n3_ n4_ n5_; have hcz33_0 : w32.cell? ⟨gb162, 0, none⟩ = some (.int .i64 (rd y167 t170)) := bC BK162.out 0 rfl; have hcz33_1 : w32.cell? ⟨gb162, 1, none⟩ = some (.int .i64 (wrap64 (1 + t173))) := bC BK162.out 1 rfl; have hcz33_2 : w32.cell? ⟨gb162, 2, none⟩ = some (.int .i64 t158) := bC BK162.out 2 rfl; have hcz33_3 : w32.cell? ⟨gb162, 3, none⟩ = some (.string t159) := bC BK162.out 3 rfl; have hcz33_4 : w32.cell? ⟨gb162, 4, none⟩ = some (.string t160) := bC BK162.out 4 rfl; have hcz33_5 : w32.cell? ⟨gb162, 5, none⟩ = some (.int .i64 t161) := bC BK162.out 5 rfl; have hfz33_0 := blk_frozen BK162.out 0; have hfz33_1 := blk_frozen BK162.out 1; have hfz33_2 := blk_frozen BK162.out 2; have hfz33_3 := blk_frozen BK162.out 3; have hfz33_4 := blk_frozen BK162.out 4; have hfz33_5 := blk_frozen BK162.out 5))
        go_meet
        case rel => exact ⟨_, (t174), (rd y167 t170), (0), H', ⟨by have := HJ3.out; first | omega | exact Nat.le_refl _⟩, ⟨by (with_reducible repeat (first | refine bN ?_ _ | refine bD ?_ | refine bA ?_ _)); refine blk_far ?_ NB155_162.out _; (with_reducible repeat (first | refine bN ?_ _ | refine bD ?_ | refine bA ?_ _)); exact BK155.out⟩, ⟨by (with_reducible repeat (first | refine bN ?_ _ | refine bD ?_ | refine bA ?_ _)); refine blk_put (cs := #[.int .i64 (rd y167 t170), .int .i64 (wrap64 (1 + t173)), .int .i64 t158, .string t159, .string t160, .int .i64 t161]) ?_ 1 _ rfl; (with_reducible repeat (first | refine bN ?_ _ | refine bD ?_ | refine bA ?_ _)); exact BK162.out⟩, ⟨by repeat (first | (with_reducible first | exact HI0.out | apply IsS46.alloc | apply IsS46.drewN | apply IsS46.drew | apply IsS46.set_1 | apply IsS46.far (hne := NB0_155.out) | apply IsS46.far (hne := NB0_162.out)) | exact HI0.out)⟩, ⟨by repeat (first | (with_reducible first | exact HK.out | apply KeepBut.set_ | apply keep_drewN | apply keep_drew | apply keep_alloc | refine keep_far ?_ GW155.out _ | refine keep_far ?_ GW162.out _) | exact HK.out)⟩, ⟨by repeat (first | (with_reducible first | exact HB.out | apply wA | apply wN | apply wD | refine bS ?_ (IsS46.ge HI0.out) | refine bS ?_ GE155.out | refine bS ?_ GE162.out) | exact HB.out)⟩⟩
       ·rw [if_neg c21] at H
        have c21b0 : ((rd y167 t170) == 0) = false := beq_eq_false_iff_ne.mpr c21
        have c21b1 : ((rd y167 t170) != 0) = true := bne_iff_ne.mpr c21
        have H' := Aside0.mk H
        clear H
        go_wp2_with (first | ((with_reducible refine gate_callee (f := 25) rfl ?_); refine goesL_ (some 13) rfl rfl Tryd.func25 (by kernel_rfl) rfl #[.pointer (some ⟨g, 0, none⟩), .int .i64 36] rfl (by (try simp only [lM, lC, lN]); first | done | rfl | (simp only [lD, lT]; rfl)) ?_; (with_reducible refine (spec_l1Rd_below.calls g s0_0 x1001_3 36 t165 t166 w0 _ ?side1 ?side2 A16.out).mono ?_); (case side1 => repeat (first | (with_reducible first | exact HI0.out | apply IsS46.alloc | apply IsS46.drewN | apply IsS46.drew | apply IsS46.set_1 | apply IsS46.far (hne := NB0_155.out) | apply IsS46.far (hne := NB0_162.out)) | exact HI0.out)); (case side2 => repeat (first | (with_reducible first | exact HB.out | apply wA | apply wN | apply wD | refine bS ?_ (IsS46.ge HI0.out) | refine bS ?_ GE155.out | refine bS ?_ GE162.out) | exact HB.out)); rintro e w34 ⟨rfl, hi, hb, hk⟩; refine ⟨_, rfl, ?_⟩; have n0_ := A0 (KeepBut.blk hk (g' := gb155) (o := .cells #[.int .i64 0, .int .i64 0, .int .i64 0, .string (⟨#[]⟩ : ByteArray), .string (⟨#[]⟩ : ByteArray), .int .i64 0] 25 (0, 0)) (by (with_reducible repeat (first | refine bN ?_ _ | refine bD ?_ | refine bA ?_ _)); exact BK155.out) NB155_0.out (by simp)); have n1_ := A0 (KeepBut.blk hk (g' := gb162) (o := .cells #[.int .i64 t156, .int .i64 t157, .int .i64 t158, .string t159, .string t160, .int .i64 t161] 25 (0, 0)) (by (with_reducible repeat (first | refine bN ?_ _ | refine bD ?_ | refine bA ?_ _)); exact BK162.out) NB162_0.out (by simp)); have n2_ := A0 (KeepBut.trans (by repeat (first | (with_reducible first | exact HK.out | apply KeepBut.set_ | apply keep_drewN | apply keep_drew | apply keep_alloc | refine keep_far ?_ GW155.out _ | refine keep_far ?_ GW162.out _) | exact HK.out)) hk (.inl rfl)); have n3_ := A0 (hb); have n4_ := A0 (hi); clear BK155; clear BK162; clear HK; clear HB; clear HI0; have BK155 := n0_; have BK162 := n1_; have HK := n2_; have HB := n3_; have HI0 := n4_; clear n0_ n1_ n2_ n3_ n4_; (try clear hb); (try clear hb2); (try clear hk); (try clear hi)) | ((with_reducible refine gate_dst (N := 15) rfl ?_); refine Kd.R_lit (Kd.int .i64) _ 2 ?hg (N := 15) ?hd (xs := ([wrap64 (1 + t165), 99, 0] : List Int)) (inner := [.int .i64 (wrap64 (1 + t165)), .int .i64 99, .int .i64 0]) (ok := fun _ => True) (okp := fun _ => True) ?hr ?hp (fun _ hk => hk) trivial (Below.refl _ _) (Nat.le_refl _) (by simp) ?_; (case hd => rfl); (case hg => rfl); (case hr => first | (go_simp; done) | (go_simp; rfl)); (case hp => exact (Reps.one (show Kd.M (Kd.int .i64) _ _ _ (wrap64 (1 + t165)) [.int .i64 (wrap64 (1 + t165))] from rfl) (Reps.one (show Kd.M (Kd.int .i64) _ _ _ 99 [.int .i64 99] from rfl) (Reps.one (show Kd.M (Kd.int .i64) _ _ _ 0 [.int .i64 0] from rfl) (Reps.none _ _))))); intro v168 w35 ho36 hb hg_ hnew_; clear hg_ hnew_; (first | rw [← Ny167.out] at ho36 | (simp only [Int.reduceToNat] at ho36; rw [← Ny167.out] at ho36)); have n0_ := A0 (Kd.R_lower ho36 (keep_size (w := w) (g := g) (row := none) (by repeat (first | (with_reducible first | exact HK.out | apply KeepBut.set_ | apply keep_drewN | apply keep_drew | apply keep_alloc | refine keep_far ?_ GW155.out _ | refine keep_far ?_ GW162.out _) | exact HK.out)))); have n1_ := A0 (blk_below (g := gb155) (o := .cells #[.int .i64 0, .int .i64 0, .int .i64 0, .string (⟨#[]⟩ : ByteArray), .string (⟨#[]⟩ : ByteArray), .int .i64 0] 25 (0, 0)) (by (with_reducible repeat (first | refine bN ?_ _ | refine bD ?_ | refine bA ?_ _)); exact BK155.out) hb); have n2_ := A0 (blk_below (g := gb162) (o := .cells #[.int .i64 t156, .int .i64 t157, .int .i64 t158, .string t159, .string t160, .int .i64 t161] 25 (0, 0)) (by (with_reducible repeat (first | refine bN ?_ _ | refine bD ?_ | refine bA ?_ _)); exact BK162.out) hb); have n3_ := A0 (IsS46.below (by repeat (first | (with_reducible first | exact HI0.out | apply IsS46.alloc | apply IsS46.drewN | apply IsS46.drew | apply IsS46.set_1 | apply IsS46.far (hne := NB0_155.out) | apply IsS46.far (hne := NB0_162.out)) | exact HI0.out)) hb); have n4_ := A0 (KeepBut.trans (by repeat (first | (with_reducible first | exact HK.out | apply KeepBut.set_ | apply keep_drewN | apply keep_drew | apply keep_alloc | refine keep_far ?_ GW155.out _ | refine keep_far ?_ GW162.out _) | exact HK.out)) (KeepBut.of_below hb g none) (.inl rfl)); have n5_ := A0 (below_step (by repeat (first | (with_reducible first | exact HB.out | apply wA | apply wN | apply wD | refine bS ?_ (IsS46.ge HI0.out) | refine bS ?_ GE155.out | refine bS ?_ GE162.out) | exact HB.out)) hb); clear BK155; clear BK162; clear HI0; clear HK; clear HB; have HO169 := n0_; have BK155 := n1_; have BK162 := n2_; have HI0 := n3_; have HK := n4_; have HB := n5_; clear n0_ n1_ n2_ n3_ n4_ n5_; clear hb ho36) | ((with_reducible refine gate_callee (f := 25) rfl ?_); refine goesL_ (some 17) rfl rfl Tryd.func25 (by kernel_rfl) rfl #[.pointer (some ⟨g, 0, none⟩), .int .i64 3] rfl (by (try simp only [lM, lC, lN]); first | done | rfl | (simp only [lD, lT]; rfl)) ?_; (with_reducible refine (spec_l1Rd_below.calls g s0_0 t166 3 t170 t171 w0 _ ?side1 ?side2 A17.out).mono ?_); (case side1 => repeat (first | (with_reducible first | exact HI0.out | apply IsS46.alloc | apply IsS46.drewN | apply IsS46.drew | apply IsS46.set_1 | apply IsS46.far (hne := NB0_155.out) | apply IsS46.far (hne := NB0_162.out)) | exact HI0.out)); (case side2 => repeat (first | (with_reducible first | exact HB.out | apply wA | apply wN | apply wD | refine bS ?_ (IsS46.ge HI0.out) | refine bS ?_ GE155.out | refine bS ?_ GE162.out) | exact HB.out)); rintro e w37 ⟨rfl, hi, hb, hk⟩; refine ⟨_, rfl, ?_⟩; have n0_ := A0 (KeepBut.blk hk (g' := gb155) (o := .cells #[.int .i64 0, .int .i64 0, .int .i64 0, .string (⟨#[]⟩ : ByteArray), .string (⟨#[]⟩ : ByteArray), .int .i64 0] 25 (0, 0)) (by (with_reducible repeat (first | refine bN ?_ _ | refine bD ?_ | refine bA ?_ _)); exact BK155.out) NB155_0.out (by simp)); have n1_ := A0 (KeepBut.blk hk (g' := gb162) (o := .cells #[.int .i64 t156, .int .i64 t157, .int .i64 t158, .string t159, .string t160, .int .i64 t161] 25 (0, 0)) (by (with_reducible repeat (first | refine bN ?_ _ | refine bD ?_ | refine bA ?_ _)); exact BK162.out) NB162_0.out (by simp)); have n2_ := A0 (Kd.R_mono (Kd.R_keep (IsS46.apart (show IsS46 w0 _ g s0_0 t166 from by repeat (first | (with_reducible first | exact HI0.out | apply IsS46.alloc | apply IsS46.drewN | apply IsS46.drew | apply IsS46.set_1 | apply IsS46.far (hne := NB0_155.out) | apply IsS46.far (hne := NB0_162.out)) | exact HI0.out)) (by (with_reducible repeat (first | apply Kd.R_alloc | apply Kd.R_drewN | apply Kd.R_drew)); exact HO169.out) (by decide)) hk (fun _ h => h.2)) (fun _ h => h.1)); have n3_ := A0 (KeepBut.trans (by repeat (first | (with_reducible first | exact HK.out | apply KeepBut.set_ | apply keep_drewN | apply keep_drew | apply keep_alloc | refine keep_far ?_ GW155.out _ | refine keep_far ?_ GW162.out _) | exact HK.out)) hk (.inl rfl)); have n4_ := A0 (hb); have n5_ := A0 (hi); clear BK155; clear BK162; clear HO169; clear HK; clear HB; clear HI0; have BK155 := n0_; have BK162 := n1_; have HO169 := n2_; have HK := n3_; have HB := n4_; have HI0 := n5_; clear n0_ n1_ n2_ n3_ n4_ n5_; (try clear hb); (try clear hb2); (try clear hk); (try clear hi); obtain ⟨Ao38, co38, eo38⟩ := Kd.R_slice HO169.out; subst eo38; have p172 : 0 ≤ (t170 : Int) := of_decide_eq_true (by first | (with_reducible assumption) | assumption); have q172 : t170 < (y167.length : Int) := of_decide_eq_true (by first | (with_reducible assumption) | assumption); obtain ⟨ad172, e172, hx172_0⟩ := Kd.at_int (Kd.R_reads' HO169.out).2.2 t170 p172 q172; cases e172; replace p172 := eq_true p172; replace q172 := eq_true q172; have hnb39 := NB162_155.out; have hnc39 := NB155_162.out; have hnb40 := NB162_0.out; have hnc40 := NB0_162.out; have hcz41_0 : w37.cell? ⟨gb162, 0, none⟩ = some (.int .i64 t156) := bC BK162.out 0 rfl; have hcz41_1 : w37.cell? ⟨gb162, 1, none⟩ = some (.int .i64 t157) := bC BK162.out 1 rfl; have hcz41_2 : w37.cell? ⟨gb162, 2, none⟩ = some (.int .i64 t158) := bC BK162.out 2 rfl; have hcz41_3 : w37.cell? ⟨gb162, 3, none⟩ = some (.string t159) := bC BK162.out 3 rfl; have hcz41_4 : w37.cell? ⟨gb162, 4, none⟩ = some (.string t160) := bC BK162.out 4 rfl; have hcz41_5 : w37.cell? ⟨gb162, 5, none⟩ = some (.int .i64 t161) := bC BK162.out 5 rfl; have hfz41_0 := blk_frozen BK162.out 0; have hfz41_1 := blk_frozen BK162.out 1; have hfz41_2 := blk_frozen BK162.out 2; have hfz41_3 := blk_frozen BK162.out 3; have hfz41_4 := blk_frozen BK162.out 4; have hfz41_5 := blk_frozen BK162.out 5) | ((with_reducible refine gate_callee (f := 25) rfl ?_); refine goesL_ (some 22) rfl rfl Tryd.func25 (by kernel_rfl) rfl #[.pointer (some ⟨g, 0, none⟩), .int .i64 60] rfl (by (try simp only [lM, lC, lN]); first | done | rfl | (simp only [lD, lT]; rfl)) ?_; (with_reducible refine (spec_l1Rd_below.calls g s0_0 t171 60 t173 t174 w0 _ ?side1 ?side2 A20.out).mono ?_); (case side1 => repeat (first | (with_reducible first | exact HI0.out | apply IsS46.alloc | apply IsS46.drewN | apply IsS46.drew | apply IsS46.set_1 | apply IsS46.far (hne := NB0_155.out) | apply IsS46.far (hne := NB0_162.out)) | exact HI0.out)); (case side2 => repeat (first | (with_reducible first | exact HB.out | apply wA | apply wN | apply wD | refine bS ?_ (IsS46.ge HI0.out) | refine bS ?_ GE155.out | refine bS ?_ GE162.out) | exact HB.out)); rintro e w42 ⟨rfl, hi, hb, hk⟩; refine ⟨_, rfl, ?_⟩; have n0_ := A0 (KeepBut.blk hk (g' := gb155) (o := .cells #[.int .i64 0, .int .i64 0, .int .i64 0, .string (⟨#[]⟩ : ByteArray), .string (⟨#[]⟩ : ByteArray), .int .i64 0] 25 (0, 0)) (by (with_reducible repeat (first | refine bN ?_ _ | refine bD ?_ | refine bA ?_ _)); refine blk_far ?_ NB155_162.out _; (with_reducible repeat (first | refine bN ?_ _ | refine bD ?_ | refine bA ?_ _)); exact BK155.out) NB155_0.out (by simp)); have n1_ := A0 (KeepBut.blk hk (g' := gb162) (o := .cells #[.int .i64 (rd y167 t170), .int .i64 t157, .int .i64 t158, .string t159, .string t160, .int .i64 t161] 25 (0, 0)) (by (with_reducible repeat (first | refine bN ?_ _ | refine bD ?_ | refine bA ?_ _)); refine blk_put (cs := #[.int .i64 t156, .int .i64 t157, .int .i64 t158, .string t159, .string t160, .int .i64 t161]) ?_ 0 _ rfl; (with_reducible repeat (first | refine bN ?_ _ | refine bD ?_ | refine bA ?_ _)); exact BK162.out) NB162_0.out (by simp)); have n2_ := A0 (Kd.R_mono (Kd.R_keep (IsS46.apart (show IsS46 w0 _ g s0_0 t171 from by repeat (first | (with_reducible first | exact HI0.out | apply IsS46.alloc | apply IsS46.drewN | apply IsS46.drew | apply IsS46.set_1 | apply IsS46.far (hne := NB0_155.out) | apply IsS46.far (hne := NB0_162.out)) | exact HI0.out)) (by (with_reducible repeat (first | apply Kd.R_alloc | apply Kd.R_drewN | apply Kd.R_drew)); exact (Kd.R_mono (Kd.R_far (p := ⟨gb162, 0, none⟩) (Kd.R_types HO169.out BK162.out (by decide)) (fun _ hk => hk.2) (.int .i64 (rd y167 t170))) (fun _ h_ => h_.1))) (by decide)) hk (fun _ h => h.2)) (fun _ h => h.1)); have n3_ := A0 (KeepBut.trans (by repeat (first | (with_reducible first | exact HK.out | apply KeepBut.set_ | apply keep_drewN | apply keep_drew | apply keep_alloc | refine keep_far ?_ GW155.out _ | refine keep_far ?_ GW162.out _) | exact HK.out)) hk (.inl rfl)); have n4_ := A0 (hb); have n5_ := A0 (hi); clear BK155; clear BK162; clear HO169; clear HK; clear HB; clear HI0; have BK155 := n0_; have BK162 := n1_; have HO169 := n2_; have HK := n3_; have HB := n4_; have HI0 := n5_; clear n0_ n1_ n2_ n3_ n4_ n5_; (try clear hb); (try clear hb2); (try clear hk); (try clear hi); have hcz43_0 : w42.cell? ⟨gb162, 0, none⟩ = some (.int .i64 (rd y167 t170)) := bC BK162.out 0 rfl; have hcz43_1 : w42.cell? ⟨gb162, 1, none⟩ = some (.int .i64 t157) := bC BK162.out 1 rfl; have hcz43_2 : w42.cell? ⟨gb162, 2, none⟩ = some (.int .i64 t158) := bC BK162.out 2 rfl; have hcz43_3 : w42.cell? ⟨gb162, 3, none⟩ = some (.string t159) := bC BK162.out 3 rfl; have hcz43_4 : w42.cell? ⟨gb162, 4, none⟩ = some (.string t160) := bC BK162.out 4 rfl; have hcz43_5 : w42.cell? ⟨gb162, 5, none⟩ = some (.int .i64 t161) := bC BK162.out 5 rfl; have hfz43_0 := blk_frozen BK162.out 0; have hfz43_1 := blk_frozen BK162.out 1; have hfz43_2 := blk_frozen BK162.out 2; have hfz43_3 := blk_frozen BK162.out 3; have hfz43_4 := blk_frozen BK162.out 4; have hfz43_5 := blk_frozen BK162.out 5))
        go_meet
        case rel => exact ⟨_, (t174), (rd y167 t170), (wrap64 (1 + t173)), H', ⟨by have := HJ3.out; first | omega | exact Nat.le_refl _⟩, ⟨by (with_reducible repeat (first | refine bN ?_ _ | refine bD ?_ | refine bA ?_ _)); refine blk_far ?_ NB155_162.out _; (with_reducible repeat (first | refine bN ?_ _ | refine bD ?_ | refine bA ?_ _)); exact BK155.out⟩, ⟨by (with_reducible repeat (first | refine bN ?_ _ | refine bD ?_ | refine bA ?_ _)); refine blk_put (cs := #[.int .i64 (rd y167 t170), .int .i64 t157, .int .i64 t158, .string t159, .string t160, .int .i64 t161]) ?_ 1 _ rfl; (with_reducible repeat (first | refine bN ?_ _ | refine bD ?_ | refine bA ?_ _)); exact BK162.out⟩, ⟨by repeat (first | (with_reducible first | exact HI0.out | apply IsS46.alloc | apply IsS46.drewN | apply IsS46.drew | apply IsS46.set_1 | apply IsS46.far (hne := NB0_155.out) | apply IsS46.far (hne := NB0_162.out)) | exact HI0.out)⟩, ⟨by repeat (first | (with_reducible first | exact HK.out | apply KeepBut.set_ | apply keep_drewN | apply keep_drew | apply keep_alloc | refine keep_far ?_ GW155.out _ | refine keep_far ?_ GW162.out _) | exact HK.out)⟩, ⟨by repeat (first | (with_reducible first | exact HB.out | apply wA | apply wN | apply wD | refine bS ?_ (IsS46.ge HI0.out) | refine bS ?_ GE155.out | refine bS ?_ GE162.out) | exact HB.out)⟩⟩
      ·rw [if_neg c19] at H
       exact absurd H (by simp)
     ·rw [if_neg c18] at H
      exact absurd H (by simp)
    ·replace c15 := Bool.eq_false_iff.mpr c15
     subst c15
     have H1 : (spec_l1Rd_sky.j1 kj3 a1 s0_0 x1001_3 t156 t157 t158 t159 t160 t161) = some (r1, r2, r3, r4, r5, r6, r7) := by rw [if_neg (show ¬ (false = true) by decide)] at H; exact H
     clear H
     have H := H1
     clear H1
     have H' := Aside0.mk H
     clear H
     go_wp2
     go_meet
     case rel => exact ⟨_, (x1001_3), (t156), (t157), H', ⟨by have := HJ3.out; first | omega | exact Nat.le_refl _⟩, ⟨by (with_reducible repeat (first | refine bN ?_ _ | refine bD ?_ | refine bA ?_ _)); exact BK155.out⟩, ⟨by (with_reducible repeat (first | refine bN ?_ _ | refine bD ?_ | refine bA ?_ _)); exact BK162.out⟩, ⟨by repeat (first | (with_reducible first | exact HI0.out | apply IsS46.alloc | apply IsS46.drewN | apply IsS46.drew | apply IsS46.set_1 | apply IsS46.far (hne := NB0_155.out) | apply IsS46.far (hne := NB0_162.out)) | exact HI0.out)⟩, ⟨by repeat (first | (with_reducible first | exact HK.out | apply KeepBut.set_ | apply keep_drewN | apply keep_drew | apply keep_alloc | refine keep_far ?_ GW155.out _ | refine keep_far ?_ GW162.out _) | exact HK.out)⟩, ⟨by repeat (first | (with_reducible first | exact HB.out | apply wA | apply wN | apply wD | refine bS ?_ (IsS46.ge HI0.out) | refine bS ?_ GE155.out | refine bS ?_ GE162.out) | exact HB.out)⟩⟩
   case rest =>
    clear HC14
    try clear c1
    try clear p1
    try clear q1
    try clear hx1
    try clear c2
    try clear p2
    try clear c3
    try clear c4
    try clear p6
    try clear c8
    try clear c9
    try clear c11
    try clear c15
    try clear c16
    try clear p17
    try clear q17
    try clear hx17
    try clear c18
    try clear c18b0
    try clear c19
    try clear c19b0
    try clear c21
    try clear c21b0
    try clear c21b1
    try clear c24
    try clear c25
    try clear c27
    try clear c28
    try clear c39
    try clear c40
    try clear hcz10_0
    try clear hcz10_1
    try clear hcz10_2
    try clear hcz10_3
    try clear hcz10_4
    try clear hcz10_5
    try clear hcz29_0
    try clear hcz29_1
    try clear hcz29_2
    try clear hcz29_3
    try clear hcz29_4
    try clear hcz29_5
    try clear hcz31_0
    try clear hcz31_1
    try clear hcz31_2
    try clear hcz31_3
    try clear hcz31_4
    try clear hcz31_5
    try clear hcz33_0
    try clear hcz33_1
    try clear hcz33_2
    try clear hcz33_3
    try clear hcz33_4
    try clear hcz33_5
    try clear hcz41_0
    try clear hcz41_1
    try clear hcz41_2
    try clear hcz41_3
    try clear hcz41_4
    try clear hcz41_5
    try clear hcz43_0
    try clear hcz43_1
    try clear hcz43_2
    try clear hcz43_3
    try clear hcz43_4
    try clear hcz43_5
    try clear hfz10_0
    try clear hfz10_1
    try clear hfz10_2
    try clear hfz10_3
    try clear hfz10_4
    try clear hfz10_5
    try clear hfz29_0
    try clear hfz29_1
    try clear hfz29_2
    try clear hfz29_3
    try clear hfz29_4
    try clear hfz29_5
    try clear hfz31_0
    try clear hfz31_1
    try clear hfz31_2
    try clear hfz31_3
    try clear hfz31_4
    try clear hfz31_5
    try clear hfz33_0
    try clear hfz33_1
    try clear hfz33_2
    try clear hfz33_3
    try clear hfz33_4
    try clear hfz33_5
    try clear hfz41_0
    try clear hfz41_1
    try clear hfz41_2
    try clear hfz41_3
    try clear hfz41_4
    try clear hfz41_5
    try clear hfz43_0
    try clear hfz43_1
    try clear hfz43_2
    try clear hfz43_3
    try clear hfz43_4
    try clear hfz43_5
    try clear hx172_0
    try clear p172
    try clear p2
    try clear q172
    obtain ⟨kq, x1001_13, x163000_13, x163001_13, HA, HJ13, BK155, BK162, HI0, HK, HB⟩ := hcut
    cases kq with
    | zero => exact absurd HA.out (by simp [spec_l1Rd_sky.j1])
    | succ kj13 =>
     have H := HA.out
     clear HA
     simp only [spec_l1Rd_sky.j1] at H
     have HC44 := Aside0.mk H
     clear H
     go_upto_region 7 with (fail)
     go_cut [33] (fun v33 wc => ∃ (kq : Nat) (x33_43 : Bool) (x1001_43 : Int), v33 = .bool x33_43 ∧ Aside0 (spec_l1Rd_sky.j2 kq a1 x33_43 s0_0 x1001_43 x163000_13 x163001_13 t158 t159 t160 t161 = some (r1, r2, r3, r4, r5, r6, r7)) ∧ Aside0 (kq ≤ kj13) ∧ Aside0 (wc.heap[gb155]? = some (.cells #[.int .i64 0, .int .i64 0, .int .i64 0, .string (⟨#[]⟩ : ByteArray), .string (⟨#[]⟩ : ByteArray), .int .i64 0] 25 (0, 0))) ∧ Aside0 (wc.heap[gb162]? = some (.cells #[.int .i64 x163000_13, .int .i64 x163001_13, .int .i64 t158, .string t159, .string t160, .int .i64 t161] 25 (0, 0))) ∧ Aside0 (IsS46 w0 wc g s0_0 x1001_43) ∧ Aside0 (KeepBut w wc g none) ∧ Aside0 (Below w0.heap.size w0 wc))
     case first =>
      have H := HC44.out
      clear HC44
      by_cases c45 : a1 = true
      ·subst c45
       have H1 : (spec_l1Rd_sky.j2 kj13 true true s0_0 x1001_13 x163000_13 x163001_13 t158 t159 t160 t161) = some (r1, r2, r3, r4, r5, r6, r7) := by rw [if_pos rfl] at H; exact H
       clear H
       have H := H1
       clear H1
       have H' := Aside0.mk H
       clear H
       go_wp2
       go_meet
       case rel => exact ⟨_, (true), (x1001_13), (by first | rfl | (simp; done) | (simp [*]; done)), H', ⟨by have := HJ3.out; have := HJ13.out; first | omega | exact Nat.le_refl _⟩, ⟨by (with_reducible repeat (first | refine bN ?_ _ | refine bD ?_ | refine bA ?_ _)); exact BK155.out⟩, ⟨by (with_reducible repeat (first | refine bN ?_ _ | refine bD ?_ | refine bA ?_ _)); exact BK162.out⟩, ⟨by repeat (first | (with_reducible first | exact HI0.out | apply IsS46.alloc | apply IsS46.drewN | apply IsS46.drew | apply IsS46.set_1 | apply IsS46.far (hne := NB0_155.out) | apply IsS46.far (hne := NB0_162.out)) | exact HI0.out)⟩, ⟨by repeat (first | (with_reducible first | exact HK.out | apply KeepBut.set_ | apply keep_drewN | apply keep_drew | apply keep_alloc | refine keep_far ?_ GW155.out _ | refine keep_far ?_ GW162.out _) | exact HK.out)⟩, ⟨by repeat (first | (with_reducible first | exact HB.out | apply wA | apply wN | apply wD | refine bS ?_ (IsS46.ge HI0.out) | refine bS ?_ GE155.out | refine bS ?_ GE162.out) | exact HB.out)⟩⟩
      ·replace c45 := Bool.eq_false_iff.mpr c45
       subst c45
       have H1 : ((spec_l1Rd_once.f s0_0 x1001_13 2).bind fun bt175 => (spec_l1Rd_sky.j2 kj13 false bt175.1 s0_0 bt175.2 x163000_13 x163001_13 t158 t159 t160 t161)) = some (r1, r2, r3, r4, r5, r6, r7) := by rw [if_neg (show ¬ (false = true) by decide)] at H; exact H
       clear H
       have H := H1
       clear H1
       replace H := Option.bind_eq_some_iff.mp H
       obtain ⟨⟨t175, t176⟩, A460, H⟩ := H
       replace H : (spec_l1Rd_sky.j2 kj13 false t175 s0_0 t176 x163000_13 x163001_13 t158 t159 t160 t161) = some (r1, r2, r3, r4, r5, r6, r7) := H
       have A46 := Aside0.mk A460
       clear A460
       have H' := Aside0.mk H
       clear H
       go_wp2_with (first | (go_at_call 17; (with_reducible refine (spec_l1Rd_once.calls g s0_0 x1001_13 2 t175 t176 w0 _ ?side1 ?side2 A46.out).mono ?_); (case side1 => repeat (first | (with_reducible first | exact HI0.out | apply IsS46.alloc | apply IsS46.drewN | apply IsS46.drew | apply IsS46.set_1 | apply IsS46.far (hne := NB0_155.out) | apply IsS46.far (hne := NB0_162.out)) | exact HI0.out)); (case side2 => repeat (first | (with_reducible first | exact HB.out | apply wA | apply wN | apply wD | refine bS ?_ (IsS46.ge HI0.out) | refine bS ?_ GE155.out | refine bS ?_ GE162.out) | exact HB.out)); rintro e w47 ⟨rfl, hi, hb, hk⟩; have n0_ := A0 (KeepBut.blk hk (g' := gb155) (o := .cells #[.int .i64 0, .int .i64 0, .int .i64 0, .string (⟨#[]⟩ : ByteArray), .string (⟨#[]⟩ : ByteArray), .int .i64 0] 25 (0, 0)) (by (with_reducible repeat (first | refine bN ?_ _ | refine bD ?_ | refine bA ?_ _)); exact BK155.out) NB155_0.out (by simp)); have n1_ := A0 (KeepBut.blk hk (g' := gb162) (o := .cells #[.int .i64 x163000_13, .int .i64 x163001_13, .int .i64 t158, .string t159, .string t160, .int .i64 t161] 25 (0, 0)) (by (with_reducible repeat (first | refine bN ?_ _ | refine bD ?_ | refine bA ?_ _)); exact BK162.out) NB162_0.out (by simp)); have n2_ := A0 (KeepBut.trans (by repeat (first | (with_reducible first | exact HK.out | apply KeepBut.set_ | apply keep_drewN | apply keep_drew | apply keep_alloc | refine keep_far ?_ GW155.out _ | refine keep_far ?_ GW162.out _) | exact HK.out)) hk (.inl rfl)); have n3_ := A0 (hb); have n4_ := A0 (hi); clear BK155; clear BK162; clear HK; clear HB; clear HI0; have BK155 := n0_; have BK162 := n1_; have HK := n2_; have HB := n3_; have HI0 := n4_; clear n0_ n1_ n2_ n3_ n4_; (try clear hb); (try clear hb2); (try clear hk); (try clear hi)))
       go_meet
       case rel => exact ⟨_, (t175), (t176), (by first | rfl | (simp; done) | (simp [*]; done)), H', ⟨by have := HJ3.out; have := HJ13.out; first | omega | exact Nat.le_refl _⟩, ⟨by (with_reducible repeat (first | refine bN ?_ _ | refine bD ?_ | refine bA ?_ _)); exact BK155.out⟩, ⟨by (with_reducible repeat (first | refine bN ?_ _ | refine bD ?_ | refine bA ?_ _)); exact BK162.out⟩, ⟨by repeat (first | (with_reducible first | exact HI0.out | apply IsS46.alloc | apply IsS46.drewN | apply IsS46.drew | apply IsS46.set_1 | apply IsS46.far (hne := NB0_155.out) | apply IsS46.far (hne := NB0_162.out)) | exact HI0.out)⟩, ⟨by repeat (first | (with_reducible first | exact HK.out | apply KeepBut.set_ | apply keep_drewN | apply keep_drew | apply keep_alloc | refine keep_far ?_ GW155.out _ | refine keep_far ?_ GW162.out _) | exact HK.out)⟩, ⟨by repeat (first | (with_reducible first | exact HB.out | apply wA | apply wN | apply wD | refine bS ?_ (IsS46.ge HI0.out) | refine bS ?_ GE155.out | refine bS ?_ GE162.out) | exact HB.out)⟩⟩
     case rest =>
      clear HC44
      try clear c1
      try clear p1
      try clear q1
      try clear hx1
      try clear c2
      try clear p2
      try clear c3
      try clear c4
      try clear p6
      try clear c8
      try clear c9
      try clear c11
      try clear c15
      try clear c16
      try clear p17
      try clear q17
      try clear hx17
      try clear c18
      try clear c18b0
      try clear c19
      try clear c19b0
      try clear c21
      try clear c21b0
      try clear c21b1
      try clear c24
      try clear c25
      try clear c27
      try clear c28
      try clear c39
      try clear c40
      try clear c45
      try clear hcz10_0
      try clear hcz10_1
      try clear hcz10_2
      try clear hcz10_3
      try clear hcz10_4
      try clear hcz10_5
      try clear hcz29_0
      try clear hcz29_1
      try clear hcz29_2
      try clear hcz29_3
      try clear hcz29_4
      try clear hcz29_5
      try clear hcz31_0
      try clear hcz31_1
      try clear hcz31_2
      try clear hcz31_3
      try clear hcz31_4
      try clear hcz31_5
      try clear hcz33_0
      try clear hcz33_1
      try clear hcz33_2
      try clear hcz33_3
      try clear hcz33_4
      try clear hcz33_5
      try clear hcz41_0
      try clear hcz41_1
      try clear hcz41_2
      try clear hcz41_3
      try clear hcz41_4
      try clear hcz41_5
      try clear hcz43_0
      try clear hcz43_1
      try clear hcz43_2
      try clear hcz43_3
      try clear hcz43_4
      try clear hcz43_5
      try clear hfz10_0
      try clear hfz10_1
      try clear hfz10_2
      try clear hfz10_3
      try clear hfz10_4
      try clear hfz10_5
      try clear hfz29_0
      try clear hfz29_1
      try clear hfz29_2
      try clear hfz29_3
      try clear hfz29_4
      try clear hfz29_5
      try clear hfz31_0
      try clear hfz31_1
      try clear hfz31_2
      try clear hfz31_3
      try clear hfz31_4
      try clear hfz31_5
      try clear hfz33_0
      try clear hfz33_1
      try clear hfz33_2
      try clear hfz33_3
      try clear hfz33_4
      try clear hfz33_5
      try clear hfz41_0
      try clear hfz41_1
      try clear hfz41_2
      try clear hfz41_3
      try clear hfz41_4
      try clear hfz41_5
      try clear hfz43_0
      try clear hfz43_1
      try clear hfz43_2
      try clear hfz43_3
      try clear hfz43_4
      try clear hfz43_5
      try clear hx172_0
      try clear p1
      try clear p17
      try clear p172
      try clear p2
      try clear p6
      try clear q1
      try clear q17
      try clear q172
      obtain ⟨kq, x33_43, x1001_43, rfl, HA, HJ43, BK155, BK162, HI0, HK, HB⟩ := hcut
      cases kq with
      | zero => exact absurd HA.out (by simp [spec_l1Rd_sky.j2])
      | succ kj43 =>
       have H := HA.out
       clear HA
       simp only [spec_l1Rd_sky.j2] at H
       have HC48 := Aside0.mk H
       clear H
       go_upto_if 33 with (fail)
       go_cut [] (fun wc => ∃ (kq : Nat) (x1001_47 : Int) (x163002_47 : Int), Aside0 (spec_l1Rd_sky.j3 kq a1 s0_0 x1001_47 x163000_13 x163001_13 x163002_47 t159 t160 t161 = some (r1, r2, r3, r4, r5, r6, r7)) ∧ Aside0 (kq ≤ kj43) ∧ Aside0 (wc.heap[gb155]? = some (.cells #[.int .i64 0, .int .i64 0, .int .i64 0, .string (⟨#[]⟩ : ByteArray), .string (⟨#[]⟩ : ByteArray), .int .i64 0] 25 (0, 0))) ∧ Aside0 (wc.heap[gb162]? = some (.cells #[.int .i64 x163000_13, .int .i64 x163001_13, .int .i64 x163002_47, .string t159, .string t160, .int .i64 t161] 25 (0, 0))) ∧ Aside0 (IsS46 w0 wc g s0_0 x1001_47) ∧ Aside0 (KeepBut w wc g none) ∧ Aside0 (Below w0.heap.size w0 wc))
       case first =>
        have H := HC48.out
        clear HC48
        by_cases c49 : x33_43 = true
        ·subst c49
         have H1 : ((spec_l1Rd_below.f s0_0 x1001_43 100).bind fun bt177 => ((spec_l1Rd_once.f s0_0 bt177.2 3).bind fun bt179 => (if bt179.1 = true then (spec_l1Rd_sky.j3 kj43 a1 s0_0 bt179.2 x163000_13 x163001_13 9999 t159 t160 t161) else (spec_l1Rd_sky.j3 kj43 a1 s0_0 bt179.2 x163000_13 x163001_13 (wrap64 (bt177.1 * 100)) t159 t160 t161)))) = some (r1, r2, r3, r4, r5, r6, r7) := by rw [if_pos rfl] at H; exact H
         clear H
         have H := H1
         clear H1
         replace H := Option.bind_eq_some_iff.mp H
         obtain ⟨⟨t177, t178⟩, A500, H⟩ := H
         replace H : ((spec_l1Rd_once.f s0_0 t178 3).bind fun bt179 => (if bt179.1 = true then (spec_l1Rd_sky.j3 kj43 a1 s0_0 bt179.2 x163000_13 x163001_13 9999 t159 t160 t161) else (spec_l1Rd_sky.j3 kj43 a1 s0_0 bt179.2 x163000_13 x163001_13 (wrap64 (t177 * 100)) t159 t160 t161))) = some (r1, r2, r3, r4, r5, r6, r7) := H
         have A50 := Aside0.mk A500
         clear A500
         replace H := Option.bind_eq_some_iff.mp H
         obtain ⟨⟨t179, t180⟩, A510, H⟩ := H
         replace H : (if t179 = true then (spec_l1Rd_sky.j3 kj43 a1 s0_0 t180 x163000_13 x163001_13 9999 t159 t160 t161) else (spec_l1Rd_sky.j3 kj43 a1 s0_0 t180 x163000_13 x163001_13 (wrap64 (t177 * 100)) t159 t160 t161)) = some (r1, r2, r3, r4, r5, r6, r7) := H
         have A51 := Aside0.mk A510
         clear A510
         by_cases c52 : t179 = true
         ·subst c52
          have H1 : (spec_l1Rd_sky.j3 kj43 a1 s0_0 t180 x163000_13 x163001_13 9999 t159 t160 t161) = some (r1, r2, r3, r4, r5, r6, r7) := by rw [if_pos rfl] at H; exact H
          clear H
          have H := H1
          clear H1
          have H' := Aside0.mk H
          clear H
          go_wp2_with (first | ((with_reducible refine gate_callee (f := 25) rfl ?_); refine goesL_ (some 35) rfl rfl Tryd.func25 (by kernel_rfl) rfl #[.pointer (some ⟨g, 0, none⟩), .int .i64 100] rfl (by (try simp only [lM, lC, lN]); first | done | rfl | (simp only [lD, lT]; rfl)) ?_; (with_reducible refine (spec_l1Rd_below.calls g s0_0 x1001_43 100 t177 t178 w0 _ ?side1 ?side2 A50.out).mono ?_); (case side1 => repeat (first | (with_reducible first | exact HI0.out | apply IsS46.alloc | apply IsS46.drewN | apply IsS46.drew | apply IsS46.set_1 | apply IsS46.far (hne := NB0_155.out) | apply IsS46.far (hne := NB0_162.out)) | exact HI0.out)); (case side2 => repeat (first | (with_reducible first | exact HB.out | apply wA | apply wN | apply wD | refine bS ?_ (IsS46.ge HI0.out) | refine bS ?_ GE155.out | refine bS ?_ GE162.out) | exact HB.out)); rintro e w53 ⟨rfl, hi, hb, hk⟩; refine ⟨_, rfl, ?_⟩; have n0_ := A0 (KeepBut.blk hk (g' := gb155) (o := .cells #[.int .i64 0, .int .i64 0, .int .i64 0, .string (⟨#[]⟩ : ByteArray), .string (⟨#[]⟩ : ByteArray), .int .i64 0] 25 (0, 0)) (by (with_reducible repeat (first | refine bN ?_ _ | refine bD ?_ | refine bA ?_ _)); exact BK155.out) NB155_0.out (by simp)); have n1_ := A0 (KeepBut.blk hk (g' := gb162) (o := .cells #[.int .i64 x163000_13, .int .i64 x163001_13, .int .i64 t158, .string t159, .string t160, .int .i64 t161] 25 (0, 0)) (by (with_reducible repeat (first | refine bN ?_ _ | refine bD ?_ | refine bA ?_ _)); exact BK162.out) NB162_0.out (by simp)); have n2_ := A0 (KeepBut.trans (by repeat (first | (with_reducible first | exact HK.out | apply KeepBut.set_ | apply keep_drewN | apply keep_drew | apply keep_alloc | refine keep_far ?_ GW155.out _ | refine keep_far ?_ GW162.out _) | exact HK.out)) hk (.inl rfl)); have n3_ := A0 (hb); have n4_ := A0 (hi); clear BK155; clear BK162; clear HK; clear HB; clear HI0; have BK155 := n0_; have BK162 := n1_; have HK := n2_; have HB := n3_; have HI0 := n4_; clear n0_ n1_ n2_ n3_ n4_; (try clear hb); (try clear hb2); (try clear hk); (try clear hi); have hnb54 := NB162_155.out; have hnc54 := NB155_162.out; have hnb55 := NB162_0.out; have hnc55 := NB0_162.out; have hcz56_0 : w53.cell? ⟨gb162, 0, none⟩ = some (.int .i64 x163000_13) := bC BK162.out 0 rfl; have hcz56_1 : w53.cell? ⟨gb162, 1, none⟩ = some (.int .i64 x163001_13) := bC BK162.out 1 rfl; have hcz56_2 : w53.cell? ⟨gb162, 2, none⟩ = some (.int .i64 t158) := bC BK162.out 2 rfl; have hcz56_3 : w53.cell? ⟨gb162, 3, none⟩ = some (.string t159) := bC BK162.out 3 rfl; have hcz56_4 : w53.cell? ⟨gb162, 4, none⟩ = some (.string t160) := bC BK162.out 4 rfl; have hcz56_5 : w53.cell? ⟨gb162, 5, none⟩ = some (.int .i64 t161) := bC BK162.out 5 rfl; have hfz56_0 := blk_frozen BK162.out 0; have hfz56_1 := blk_frozen BK162.out 1; have hfz56_2 := blk_frozen BK162.out 2; have hfz56_3 := blk_frozen BK162.out 3; have hfz56_4 := blk_frozen BK162.out 4; have hfz56_5 := blk_frozen BK162.out 5) | ((with_reducible refine gate_store (t := 2) (p := 37) rfl ?_); refine store_event (t := 2) (p := 37) (v := ?vo_w57) (w1 := (w53.setCell ⟨gb162, 2, none⟩ (.int .i64 (wrap64 (t177 * 100))))) ?hg ?ho ?hn ?hr ?_; (case ho => rfl); (case hg => rfl); (case hn => rfl); (case hr => first | (go_simp; done) | (go_simp; rfl)); intro w57 hw; have n0_ : Aside0 (w57.heap[gb155]? = some (.cells #[.int .i64 0, .int .i64 0, .int .i64 0, .string (⟨#[]⟩ : ByteArray), .string (⟨#[]⟩ : ByteArray), .int .i64 0] 25 (0, 0))) := ⟨(by rw [hw]; exact (by (with_reducible repeat (first | refine bN ?_ _ | refine bD ?_ | refine bA ?_ _)); refine blk_far ?_ NB155_162.out _; (with_reducible repeat (first | refine bN ?_ _ | refine bD ?_ | refine bA ?_ _)); exact BK155.out))⟩; have n1_ : Aside0 (w57.heap[gb162]? = some (.cells #[.int .i64 x163000_13, .int .i64 x163001_13, .int .i64 (wrap64 (t177 * 100)), .string t159, .string t160, .int .i64 t161] 25 (0, 0))) := ⟨(by rw [hw]; exact (by (with_reducible repeat (first | refine bN ?_ _ | refine bD ?_ | refine bA ?_ _)); refine blk_put (cs := #[.int .i64 x163000_13, .int .i64 x163001_13, .int .i64 t158, .string t159, .string t160, .int .i64 t161]) ?_ 2 _ rfl; (with_reducible repeat (first | refine bN ?_ _ | refine bD ?_ | refine bA ?_ _)); exact BK162.out))⟩; have n2_ : Aside0 (IsS46 w0 w57 g s0_0 t178) := ⟨(by rw [hw]; exact (by repeat (first | (with_reducible first | exact HI0.out | apply IsS46.alloc | apply IsS46.drewN | apply IsS46.drew | apply IsS46.set_1 | apply IsS46.far (hne := NB0_155.out) | apply IsS46.far (hne := NB0_162.out)) | exact HI0.out)))⟩; have n3_ : Aside0 (KeepBut w w57 g none) := ⟨(by rw [hw]; exact (by repeat (first | (with_reducible first | exact HK.out | apply KeepBut.set_ | apply keep_drewN | apply keep_drew | apply keep_alloc | refine keep_far ?_ GW155.out _ | refine keep_far ?_ GW162.out _) | exact HK.out)))⟩; have n4_ : Aside0 (Below w0.heap.size w0 w57) := ⟨(by rw [hw]; exact (by repeat (first | (with_reducible first | exact HB.out | apply wA | apply wN | apply wD | refine bS ?_ (IsS46.ge HI0.out) | refine bS ?_ GE155.out | refine bS ?_ GE162.out) | exact HB.out)))⟩; clear hw; clear BK155; clear BK162; clear HI0; clear HK; clear HB; have BK155 := n0_; have BK162 := n1_; have HI0 := n2_; have HK := n3_; have HB := n4_; clear n0_ n1_ n2_ n3_ n4_) | ((with_reducible refine gate_callee (f := 17) rfl ?_); refine goesL_ (some 39) rfl rfl Tryd.func17 (by kernel_rfl) rfl #[.pointer (some ⟨g, 0, none⟩), .int .i64 3] rfl (by (try simp only [lM, lC, lN]); first | done | rfl | (simp only [lD, lT]; rfl)) ?_; (with_reducible refine (spec_l1Rd_once.calls g s0_0 t178 3 true t180 w0 _ ?side1 ?side2 A51.out).mono ?_); (case side1 => repeat (first | (with_reducible first | exact HI0.out | apply IsS46.alloc | apply IsS46.drewN | apply IsS46.drew | apply IsS46.set_1 | apply IsS46.far (hne := NB0_155.out) | apply IsS46.far (hne := NB0_162.out)) | exact HI0.out)); (case side2 => repeat (first | (with_reducible first | exact HB.out | apply wA | apply wN | apply wD | refine bS ?_ (IsS46.ge HI0.out) | refine bS ?_ GE155.out | refine bS ?_ GE162.out) | exact HB.out)); rintro e w58 ⟨rfl, hi, hb, hk⟩; refine ⟨_, rfl, ?_⟩; have n0_ := A0 (KeepBut.blk hk (g' := gb155) (o := .cells #[.int .i64 0, .int .i64 0, .int .i64 0, .string (⟨#[]⟩ : ByteArray), .string (⟨#[]⟩ : ByteArray), .int .i64 0] 25 (0, 0)) (by (with_reducible repeat (first | refine bN ?_ _ | refine bD ?_ | refine bA ?_ _)); exact BK155.out) NB155_0.out (by simp)); have n1_ := A0 (KeepBut.blk hk (g' := gb162) (o := .cells #[.int .i64 x163000_13, .int .i64 x163001_13, .int .i64 (wrap64 (t177 * 100)), .string t159, .string t160, .int .i64 t161] 25 (0, 0)) (by (with_reducible repeat (first | refine bN ?_ _ | refine bD ?_ | refine bA ?_ _)); exact BK162.out) NB162_0.out (by simp)); have n2_ := A0 (KeepBut.trans (by repeat (first | (with_reducible first | exact HK.out | apply KeepBut.set_ | apply keep_drewN | apply keep_drew | apply keep_alloc | refine keep_far ?_ GW155.out _ | refine keep_far ?_ GW162.out _) | exact HK.out)) hk (.inl rfl)); have n3_ := A0 (hb); have n4_ := A0 (hi); clear BK155; clear BK162; clear HK; clear HB; clear HI0; have BK155 := n0_; have BK162 := n1_; have HK := n2_; have HB := n3_; have HI0 := n4_; clear n0_ n1_ n2_ n3_ n4_; (try clear hb); (try clear hb2); (try clear hk); (try clear hi); have hcz59_0 : w58.cell? ⟨gb162, 0, none⟩ = some (.int .i64 x163000_13) := bC BK162.out 0 rfl; have hcz59_1 : w58.cell? ⟨gb162, 1, none⟩ = some (.int .i64 x163001_13) := bC BK162.out 1 rfl; have hcz59_2 : w58.cell? ⟨gb162, 2, none⟩ = some (.int .i64 (wrap64 (t177 * 100))) := bC BK162.out 2 rfl; have hcz59_3 : w58.cell? ⟨gb162, 3, none⟩ = some (.string t159) := bC BK162.out 3 rfl; have hcz59_4 : w58.cell? ⟨gb162, 4, none⟩ = some (.string t160) := bC BK162.out 4 rfl; have hcz59_5 : w58.cell? ⟨gb162, 5, none⟩ = some (.int .i64 t161) := bC BK162.out 5 rfl; have hfz59_0 := blk_frozen BK162.out 0; have hfz59_1 := blk_frozen BK162.out 1; have hfz59_2 := blk_frozen BK162.out 2; have hfz59_3 := blk_frozen BK162.out 3; have hfz59_4 := blk_frozen BK162.out 4; have hfz59_5 := blk_frozen BK162.out 5))
          go_meet
          case rel => exact ⟨_, (t180), (9999), H', ⟨by have := HJ3.out; have := HJ13.out; have := HJ43.out; first | omega | exact Nat.le_refl _⟩, ⟨by (with_reducible repeat (first | refine bN ?_ _ | refine bD ?_ | refine bA ?_ _)); refine blk_far ?_ NB155_162.out _; (with_reducible repeat (first | refine bN ?_ _ | refine bD ?_ | refine bA ?_ _)); exact BK155.out⟩, ⟨by (with_reducible repeat (first | refine bN ?_ _ | refine bD ?_ | refine bA ?_ _)); refine blk_put (cs := #[.int .i64 x163000_13, .int .i64 x163001_13, .int .i64 (wrap64 (t177 * 100)), .string t159, .string t160, .int .i64 t161]) ?_ 2 _ rfl; (with_reducible repeat (first | refine bN ?_ _ | refine bD ?_ | refine bA ?_ _)); exact BK162.out⟩, ⟨by repeat (first | (with_reducible first | exact HI0.out | apply IsS46.alloc | apply IsS46.drewN | apply IsS46.drew | apply IsS46.set_1 | apply IsS46.far (hne := NB0_155.out) | apply IsS46.far (hne := NB0_162.out)) | exact HI0.out)⟩, ⟨by repeat (first | (with_reducible first | exact HK.out | apply KeepBut.set_ | apply keep_drewN | apply keep_drew | apply keep_alloc | refine keep_far ?_ GW155.out _ | refine keep_far ?_ GW162.out _) | exact HK.out)⟩, ⟨by repeat (first | (with_reducible first | exact HB.out | apply wA | apply wN | apply wD | refine bS ?_ (IsS46.ge HI0.out) | refine bS ?_ GE155.out | refine bS ?_ GE162.out) | exact HB.out)⟩⟩
         ·replace c52 := Bool.eq_false_iff.mpr c52
          subst c52
          have H1 : (spec_l1Rd_sky.j3 kj43 a1 s0_0 t180 x163000_13 x163001_13 (wrap64 (t177 * 100)) t159 t160 t161) = some (r1, r2, r3, r4, r5, r6, r7) := by rw [if_neg (show ¬ (false = true) by decide)] at H; exact H
          clear H
          have H := H1
          clear H1
          have H' := Aside0.mk H
          clear H
          go_wp2_with (first | ((with_reducible refine gate_callee (f := 25) rfl ?_); refine goesL_ (some 35) rfl rfl Tryd.func25 (by kernel_rfl) rfl #[.pointer (some ⟨g, 0, none⟩), .int .i64 100] rfl (by (try simp only [lM, lC, lN]); first | done | rfl | (simp only [lD, lT]; rfl)) ?_; (with_reducible refine (spec_l1Rd_below.calls g s0_0 x1001_43 100 t177 t178 w0 _ ?side1 ?side2 A50.out).mono ?_); (case side1 => repeat (first | (with_reducible first | exact HI0.out | apply IsS46.alloc | apply IsS46.drewN | apply IsS46.drew | apply IsS46.set_1 | apply IsS46.far (hne := NB0_155.out) | apply IsS46.far (hne := NB0_162.out)) | exact HI0.out)); (case side2 => repeat (first | (with_reducible first | exact HB.out | apply wA | apply wN | apply wD | refine bS ?_ (IsS46.ge HI0.out) | refine bS ?_ GE155.out | refine bS ?_ GE162.out) | exact HB.out)); rintro e w60 ⟨rfl, hi, hb, hk⟩; refine ⟨_, rfl, ?_⟩; have n0_ := A0 (KeepBut.blk hk (g' := gb155) (o := .cells #[.int .i64 0, .int .i64 0, .int .i64 0, .string (⟨#[]⟩ : ByteArray), .string (⟨#[]⟩ : ByteArray), .int .i64 0] 25 (0, 0)) (by (with_reducible repeat (first | refine bN ?_ _ | refine bD ?_ | refine bA ?_ _)); exact BK155.out) NB155_0.out (by simp)); have n1_ := A0 (KeepBut.blk hk (g' := gb162) (o := .cells #[.int .i64 x163000_13, .int .i64 x163001_13, .int .i64 t158, .string t159, .string t160, .int .i64 t161] 25 (0, 0)) (by (with_reducible repeat (first | refine bN ?_ _ | refine bD ?_ | refine bA ?_ _)); exact BK162.out) NB162_0.out (by simp)); have n2_ := A0 (KeepBut.trans (by repeat (first | (with_reducible first | exact HK.out | apply KeepBut.set_ | apply keep_drewN | apply keep_drew | apply keep_alloc | refine keep_far ?_ GW155.out _ | refine keep_far ?_ GW162.out _) | exact HK.out)) hk (.inl rfl)); have n3_ := A0 (hb); have n4_ := A0 (hi); clear BK155; clear BK162; clear HK; clear HB; clear HI0; have BK155 := n0_; have BK162 := n1_; have HK := n2_; have HB := n3_; have HI0 := n4_; clear n0_ n1_ n2_ n3_ n4_; (try clear hb); (try clear hb2); (try clear hk); (try clear hi); have hnb61 := NB162_155.out; have hnc61 := NB155_162.out; have hnb62 := NB162_0.out; have hnc62 := NB0_162.out; have hcz63_0 : w60.cell? ⟨gb162, 0, none⟩ = some (.int .i64 x163000_13) := bC BK162.out 0 rfl; have hcz63_1 : w60.cell? ⟨gb162, 1, none⟩ = some (.int .i64 x163001_13) := bC BK162.out 1 rfl; have hcz63_2 : w60.cell? ⟨gb162, 2, none⟩ = some (.int .i64 t158) := bC BK162.out 2 rfl; have hcz63_3 : w60.cell? ⟨gb162, 3, none⟩ = some (.string t159) := bC BK162.out 3 rfl; have hcz63_4 : w60.cell? ⟨gb162, 4, none⟩ = some (.string t160) := bC BK162.out 4 rfl; have hcz63_5 : w60.cell? ⟨gb162, 5, none⟩ = some (.int .i64 t161) := bC BK162.out 5 rfl; have hfz63_0 := blk_frozen BK162.out 0; have hfz63_1 := blk_frozen BK162.out 1; have hfz63_2 := blk_frozen BK162.out 2; have hfz63_3 := blk_frozen BK162.out 3; have hfz63_4 := blk_frozen BK162.out 4; have hfz63_5 := blk_frozen BK162.out 5) | ((with_reducible refine gate_callee (f := 17) rfl ?_); refine goesL_ (some 39) rfl rfl Tryd.func17 (by kernel_rfl) rfl #[.pointer (some ⟨g, 0, none⟩), .int .i64 3] rfl (by (try simp only [lM, lC, lN]); first | done | rfl | (simp only [lD, lT]; rfl)) ?_; (with_reducible refine (spec_l1Rd_once.calls g s0_0 t178 3 false t180 w0 _ ?side1 ?side2 A51.out).mono ?_); (case side1 => repeat (first | (with_reducible first | exact HI0.out | apply IsS46.alloc | apply IsS46.drewN | apply IsS46.drew | apply IsS46.set_1 | apply IsS46.far (hne := NB0_155.out) | apply IsS46.far (hne := NB0_162.out)) | exact HI0.out)); (case side2 => repeat (first | (with_reducible first | exact HB.out | apply wA | apply wN | apply wD | refine bS ?_ (IsS46.ge HI0.out) | refine bS ?_ GE155.out | refine bS ?_ GE162.out) | exact HB.out)); rintro e w64 ⟨rfl, hi, hb, hk⟩; refine ⟨_, rfl, ?_⟩; have n0_ := A0 (KeepBut.blk hk (g' := gb155) (o := .cells #[.int .i64 0, .int .i64 0, .int .i64 0, .string (⟨#[]⟩ : ByteArray), .string (⟨#[]⟩ : ByteArray), .int .i64 0] 25 (0, 0)) (by (with_reducible repeat (first | refine bN ?_ _ | refine bD ?_ | refine bA ?_ _)); refine blk_far ?_ NB155_162.out _; (with_reducible repeat (first | refine bN ?_ _ | refine bD ?_ | refine bA ?_ _)); exact BK155.out) NB155_0.out (by simp)); have n1_ := A0 (KeepBut.blk hk (g' := gb162) (o := .cells #[.int .i64 x163000_13, .int .i64 x163001_13, .int .i64 (wrap64 (t177 * 100)), .string t159, .string t160, .int .i64 t161] 25 (0, 0)) (by (with_reducible repeat (first | refine bN ?_ _ | refine bD ?_ | refine bA ?_ _)); refine blk_put (cs := #[.int .i64 x163000_13, .int .i64 x163001_13, .int .i64 t158, .string t159, .string t160, .int .i64 t161]) ?_ 2 _ rfl; (with_reducible repeat (first | refine bN ?_ _ | refine bD ?_ | refine bA ?_ _)); exact BK162.out) NB162_0.out (by simp)); have n2_ := A0 (KeepBut.trans (by repeat (first | (with_reducible first | exact HK.out | apply KeepBut.set_ | apply keep_drewN | apply keep_drew | apply keep_alloc | refine keep_far ?_ GW155.out _ | refine keep_far ?_ GW162.out _) | exact HK.out)) hk (.inl rfl)); have n3_ := A0 (hb); have n4_ := A0 (hi); clear BK155; clear BK162; clear HK; clear HB; clear HI0; have BK155 := n0_; have BK162 := n1_; have HK := n2_; have HB := n3_; have HI0 := n4_; clear n0_ n1_ n2_ n3_ n4_; (try clear hb); (try clear hb2); (try clear hk); (try clear hi)))
          go_meet
          case rel => exact ⟨_, (t180), (wrap64 (t177 * 100)), H', ⟨by have := HJ3.out; have := HJ13.out; have := HJ43.out; first | omega | exact Nat.le_refl _⟩, ⟨by (with_reducible repeat (first | refine bN ?_ _ | refine bD ?_ | refine bA ?_ _)); exact BK155.out⟩, ⟨by (with_reducible repeat (first | refine bN ?_ _ | refine bD ?_ | refine bA ?_ _)); exact BK162.out⟩, ⟨by repeat (first | (with_reducible first | exact HI0.out | apply IsS46.alloc | apply IsS46.drewN | apply IsS46.drew | apply IsS46.set_1 | apply IsS46.far (hne := NB0_155.out) | apply IsS46.far (hne := NB0_162.out)) | exact HI0.out)⟩, ⟨by repeat (first | (with_reducible first | exact HK.out | apply KeepBut.set_ | apply keep_drewN | apply keep_drew | apply keep_alloc | refine keep_far ?_ GW155.out _ | refine keep_far ?_ GW162.out _) | exact HK.out)⟩, ⟨by repeat (first | (with_reducible first | exact HB.out | apply wA | apply wN | apply wD | refine bS ?_ (IsS46.ge HI0.out) | refine bS ?_ GE155.out | refine bS ?_ GE162.out) | exact HB.out)⟩⟩
        ·replace c49 := Bool.eq_false_iff.mpr c49
         subst c49
         have H1 : (spec_l1Rd_sky.j3 kj43 a1 s0_0 x1001_43 x163000_13 x163001_13 t158 t159 t160 t161) = some (r1, r2, r3, r4, r5, r6, r7) := by rw [if_neg (show ¬ (false = true) by decide)] at H; exact H
         clear H
         have H := H1
         clear H1
         have H' := Aside0.mk H
         clear H
         go_wp2
         go_meet
         case rel => exact ⟨_, (x1001_43), (t158), H', ⟨by have := HJ3.out; have := HJ13.out; have := HJ43.out; first | omega | exact Nat.le_refl _⟩, ⟨by (with_reducible repeat (first | refine bN ?_ _ | refine bD ?_ | refine bA ?_ _)); exact BK155.out⟩, ⟨by (with_reducible repeat (first | refine bN ?_ _ | refine bD ?_ | refine bA ?_ _)); exact BK162.out⟩, ⟨by repeat (first | (with_reducible first | exact HI0.out | apply IsS46.alloc | apply IsS46.drewN | apply IsS46.drew | apply IsS46.set_1 | apply IsS46.far (hne := NB0_155.out) | apply IsS46.far (hne := NB0_162.out)) | exact HI0.out)⟩, ⟨by repeat (first | (with_reducible first | exact HK.out | apply KeepBut.set_ | apply keep_drewN | apply keep_drew | apply keep_alloc | refine keep_far ?_ GW155.out _ | refine keep_far ?_ GW162.out _) | exact HK.out)⟩, ⟨by repeat (first | (with_reducible first | exact HB.out | apply wA | apply wN | apply wD | refine bS ?_ (IsS46.ge HI0.out) | refine bS ?_ GE155.out | refine bS ?_ GE162.out) | exact HB.out)⟩⟩
       case rest =>
        clear HC48
        try clear c1
        try clear p1
        try clear q1
        try clear hx1
        try clear c2
        try clear p2
        try clear c3
        try clear c4
        try clear c5
        try clear c6
        try clear p6
        try clear c8
        try clear c9
        try clear c11
        try clear c15
        try clear c16
        try clear c17
        try clear p17
        try clear q17
        try clear hx17
        try clear c18
        try clear c18b0
        try clear c19
        try clear c19b0
        try clear c21
        try clear c21b0
        try clear c21b1
        try clear c24
        try clear c25
        try clear c27
        try clear c28
        try clear c39
        try clear c40
        try clear c45
        try clear c49
        try clear c52
        try clear c54
        try clear c55
        try clear c61
        try clear c62
        try clear p64
        try clear hcz10_0
        try clear hcz10_1
        try clear hcz10_2
        try clear hcz10_3
        try clear hcz10_4
        try clear hcz10_5
        try clear hcz29_0
        try clear hcz29_1
        try clear hcz29_2
        try clear hcz29_3
        try clear hcz29_4
        try clear hcz29_5
        try clear hcz31_0
        try clear hcz31_1
        try clear hcz31_2
        try clear hcz31_3
        try clear hcz31_4
        try clear hcz31_5
        try clear hcz33_0
        try clear hcz33_1
        try clear hcz33_2
        try clear hcz33_3
        try clear hcz33_4
        try clear hcz33_5
        try clear hcz41_0
        try clear hcz41_1
        try clear hcz41_2
        try clear hcz41_3
        try clear hcz41_4
        try clear hcz41_5
        try clear hcz43_0
        try clear hcz43_1
        try clear hcz43_2
        try clear hcz43_3
        try clear hcz43_4
        try clear hcz43_5
        try clear hcz56_0
        try clear hcz56_1
        try clear hcz56_2
        try clear hcz56_3
        try clear hcz56_4
        try clear hcz56_5
        try clear hcz59_0
        try clear hcz59_1
        try clear hcz59_2
        try clear hcz59_3
        try clear hcz59_4
        try clear hcz59_5
        try clear hcz63_0
        try clear hcz63_1
        try clear hcz63_2
        try clear hcz63_3
        try clear hcz63_4
        try clear hcz63_5
        try clear hfz10_0
        try clear hfz10_1
        try clear hfz10_2
        try clear hfz10_3
        try clear hfz10_4
        try clear hfz10_5
        try clear hfz29_0
        try clear hfz29_1
        try clear hfz29_2
        try clear hfz29_3
        try clear hfz29_4
        try clear hfz29_5
        try clear hfz31_0
        try clear hfz31_1
        try clear hfz31_2
        try clear hfz31_3
        try clear hfz31_4
        try clear hfz31_5
        try clear hfz33_0
        try clear hfz33_1
        try clear hfz33_2
        try clear hfz33_3
        try clear hfz33_4
        try clear hfz33_5
        try clear hfz41_0
        try clear hfz41_1
        try clear hfz41_2
        try clear hfz41_3
        try clear hfz41_4
        try clear hfz41_5
        try clear hfz43_0
        try clear hfz43_1
        try clear hfz43_2
        try clear hfz43_3
        try clear hfz43_4
        try clear hfz43_5
        try clear hfz56_0
        try clear hfz56_1
        try clear hfz56_2
        try clear hfz56_3
        try clear hfz56_4
        try clear hfz56_5
        try clear hfz59_0
        try clear hfz59_1
        try clear hfz59_2
        try clear hfz59_3
        try clear hfz59_4
        try clear hfz59_5
        try clear hfz63_0
        try clear hfz63_1
        try clear hfz63_2
        try clear hfz63_3
        try clear hfz63_4
        try clear hfz63_5
        try clear hx172_0
        try clear p1
        try clear p17
        try clear p172
        try clear p2
        try clear p6
        try clear q1
        try clear q17
        try clear q172
        obtain ⟨kq, x1001_47, x163002_47, HA, HJ47, BK155, BK162, HI0, HK, HB⟩ := hcut
        cases kq with
        | zero => exact absurd HA.out (by simp [spec_l1Rd_sky.j3])
        | succ kj47 =>
         have H := HA.out
         clear HA
         simp only [spec_l1Rd_sky.j3] at H
         have HC65 := Aside0.mk H
         clear H
         go_upto_region 11 with (fail)
         go_cut [45] (fun v45 wc => ∃ (kq : Nat) (x45_64 : Bool) (x1001_64 : Int), v45 = .bool x45_64 ∧ Aside0 (spec_l1Rd_sky.j4 kq a1 x45_64 s0_0 x1001_64 x163000_13 x163001_13 x163002_47 t159 t160 t161 = some (r1, r2, r3, r4, r5, r6, r7)) ∧ Aside0 (kq ≤ kj47) ∧ Aside0 (wc.heap[gb155]? = some (.cells #[.int .i64 0, .int .i64 0, .int .i64 0, .string (⟨#[]⟩ : ByteArray), .string (⟨#[]⟩ : ByteArray), .int .i64 0] 25 (0, 0))) ∧ Aside0 (wc.heap[gb162]? = some (.cells #[.int .i64 x163000_13, .int .i64 x163001_13, .int .i64 x163002_47, .string t159, .string t160, .int .i64 t161] 25 (0, 0))) ∧ Aside0 (IsS46 w0 wc g s0_0 x1001_64) ∧ Aside0 (KeepBut w wc g none) ∧ Aside0 (Below w0.heap.size w0 wc))
         case first =>
          have H := HC65.out
          clear HC65
          by_cases c66 : a1 = true
          ·subst c66
           have H1 : (spec_l1Rd_sky.j4 kj47 true true s0_0 x1001_47 x163000_13 x163001_13 x163002_47 t159 t160 t161) = some (r1, r2, r3, r4, r5, r6, r7) := by rw [if_pos rfl] at H; exact H
           clear H
           have H := H1
           clear H1
           have H' := Aside0.mk H
           clear H
           go_wp2
           go_meet
           case rel => exact ⟨_, (true), (x1001_47), (by first | rfl | (simp; done) | (simp [*]; done)), H', ⟨by have := HJ3.out; have := HJ13.out; have := HJ43.out; have := HJ47.out; first | omega | exact Nat.le_refl _⟩, ⟨by (with_reducible repeat (first | refine bN ?_ _ | refine bD ?_ | refine bA ?_ _)); exact BK155.out⟩, ⟨by (with_reducible repeat (first | refine bN ?_ _ | refine bD ?_ | refine bA ?_ _)); exact BK162.out⟩, ⟨by repeat (first | (with_reducible first | exact HI0.out | apply IsS46.alloc | apply IsS46.drewN | apply IsS46.drew | apply IsS46.set_1 | apply IsS46.far (hne := NB0_155.out) | apply IsS46.far (hne := NB0_162.out)) | exact HI0.out)⟩, ⟨by repeat (first | (with_reducible first | exact HK.out | apply KeepBut.set_ | apply keep_drewN | apply keep_drew | apply keep_alloc | refine keep_far ?_ GW155.out _ | refine keep_far ?_ GW162.out _) | exact HK.out)⟩, ⟨by repeat (first | (with_reducible first | exact HB.out | apply wA | apply wN | apply wD | refine bS ?_ (IsS46.ge HI0.out) | refine bS ?_ GE155.out | refine bS ?_ GE162.out) | exact HB.out)⟩⟩
          ·replace c66 := Bool.eq_false_iff.mpr c66
           subst c66
           have H1 : ((spec_l1Rd_once.f s0_0 x1001_47 2).bind fun bt181 => (spec_l1Rd_sky.j4 kj47 false bt181.1 s0_0 bt181.2 x163000_13 x163001_13 x163002_47 t159 t160 t161)) = some (r1, r2, r3, r4, r5, r6, r7) := by rw [if_neg (show ¬ (false = true) by decide)] at H; exact H
           clear H
           have H := H1
           clear H1
           replace H := Option.bind_eq_some_iff.mp H
           obtain ⟨⟨t181, t182⟩, A670, H⟩ := H
           replace H : (spec_l1Rd_sky.j4 kj47 false t181 s0_0 t182 x163000_13 x163001_13 x163002_47 t159 t160 t161) = some (r1, r2, r3, r4, r5, r6, r7) := H
           have A67 := Aside0.mk A670
           clear A670
           have H' := Aside0.mk H
           clear H
           go_wp2_with (first | (go_at_call 17; (with_reducible refine (spec_l1Rd_once.calls g s0_0 x1001_47 2 t181 t182 w0 _ ?side1 ?side2 A67.out).mono ?_); (case side1 => repeat (first | (with_reducible first | exact HI0.out | apply IsS46.alloc | apply IsS46.drewN | apply IsS46.drew | apply IsS46.set_1 | apply IsS46.far (hne := NB0_155.out) | apply IsS46.far (hne := NB0_162.out)) | exact HI0.out)); (case side2 => repeat (first | (with_reducible first | exact HB.out | apply wA | apply wN | apply wD | refine bS ?_ (IsS46.ge HI0.out) | refine bS ?_ GE155.out | refine bS ?_ GE162.out) | exact HB.out)); rintro e w68 ⟨rfl, hi, hb, hk⟩; have n0_ := A0 (KeepBut.blk hk (g' := gb155) (o := .cells #[.int .i64 0, .int .i64 0, .int .i64 0, .string (⟨#[]⟩ : ByteArray), .string (⟨#[]⟩ : ByteArray), .int .i64 0] 25 (0, 0)) (by (with_reducible repeat (first | refine bN ?_ _ | refine bD ?_ | refine bA ?_ _)); exact BK155.out) NB155_0.out (by simp)); have n1_ := A0 (KeepBut.blk hk (g' := gb162) (o := .cells #[.int .i64 x163000_13, .int .i64 x163001_13, .int .i64 x163002_47, .string t159, .string t160, .int .i64 t161] 25 (0, 0)) (by (with_reducible repeat (first | refine bN ?_ _ | refine bD ?_ | refine bA ?_ _)); exact BK162.out) NB162_0.out (by simp)); have n2_ := A0 (KeepBut.trans (by repeat (first | (with_reducible first | exact HK.out | apply KeepBut.set_ | apply keep_drewN | apply keep_drew | apply keep_alloc | refine keep_far ?_ GW155.out _ | refine keep_far ?_ GW162.out _) | exact HK.out)) hk (.inl rfl)); have n3_ := A0 (hb); have n4_ := A0 (hi); clear BK155; clear BK162; clear HK; clear HB; clear HI0; have BK155 := n0_; have BK162 := n1_; have HK := n2_; have HB := n3_; have HI0 := n4_; clear n0_ n1_ n2_ n3_ n4_; (try clear hb); (try clear hb2); (try clear hk); (try clear hi)))
           go_meet
           case rel => exact ⟨_, (t181), (t182), (by first | rfl | (simp; done) | (simp [*]; done)), H', ⟨by have := HJ3.out; have := HJ13.out; have := HJ43.out; have := HJ47.out; first | omega | exact Nat.le_refl _⟩, ⟨by (with_reducible repeat (first | refine bN ?_ _ | refine bD ?_ | refine bA ?_ _)); exact BK155.out⟩, ⟨by (with_reducible repeat (first | refine bN ?_ _ | refine bD ?_ | refine bA ?_ _)); exact BK162.out⟩, ⟨by repeat (first | (with_reducible first | exact HI0.out | apply IsS46.alloc | apply IsS46.drewN | apply IsS46.drew | apply IsS46.set_1 | apply IsS46.far (hne := NB0_155.out) | apply IsS46.far (hne := NB0_162.out)) | exact HI0.out)⟩, ⟨by repeat (first | (with_reducible first | exact HK.out | apply KeepBut.set_ | apply keep_drewN | apply keep_drew | apply keep_alloc | refine keep_far ?_ GW155.out _ | refine keep_far ?_ GW162.out _) | exact HK.out)⟩, ⟨by repeat (first | (with_reducible first | exact HB.out | apply wA | apply wN | apply wD | refine bS ?_ (IsS46.ge HI0.out) | refine bS ?_ GE155.out | refine bS ?_ GE162.out) | exact HB.out)⟩⟩
         case rest =>
          clear HC65
          try clear c1
          try clear p1
          try clear q1
          try clear hx1
          try clear c2
          try clear p2
          try clear c3
          try clear c4
          try clear c5
          try clear c6
          try clear p6
          try clear c8
          try clear c9
          try clear c11
          try clear c15
          try clear c16
          try clear c17
          try clear p17
          try clear q17
          try clear hx17
          try clear c18
          try clear c18b0
          try clear c19
          try clear c19b0
          try clear c21
          try clear c21b0
          try clear c21b1
          try clear c24
          try clear c25
          try clear c27
          try clear c28
          try clear c39
          try clear c40
          try clear c45
          try clear c49
          try clear c52
          try clear c54
          try clear c55
          try clear c61
          try clear c62
          try clear p64
          try clear c66
          try clear hcz10_0
          try clear hcz10_1
          try clear hcz10_2
          try clear hcz10_3
          try clear hcz10_4
          try clear hcz10_5
          try clear hcz29_0
          try clear hcz29_1
          try clear hcz29_2
          try clear hcz29_3
          try clear hcz29_4
          try clear hcz29_5
          try clear hcz31_0
          try clear hcz31_1
          try clear hcz31_2
          try clear hcz31_3
          try clear hcz31_4
          try clear hcz31_5
          try clear hcz33_0
          try clear hcz33_1
          try clear hcz33_2
          try clear hcz33_3
          try clear hcz33_4
          try clear hcz33_5
          try clear hcz41_0
          try clear hcz41_1
          try clear hcz41_2
          try clear hcz41_3
          try clear hcz41_4
          try clear hcz41_5
          try clear hcz43_0
          try clear hcz43_1
          try clear hcz43_2
          try clear hcz43_3
          try clear hcz43_4
          try clear hcz43_5
          try clear hcz56_0
          try clear hcz56_1
          try clear hcz56_2
          try clear hcz56_3
          try clear hcz56_4
          try clear hcz56_5
          try clear hcz59_0
          try clear hcz59_1
          try clear hcz59_2
          try clear hcz59_3
          try clear hcz59_4
          try clear hcz59_5
          try clear hcz63_0
          try clear hcz63_1
          try clear hcz63_2
          try clear hcz63_3
          try clear hcz63_4
          try clear hcz63_5
          try clear hfz10_0
          try clear hfz10_1
          try clear hfz10_2
          try clear hfz10_3
          try clear hfz10_4
          try clear hfz10_5
          try clear hfz29_0
          try clear hfz29_1
          try clear hfz29_2
          try clear hfz29_3
          try clear hfz29_4
          try clear hfz29_5
          try clear hfz31_0
          try clear hfz31_1
          try clear hfz31_2
          try clear hfz31_3
          try clear hfz31_4
          try clear hfz31_5
          try clear hfz33_0
          try clear hfz33_1
          try clear hfz33_2
          try clear hfz33_3
          try clear hfz33_4
          try clear hfz33_5
          try clear hfz41_0
          try clear hfz41_1
          try clear hfz41_2
          try clear hfz41_3
          try clear hfz41_4
          try clear hfz41_5
          try clear hfz43_0
          try clear hfz43_1
          try clear hfz43_2
          try clear hfz43_3
          try clear hfz43_4
          try clear hfz43_5
          try clear hfz56_0
          try clear hfz56_1
          try clear hfz56_2
          try clear hfz56_3
          try clear hfz56_4
          try clear hfz56_5
          try clear hfz59_0
          try clear hfz59_1
          try clear hfz59_2
          try clear hfz59_3
          try clear hfz59_4
          try clear hfz59_5
          try clear hfz63_0
          try clear hfz63_1
          try clear hfz63_2
          try clear hfz63_3
          try clear hfz63_4
          try clear hfz63_5
          try clear hx172_0
          try clear p1
          try clear p17
          try clear p172
          try clear p2
          try clear p6
          try clear p64
          try clear q1
          try clear q17
          try clear q172
          obtain ⟨kq, x45_64, x1001_64, rfl, HA, HJ64, BK155, BK162, HI0, HK, HB⟩ := hcut
          cases kq with
          | zero => exact absurd HA.out (by simp [spec_l1Rd_sky.j4])
          | succ kj64 =>
           have H := HA.out
           clear HA
           simp only [spec_l1Rd_sky.j4] at H
           have HC69 := Aside0.mk H
           clear H
           go_upto_if 45 with (fail)
           go_cut [] (fun wc => ∃ (kq : Nat) (x1001_68 : Int) (x163003_68 : ByteArray), Aside0 (spec_l1Rd_sky.j5 kq a1 s0_0 x1001_68 x163000_13 x163001_13 x163002_47 x163003_68 t160 t161 = some (r1, r2, r3, r4, r5, r6, r7)) ∧ Aside0 (kq ≤ kj64) ∧ Aside0 (wc.heap[gb155]? = some (.cells #[.int .i64 0, .int .i64 0, .int .i64 0, .string (⟨#[]⟩ : ByteArray), .string (⟨#[]⟩ : ByteArray), .int .i64 0] 25 (0, 0))) ∧ Aside0 (wc.heap[gb162]? = some (.cells #[.int .i64 x163000_13, .int .i64 x163001_13, .int .i64 x163002_47, .string x163003_68, .string t160, .int .i64 t161] 25 (0, 0))) ∧ Aside0 (IsS46 w0 wc g s0_0 x1001_68) ∧ Aside0 (KeepBut w wc g none) ∧ Aside0 (Below w0.heap.size w0 wc))
           case first =>
            have H := HC69.out
            clear HC69
            by_cases c70 : x45_64 = true
            ·subst c70
             have H1 : ((some (([(⟨#[78, 83, 87]⟩ : ByteArray), (⟨#[82, 65]⟩ : ByteArray), (⟨#[45, 82, 65]⟩ : ByteArray), (⟨#[43, 82, 65]⟩ : ByteArray), (⟨#[83, 78]⟩ : ByteArray), (⟨#[45, 83, 78]⟩ : ByteArray), (⟨#[43, 83, 78]⟩ : ByteArray), (⟨#[84, 83, 82, 65]⟩ : ByteArray), (⟨#[70, 71]⟩ : ByteArray), (⟨#[66, 82]⟩ : ByteArray)] : List ByteArray) : List ByteArray)).bind fun y183 => ((spec_l1Rd_below.f s0_0 x1001_64 10).bind fun bt186 => (if 0 ≤ bt186.1 then (if bt186.1 < (y183.length : Int) then (spec_l1Rd_sky.j5 kj64 a1 s0_0 bt186.2 x163000_13 x163001_13 x163002_47 (rdOf ByteArray.empty y183 bt186.1) t160 t161) else (none)) else (none)))) = some (r1, r2, r3, r4, r5, r6, r7) := by rw [if_pos rfl] at H; exact H
             clear H
             have H := H1
             clear H1
             obtain ⟨y183, hy183⟩ : ∃ y_ : List ByteArray, y_ = (([(⟨#[78, 83, 87]⟩ : ByteArray), (⟨#[82, 65]⟩ : ByteArray), (⟨#[45, 82, 65]⟩ : ByteArray), (⟨#[43, 82, 65]⟩ : ByteArray), (⟨#[83, 78]⟩ : ByteArray), (⟨#[45, 83, 78]⟩ : ByteArray), (⟨#[43, 83, 78]⟩ : ByteArray), (⟨#[84, 83, 82, 65]⟩ : ByteArray), (⟨#[70, 71]⟩ : ByteArray), (⟨#[66, 82]⟩ : ByteArray)] : List ByteArray)) := ⟨_, rfl⟩
             replace H : ((spec_l1Rd_below.f s0_0 x1001_64 10).bind fun bt186 => (if 0 ≤ bt186.1 then (if bt186.1 < (y183.length : Int) then (spec_l1Rd_sky.j5 kj64 a1 s0_0 bt186.2 x163000_13 x163001_13 x163002_47 (rdOf ByteArray.empty y183 bt186.1) t160 t161) else (none)) else (none))) = some (r1, r2, r3, r4, r5, r6, r7) := by first | (rw [hy183]; with_reducible exact H) | (have H2_ := (Option.bind_some _ _).symm.trans H; rw [hy183]; with_reducible exact H2_) | (have H2_ := (Option.bind_some _ _).symm.trans H; with_reducible exact H2_) | with_reducible exact H | (rw [hy183]; exact H) | exact H
             have Ny183 := Aside0.mk hy183
             clear hy183
             replace H := Option.bind_eq_some_iff.mp H
             obtain ⟨⟨t186, t187⟩, A710, H⟩ := H
             replace H : (if 0 ≤ t186 then (if t186 < (y183.length : Int) then (spec_l1Rd_sky.j5 kj64 a1 s0_0 t187 x163000_13 x163001_13 x163002_47 (rdOf ByteArray.empty y183 t186) t160 t161) else (none)) else (none)) = some (r1, r2, r3, r4, r5, r6, r7) := H
             have A71 := Aside0.mk A710
             clear A710
             by_cases c72 : 0 ≤ t186
             ·rw [if_pos c72] at H
              have c72b0 : decide (0 ≤ t186) = true := decide_eq_true c72
              clear c72
              (first | rw [c72b0] | (simp only [i64_w, i32_w]; rw [c72b0]) | skip)
              by_cases c73 : t186 < (y183.length : Int)
              ·rw [if_pos c73] at H
               have c73b0 : decide (t186 < (y183.length : Int)) = true := decide_eq_true c73
               clear c73
               have H' := Aside0.mk H
               clear H
               go_wp2_with (first | ((with_reducible refine gate_dst (N := 46) rfl ?_); refine Kd.R_lit Kd.string _ 9 ?hg (N := 46) ?hd (xs := ([(⟨#[78, 83, 87]⟩ : ByteArray), (⟨#[82, 65]⟩ : ByteArray), (⟨#[45, 82, 65]⟩ : ByteArray), (⟨#[43, 82, 65]⟩ : ByteArray), (⟨#[83, 78]⟩ : ByteArray), (⟨#[45, 83, 78]⟩ : ByteArray), (⟨#[43, 83, 78]⟩ : ByteArray), (⟨#[84, 83, 82, 65]⟩ : ByteArray), (⟨#[70, 71]⟩ : ByteArray), (⟨#[66, 82]⟩ : ByteArray)] : List ByteArray)) (inner := [.string (⟨#[78, 83, 87]⟩ : ByteArray), .string (⟨#[82, 65]⟩ : ByteArray), .string (⟨#[45, 82, 65]⟩ : ByteArray), .string (⟨#[43, 82, 65]⟩ : ByteArray), .string (⟨#[83, 78]⟩ : ByteArray), .string (⟨#[45, 83, 78]⟩ : ByteArray), .string (⟨#[43, 83, 78]⟩ : ByteArray), .string (⟨#[84, 83, 82, 65]⟩ : ByteArray), .string (⟨#[70, 71]⟩ : ByteArray), .string (⟨#[66, 82]⟩ : ByteArray)]) (ok := fun _ => True) (okp := fun _ => True) ?hr ?hp (fun _ hk => hk) trivial (Below.refl _ _) (Nat.le_refl _) (by simp) ?_; (case hd => rfl); (case hg => rfl); (case hr => first | (go_simp; done) | (go_simp; rfl)); (case hp => exact (Reps.one (show Kd.M Kd.string _ _ _ (⟨#[78, 83, 87]⟩ : ByteArray) [.string (⟨#[78, 83, 87]⟩ : ByteArray)] from rfl) (Reps.one (show Kd.M Kd.string _ _ _ (⟨#[82, 65]⟩ : ByteArray) [.string (⟨#[82, 65]⟩ : ByteArray)] from rfl) (Reps.one (show Kd.M Kd.string _ _ _ (⟨#[45, 82, 65]⟩ : ByteArray) [.string (⟨#[45, 82, 65]⟩ : ByteArray)] from rfl) (Reps.one (show Kd.M Kd.string _ _ _ (⟨#[43, 82, 65]⟩ : ByteArray) [.string (⟨#[43, 82, 65]⟩ : ByteArray)] from rfl) (Reps.one (show Kd.M Kd.string _ _ _ (⟨#[83, 78]⟩ : ByteArray) [.string (⟨#[83, 78]⟩ : ByteArray)] from rfl) (Reps.one (show Kd.M Kd.string _ _ _ (⟨#[45, 83, 78]⟩ : ByteArray) [.string (⟨#[45, 83, 78]⟩ : ByteArray)] from rfl) (Reps.one (show Kd.M Kd.string _ _ _ (⟨#[43, 83, 78]⟩ : ByteArray) [.string (⟨#[43, 83, 78]⟩ : ByteArray)] from rfl) (Reps.one (show Kd.M Kd.string _ _ _ (⟨#[84, 83, 82, 65]⟩ : ByteArray) [.string (⟨#[84, 83, 82, 65]⟩ : ByteArray)] from rfl) (Reps.one (show Kd.M Kd.string _ _ _ (⟨#[70, 71]⟩ : ByteArray) [.string (⟨#[70, 71]⟩ : ByteArray)] from rfl) (Reps.one (show Kd.M Kd.string _ _ _ (⟨#[66, 82]⟩ : ByteArray) [.string (⟨#[66, 82]⟩ : ByteArray)] from rfl) (Reps.none _ _)))))))))))); intro v184 w74 ho75 hb hg_ hnew_; clear hg_ hnew_; (first | rw [← Ny183.out] at ho75 | (simp only [Int.reduceToNat] at ho75; rw [← Ny183.out] at ho75)); have n0_ := A0 (Kd.R_lower ho75 (keep_size (w := w) (g := g) (row := none) (by repeat (first | (with_reducible first | exact HK.out | apply KeepBut.set_ | apply keep_drewN | apply keep_drew | apply keep_alloc | refine keep_far ?_ GW155.out _ | refine keep_far ?_ GW162.out _) | exact HK.out)))); have n1_ := A0 (blk_below (g := gb155) (o := .cells #[.int .i64 0, .int .i64 0, .int .i64 0, .string (⟨#[]⟩ : ByteArray), .string (⟨#[]⟩ : ByteArray), .int .i64 0] 25 (0, 0)) (by (with_reducible repeat (first | refine bN ?_ _ | refine bD ?_ | refine bA ?_ _)); exact BK155.out) hb); have n2_ := A0 (blk_below (g := gb162) (o := .cells #[.int .i64 x163000_13, .int .i64 x163001_13, .int .i64 x163002_47, .string t159, .string t160, .int .i64 t161] 25 (0, 0)) (by (with_reducible repeat (first | refine bN ?_ _ | refine bD ?_ | refine bA ?_ _)); exact BK162.out) hb); have n3_ := A0 (IsS46.below (by repeat (first | (with_reducible first | exact HI0.out | apply IsS46.alloc | apply IsS46.drewN | apply IsS46.drew | apply IsS46.set_1 | apply IsS46.far (hne := NB0_155.out) | apply IsS46.far (hne := NB0_162.out)) | exact HI0.out)) hb); have n4_ := A0 (KeepBut.trans (by repeat (first | (with_reducible first | exact HK.out | apply KeepBut.set_ | apply keep_drewN | apply keep_drew | apply keep_alloc | refine keep_far ?_ GW155.out _ | refine keep_far ?_ GW162.out _) | exact HK.out)) (KeepBut.of_below hb g none) (.inl rfl)); have n5_ := A0 (below_step (by repeat (first | (with_reducible first | exact HB.out | apply wA | apply wN | apply wD | refine bS ?_ (IsS46.ge HI0.out) | refine bS ?_ GE155.out | refine bS ?_ GE162.out) | exact HB.out)) hb); clear BK155; clear BK162; clear HI0; clear HK; clear HB; have HO185 := n0_; have BK155 := n1_; have BK162 := n2_; have HI0 := n3_; have HK := n4_; have HB := n5_; clear n0_ n1_ n2_ n3_ n4_ n5_; clear hb ho75) | ((with_reducible refine gate_callee (f := 25) rfl ?_); refine goesL_ (some 48) rfl rfl Tryd.func25 (by kernel_rfl) rfl #[.pointer (some ⟨g, 0, none⟩), .int .i64 10] rfl (by (try simp only [lM, lC, lN]); first | done | rfl | (simp only [lD, lT]; rfl)) ?_; (with_reducible refine (spec_l1Rd_below.calls g s0_0 x1001_64 10 t186 t187 w0 _ ?side1 ?side2 A71.out).mono ?_); (case side1 => repeat (first | (with_reducible first | exact HI0.out | apply IsS46.alloc | apply IsS46.drewN | apply IsS46.drew | apply IsS46.set_1 | apply IsS46.far (hne := NB0_155.out) | apply IsS46.far (hne := NB0_162.out)) | exact HI0.out)); (case side2 => repeat (first | (with_reducible first | exact HB.out | apply wA | apply wN | apply wD | refine bS ?_ (IsS46.ge HI0.out) | refine bS ?_ GE155.out | refine bS ?_ GE162.out) | exact HB.out)); rintro e w76 ⟨rfl, hi, hb, hk⟩; refine ⟨_, rfl, ?_⟩; have n0_ := A0 (KeepBut.blk hk (g' := gb155) (o := .cells #[.int .i64 0, .int .i64 0, .int .i64 0, .string (⟨#[]⟩ : ByteArray), .string (⟨#[]⟩ : ByteArray), .int .i64 0] 25 (0, 0)) (by (with_reducible repeat (first | refine bN ?_ _ | refine bD ?_ | refine bA ?_ _)); exact BK155.out) NB155_0.out (by simp)); have n1_ := A0 (KeepBut.blk hk (g' := gb162) (o := .cells #[.int .i64 x163000_13, .int .i64 x163001_13, .int .i64 x163002_47, .string t159, .string t160, .int .i64 t161] 25 (0, 0)) (by (with_reducible repeat (first | refine bN ?_ _ | refine bD ?_ | refine bA ?_ _)); exact BK162.out) NB162_0.out (by simp)); have n2_ := A0 (Kd.R_mono (Kd.R_keep (IsS46.apart (show IsS46 w0 _ g s0_0 x1001_64 from by repeat (first | (with_reducible first | exact HI0.out | apply IsS46.alloc | apply IsS46.drewN | apply IsS46.drew | apply IsS46.set_1 | apply IsS46.far (hne := NB0_155.out) | apply IsS46.far (hne := NB0_162.out)) | exact HI0.out)) (by (with_reducible repeat (first | apply Kd.R_alloc | apply Kd.R_drewN | apply Kd.R_drew)); exact HO185.out) (by decide)) hk (fun _ h => h.2)) (fun _ h => h.1)); have n3_ := A0 (KeepBut.trans (by repeat (first | (with_reducible first | exact HK.out | apply KeepBut.set_ | apply keep_drewN | apply keep_drew | apply keep_alloc | refine keep_far ?_ GW155.out _ | refine keep_far ?_ GW162.out _) | exact HK.out)) hk (.inl rfl)); have n4_ := A0 (hb); have n5_ := A0 (hi); clear BK155; clear BK162; clear HO185; clear HK; clear HB; clear HI0; have BK155 := n0_; have BK162 := n1_; have HO185 := n2_; have HK := n3_; have HB := n4_; have HI0 := n5_; clear n0_ n1_ n2_ n3_ n4_ n5_; (try clear hb); (try clear hb2); (try clear hk); (try clear hi); obtain ⟨Ao77, co77, eo77⟩ := Kd.R_slice HO185.out; subst eo77; have p188 : 0 ≤ (t186 : Int) := of_decide_eq_true (by first | (with_reducible assumption) | assumption); have q188 : t186 < (y183.length : Int) := of_decide_eq_true (by first | (with_reducible assumption) | assumption); obtain ⟨ad188, e188, hx188_0⟩ := Kd.at_string (Kd.R_reads' HO185.out).2.2 t186 p188 q188; cases e188; replace p188 := eq_true p188; replace q188 := eq_true q188; have hnb78 := NB162_155.out; have hnc78 := NB155_162.out; have hnb79 := NB162_0.out; have hnc79 := NB0_162.out; have hcz80_0 : w76.cell? ⟨gb162, 0, none⟩ = some (.int .i64 x163000_13) := bC BK162.out 0 rfl; have hcz80_1 : w76.cell? ⟨gb162, 1, none⟩ = some (.int .i64 x163001_13) := bC BK162.out 1 rfl; have hcz80_2 : w76.cell? ⟨gb162, 2, none⟩ = some (.int .i64 x163002_47) := bC BK162.out 2 rfl; have hcz80_3 : w76.cell? ⟨gb162, 3, none⟩ = some (.string t159) := bC BK162.out 3 rfl; have hcz80_4 : w76.cell? ⟨gb162, 4, none⟩ = some (.string t160) := bC BK162.out 4 rfl; have hcz80_5 : w76.cell? ⟨gb162, 5, none⟩ = some (.int .i64 t161) := bC BK162.out 5 rfl; have hfz80_0 := blk_frozen BK162.out 0; have hfz80_1 := blk_frozen BK162.out 1; have hfz80_2 := blk_frozen BK162.out 2; have hfz80_3 := blk_frozen BK162.out 3; have hfz80_4 := blk_frozen BK162.out 4; have hfz80_5 := blk_frozen BK162.out 5))
               go_meet
               case rel => exact ⟨_, (t187), (rdOf ByteArray.empty y183 t186), H', ⟨by have := HJ3.out; have := HJ13.out; have := HJ43.out; have := HJ47.out; have := HJ64.out; first | omega | exact Nat.le_refl _⟩, ⟨by (with_reducible repeat (first | refine bN ?_ _ | refine bD ?_ | refine bA ?_ _)); refine blk_far ?_ NB155_162.out _; (with_reducible repeat (first | refine bN ?_ _ | refine bD ?_ | refine bA ?_ _)); exact BK155.out⟩, ⟨by (with_reducible repeat (first | refine bN ?_ _ | refine bD ?_ | refine bA ?_ _)); refine blk_put (cs := #[.int .i64 x163000_13, .int .i64 x163001_13, .int .i64 x163002_47, .string t159, .string t160, .int .i64 t161]) ?_ 3 _ rfl; (with_reducible repeat (first | refine bN ?_ _ | refine bD ?_ | refine bA ?_ _)); exact BK162.out⟩, ⟨by repeat (first | (with_reducible first | exact HI0.out | apply IsS46.alloc | apply IsS46.drewN | apply IsS46.drew | apply IsS46.set_1 | apply IsS46.far (hne := NB0_155.out) | apply IsS46.far (hne := NB0_162.out)) | exact HI0.out)⟩, ⟨by repeat (first | (with_reducible first | exact HK.out | apply KeepBut.set_ | apply keep_drewN | apply keep_drew | apply keep_alloc | refine keep_far ?_ GW155.out _ | refine keep_far ?_ GW162.out _) | exact HK.out)⟩, ⟨by repeat (first | (with_reducible first | exact HB.out | apply wA | apply wN | apply wD | refine bS ?_ (IsS46.ge HI0.out) | refine bS ?_ GE155.out | refine bS ?_ GE162.out) | exact HB.out)⟩⟩
              ·rw [if_neg c73] at H
               exact absurd H (by simp)
             ·rw [if_neg c72] at H
              exact absurd H (by simp)
            ·replace c70 := Bool.eq_false_iff.mpr c70
             subst c70
             have H1 : (spec_l1Rd_sky.j5 kj64 a1 s0_0 x1001_64 x163000_13 x163001_13 x163002_47 t159 t160 t161) = some (r1, r2, r3, r4, r5, r6, r7) := by rw [if_neg (show ¬ (false = true) by decide)] at H; exact H
             clear H
             have H := H1
             clear H1
             have H' := Aside0.mk H
             clear H
             go_wp2
             go_meet
             case rel => exact ⟨_, (x1001_64), (t159), H', ⟨by have := HJ3.out; have := HJ13.out; have := HJ43.out; have := HJ47.out; have := HJ64.out; first | omega | exact Nat.le_refl _⟩, ⟨by (with_reducible repeat (first | refine bN ?_ _ | refine bD ?_ | refine bA ?_ _)); exact BK155.out⟩, ⟨by (with_reducible repeat (first | refine bN ?_ _ | refine bD ?_ | refine bA ?_ _)); exact BK162.out⟩, ⟨by repeat (first | (with_reducible first | exact HI0.out | apply IsS46.alloc | apply IsS46.drewN | apply IsS46.drew | apply IsS46.set_1 | apply IsS46.far (hne := NB0_155.out) | apply IsS46.far (hne := NB0_162.out)) | exact HI0.out)⟩, ⟨by repeat (first | (with_reducible first | exact HK.out | apply KeepBut.set_ | apply keep_drewN | apply keep_drew | apply keep_alloc | refine keep_far ?_ GW155.out _ | refine keep_far ?_ GW162.out _) | exact HK.out)⟩, ⟨by repeat (first | (with_reducible first | exact HB.out | apply wA | apply wN | apply wD | refine bS ?_ (IsS46.ge HI0.out) | refine bS ?_ GE155.out | refine bS ?_ GE162.out) | exact HB.out)⟩⟩
           case rest =>
            clear HC69
            try clear c1
            try clear p1
            try clear q1
            try clear hx1
            try clear c2
            try clear p2
            try clear c3
            try clear c4
            try clear c5
            try clear c6
            try clear p6
            try clear c7
            try clear c8
            try clear c9
            try clear c11
            try clear c15
            try clear c16
            try clear c17
            try clear p17
            try clear q17
            try clear hx17
            try clear c18
            try clear c18b0
            try clear p18
            try clear q18
            try clear hx18
            try clear c19
            try clear c19b0
            try clear c21
            try clear c21b0
            try clear c21b1
            try clear c24
            try clear c25
            try clear c27
            try clear c28
            try clear c39
            try clear c40
            try clear c45
            try clear c49
            try clear c52
            try clear c54
            try clear c55
            try clear c61
            try clear c62
            try clear p64
            try clear c66
            try clear c70
            try clear c72
            try clear c72b0
            try clear c73
            try clear c73b0
            try clear c78
            try clear c79
            try clear hcz10_0
            try clear hcz10_1
            try clear hcz10_2
            try clear hcz10_3
            try clear hcz10_4
            try clear hcz10_5
            try clear hcz29_0
            try clear hcz29_1
            try clear hcz29_2
            try clear hcz29_3
            try clear hcz29_4
            try clear hcz29_5
            try clear hcz31_0
            try clear hcz31_1
            try clear hcz31_2
            try clear hcz31_3
            try clear hcz31_4
            try clear hcz31_5
            try clear hcz33_0
            try clear hcz33_1
            try clear hcz33_2
            try clear hcz33_3
            try clear hcz33_4
            try clear hcz33_5
            try clear hcz41_0
            try clear hcz41_1
            try clear hcz41_2
            try clear hcz41_3
            try clear hcz41_4
            try clear hcz41_5
            try clear hcz43_0
            try clear hcz43_1
            try clear hcz43_2
            try clear hcz43_3
            try clear hcz43_4
            try clear hcz43_5
            try clear hcz56_0
            try clear hcz56_1
            try clear hcz56_2
            try clear hcz56_3
            try clear hcz56_4
            try clear hcz56_5
            try clear hcz59_0
            try clear hcz59_1
            try clear hcz59_2
            try clear hcz59_3
            try clear hcz59_4
            try clear hcz59_5
            try clear hcz63_0
            try clear hcz63_1
            try clear hcz63_2
            try clear hcz63_3
            try clear hcz63_4
            try clear hcz63_5
            try clear hcz80_0
            try clear hcz80_1
            try clear hcz80_2
            try clear hcz80_3
            try clear hcz80_4
            try clear hcz80_5
            try clear hfz10_0
            try clear hfz10_1
            try clear hfz10_2
            try clear hfz10_3
            try clear hfz10_4
            try clear hfz10_5
            try clear hfz29_0
            try clear hfz29_1
            try clear hfz29_2
            try clear hfz29_3
            try clear hfz29_4
            try clear hfz29_5
            try clear hfz31_0
            try clear hfz31_1
            try clear hfz31_2
            try clear hfz31_3
            try clear hfz31_4
            try clear hfz31_5
            try clear hfz33_0
            try clear hfz33_1
            try clear hfz33_2
            try clear hfz33_3
            try clear hfz33_4
            try clear hfz33_5
            try clear hfz41_0
            try clear hfz41_1
            try clear hfz41_2
            try clear hfz41_3
            try clear hfz41_4
            try clear hfz41_5
            try clear hfz43_0
            try clear hfz43_1
            try clear hfz43_2
            try clear hfz43_3
            try clear hfz43_4
            try clear hfz43_5
            try clear hfz56_0
            try clear hfz56_1
            try clear hfz56_2
            try clear hfz56_3
            try clear hfz56_4
            try clear hfz56_5
            try clear hfz59_0
            try clear hfz59_1
            try clear hfz59_2
            try clear hfz59_3
            try clear hfz59_4
            try clear hfz59_5
            try clear hfz63_0
            try clear hfz63_1
            try clear hfz63_2
            try clear hfz63_3
            try clear hfz63_4
            try clear hfz63_5
            try clear hfz80_0
            try clear hfz80_1
            try clear hfz80_2
            try clear hfz80_3
            try clear hfz80_4
            try clear hfz80_5
            try clear hx172_0
            try clear hx188_0
            try clear p1
            try clear p17
            try clear p172
            try clear p188
            try clear p2
            try clear p6
            try clear p64
            try clear q1
            try clear q17
            try clear q172
            try clear q188
            obtain ⟨kq, x1001_68, x163003_68, HA, HJ68, BK155, BK162, HI0, HK, HB⟩ := hcut
            cases kq with
            | zero => exact absurd HA.out (by simp [spec_l1Rd_sky.j5])
            | succ kj68 =>
             have H := HA.out
             clear HA
             simp only [spec_l1Rd_sky.j5] at H
             have HC81 := Aside0.mk H
             clear H
             go_upto_region 13 with (fail)
             go_cut [61] (fun v61 wc => ∃ (kq : Nat) (x61_80 : Bool) (x1001_80 : Int), v61 = .bool x61_80 ∧ Aside0 (spec_l1Rd_sky.j6 kq x61_80 s0_0 x1001_80 x163000_13 x163001_13 x163002_47 x163003_68 t160 t161 = some (r1, r2, r3, r4, r5, r6, r7)) ∧ Aside0 (kq ≤ kj68) ∧ Aside0 (wc.heap[gb155]? = some (.cells #[.int .i64 0, .int .i64 0, .int .i64 0, .string (⟨#[]⟩ : ByteArray), .string (⟨#[]⟩ : ByteArray), .int .i64 0] 25 (0, 0))) ∧ Aside0 (wc.heap[gb162]? = some (.cells #[.int .i64 x163000_13, .int .i64 x163001_13, .int .i64 x163002_47, .string x163003_68, .string t160, .int .i64 t161] 25 (0, 0))) ∧ Aside0 (IsS46 w0 wc g s0_0 x1001_80) ∧ Aside0 (KeepBut w wc g none) ∧ Aside0 (Below w0.heap.size w0 wc))
             case first =>
              have H := HC81.out
              clear HC81
              by_cases c82 : a1 = true
              ·subst c82
               have H1 : (spec_l1Rd_sky.j6 kj68 true s0_0 x1001_68 x163000_13 x163001_13 x163002_47 x163003_68 t160 t161) = some (r1, r2, r3, r4, r5, r6, r7) := by rw [if_pos rfl] at H; exact H
               clear H
               have H := H1
               clear H1
               have H' := Aside0.mk H
               clear H
               try go_wp2
               have n0_ := A0 (blk_drew BK155.out)
               have n1_ := A0 (blk_drew BK162.out)
               have n2_ := A0 (IsS46.drew HI0.out)
               have n3_ := A0 (keep_drew HK.out)
               have n4_ := A0 (below_drew1 HB.out)
               clear BK155
               clear BK162
               clear HI0
               clear HK
               clear HB
               have BK155 := n0_
               have BK162 := n1_
               have HI0 := n2_
               have HK := n3_
               have HB := n4_
               clear n0_ n1_ n2_ n3_ n4_
               refine start_ (n := 10) (S := fun w' => True) (ds := []) #[false, false, false, false, false, false, false, false, false, false] (by kernel_rfl) rfl rfl trivial (fun hHeld => ?_); refine with_tabW spec_l1Rd_sky.tab13 spec_l1Rd_sky.bits13 (fun HT_ HW_ => ?_)
               generalize wc.drew = w83 at BK155 BK162 HI0 HK HB hHeld ⊢
               refine pure_ (i := 0) (N := some 52) (v := ?_) (a' := ?_) #[true, false, false, false, false, false, false, false, false, false] rfl rfl (any_of HT_.out (by kernel_rfl)) (fun _ _ _ h => h) (Or.inl ⟨by rfl, ?_⟩) ?_ ?_
               rotate_left
               ·intro w'
                go_simp
                with_reducible rfl
               rotate_left
               ·simp only [Act.put, sqA, sqZ, sqS, i64_w, i32_w]
                rfl
               refine pure_ (i := 1) (N := some 53) (v := ?_) (a' := ?_) #[true, true, false, false, false, false, false, false, false, false] rfl rfl (any_of HT_.out (by kernel_rfl)) (fun _ _ _ h => h) (Or.inl ⟨by rfl, ?_⟩) ?_ ?_
               rotate_left
               ·intro w'
                go_simp
                with_reducible rfl
               rotate_left
               ·simp only [Act.put, sqA, sqZ, sqS, i64_w, i32_w]
                rfl
               refine pure_ (i := 2) (N := some 54) (v := undef) (a' := ?_) #[true, true, true, false, false, false, false, false, false, false] rfl rfl (any_of HT_.out (by kernel_rfl)) (fun _ _ _ h => h) (Or.inr ⟨by rfl, rfl⟩) ?_ ?_
               rotate_left
               ·simp only [Act.put, sqA, sqZ, sqS, i64_w, i32_w]
                rfl
               refine pure_ (i := 3) (N := some 55) (v := undef) (a' := ?_) #[true, true, true, true, false, false, false, false, false, false] rfl rfl (any_of HT_.out (by kernel_rfl)) (fun _ _ _ h => h) (Or.inr ⟨by rfl, rfl⟩) ?_ ?_
               rotate_left
               ·simp only [Act.put, sqA, sqZ, sqS, i64_w, i32_w]
                rfl
               refine pure_ (i := 4) (N := some 56) (v := ?_) (a' := ?_) #[true, true, true, true, true, false, false, false, false, false] rfl rfl (any_of HT_.out (by kernel_rfl)) (fun _ _ _ h => h) (Or.inl ⟨by rfl, ?_⟩) ?_ ?_
               rotate_left
               ·intro w'
                go_simp
                with_reducible rfl
               rotate_left
               ·simp only [Act.put, sqA, sqZ, sqS, i64_w, i32_w]
                rfl
               refine pure_ (i := 5) (N := some 57) (v := ?_) (a' := ?_) #[true, true, true, true, true, true, false, false, false, false] rfl rfl (any_of HT_.out (by kernel_rfl)) (fun _ _ _ h => h) (Or.inl ⟨by rfl, ?_⟩) ?_ ?_
               rotate_left
               ·intro w'
                go_simp
                with_reducible rfl
               rotate_left
               ·simp only [Act.put, sqA, sqZ, sqS, i64_w, i32_w]
                rfl
               refine pure_ (i := 6) (N := some 58) (v := undef) (a' := ?_) #[true, true, true, true, true, true, true, false, false, false] rfl rfl (any_of HT_.out (by kernel_rfl)) (fun _ _ _ h => h) (Or.inr ⟨by rfl, rfl⟩) ?_ ?_
               rotate_left
               ·simp only [Act.put, sqA, sqZ, sqS, i64_w, i32_w]
                rfl
               refine pure_ (i := 7) (N := some 59) (v := undef) (a' := ?_) #[true, true, true, true, true, true, true, true, false, false] rfl rfl (any_of HT_.out (by kernel_rfl)) (fun _ _ _ h => h) (Or.inr ⟨by rfl, rfl⟩) ?_ ?_
               rotate_left
               ·simp only [Act.put, sqA, sqZ, sqS, i64_w, i32_w]
                rfl
               refine pure_ (i := 8) (N := some 60) (v := undef) (a' := ?_) #[true, true, true, true, true, true, true, true, true, false] rfl rfl (any_of HT_.out (by kernel_rfl)) (fun _ _ _ h => h) (Or.inr ⟨by rfl, rfl⟩) ?_ ?_
               rotate_left
               ·simp only [Act.put, sqA, sqZ, sqS, i64_w, i32_w]
                rfl
               refine pure_ (i := 9) (N := some 61) (v := ?_) (a' := ?_) #[true, true, true, true, true, true, true, true, true, true] rfl rfl (any_of HT_.out (by kernel_rfl)) (fun _ _ _ h => h) (Or.inl ⟨by rfl, ?_⟩) ?_ ?_
               rotate_left
               ·intro w'
                go_simp
                with_reducible rfl
               rotate_left
               ·simp only [Act.put, sqA, sqZ, sqS, i64_w, i32_w]
                rfl
               refine done_ (done_of HT_.out (by kernel_rfl)) ?_
               try go_wp2
               go_meet
               case rel => exact ⟨_, (true), (x1001_68), (by first | rfl | (simp; done) | (simp [*]; done)), H', ⟨by have := HJ3.out; have := HJ13.out; have := HJ43.out; have := HJ47.out; have := HJ64.out; have := HJ68.out; first | omega | exact Nat.le_refl _⟩, ⟨by (with_reducible repeat (first | refine bN ?_ _ | refine bD ?_ | refine bA ?_ _)); exact BK155.out⟩, ⟨by (with_reducible repeat (first | refine bN ?_ _ | refine bD ?_ | refine bA ?_ _)); exact BK162.out⟩, ⟨by repeat (first | (with_reducible first | exact HI0.out | apply IsS46.alloc | apply IsS46.drewN | apply IsS46.drew | apply IsS46.set_1 | apply IsS46.far (hne := NB0_155.out) | apply IsS46.far (hne := NB0_162.out)) | exact HI0.out)⟩, ⟨by repeat (first | (with_reducible first | exact HK.out | apply KeepBut.set_ | apply keep_drewN | apply keep_drew | apply keep_alloc | refine keep_far ?_ GW155.out _ | refine keep_far ?_ GW162.out _) | exact HK.out)⟩, ⟨by repeat (first | (with_reducible first | exact HB.out | apply wA | apply wN | apply wD | refine bS ?_ (IsS46.ge HI0.out) | refine bS ?_ GE155.out | refine bS ?_ GE162.out) | exact HB.out)⟩⟩
              ·replace c82 := Bool.eq_false_iff.mpr c82
               subst c82
               have H1 : ((spec_l1Rd_once.f s0_0 x1001_68 2).bind fun bt189 => (if bt189.1 = true then (spec_l1Rd_sky.j6 kj68 true s0_0 bt189.2 x163000_13 x163001_13 x163002_47 x163003_68 t160 t161) else ((spec_l21Unsaid.f).bind fun bt191 => (spec_l1Rd_sky.j6 kj68 (x163000_13 == bt191.1 && (x163001_13 == bt191.2.1 && (x163002_47 == bt191.2.2.1 && (x163003_68.toList == bt191.2.2.2.1.toList && (t160.toList == bt191.2.2.2.2.1.toList && (t161 == bt191.2.2.2.2.2)))))) s0_0 bt189.2 x163000_13 x163001_13 x163002_47 x163003_68 t160 t161)))) = some (r1, r2, r3, r4, r5, r6, r7) := by rw [if_neg (show ¬ (false = true) by decide)] at H; exact H
               clear H
               have H := H1
               clear H1
               replace H := Option.bind_eq_some_iff.mp H
               obtain ⟨⟨t189, t190⟩, A840, H⟩ := H
               replace H : (if t189 = true then (spec_l1Rd_sky.j6 kj68 true s0_0 t190 x163000_13 x163001_13 x163002_47 x163003_68 t160 t161) else ((spec_l21Unsaid.f).bind fun bt191 => (spec_l1Rd_sky.j6 kj68 (x163000_13 == bt191.1 && (x163001_13 == bt191.2.1 && (x163002_47 == bt191.2.2.1 && (x163003_68.toList == bt191.2.2.2.1.toList && (t160.toList == bt191.2.2.2.2.1.toList && (t161 == bt191.2.2.2.2.2)))))) s0_0 t190 x163000_13 x163001_13 x163002_47 x163003_68 t160 t161))) = some (r1, r2, r3, r4, r5, r6, r7) := H
               have A84 := Aside0.mk A840
               clear A840
               by_cases c85 : t189 = true
               ·subst c85
                have H1 : (spec_l1Rd_sky.j6 kj68 true s0_0 t190 x163000_13 x163001_13 x163002_47 x163003_68 t160 t161) = some (r1, r2, r3, r4, r5, r6, r7) := by rw [if_pos rfl] at H; exact H
                clear H
                have H := H1
                clear H1
                have H' := Aside0.mk H
                clear H
                try go_wp2
                have n0_ := A0 (blk_drew BK155.out)
                have n1_ := A0 (blk_drew BK162.out)
                have n2_ := A0 (IsS46.drew HI0.out)
                have n3_ := A0 (keep_drew HK.out)
                have n4_ := A0 (below_drew1 HB.out)
                clear BK155
                clear BK162
                clear HI0
                clear HK
                clear HB
                have BK155 := n0_
                have BK162 := n1_
                have HI0 := n2_
                have HK := n3_
                have HB := n4_
                clear n0_ n1_ n2_ n3_ n4_
                refine start_ (n := 10) (S := fun w' => True) (ds := []) #[false, false, false, false, false, false, false, false, false, false] (by kernel_rfl) rfl rfl trivial (fun hHeld => ?_); refine with_tabW spec_l1Rd_sky.tab13 spec_l1Rd_sky.bits13 (fun HT_ HW_ => ?_)
                generalize wc.drew = w86 at BK155 BK162 HI0 HK HB hHeld ⊢
                refine pure_ (i := 0) (N := some 52) (v := ?_) (a' := ?_) #[true, false, false, false, false, false, false, false, false, false] rfl rfl (any_of HT_.out (by kernel_rfl)) (fun _ _ _ h => h) (Or.inl ⟨by rfl, ?_⟩) ?_ ?_
                rotate_left
                ·intro w'
                 go_simp
                 with_reducible rfl
                rotate_left
                ·simp only [Act.put, sqA, sqZ, sqS, i64_w, i32_w]
                 rfl
                refine pure_ (i := 1) (N := some 53) (v := ?_) (a' := ?_) #[true, true, false, false, false, false, false, false, false, false] rfl rfl (any_of HT_.out (by kernel_rfl)) (fun _ _ _ h => h) (Or.inl ⟨by rfl, ?_⟩) ?_ ?_
                rotate_left
                ·intro w'
                 go_simp
                 with_reducible rfl
                rotate_left
                ·simp only [Act.put, sqA, sqZ, sqS, i64_w, i32_w]
                 rfl
                refine pure_ (i := 2) (N := some 54) (v := ?_) (a' := ?_) #[true, true, true, false, false, false, false, false, false, false] rfl rfl (any_of HT_.out (by kernel_rfl)) (fun _ _ _ h => h) (Or.inl ⟨by rfl, ?_⟩) ?_ ?_
                rotate_left
                ·intro w'
                 go_simp
                 with_reducible rfl
                rotate_left
                ·simp only [Act.put, sqA, sqZ, sqS, i64_w, i32_w]
                 rfl
                refine one_ (i := 3) (N := some 55) #[true, true, true, true, false, false, false, false, false, false] rfl rfl (one_of HT_.out (by kernel_rfl)) (by decide) (fun K hK => ?_)
                refine goes_ Tryd.func17 (by kernel_rfl) rfl #[.pointer (some ⟨g, 0, none⟩), .int .i64 2] (by rfl) rfl rfl (by (try simp only [lM, lC, lN]); first | done | rfl | (simp only [lD, lT]; rfl)) ?_
                with_reducible refine (spec_l1Rd_once.calls g s0_0 x1001_68 2 true t190 w0 _ ?side1 ?side2 A84.out).mono ?_
                (case side1 => repeat (first | (with_reducible first | exact HI0.out | apply IsS46.alloc | apply IsS46.drewN | apply IsS46.drew | apply IsS46.set_1 | apply IsS46.far (hne := NB0_155.out) | apply IsS46.far (hne := NB0_162.out)) | exact HI0.out))
                (case side2 => repeat (first | (with_reducible first | exact HB.out | apply wA | apply wN | apply wD | refine bS ?_ (IsS46.ge HI0.out) | refine bS ?_ GE155.out | refine bS ?_ GE162.out) | exact HB.out))
                rintro e w87 ⟨rfl, hi, hb, hk⟩
                refine ⟨_, rfl, ?_⟩
                have n0_ := A0 (KeepBut.blk hk (g' := gb155) (o := .cells #[.int .i64 0, .int .i64 0, .int .i64 0, .string (⟨#[]⟩ : ByteArray), .string (⟨#[]⟩ : ByteArray), .int .i64 0] 25 (0, 0)) (by (with_reducible repeat (first | refine bN ?_ _ | refine bD ?_ | refine bA ?_ _)); exact BK155.out) NB155_0.out (by simp))
                have n1_ := A0 (KeepBut.blk hk (g' := gb162) (o := .cells #[.int .i64 x163000_13, .int .i64 x163001_13, .int .i64 x163002_47, .string x163003_68, .string t160, .int .i64 t161] 25 (0, 0)) (by (with_reducible repeat (first | refine bN ?_ _ | refine bD ?_ | refine bA ?_ _)); exact BK162.out) NB162_0.out (by simp))
                have n2_ := A0 (KeepBut.trans (by repeat (first | (with_reducible first | exact HK.out | apply KeepBut.set_ | apply keep_drewN | apply keep_drew | apply keep_alloc | refine keep_far ?_ GW155.out _ | refine keep_far ?_ GW162.out _) | exact HK.out)) hk (.inl rfl))
                have n3_ := A0 (hb)
                have n4_ := A0 (hi)
                clear BK155
                clear BK162
                clear HK
                clear HB
                clear HI0
                have BK155 := n0_
                have BK162 := n1_
                have HK := n2_
                have HB := n3_
                have HI0 := n4_
                clear n0_ n1_ n2_ n3_ n4_
                (try clear hb)
                (try clear hb2)
                (try clear hk)
                (try clear hi)
                refine hK.out _ _ trivial (fun hHeld => ?_)
                clear hK K
                refine norm_ (a' := ?_) ?_ ?_
                rotate_left
                ·show Act.put _ (some 55) _ = _
                 simp only [Act.put, sqA, sqZ, sqS, i64_w, i32_w]
                 rfl
                refine pure_ (i := 4) (N := some 56) (v := ?_) (a' := ?_) #[true, true, true, true, true, false, false, false, false, false] rfl rfl (any_of HT_.out (by kernel_rfl)) (fun _ _ _ h => h) (Or.inl ⟨by rfl, ?_⟩) ?_ ?_
                rotate_left
                ·intro w'
                 go_simp
                 with_reducible rfl
                rotate_left
                ·simp only [Act.put, sqA, sqZ, sqS, i64_w, i32_w]
                 rfl
                refine pure_ (i := 5) (N := some 57) (v := ?_) (a' := ?_) #[true, true, true, true, true, true, false, false, false, false] rfl rfl (any_of HT_.out (by kernel_rfl)) (fun _ _ _ h => h) (Or.inl ⟨by rfl, ?_⟩) ?_ ?_
                rotate_left
                ·intro w'
                 go_simp
                 with_reducible rfl
                rotate_left
                ·simp only [Act.put, sqA, sqZ, sqS, i64_w, i32_w]
                 rfl
                refine pure_ (i := 6) (N := some 58) (v := undef) (a' := ?_) #[true, true, true, true, true, true, true, false, false, false] rfl rfl (any_of HT_.out (by kernel_rfl)) (fun _ _ _ h => h) (Or.inr ⟨by rfl, rfl⟩) ?_ ?_
                rotate_left
                ·simp only [Act.put, sqA, sqZ, sqS, i64_w, i32_w]
                 rfl
                refine pure_ (i := 7) (N := some 59) (v := undef) (a' := ?_) #[true, true, true, true, true, true, true, true, false, false] rfl rfl (any_of HT_.out (by kernel_rfl)) (fun _ _ _ h => h) (Or.inr ⟨by rfl, rfl⟩) ?_ ?_
                rotate_left
                ·simp only [Act.put, sqA, sqZ, sqS, i64_w, i32_w]
                 rfl
                refine pure_ (i := 8) (N := some 60) (v := undef) (a' := ?_) #[true, true, true, true, true, true, true, true, true, false] rfl rfl (any_of HT_.out (by kernel_rfl)) (fun _ _ _ h => h) (Or.inr ⟨by rfl, rfl⟩) ?_ ?_
                rotate_left
                ·simp only [Act.put, sqA, sqZ, sqS, i64_w, i32_w]
                 rfl
                refine pure_ (i := 9) (N := some 61) (v := ?_) (a' := ?_) #[true, true, true, true, true, true, true, true, true, true] rfl rfl (any_of HT_.out (by kernel_rfl)) (fun _ _ _ h => h) (Or.inl ⟨by rfl, ?_⟩) ?_ ?_
                rotate_left
                ·intro w'
                 go_simp
                 with_reducible rfl
                rotate_left
                ·simp only [Act.put, sqA, sqZ, sqS, i64_w, i32_w]
                 rfl
                refine done_ (done_of HT_.out (by kernel_rfl)) ?_
                try go_wp2
                go_meet
                case rel => exact ⟨_, (true), (t190), (by first | rfl | (simp; done) | (simp [*]; done)), H', ⟨by have := HJ3.out; have := HJ13.out; have := HJ43.out; have := HJ47.out; have := HJ64.out; have := HJ68.out; first | omega | exact Nat.le_refl _⟩, ⟨by (with_reducible repeat (first | refine bN ?_ _ | refine bD ?_ | refine bA ?_ _)); exact BK155.out⟩, ⟨by (with_reducible repeat (first | refine bN ?_ _ | refine bD ?_ | refine bA ?_ _)); exact BK162.out⟩, ⟨by repeat (first | (with_reducible first | exact HI0.out | apply IsS46.alloc | apply IsS46.drewN | apply IsS46.drew | apply IsS46.set_1 | apply IsS46.far (hne := NB0_155.out) | apply IsS46.far (hne := NB0_162.out)) | exact HI0.out)⟩, ⟨by repeat (first | (with_reducible first | exact HK.out | apply KeepBut.set_ | apply keep_drewN | apply keep_drew | apply keep_alloc | refine keep_far ?_ GW155.out _ | refine keep_far ?_ GW162.out _) | exact HK.out)⟩, ⟨by repeat (first | (with_reducible first | exact HB.out | apply wA | apply wN | apply wD | refine bS ?_ (IsS46.ge HI0.out) | refine bS ?_ GE155.out | refine bS ?_ GE162.out) | exact HB.out)⟩⟩
               ·replace c85 := Bool.eq_false_iff.mpr c85
                subst c85
                have H1 : ((spec_l21Unsaid.f).bind fun bt191 => (spec_l1Rd_sky.j6 kj68 (x163000_13 == bt191.1 && (x163001_13 == bt191.2.1 && (x163002_47 == bt191.2.2.1 && (x163003_68.toList == bt191.2.2.2.1.toList && (t160.toList == bt191.2.2.2.2.1.toList && (t161 == bt191.2.2.2.2.2)))))) s0_0 t190 x163000_13 x163001_13 x163002_47 x163003_68 t160 t161)) = some (r1, r2, r3, r4, r5, r6, r7) := by rw [if_neg (show ¬ (false = true) by decide)] at H; exact H
                clear H
                have H := H1
                clear H1
                replace H := Option.bind_eq_some_iff.mp H
                obtain ⟨⟨t191, t192, t193, t194, t195, t196⟩, A880, H⟩ := H
                replace H : (spec_l1Rd_sky.j6 kj68 (x163000_13 == t191 && (x163001_13 == t192 && (x163002_47 == t193 && (x163003_68.toList == t194.toList && (t160.toList == t195.toList && (t161 == t196)))))) s0_0 t190 x163000_13 x163001_13 x163002_47 x163003_68 t160 t161) = some (r1, r2, r3, r4, r5, r6, r7) := H
                have A88 := Aside0.mk A880
                clear A880
                have H' := Aside0.mk H
                clear H
                try go_wp2
                have n0_ := A0 (blk_drew BK155.out)
                have n1_ := A0 (blk_drew BK162.out)
                have n2_ := A0 (IsS46.drew HI0.out)
                have n3_ := A0 (keep_drew HK.out)
                have n4_ := A0 (below_drew1 HB.out)
                clear BK155
                clear BK162
                clear HI0
                clear HK
                clear HB
                have BK155 := n0_
                have BK162 := n1_
                have HI0 := n2_
                have HK := n3_
                have HB := n4_
                clear n0_ n1_ n2_ n3_ n4_
                refine start_ (n := 10) (S := fun w' => w'.cell? ⟨gb162, 0, none⟩ = some (.int .i64 x163000_13) ∧ w'.cell? ⟨gb162, 1, none⟩ = some (.int .i64 x163001_13) ∧ w'.cell? ⟨gb162, 2, none⟩ = some (.int .i64 x163002_47) ∧ w'.cell? ⟨gb162, 3, none⟩ = some (.string x163003_68) ∧ w'.cell? ⟨gb162, 4, none⟩ = some (.string t160) ∧ w'.cell? ⟨gb162, 5, none⟩ = some (.int .i64 t161)) (ds := []) #[false, false, false, false, false, false, false, false, false, false] (by kernel_rfl) rfl rfl ⟨bC BK162.out 0 rfl, bC BK162.out 1 rfl, bC BK162.out 2 rfl, bC BK162.out 3 rfl, bC BK162.out 4 rfl, bC BK162.out 5 rfl⟩ (fun hHeld => ?_); refine with_tabW spec_l1Rd_sky.tab13 spec_l1Rd_sky.bits13 (fun HT_ HW_ => ?_)
                generalize wc.drew = w89 at BK155 BK162 HI0 HK HB hHeld ⊢
                refine pure_ (i := 0) (N := some 52) (v := ?_) (a' := ?_) #[true, false, false, false, false, false, false, false, false, false] rfl rfl (any_of HT_.out (by kernel_rfl)) (fun _ _ _ h => h) (Or.inl ⟨by rfl, ?_⟩) ?_ ?_
                rotate_left
                ·intro w'
                 go_simp
                 with_reducible rfl
                rotate_left
                ·simp only [Act.put, sqA, sqZ, sqS, i64_w, i32_w]
                 rfl
                refine pure_ (i := 1) (N := some 53) (v := ?_) (a' := ?_) #[true, true, false, false, false, false, false, false, false, false] rfl rfl (any_of HT_.out (by kernel_rfl)) (fun _ _ _ h => h) (Or.inl ⟨by rfl, ?_⟩) ?_ ?_
                rotate_left
                ·intro w'
                 go_simp
                 with_reducible rfl
                rotate_left
                ·simp only [Act.put, sqA, sqZ, sqS, i64_w, i32_w]
                 rfl
                refine pure_ (i := 2) (N := some 54) (v := ?_) (a' := ?_) #[true, true, true, false, false, false, false, false, false, false] rfl rfl (any_of HT_.out (by kernel_rfl)) (fun _ _ _ h => h) (Or.inl ⟨by rfl, ?_⟩) ?_ ?_
                rotate_left
                ·intro w'
                 go_simp
                 with_reducible rfl
                rotate_left
                ·simp only [Act.put, sqA, sqZ, sqS, i64_w, i32_w]
                 rfl
                refine one_ (i := 3) (N := some 55) #[true, true, true, true, false, false, false, false, false, false] rfl rfl (one_of HT_.out (by kernel_rfl)) (by decide) (fun K hK => ?_)
                refine goes_ Tryd.func17 (by kernel_rfl) rfl #[.pointer (some ⟨g, 0, none⟩), .int .i64 2] (by rfl) rfl rfl (by (try simp only [lM, lC, lN]); first | done | rfl | (simp only [lD, lT]; rfl)) ?_
                with_reducible refine (spec_l1Rd_once.calls g s0_0 x1001_68 2 false t190 w0 _ ?side1 ?side2 A84.out).mono ?_
                (case side1 => repeat (first | (with_reducible first | exact HI0.out | apply IsS46.alloc | apply IsS46.drewN | apply IsS46.drew | apply IsS46.set_1 | apply IsS46.far (hne := NB0_155.out) | apply IsS46.far (hne := NB0_162.out)) | exact HI0.out))
                (case side2 => repeat (first | (with_reducible first | exact HB.out | apply wA | apply wN | apply wD | refine bS ?_ (IsS46.ge HI0.out) | refine bS ?_ GE155.out | refine bS ?_ GE162.out) | exact HB.out))
                rintro e w90 ⟨rfl, hi, hb, hk⟩
                refine ⟨_, rfl, ?_⟩
                have n0_ := A0 (KeepBut.blk hk (g' := gb155) (o := .cells #[.int .i64 0, .int .i64 0, .int .i64 0, .string (⟨#[]⟩ : ByteArray), .string (⟨#[]⟩ : ByteArray), .int .i64 0] 25 (0, 0)) (by (with_reducible repeat (first | refine bN ?_ _ | refine bD ?_ | refine bA ?_ _)); exact BK155.out) NB155_0.out (by simp))
                have n1_ := A0 (KeepBut.blk hk (g' := gb162) (o := .cells #[.int .i64 x163000_13, .int .i64 x163001_13, .int .i64 x163002_47, .string x163003_68, .string t160, .int .i64 t161] 25 (0, 0)) (by (with_reducible repeat (first | refine bN ?_ _ | refine bD ?_ | refine bA ?_ _)); exact BK162.out) NB162_0.out (by simp))
                have n2_ := A0 (KeepBut.trans (by repeat (first | (with_reducible first | exact HK.out | apply KeepBut.set_ | apply keep_drewN | apply keep_drew | apply keep_alloc | refine keep_far ?_ GW155.out _ | refine keep_far ?_ GW162.out _) | exact HK.out)) hk (.inl rfl))
                have n3_ := A0 (hb)
                have n4_ := A0 (hi)
                clear BK155
                clear BK162
                clear HK
                clear HB
                clear HI0
                have BK155 := n0_
                have BK162 := n1_
                have HK := n2_
                have HB := n3_
                have HI0 := n4_
                clear n0_ n1_ n2_ n3_ n4_
                (try clear hb)
                (try clear hb2)
                (try clear hk)
                (try clear hi)
                refine hK.out _ _ ⟨bC BK162.out 0 rfl, bC BK162.out 1 rfl, bC BK162.out 2 rfl, bC BK162.out 3 rfl, bC BK162.out 4 rfl, bC BK162.out 5 rfl⟩ (fun hHeld => ?_)
                clear hK K
                refine norm_ (a' := ?_) ?_ ?_
                rotate_left
                ·show Act.put _ (some 55) _ = _
                 simp only [Act.put, sqA, sqZ, sqS, i64_w, i32_w]
                 rfl
                refine pure_ (i := 4) (N := some 56) (v := ?_) (a' := ?_) #[true, true, true, true, true, false, false, false, false, false] rfl rfl (any_of HT_.out (by kernel_rfl)) (fun _ _ _ h => h) (Or.inl ⟨by rfl, ?_⟩) ?_ ?_
                rotate_left
                ·intro w'
                 go_simp
                 with_reducible rfl
                rotate_left
                ·simp only [Act.put, sqA, sqZ, sqS, i64_w, i32_w]
                 rfl
                refine pure_ (i := 5) (N := some 57) (v := ?_) (a' := ?_) #[true, true, true, true, true, true, false, false, false, false] rfl rfl (any_of HT_.out (by kernel_rfl)) (fun _ _ _ h => h) (Or.inl ⟨by rfl, ?_⟩) ?_ ?_
                rotate_left
                ·intro w'
                 go_simp
                 with_reducible rfl
                rotate_left
                ·simp only [Act.put, sqA, sqZ, sqS, i64_w, i32_w]
                 rfl
                refine take_ (i := 6) (N := some 58) (v := ?_) (a' := ?_) #[true, true, true, true, true, true, true, false, false, false] rfl rfl (take_ofW HT_.out HW_.out (by kernel_rfl)) (fun _ _ _ h => h) (Or.inl ⟨by rfl, ?_⟩) hHeld ?_ ?_
                rotate_left
                ·rintro w' ⟨s0, s1, s2, s3, s4, s5⟩
                 go_simp
                 with_reducible rfl
                rotate_left
                ·simp only [Act.put, sqA, sqZ, sqS, i64_w, i32_w]
                 rfl
                refine one_ (i := 7) (N := some 59) #[true, true, true, true, true, true, true, true, false, false] rfl rfl (one_of HT_.out (by kernel_rfl)) (by decide) (fun K hK => ?_)
                refine goes_ Tryd.func24 (by kernel_rfl) rfl #[] (by rfl) rfl rfl (by (try simp only [lM, lC, lN]); first | done | rfl | (simp only [lD, lT]; rfl)) ?_
                with_reducible refine (spec_l21Unsaid.calls  t191 t192 t193 t194 t195 t196 _ A88.out).mono ?_
                rintro e w91 ⟨rfl, hb⟩
                refine ⟨_, rfl, ?_⟩
                have n0_ := A0 (blk_below (g := gb155) (o := .cells #[.int .i64 0, .int .i64 0, .int .i64 0, .string (⟨#[]⟩ : ByteArray), .string (⟨#[]⟩ : ByteArray), .int .i64 0] 25 (0, 0)) (by (with_reducible repeat (first | refine bN ?_ _ | refine bD ?_ | refine bA ?_ _)); exact BK155.out) hb)
                have n1_ := A0 (blk_below (g := gb162) (o := .cells #[.int .i64 x163000_13, .int .i64 x163001_13, .int .i64 x163002_47, .string x163003_68, .string t160, .int .i64 t161] 25 (0, 0)) (by (with_reducible repeat (first | refine bN ?_ _ | refine bD ?_ | refine bA ?_ _)); exact BK162.out) hb)
                have n2_ := A0 (IsS46.below (by repeat (first | (with_reducible first | exact HI0.out | apply IsS46.alloc | apply IsS46.drewN | apply IsS46.drew | apply IsS46.set_1 | apply IsS46.far (hne := NB0_155.out) | apply IsS46.far (hne := NB0_162.out)) | exact HI0.out)) hb)
                have n3_ := A0 (KeepBut.trans (by repeat (first | (with_reducible first | exact HK.out | apply KeepBut.set_ | apply keep_drewN | apply keep_drew | apply keep_alloc | refine keep_far ?_ GW155.out _ | refine keep_far ?_ GW162.out _) | exact HK.out)) (KeepBut.of_below hb g none) (.inl rfl))
                have n4_ := A0 (below_step (by repeat (first | (with_reducible first | exact HB.out | apply wA | apply wN | apply wD | refine bS ?_ (IsS46.ge HI0.out) | refine bS ?_ GE155.out | refine bS ?_ GE162.out) | exact HB.out)) hb)
                clear BK155
                clear BK162
                clear HI0
                clear HK
                clear HB
                have BK155 := n0_
                have BK162 := n1_
                have HI0 := n2_
                have HK := n3_
                have HB := n4_
                clear n0_ n1_ n2_ n3_ n4_
                (try clear hb)
                (try clear hb2)
                (try clear hk)
                (try clear hi)
                refine hK.out _ _ ⟨bC BK162.out 0 rfl, bC BK162.out 1 rfl, bC BK162.out 2 rfl, bC BK162.out 3 rfl, bC BK162.out 4 rfl, bC BK162.out 5 rfl⟩ (fun hHeld => ?_)
                clear hK K
                refine norm_ (a' := ?_) ?_ ?_
                rotate_left
                ·show Act.put _ (some 59) _ = _
                 simp only [Act.put, sqA, sqZ, sqS, i64_w, i32_w]
                 rfl
                refine pure_ (i := 8) (N := some 60) (v := ?_) (a' := ?_) #[true, true, true, true, true, true, true, true, true, false] rfl rfl (any_of HT_.out (by kernel_rfl)) (fun _ _ _ h => h) (Or.inl ⟨by rfl, ?_⟩) ?_ ?_
                rotate_left
                ·intro w'
                 go_simp
                 with_reducible rfl
                rotate_left
                ·simp only [Act.put, sqA, sqZ, sqS, i64_w, i32_w]
                 rfl
                refine pure_ (i := 9) (N := some 61) (v := ?_) (a' := ?_) #[true, true, true, true, true, true, true, true, true, true] rfl rfl (any_of HT_.out (by kernel_rfl)) (fun _ _ _ h => h) (Or.inl ⟨by rfl, ?_⟩) ?_ ?_
                rotate_left
                ·intro w'
                 go_simp
                 with_reducible rfl
                rotate_left
                ·simp only [Act.put, sqA, sqZ, sqS, i64_w, i32_w]
                 rfl
                refine done_ (done_of HT_.out (by kernel_rfl)) ?_
                try go_wp2
                go_meet
                case rel => exact ⟨_, ((x163000_13 == t191 && (x163001_13 == t192 && (x163002_47 == t193 && (x163003_68.toList == t194.toList && (t160.toList == t195.toList && (t161 == t196))))))), (t190), (by first | rfl | (simp; done) | (simp [*]; done)), H', ⟨by have := HJ3.out; have := HJ13.out; have := HJ43.out; have := HJ47.out; have := HJ64.out; have := HJ68.out; first | omega | exact Nat.le_refl _⟩, ⟨by (with_reducible repeat (first | refine bN ?_ _ | refine bD ?_ | refine bA ?_ _)); exact BK155.out⟩, ⟨by (with_reducible repeat (first | refine bN ?_ _ | refine bD ?_ | refine bA ?_ _)); exact BK162.out⟩, ⟨by repeat (first | (with_reducible first | exact HI0.out | apply IsS46.alloc | apply IsS46.drewN | apply IsS46.drew | apply IsS46.set_1 | apply IsS46.far (hne := NB0_155.out) | apply IsS46.far (hne := NB0_162.out)) | exact HI0.out)⟩, ⟨by repeat (first | (with_reducible first | exact HK.out | apply KeepBut.set_ | apply keep_drewN | apply keep_drew | apply keep_alloc | refine keep_far ?_ GW155.out _ | refine keep_far ?_ GW162.out _) | exact HK.out)⟩, ⟨by repeat (first | (with_reducible first | exact HB.out | apply wA | apply wN | apply wD | refine bS ?_ (IsS46.ge HI0.out) | refine bS ?_ GE155.out | refine bS ?_ GE162.out) | exact HB.out)⟩⟩
             case rest =>
              clear HC81
              try clear c1
              try clear p1
              try clear q1
              try clear hx1
              try clear c2
              try clear p2
              try clear c3
              try clear c4
              try clear c5
              try clear c6
              try clear p6
              try clear c7
              try clear c8
              try clear c9
              try clear c11
              try clear c15
              try clear c16
              try clear c17
              try clear p17
              try clear q17
              try clear hx17
              try clear c18
              try clear c18b0
              try clear p18
              try clear q18
              try clear hx18
              try clear c19
              try clear c19b0
              try clear c21
              try clear c21b0
              try clear c21b1
              try clear c24
              try clear c25
              try clear c27
              try clear c28
              try clear c39
              try clear c40
              try clear c45
              try clear c49
              try clear c52
              try clear c54
              try clear c55
              try clear c61
              try clear c62
              try clear p64
              try clear c66
              try clear c70
              try clear c72
              try clear c72b0
              try clear c73
              try clear c73b0
              try clear c78
              try clear c79
              try clear c82
              try clear c85
              try clear hcz10_0
              try clear hcz10_1
              try clear hcz10_2
              try clear hcz10_3
              try clear hcz10_4
              try clear hcz10_5
              try clear hcz29_0
              try clear hcz29_1
              try clear hcz29_2
              try clear hcz29_3
              try clear hcz29_4
              try clear hcz29_5
              try clear hcz31_0
              try clear hcz31_1
              try clear hcz31_2
              try clear hcz31_3
              try clear hcz31_4
              try clear hcz31_5
              try clear hcz33_0
              try clear hcz33_1
              try clear hcz33_2
              try clear hcz33_3
              try clear hcz33_4
              try clear hcz33_5
              try clear hcz41_0
              try clear hcz41_1
              try clear hcz41_2
              try clear hcz41_3
              try clear hcz41_4
              try clear hcz41_5
              try clear hcz43_0
              try clear hcz43_1
              try clear hcz43_2
              try clear hcz43_3
              try clear hcz43_4
              try clear hcz43_5
              try clear hcz56_0
              try clear hcz56_1
              try clear hcz56_2
              try clear hcz56_3
              try clear hcz56_4
              try clear hcz56_5
              try clear hcz59_0
              try clear hcz59_1
              try clear hcz59_2
              try clear hcz59_3
              try clear hcz59_4
              try clear hcz59_5
              try clear hcz63_0
              try clear hcz63_1
              try clear hcz63_2
              try clear hcz63_3
              try clear hcz63_4
              try clear hcz63_5
              try clear hcz80_0
              try clear hcz80_1
              try clear hcz80_2
              try clear hcz80_3
              try clear hcz80_4
              try clear hcz80_5
              try clear hfz10_0
              try clear hfz10_1
              try clear hfz10_2
              try clear hfz10_3
              try clear hfz10_4
              try clear hfz10_5
              try clear hfz29_0
              try clear hfz29_1
              try clear hfz29_2
              try clear hfz29_3
              try clear hfz29_4
              try clear hfz29_5
              try clear hfz31_0
              try clear hfz31_1
              try clear hfz31_2
              try clear hfz31_3
              try clear hfz31_4
              try clear hfz31_5
              try clear hfz33_0
              try clear hfz33_1
              try clear hfz33_2
              try clear hfz33_3
              try clear hfz33_4
              try clear hfz33_5
              try clear hfz41_0
              try clear hfz41_1
              try clear hfz41_2
              try clear hfz41_3
              try clear hfz41_4
              try clear hfz41_5
              try clear hfz43_0
              try clear hfz43_1
              try clear hfz43_2
              try clear hfz43_3
              try clear hfz43_4
              try clear hfz43_5
              try clear hfz56_0
              try clear hfz56_1
              try clear hfz56_2
              try clear hfz56_3
              try clear hfz56_4
              try clear hfz56_5
              try clear hfz59_0
              try clear hfz59_1
              try clear hfz59_2
              try clear hfz59_3
              try clear hfz59_4
              try clear hfz59_5
              try clear hfz63_0
              try clear hfz63_1
              try clear hfz63_2
              try clear hfz63_3
              try clear hfz63_4
              try clear hfz63_5
              try clear hfz80_0
              try clear hfz80_1
              try clear hfz80_2
              try clear hfz80_3
              try clear hfz80_4
              try clear hfz80_5
              try clear hx172_0
              try clear hx188_0
              try clear p1
              try clear p17
              try clear p172
              try clear p18
              try clear p188
              try clear p2
              try clear p6
              try clear p64
              try clear q1
              try clear q17
              try clear q172
              try clear q18
              try clear q188
              obtain ⟨kq, x61_80, x1001_80, rfl, HA, HJ80, BK155, BK162, HI0, HK, HB⟩ := hcut
              cases kq with
              | zero => exact absurd HA.out (by simp [spec_l1Rd_sky.j6])
              | succ kj80 =>
               have H := HA.out
               clear HA
               simp only [spec_l1Rd_sky.j6] at H
               by_cases c92 : x61_80 = true
               ·subst c92
                have H1 : ((some (([(⟨#[83, 75, 67]⟩ : ByteArray), (⟨#[70, 69, 87]⟩ : ByteArray), (⟨#[83, 67, 84]⟩ : ByteArray), (⟨#[66, 75, 78]⟩ : ByteArray), (⟨#[79, 86, 67]⟩ : ByteArray)] : List ByteArray) : List ByteArray)).bind fun y197 => ((spec_l1Rd_below.f s0_0 x1001_80 5).bind fun bt200 => (if 0 ≤ bt200.1 then (if bt200.1 < (y197.length : Int) then (if (rdOf ByteArray.empty y197 bt200.1).toList = ([83, 75, 67] : List UInt8) then (some (x163000_13, x163001_13, x163002_47, x163003_68, rdOf ByteArray.empty y197 bt200.1, t161, bt200.2)) else ((spec_l1Rd_below.f s0_0 bt200.2 200).bind fun bt203 => (some (x163000_13, x163001_13, x163002_47, x163003_68, rdOf ByteArray.empty y197 bt200.1, wrap64 (1 + bt203.1), bt203.2)))) else (none)) else (none)))) = some (r1, r2, r3, r4, r5, r6, r7) := by rw [if_pos rfl] at H; exact H
                clear H
                have H := H1
                clear H1
                obtain ⟨y197, hy197⟩ : ∃ y_ : List ByteArray, y_ = (([(⟨#[83, 75, 67]⟩ : ByteArray), (⟨#[70, 69, 87]⟩ : ByteArray), (⟨#[83, 67, 84]⟩ : ByteArray), (⟨#[66, 75, 78]⟩ : ByteArray), (⟨#[79, 86, 67]⟩ : ByteArray)] : List ByteArray)) := ⟨_, rfl⟩
                replace H : ((spec_l1Rd_below.f s0_0 x1001_80 5).bind fun bt200 => (if 0 ≤ bt200.1 then (if bt200.1 < (y197.length : Int) then (if (rdOf ByteArray.empty y197 bt200.1).toList = ([83, 75, 67] : List UInt8) then (some (x163000_13, x163001_13, x163002_47, x163003_68, rdOf ByteArray.empty y197 bt200.1, t161, bt200.2)) else ((spec_l1Rd_below.f s0_0 bt200.2 200).bind fun bt203 => (some (x163000_13, x163001_13, x163002_47, x163003_68, rdOf ByteArray.empty y197 bt200.1, wrap64 (1 + bt203.1), bt203.2)))) else (none)) else (none))) = some (r1, r2, r3, r4, r5, r6, r7) := by first | (rw [hy197]; with_reducible exact H) | (have H2_ := (Option.bind_some _ _).symm.trans H; rw [hy197]; with_reducible exact H2_) | (have H2_ := (Option.bind_some _ _).symm.trans H; with_reducible exact H2_) | with_reducible exact H | (rw [hy197]; exact H) | exact H
                have Ny197 := Aside0.mk hy197
                clear hy197
                replace H := Option.bind_eq_some_iff.mp H
                obtain ⟨⟨t200, t201⟩, A930, H⟩ := H
                replace H : (if 0 ≤ t200 then (if t200 < (y197.length : Int) then (if (rdOf ByteArray.empty y197 t200).toList = ([83, 75, 67] : List UInt8) then (some (x163000_13, x163001_13, x163002_47, x163003_68, rdOf ByteArray.empty y197 t200, t161, t201)) else ((spec_l1Rd_below.f s0_0 t201 200).bind fun bt203 => (some (x163000_13, x163001_13, x163002_47, x163003_68, rdOf ByteArray.empty y197 t200, wrap64 (1 + bt203.1), bt203.2)))) else (none)) else (none)) = some (r1, r2, r3, r4, r5, r6, r7) := H
                have A93 := Aside0.mk A930
                clear A930
                by_cases c94 : 0 ≤ t200
                ·rw [if_pos c94] at H
                 have c94b0 : decide (0 ≤ t200) = true := decide_eq_true c94
                 clear c94
                 by_cases c95 : t200 < (y197.length : Int)
                 ·rw [if_pos c95] at H
                  have c95b0 : decide (t200 < (y197.length : Int)) = true := decide_eq_true c95
                  clear c95
                  by_cases c96 : (rdOf ByteArray.empty y197 t200).toList = ([83, 75, 67] : List UInt8)
                  ·rw [if_pos c96] at H
                   have c96b0 : ((rdOf ByteArray.empty y197 t200).toList == ([83, 75, 67] : List UInt8)) = true := beq_iff_eq.mpr c96
                   have c96b1 : ((rdOf ByteArray.empty y197 t200).toList != ([83, 75, 67] : List UInt8)) = false := bne_eq_false_iff_eq.mpr c96
                   clear c96
                   simp only [Option.some.injEq, Prod.mk.injEq] at H
                   obtain ⟨rfl, rfl, rfl, rfl, rfl, rfl, rfl⟩ := H
                   go_wp2_with (first | ((with_reducible refine gate_dst (N := 62) rfl ?_); refine Kd.R_lit Kd.string _ 9 ?hg (N := 62) ?hd (xs := ([(⟨#[83, 75, 67]⟩ : ByteArray), (⟨#[70, 69, 87]⟩ : ByteArray), (⟨#[83, 67, 84]⟩ : ByteArray), (⟨#[66, 75, 78]⟩ : ByteArray), (⟨#[79, 86, 67]⟩ : ByteArray)] : List ByteArray)) (inner := [.string (⟨#[83, 75, 67]⟩ : ByteArray), .string (⟨#[70, 69, 87]⟩ : ByteArray), .string (⟨#[83, 67, 84]⟩ : ByteArray), .string (⟨#[66, 75, 78]⟩ : ByteArray), .string (⟨#[79, 86, 67]⟩ : ByteArray)]) (ok := fun _ => True) (okp := fun _ => True) ?hr ?hp (fun _ hk => hk) trivial (Below.refl _ _) (Nat.le_refl _) (by simp) ?_; (case hd => rfl); (case hg => rfl); (case hr => first | (go_simp; done) | (go_simp; rfl)); (case hp => exact (Reps.one (show Kd.M Kd.string _ _ _ (⟨#[83, 75, 67]⟩ : ByteArray) [.string (⟨#[83, 75, 67]⟩ : ByteArray)] from rfl) (Reps.one (show Kd.M Kd.string _ _ _ (⟨#[70, 69, 87]⟩ : ByteArray) [.string (⟨#[70, 69, 87]⟩ : ByteArray)] from rfl) (Reps.one (show Kd.M Kd.string _ _ _ (⟨#[83, 67, 84]⟩ : ByteArray) [.string (⟨#[83, 67, 84]⟩ : ByteArray)] from rfl) (Reps.one (show Kd.M Kd.string _ _ _ (⟨#[66, 75, 78]⟩ : ByteArray) [.string (⟨#[66, 75, 78]⟩ : ByteArray)] from rfl) (Reps.one (show Kd.M Kd.string _ _ _ (⟨#[79, 86, 67]⟩ : ByteArray) [.string (⟨#[79, 86, 67]⟩ : ByteArray)] from rfl) (Reps.none _ _))))))); intro v198 w97 ho98 hb hg_ hnew_; clear hg_ hnew_; (first | rw [← Ny197.out] at ho98 | (simp only [Int.reduceToNat] at ho98; rw [← Ny197.out] at ho98)); have n0_ := A0 (Kd.R_lower ho98 (keep_size (w := w) (g := g) (row := none) (by repeat (first | (with_reducible first | exact HK.out | apply KeepBut.set_ | apply keep_drewN | apply keep_drew | apply keep_alloc | refine keep_far ?_ GW155.out _ | refine keep_far ?_ GW162.out _) | exact HK.out)))); have n1_ := A0 (blk_below (g := gb155) (o := .cells #[.int .i64 0, .int .i64 0, .int .i64 0, .string (⟨#[]⟩ : ByteArray), .string (⟨#[]⟩ : ByteArray), .int .i64 0] 25 (0, 0)) (by (with_reducible repeat (first | refine bN ?_ _ | refine bD ?_ | refine bA ?_ _)); exact BK155.out) hb); have n2_ := A0 (blk_below (g := gb162) (o := .cells #[.int .i64 x163000_13, .int .i64 x163001_13, .int .i64 x163002_47, .string x163003_68, .string t160, .int .i64 t161] 25 (0, 0)) (by (with_reducible repeat (first | refine bN ?_ _ | refine bD ?_ | refine bA ?_ _)); exact BK162.out) hb); have n3_ := A0 (IsS46.below (by repeat (first | (with_reducible first | exact HI0.out | apply IsS46.alloc | apply IsS46.drewN | apply IsS46.drew | apply IsS46.set_1 | apply IsS46.far (hne := NB0_155.out) | apply IsS46.far (hne := NB0_162.out)) | exact HI0.out)) hb); have n4_ := A0 (KeepBut.trans (by repeat (first | (with_reducible first | exact HK.out | apply KeepBut.set_ | apply keep_drewN | apply keep_drew | apply keep_alloc | refine keep_far ?_ GW155.out _ | refine keep_far ?_ GW162.out _) | exact HK.out)) (KeepBut.of_below hb g none) (.inl rfl)); have n5_ := A0 (below_step (by repeat (first | (with_reducible first | exact HB.out | apply wA | apply wN | apply wD | refine bS ?_ (IsS46.ge HI0.out) | refine bS ?_ GE155.out | refine bS ?_ GE162.out) | exact HB.out)) hb); clear BK155; clear BK162; clear HI0; clear HK; clear HB; have HO199 := n0_; have BK155 := n1_; have BK162 := n2_; have HI0 := n3_; have HK := n4_; have HB := n5_; clear n0_ n1_ n2_ n3_ n4_ n5_; clear hb ho98) | ((with_reducible refine gate_callee (f := 25) rfl ?_); refine goesL_ (some 64) rfl rfl Tryd.func25 (by kernel_rfl) rfl #[.pointer (some ⟨g, 0, none⟩), .int .i64 5] rfl (by (try simp only [lM, lC, lN]); first | done | rfl | (simp only [lD, lT]; rfl)) ?_; (with_reducible refine (spec_l1Rd_below.calls g s0_0 x1001_80 5 t200 t201 w0 _ ?side1 ?side2 A93.out).mono ?_); (case side1 => repeat (first | (with_reducible first | exact HI0.out | apply IsS46.alloc | apply IsS46.drewN | apply IsS46.drew | apply IsS46.set_1 | apply IsS46.far (hne := NB0_155.out) | apply IsS46.far (hne := NB0_162.out)) | exact HI0.out)); (case side2 => repeat (first | (with_reducible first | exact HB.out | apply wA | apply wN | apply wD | refine bS ?_ (IsS46.ge HI0.out) | refine bS ?_ GE155.out | refine bS ?_ GE162.out) | exact HB.out)); rintro e w99 ⟨rfl, hi, hb, hk⟩; refine ⟨_, rfl, ?_⟩; have n0_ := A0 (KeepBut.blk hk (g' := gb155) (o := .cells #[.int .i64 0, .int .i64 0, .int .i64 0, .string (⟨#[]⟩ : ByteArray), .string (⟨#[]⟩ : ByteArray), .int .i64 0] 25 (0, 0)) (by (with_reducible repeat (first | refine bN ?_ _ | refine bD ?_ | refine bA ?_ _)); exact BK155.out) NB155_0.out (by simp)); have n1_ := A0 (KeepBut.blk hk (g' := gb162) (o := .cells #[.int .i64 x163000_13, .int .i64 x163001_13, .int .i64 x163002_47, .string x163003_68, .string t160, .int .i64 t161] 25 (0, 0)) (by (with_reducible repeat (first | refine bN ?_ _ | refine bD ?_ | refine bA ?_ _)); exact BK162.out) NB162_0.out (by simp)); have n2_ := A0 (Kd.R_mono (Kd.R_keep (IsS46.apart (show IsS46 w0 _ g s0_0 x1001_80 from by repeat (first | (with_reducible first | exact HI0.out | apply IsS46.alloc | apply IsS46.drewN | apply IsS46.drew | apply IsS46.set_1 | apply IsS46.far (hne := NB0_155.out) | apply IsS46.far (hne := NB0_162.out)) | exact HI0.out)) (by (with_reducible repeat (first | apply Kd.R_alloc | apply Kd.R_drewN | apply Kd.R_drew)); exact HO199.out) (by decide)) hk (fun _ h => h.2)) (fun _ h => h.1)); have n3_ := A0 (KeepBut.trans (by repeat (first | (with_reducible first | exact HK.out | apply KeepBut.set_ | apply keep_drewN | apply keep_drew | apply keep_alloc | refine keep_far ?_ GW155.out _ | refine keep_far ?_ GW162.out _) | exact HK.out)) hk (.inl rfl)); have n4_ := A0 (hb); have n5_ := A0 (hi); clear BK155; clear BK162; clear HO199; clear HK; clear HB; clear HI0; have BK155 := n0_; have BK162 := n1_; have HO199 := n2_; have HK := n3_; have HB := n4_; have HI0 := n5_; clear n0_ n1_ n2_ n3_ n4_ n5_; (try clear hb); (try clear hb2); (try clear hk); (try clear hi); obtain ⟨Ao100, co100, eo100⟩ := Kd.R_slice HO199.out; subst eo100; have p202 : 0 ≤ (t200 : Int) := of_decide_eq_true (by first | (with_reducible assumption) | assumption); have q202 : t200 < (y197.length : Int) := of_decide_eq_true (by first | (with_reducible assumption) | assumption); obtain ⟨ad202, e202, hx202_0⟩ := Kd.at_string (Kd.R_reads' HO199.out).2.2 t200 p202 q202; cases e202; replace p202 := eq_true p202; replace q202 := eq_true q202; have hnb101 := NB162_155.out; have hnc101 := NB155_162.out; have hnb102 := NB162_0.out; have hnc102 := NB0_162.out; have hcz103_0 : w99.cell? ⟨gb162, 0, none⟩ = some (.int .i64 x163000_13) := bC BK162.out 0 rfl; have hcz103_1 : w99.cell? ⟨gb162, 1, none⟩ = some (.int .i64 x163001_13) := bC BK162.out 1 rfl; have hcz103_2 : w99.cell? ⟨gb162, 2, none⟩ = some (.int .i64 x163002_47) := bC BK162.out 2 rfl; have hcz103_3 : w99.cell? ⟨gb162, 3, none⟩ = some (.string x163003_68) := bC BK162.out 3 rfl; have hcz103_4 : w99.cell? ⟨gb162, 4, none⟩ = some (.string t160) := bC BK162.out 4 rfl; have hcz103_5 : w99.cell? ⟨gb162, 5, none⟩ = some (.int .i64 t161) := bC BK162.out 5 rfl; have hfz103_0 := blk_frozen BK162.out 0; have hfz103_1 := blk_frozen BK162.out 1; have hfz103_2 := blk_frozen BK162.out 2; have hfz103_3 := blk_frozen BK162.out 3; have hfz103_4 := blk_frozen BK162.out 4; have hfz103_5 := blk_frozen BK162.out 5; have hnb104 := NB155_0.out; have hnc104 := NB0_155.out; have hcz105_0 : w99.cell? ⟨gb155, 0, none⟩ = some (.int .i64 0) := bC BK155.out 0 rfl; have hcz105_1 : w99.cell? ⟨gb155, 1, none⟩ = some (.int .i64 0) := bC BK155.out 1 rfl; have hcz105_2 : w99.cell? ⟨gb155, 2, none⟩ = some (.int .i64 0) := bC BK155.out 2 rfl; have hcz105_3 : w99.cell? ⟨gb155, 3, none⟩ = some (.string (⟨#[]⟩ : ByteArray)) := bC BK155.out 3 rfl; have hcz105_4 : w99.cell? ⟨gb155, 4, none⟩ = some (.string (⟨#[]⟩ : ByteArray)) := bC BK155.out 4 rfl; have hcz105_5 : w99.cell? ⟨gb155, 5, none⟩ = some (.int .i64 0) := bC BK155.out 5 rfl; have hfz105_0 := blk_frozen BK155.out 0; have hfz105_1 := blk_frozen BK155.out 1; have hfz105_2 := blk_frozen BK155.out 2; have hfz105_3 := blk_frozen BK155.out 3; have hfz105_4 := blk_frozen BK155.out 4; have hfz105_5 := blk_frozen BK155.out 5))
                   refine bodyPost_ret (results_cell_row rfl _ _ gb155 25 #[.int .i64 x163000_13, .int .i64 x163001_13, .int .i64 x163002_47, .string x163003_68, .string (rdOf ByteArray.empty y197 t200), .int .i64 t161] (0, 0) _ rfl (by (with_reducible repeat (first | refine bN ?_ _ | refine bD ?_ | refine bA ?_ _)); refine blk_put (cs := #[.int .i64 x163000_13, .int .i64 x163001_13, .int .i64 x163002_47, .string x163003_68, .string (rdOf ByteArray.empty y197 t200), .int .i64 0]) ?_ 5 _ rfl; (with_reducible repeat (first | refine bN ?_ _ | refine bD ?_ | refine bA ?_ _)); refine blk_put (cs := #[.int .i64 x163000_13, .int .i64 x163001_13, .int .i64 x163002_47, .string x163003_68, .string (⟨#[]⟩ : ByteArray), .int .i64 0]) ?_ 4 _ rfl; (with_reducible repeat (first | refine bN ?_ _ | refine bD ?_ | refine bA ?_ _)); refine blk_put (cs := #[.int .i64 x163000_13, .int .i64 x163001_13, .int .i64 x163002_47, .string (⟨#[]⟩ : ByteArray), .string (⟨#[]⟩ : ByteArray), .int .i64 0]) ?_ 3 _ rfl; (with_reducible repeat (first | refine bN ?_ _ | refine bD ?_ | refine bA ?_ _)); refine blk_put (cs := #[.int .i64 x163000_13, .int .i64 x163001_13, .int .i64 0, .string (⟨#[]⟩ : ByteArray), .string (⟨#[]⟩ : ByteArray), .int .i64 0]) ?_ 2 _ rfl; (with_reducible repeat (first | refine bN ?_ _ | refine bD ?_ | refine bA ?_ _)); refine blk_put (cs := #[.int .i64 x163000_13, .int .i64 0, .int .i64 0, .string (⟨#[]⟩ : ByteArray), .string (⟨#[]⟩ : ByteArray), .int .i64 0]) ?_ 1 _ rfl; (with_reducible repeat (first | refine bN ?_ _ | refine bD ?_ | refine bA ?_ _)); refine blk_put (cs := #[.int .i64 0, .int .i64 0, .int .i64 0, .string (⟨#[]⟩ : ByteArray), .string (⟨#[]⟩ : ByteArray), .int .i64 0]) ?_ 0 _ rfl; (with_reducible repeat (first | refine bN ?_ _ | refine bD ?_ | refine bA ?_ _)); refine blk_far ?_ NB155_162.out _; (with_reducible repeat (first | refine bN ?_ _ | refine bD ?_ | refine bA ?_ _)); exact BK155.out) Tryd.underlying25 rfl (by kernel_rfl)) rfl ?_
                   exact ⟨by first | rfl | (simp [errW_none, errW_some] <;> rfl) | (simp [*, errW_none, errW_some] <;> rfl), by repeat (first | (with_reducible first | exact HI0.out | apply IsS46.alloc | apply IsS46.drewN | apply IsS46.drew | apply IsS46.set_1 | apply IsS46.far (hne := NB0_155.out) | apply IsS46.far (hne := NB0_162.out)) | exact HI0.out), by repeat (first | (with_reducible first | exact HB.out | apply wA | apply wN | apply wD | refine bS ?_ (IsS46.ge HI0.out) | refine bS ?_ GE155.out | refine bS ?_ GE162.out) | exact HB.out), by repeat (first | (with_reducible first | exact HK.out | apply KeepBut.set_ | apply keep_drewN | apply keep_drew | apply keep_alloc | refine keep_far ?_ GW155.out _ | refine keep_far ?_ GW162.out _) | exact HK.out)⟩
                  ·rw [if_neg c96] at H
                   have c96b0 : ((rdOf ByteArray.empty y197 t200).toList == ([83, 75, 67] : List UInt8)) = false := beq_eq_false_iff_ne.mpr c96
                   have c96b1 : ((rdOf ByteArray.empty y197 t200).toList != ([83, 75, 67] : List UInt8)) = true := bne_iff_ne.mpr c96
                   replace H := Option.bind_eq_some_iff.mp H
                   obtain ⟨⟨t203, t204⟩, A1060, H⟩ := H
                   replace H : (some (x163000_13, x163001_13, x163002_47, x163003_68, rdOf ByteArray.empty y197 t200, wrap64 (1 + t203), t204)) = some (r1, r2, r3, r4, r5, r6, r7) := H
                   have A106 := Aside0.mk A1060
                   clear A1060
                   simp only [Option.some.injEq, Prod.mk.injEq] at H
                   obtain ⟨rfl, rfl, rfl, rfl, rfl, rfl, rfl⟩ := H
                   go_wp2_with (first | ((with_reducible refine gate_dst (N := 62) rfl ?_); refine Kd.R_lit Kd.string _ 9 ?hg (N := 62) ?hd (xs := ([(⟨#[83, 75, 67]⟩ : ByteArray), (⟨#[70, 69, 87]⟩ : ByteArray), (⟨#[83, 67, 84]⟩ : ByteArray), (⟨#[66, 75, 78]⟩ : ByteArray), (⟨#[79, 86, 67]⟩ : ByteArray)] : List ByteArray)) (inner := [.string (⟨#[83, 75, 67]⟩ : ByteArray), .string (⟨#[70, 69, 87]⟩ : ByteArray), .string (⟨#[83, 67, 84]⟩ : ByteArray), .string (⟨#[66, 75, 78]⟩ : ByteArray), .string (⟨#[79, 86, 67]⟩ : ByteArray)]) (ok := fun _ => True) (okp := fun _ => True) ?hr ?hp (fun _ hk => hk) trivial (Below.refl _ _) (Nat.le_refl _) (by simp) ?_; (case hd => rfl); (case hg => rfl); (case hr => first | (go_simp; done) | (go_simp; rfl)); (case hp => exact (Reps.one (show Kd.M Kd.string _ _ _ (⟨#[83, 75, 67]⟩ : ByteArray) [.string (⟨#[83, 75, 67]⟩ : ByteArray)] from rfl) (Reps.one (show Kd.M Kd.string _ _ _ (⟨#[70, 69, 87]⟩ : ByteArray) [.string (⟨#[70, 69, 87]⟩ : ByteArray)] from rfl) (Reps.one (show Kd.M Kd.string _ _ _ (⟨#[83, 67, 84]⟩ : ByteArray) [.string (⟨#[83, 67, 84]⟩ : ByteArray)] from rfl) (Reps.one (show Kd.M Kd.string _ _ _ (⟨#[66, 75, 78]⟩ : ByteArray) [.string (⟨#[66, 75, 78]⟩ : ByteArray)] from rfl) (Reps.one (show Kd.M Kd.string _ _ _ (⟨#[79, 86, 67]⟩ : ByteArray) [.string (⟨#[79, 86, 67]⟩ : ByteArray)] from rfl) (Reps.none _ _))))))); intro v198 w107 ho108 hb hg_ hnew_; clear hg_ hnew_; (first | rw [← Ny197.out] at ho108 | (simp only [Int.reduceToNat] at ho108; rw [← Ny197.out] at ho108)); have n0_ := A0 (Kd.R_lower ho108 (keep_size (w := w) (g := g) (row := none) (by repeat (first | (with_reducible first | exact HK.out | apply KeepBut.set_ | apply keep_drewN | apply keep_drew | apply keep_alloc | refine keep_far ?_ GW155.out _ | refine keep_far ?_ GW162.out _) | exact HK.out)))); have n1_ := A0 (blk_below (g := gb155) (o := .cells #[.int .i64 0, .int .i64 0, .int .i64 0, .string (⟨#[]⟩ : ByteArray), .string (⟨#[]⟩ : ByteArray), .int .i64 0] 25 (0, 0)) (by (with_reducible repeat (first | refine bN ?_ _ | refine bD ?_ | refine bA ?_ _)); exact BK155.out) hb); have n2_ := A0 (blk_below (g := gb162) (o := .cells #[.int .i64 x163000_13, .int .i64 x163001_13, .int .i64 x163002_47, .string x163003_68, .string t160, .int .i64 t161] 25 (0, 0)) (by (with_reducible repeat (first | refine bN ?_ _ | refine bD ?_ | refine bA ?_ _)); exact BK162.out) hb); have n3_ := A0 (IsS46.below (by repeat (first | (with_reducible first | exact HI0.out | apply IsS46.alloc | apply IsS46.drewN | apply IsS46.drew | apply IsS46.set_1 | apply IsS46.far (hne := NB0_155.out) | apply IsS46.far (hne := NB0_162.out)) | exact HI0.out)) hb); have n4_ := A0 (KeepBut.trans (by repeat (first | (with_reducible first | exact HK.out | apply KeepBut.set_ | apply keep_drewN | apply keep_drew | apply keep_alloc | refine keep_far ?_ GW155.out _ | refine keep_far ?_ GW162.out _) | exact HK.out)) (KeepBut.of_below hb g none) (.inl rfl)); have n5_ := A0 (below_step (by repeat (first | (with_reducible first | exact HB.out | apply wA | apply wN | apply wD | refine bS ?_ (IsS46.ge HI0.out) | refine bS ?_ GE155.out | refine bS ?_ GE162.out) | exact HB.out)) hb); clear BK155; clear BK162; clear HI0; clear HK; clear HB; have HO199 := n0_; have BK155 := n1_; have BK162 := n2_; have HI0 := n3_; have HK := n4_; have HB := n5_; clear n0_ n1_ n2_ n3_ n4_ n5_; clear hb ho108) | ((with_reducible refine gate_callee (f := 25) rfl ?_); refine goesL_ (some 64) rfl rfl Tryd.func25 (by kernel_rfl) rfl #[.pointer (some ⟨g, 0, none⟩), .int .i64 5] rfl (by (try simp only [lM, lC, lN]); first | done | rfl | (simp only [lD, lT]; rfl)) ?_; (with_reducible refine (spec_l1Rd_below.calls g s0_0 x1001_80 5 t200 t201 w0 _ ?side1 ?side2 A93.out).mono ?_); (case side1 => repeat (first | (with_reducible first | exact HI0.out | apply IsS46.alloc | apply IsS46.drewN | apply IsS46.drew | apply IsS46.set_1 | apply IsS46.far (hne := NB0_155.out) | apply IsS46.far (hne := NB0_162.out)) | exact HI0.out)); (case side2 => repeat (first | (with_reducible first | exact HB.out | apply wA | apply wN | apply wD | refine bS ?_ (IsS46.ge HI0.out) | refine bS ?_ GE155.out | refine bS ?_ GE162.out) | exact HB.out)); rintro e w109 ⟨rfl, hi, hb, hk⟩; refine ⟨_, rfl, ?_⟩; have n0_ := A0 (KeepBut.blk hk (g' := gb155) (o := .cells #[.int .i64 0, .int .i64 0, .int .i64 0, .string (⟨#[]⟩ : ByteArray), .string (⟨#[]⟩ : ByteArray), .int .i64 0] 25 (0, 0)) (by (with_reducible repeat (first | refine bN ?_ _ | refine bD ?_ | refine bA ?_ _)); exact BK155.out) NB155_0.out (by simp)); have n1_ := A0 (KeepBut.blk hk (g' := gb162) (o := .cells #[.int .i64 x163000_13, .int .i64 x163001_13, .int .i64 x163002_47, .string x163003_68, .string t160, .int .i64 t161] 25 (0, 0)) (by (with_reducible repeat (first | refine bN ?_ _ | refine bD ?_ | refine bA ?_ _)); exact BK162.out) NB162_0.out (by simp)); have n2_ := A0 (Kd.R_mono (Kd.R_keep (IsS46.apart (show IsS46 w0 _ g s0_0 x1001_80 from by repeat (first | (with_reducible first | exact HI0.out | apply IsS46.alloc | apply IsS46.drewN | apply IsS46.drew | apply IsS46.set_1 | apply IsS46.far (hne := NB0_155.out) | apply IsS46.far (hne := NB0_162.out)) | exact HI0.out)) (by (with_reducible repeat (first | apply Kd.R_alloc | apply Kd.R_drewN | apply Kd.R_drew)); exact HO199.out) (by decide)) hk (fun _ h => h.2)) (fun _ h => h.1)); have n3_ := A0 (KeepBut.trans (by repeat (first | (with_reducible first | exact HK.out | apply KeepBut.set_ | apply keep_drewN | apply keep_drew | apply keep_alloc | refine keep_far ?_ GW155.out _ | refine keep_far ?_ GW162.out _) | exact HK.out)) hk (.inl rfl)); have n4_ := A0 (hb); have n5_ := A0 (hi); clear BK155; clear BK162; clear HO199; clear HK; clear HB; clear HI0; have BK155 := n0_; have BK162 := n1_; have HO199 := n2_; have HK := n3_; have HB := n4_; have HI0 := n5_; clear n0_ n1_ n2_ n3_ n4_ n5_; (try clear hb); (try clear hb2); (try clear hk); (try clear hi); obtain ⟨Ao110, co110, eo110⟩ := Kd.R_slice HO199.out; subst eo110; have p202 : 0 ≤ (t200 : Int) := of_decide_eq_true (by first | (with_reducible assumption) | assumption); have q202 : t200 < (y197.length : Int) := of_decide_eq_true (by first | (with_reducible assumption) | assumption); obtain ⟨ad202, e202, hx202_0⟩ := Kd.at_string (Kd.R_reads' HO199.out).2.2 t200 p202 q202; cases e202; replace p202 := eq_true p202; replace q202 := eq_true q202; have hnb111 := NB162_155.out; have hnc111 := NB155_162.out; have hnb112 := NB162_0.out; have hnc112 := NB0_162.out; have hcz113_0 : w109.cell? ⟨gb162, 0, none⟩ = some (.int .i64 x163000_13) := bC BK162.out 0 rfl; have hcz113_1 : w109.cell? ⟨gb162, 1, none⟩ = some (.int .i64 x163001_13) := bC BK162.out 1 rfl; have hcz113_2 : w109.cell? ⟨gb162, 2, none⟩ = some (.int .i64 x163002_47) := bC BK162.out 2 rfl; have hcz113_3 : w109.cell? ⟨gb162, 3, none⟩ = some (.string x163003_68) := bC BK162.out 3 rfl; have hcz113_4 : w109.cell? ⟨gb162, 4, none⟩ = some (.string t160) := bC BK162.out 4 rfl; have hcz113_5 : w109.cell? ⟨gb162, 5, none⟩ = some (.int .i64 t161) := bC BK162.out 5 rfl; have hfz113_0 := blk_frozen BK162.out 0; have hfz113_1 := blk_frozen BK162.out 1; have hfz113_2 := blk_frozen BK162.out 2; have hfz113_3 := blk_frozen BK162.out 3; have hfz113_4 := blk_frozen BK162.out 4; have hfz113_5 := blk_frozen BK162.out 5) | ((with_reducible refine gate_callee (f := 25) rfl ?_); refine goesL_ (some 72) rfl rfl Tryd.func25 (by kernel_rfl) rfl #[.pointer (some ⟨g, 0, none⟩), .int .i64 200] rfl (by (try simp only [lM, lC, lN]); first | done | rfl | (simp only [lD, lT]; rfl)) ?_; (with_reducible refine (spec_l1Rd_below.calls g s0_0 t201 200 t203 t204 w0 _ ?side1 ?side2 A106.out).mono ?_); (case side1 => repeat (first | (with_reducible first | exact HI0.out | apply IsS46.alloc | apply IsS46.drewN | apply IsS46.drew | apply IsS46.set_1 | apply IsS46.far (hne := NB0_155.out) | apply IsS46.far (hne := NB0_162.out)) | exact HI0.out)); (case side2 => repeat (first | (with_reducible first | exact HB.out | apply wA | apply wN | apply wD | refine bS ?_ (IsS46.ge HI0.out) | refine bS ?_ GE155.out | refine bS ?_ GE162.out) | exact HB.out)); rintro e w114 ⟨rfl, hi, hb, hk⟩; refine ⟨_, rfl, ?_⟩; have n0_ := A0 (KeepBut.blk hk (g' := gb155) (o := .cells #[.int .i64 0, .int .i64 0, .int .i64 0, .string (⟨#[]⟩ : ByteArray), .string (⟨#[]⟩ : ByteArray), .int .i64 0] 25 (0, 0)) (by (with_reducible repeat (first | refine bN ?_ _ | refine bD ?_ | refine bA ?_ _)); refine blk_far ?_ NB155_162.out _; (with_reducible repeat (first | refine bN ?_ _ | refine bD ?_ | refine bA ?_ _)); exact BK155.out) NB155_0.out (by simp)); have n1_ := A0 (KeepBut.blk hk (g' := gb162) (o := .cells #[.int .i64 x163000_13, .int .i64 x163001_13, .int .i64 x163002_47, .string x163003_68, .string (rdOf ByteArray.empty y197 t200), .int .i64 t161] 25 (0, 0)) (by (with_reducible repeat (first | refine bN ?_ _ | refine bD ?_ | refine bA ?_ _)); refine blk_put (cs := #[.int .i64 x163000_13, .int .i64 x163001_13, .int .i64 x163002_47, .string x163003_68, .string t160, .int .i64 t161]) ?_ 4 _ rfl; (with_reducible repeat (first | refine bN ?_ _ | refine bD ?_ | refine bA ?_ _)); exact BK162.out) NB162_0.out (by simp)); have n2_ := A0 (Kd.R_mono (Kd.R_keep (IsS46.apart (show IsS46 w0 _ g s0_0 t201 from by repeat (first | (with_reducible first | exact HI0.out | apply IsS46.alloc | apply IsS46.drewN | apply IsS46.drew | apply IsS46.set_1 | apply IsS46.far (hne := NB0_155.out) | apply IsS46.far (hne := NB0_162.out)) | exact HI0.out)) (by (with_reducible repeat (first | apply Kd.R_alloc | apply Kd.R_drewN | apply Kd.R_drew)); exact (Kd.R_mono (Kd.R_far (p := ⟨gb162, 4, none⟩) (Kd.R_types HO199.out BK162.out (by decide)) (fun _ hk => hk.2) (.string (rdOf ByteArray.empty y197 t200))) (fun _ h_ => h_.1))) (by decide)) hk (fun _ h => h.2)) (fun _ h => h.1)); have n3_ := A0 (KeepBut.trans (by repeat (first | (with_reducible first | exact HK.out | apply KeepBut.set_ | apply keep_drewN | apply keep_drew | apply keep_alloc | refine keep_far ?_ GW155.out _ | refine keep_far ?_ GW162.out _) | exact HK.out)) hk (.inl rfl)); have n4_ := A0 (hb); have n5_ := A0 (hi); clear BK155; clear BK162; clear HO199; clear HK; clear HB; clear HI0; have BK155 := n0_; have BK162 := n1_; have HO199 := n2_; have HK := n3_; have HB := n4_; have HI0 := n5_; clear n0_ n1_ n2_ n3_ n4_ n5_; (try clear hb); (try clear hb2); (try clear hk); (try clear hi); have hcz115_0 : w114.cell? ⟨gb162, 0, none⟩ = some (.int .i64 x163000_13) := bC BK162.out 0 rfl; have hcz115_1 : w114.cell? ⟨gb162, 1, none⟩ = some (.int .i64 x163001_13) := bC BK162.out 1 rfl; have hcz115_2 : w114.cell? ⟨gb162, 2, none⟩ = some (.int .i64 x163002_47) := bC BK162.out 2 rfl; have hcz115_3 : w114.cell? ⟨gb162, 3, none⟩ = some (.string x163003_68) := bC BK162.out 3 rfl; have hcz115_4 : w114.cell? ⟨gb162, 4, none⟩ = some (.string (rdOf ByteArray.empty y197 t200)) := bC BK162.out 4 rfl; have hcz115_5 : w114.cell? ⟨gb162, 5, none⟩ = some (.int .i64 t161) := bC BK162.out 5 rfl; have hfz115_0 := blk_frozen BK162.out 0; have hfz115_1 := blk_frozen BK162.out 1; have hfz115_2 := blk_frozen BK162.out 2; have hfz115_3 := blk_frozen BK162.out 3; have hfz115_4 := blk_frozen BK162.out 4; have hfz115_5 := blk_frozen BK162.out 5; have hnb116 := NB155_0.out; have hnc116 := NB0_155.out; have hcz117_0 : w114.cell? ⟨gb155, 0, none⟩ = some (.int .i64 0) := bC BK155.out 0 rfl; have hcz117_1 : w114.cell? ⟨gb155, 1, none⟩ = some (.int .i64 0) := bC BK155.out 1 rfl; have hcz117_2 : w114.cell? ⟨gb155, 2, none⟩ = some (.int .i64 0) := bC BK155.out 2 rfl; have hcz117_3 : w114.cell? ⟨gb155, 3, none⟩ = some (.string (⟨#[]⟩ : ByteArray)) := bC BK155.out 3 rfl; have hcz117_4 : w114.cell? ⟨gb155, 4, none⟩ = some (.string (⟨#[]⟩ : ByteArray)) := bC BK155.out 4 rfl; have hcz117_5 : w114.cell? ⟨gb155, 5, none⟩ = some (.int .i64 0) := bC BK155.out 5 rfl; have hfz117_0 := blk_frozen BK155.out 0; have hfz117_1 := blk_frozen BK155.out 1; have hfz117_2 := blk_frozen BK155.out 2; have hfz117_3 := blk_frozen BK155.out 3; have hfz117_4 := blk_frozen BK155.out 4; have hfz117_5 := blk_frozen BK155.out 5))
                   refine bodyPost_ret (results_cell_row rfl _ _ gb155 25 #[.int .i64 x163000_13, .int .i64 x163001_13, .int .i64 x163002_47, .string x163003_68, .string (rdOf ByteArray.empty y197 t200), .int .i64 (wrap64 (1 + t203))] (0, 0) _ rfl (by (with_reducible repeat (first | refine bN ?_ _ | refine bD ?_ | refine bA ?_ _)); refine blk_put (cs := #[.int .i64 x163000_13, .int .i64 x163001_13, .int .i64 x163002_47, .string x163003_68, .string (rdOf ByteArray.empty y197 t200), .int .i64 0]) ?_ 5 _ rfl; (with_reducible repeat (first | refine bN ?_ _ | refine bD ?_ | refine bA ?_ _)); refine blk_put (cs := #[.int .i64 x163000_13, .int .i64 x163001_13, .int .i64 x163002_47, .string x163003_68, .string (⟨#[]⟩ : ByteArray), .int .i64 0]) ?_ 4 _ rfl; (with_reducible repeat (first | refine bN ?_ _ | refine bD ?_ | refine bA ?_ _)); refine blk_put (cs := #[.int .i64 x163000_13, .int .i64 x163001_13, .int .i64 x163002_47, .string (⟨#[]⟩ : ByteArray), .string (⟨#[]⟩ : ByteArray), .int .i64 0]) ?_ 3 _ rfl; (with_reducible repeat (first | refine bN ?_ _ | refine bD ?_ | refine bA ?_ _)); refine blk_put (cs := #[.int .i64 x163000_13, .int .i64 x163001_13, .int .i64 0, .string (⟨#[]⟩ : ByteArray), .string (⟨#[]⟩ : ByteArray), .int .i64 0]) ?_ 2 _ rfl; (with_reducible repeat (first | refine bN ?_ _ | refine bD ?_ | refine bA ?_ _)); refine blk_put (cs := #[.int .i64 x163000_13, .int .i64 0, .int .i64 0, .string (⟨#[]⟩ : ByteArray), .string (⟨#[]⟩ : ByteArray), .int .i64 0]) ?_ 1 _ rfl; (with_reducible repeat (first | refine bN ?_ _ | refine bD ?_ | refine bA ?_ _)); refine blk_put (cs := #[.int .i64 0, .int .i64 0, .int .i64 0, .string (⟨#[]⟩ : ByteArray), .string (⟨#[]⟩ : ByteArray), .int .i64 0]) ?_ 0 _ rfl; (with_reducible repeat (first | refine bN ?_ _ | refine bD ?_ | refine bA ?_ _)); refine blk_far ?_ NB155_162.out _; (with_reducible repeat (first | refine bN ?_ _ | refine bD ?_ | refine bA ?_ _)); exact BK155.out) Tryd.underlying25 rfl (by kernel_rfl)) rfl ?_
                   exact ⟨by first | rfl | (simp [errW_none, errW_some] <;> rfl) | (simp [*, errW_none, errW_some] <;> rfl), by repeat (first | (with_reducible first | exact HI0.out | apply IsS46.alloc | apply IsS46.drewN | apply IsS46.drew | apply IsS46.set_1 | apply IsS46.far (hne := NB0_155.out) | apply IsS46.far (hne := NB0_162.out)) | exact HI0.out), by repeat (first | (with_reducible first | exact HB.out | apply wA | apply wN | apply wD | refine bS ?_ (IsS46.ge HI0.out) | refine bS ?_ GE155.out | refine bS ?_ GE162.out) | exact HB.out), by repeat (first | (with_reducible first | exact HK.out | apply KeepBut.set_ | apply keep_drewN | apply keep_drew | apply keep_alloc | refine keep_far ?_ GW155.out _ | refine keep_far ?_ GW162.out _) | exact HK.out)⟩
                 ·rw [if_neg c95] at H
                  exact absurd H (by simp)
                ·rw [if_neg c94] at H
                 exact absurd H (by simp)
               ·replace c92 := Bool.eq_false_iff.mpr c92
                subst c92
                have H1 : (some (x163000_13, x163001_13, x163002_47, x163003_68, t160, t161, x1001_80)) = some (r1, r2, r3, r4, r5, r6, r7) := by rw [if_neg (show ¬ (false = true) by decide)] at H; exact H
                clear H
                have H := H1
                clear H1
                simp only [Option.some.injEq, Prod.mk.injEq] at H
                obtain ⟨rfl, rfl, rfl, rfl, rfl, rfl, rfl⟩ := H
                have hnb118 := NB162_155.out
                have hnc118 := NB155_162.out
                have hnb119 := NB162_0.out
                have hnc119 := NB0_162.out
                have hcz120_0 : wc.cell? ⟨gb162, 0, none⟩ = some (.int .i64 x163000_13) := bC BK162.out 0 rfl
                have hcz120_1 : wc.cell? ⟨gb162, 1, none⟩ = some (.int .i64 x163001_13) := bC BK162.out 1 rfl
                have hcz120_2 : wc.cell? ⟨gb162, 2, none⟩ = some (.int .i64 x163002_47) := bC BK162.out 2 rfl
                have hcz120_3 : wc.cell? ⟨gb162, 3, none⟩ = some (.string x163003_68) := bC BK162.out 3 rfl
                have hcz120_4 : wc.cell? ⟨gb162, 4, none⟩ = some (.string t160) := bC BK162.out 4 rfl
                have hcz120_5 : wc.cell? ⟨gb162, 5, none⟩ = some (.int .i64 t161) := bC BK162.out 5 rfl
                have hfz120_0 := blk_frozen BK162.out 0
                have hfz120_1 := blk_frozen BK162.out 1
                have hfz120_2 := blk_frozen BK162.out 2
                have hfz120_3 := blk_frozen BK162.out 3
                have hfz120_4 := blk_frozen BK162.out 4
                have hfz120_5 := blk_frozen BK162.out 5
                have hnb121 := NB155_0.out
                have hnc121 := NB0_155.out
                have hcz122_0 : wc.cell? ⟨gb155, 0, none⟩ = some (.int .i64 0) := bC BK155.out 0 rfl
                have hcz122_1 : wc.cell? ⟨gb155, 1, none⟩ = some (.int .i64 0) := bC BK155.out 1 rfl
                have hcz122_2 : wc.cell? ⟨gb155, 2, none⟩ = some (.int .i64 0) := bC BK155.out 2 rfl
                have hcz122_3 : wc.cell? ⟨gb155, 3, none⟩ = some (.string (⟨#[]⟩ : ByteArray)) := bC BK155.out 3 rfl
                have hcz122_4 : wc.cell? ⟨gb155, 4, none⟩ = some (.string (⟨#[]⟩ : ByteArray)) := bC BK155.out 4 rfl
                have hcz122_5 : wc.cell? ⟨gb155, 5, none⟩ = some (.int .i64 0) := bC BK155.out 5 rfl
                have hfz122_0 := blk_frozen BK155.out 0
                have hfz122_1 := blk_frozen BK155.out 1
                have hfz122_2 := blk_frozen BK155.out 2
                have hfz122_3 := blk_frozen BK155.out 3
                have hfz122_4 := blk_frozen BK155.out 4
                have hfz122_5 := blk_frozen BK155.out 5
                go_wp2
                refine bodyPost_ret (results_cell_row rfl _ _ gb155 25 #[.int .i64 x163000_13, .int .i64 x163001_13, .int .i64 x163002_47, .string x163003_68, .string t160, .int .i64 t161] (0, 0) _ rfl (by (with_reducible repeat (first | refine bN ?_ _ | refine bD ?_ | refine bA ?_ _)); refine blk_put (cs := #[.int .i64 x163000_13, .int .i64 x163001_13, .int .i64 x163002_47, .string x163003_68, .string t160, .int .i64 0]) ?_ 5 _ rfl; (with_reducible repeat (first | refine bN ?_ _ | refine bD ?_ | refine bA ?_ _)); refine blk_put (cs := #[.int .i64 x163000_13, .int .i64 x163001_13, .int .i64 x163002_47, .string x163003_68, .string (⟨#[]⟩ : ByteArray), .int .i64 0]) ?_ 4 _ rfl; (with_reducible repeat (first | refine bN ?_ _ | refine bD ?_ | refine bA ?_ _)); refine blk_put (cs := #[.int .i64 x163000_13, .int .i64 x163001_13, .int .i64 x163002_47, .string (⟨#[]⟩ : ByteArray), .string (⟨#[]⟩ : ByteArray), .int .i64 0]) ?_ 3 _ rfl; (with_reducible repeat (first | refine bN ?_ _ | refine bD ?_ | refine bA ?_ _)); refine blk_put (cs := #[.int .i64 x163000_13, .int .i64 x163001_13, .int .i64 0, .string (⟨#[]⟩ : ByteArray), .string (⟨#[]⟩ : ByteArray), .int .i64 0]) ?_ 2 _ rfl; (with_reducible repeat (first | refine bN ?_ _ | refine bD ?_ | refine bA ?_ _)); refine blk_put (cs := #[.int .i64 x163000_13, .int .i64 0, .int .i64 0, .string (⟨#[]⟩ : ByteArray), .string (⟨#[]⟩ : ByteArray), .int .i64 0]) ?_ 1 _ rfl; (with_reducible repeat (first | refine bN ?_ _ | refine bD ?_ | refine bA ?_ _)); refine blk_put (cs := #[.int .i64 0, .int .i64 0, .int .i64 0, .string (⟨#[]⟩ : ByteArray), .string (⟨#[]⟩ : ByteArray), .int .i64 0]) ?_ 0 _ rfl; (with_reducible repeat (first | refine bN ?_ _ | refine bD ?_ | refine bA ?_ _)); exact BK155.out) Tryd.underlying25 rfl (by kernel_rfl)) rfl ?_
                exact ⟨by first | rfl | (simp [errW_none, errW_some] <;> rfl) | (simp [*, errW_none, errW_some] <;> rfl), by repeat (first | (with_reducible first | exact HI0.out | apply IsS46.alloc | apply IsS46.drewN | apply IsS46.drew | apply IsS46.set_1 | apply IsS46.far (hne := NB0_155.out) | apply IsS46.far (hne := NB0_162.out)) | exact HI0.out), by repeat (first | (with_reducible first | exact HB.out | apply wA | apply wN | apply wD | refine bS ?_ (IsS46.ge HI0.out) | refine bS ?_ GE155.out | refine bS ?_ GE162.out) | exact HB.out), by repeat (first | (with_reducible first | exact HK.out | apply KeepBut.set_ | apply keep_drewN | apply keep_drew | apply keep_alloc | refine keep_far ?_ GW155.out _ | refine keep_far ?_ GW162.out _) | exact HK.out)⟩

end Go.Proofs.YtcdghhihfjojaabDoor.Q
