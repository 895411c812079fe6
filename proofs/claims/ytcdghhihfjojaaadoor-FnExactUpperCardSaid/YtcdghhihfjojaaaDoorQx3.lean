/- Plain Lean functions with the same answers as the Go functions of this seat, and a proof for each that the Go code comes to just these answers; no condition. Written by a program of this session (the kit's printer, turned). -/
import Derived.Test.YtcdghhihfjojaaaDoorQx0
namespace Go.Proofs.YtcdghhihfjojaaaDoor.Q
open Go.RowKit Go.Proofs.YtcdghhihfjojaaaDoorW.PrintWords Go.Proofs.YtcdghhihfjojaaaDoorW.PrintLast Go.Proofs.YtcdghhihfjojaaaDoorW.PrintMore Go.Proofs.YtcdghhihfjojaaaDoorW.PrintFlt
attribute [local go_sem] cmp_lss cmp_leq cmp_gtr cmp_geq cmp_eql cmp_neq flt_l flt_r fgt_l fgt_r feq_l feq_r fne_l fne_r ord_lt ord_gt ord_eq ord_ne conv_int conv_flt foi_fold run_store_flt
attribute [local go_sem] max2_int min2_int max_two min_two max_three min_three max_four min_four   -- for this text's walks alone
set_option linter.unusedVariables false
set_option linter.unusedSimpArgs false

/-! ### spec_l4Up: function 17 -/
mutual
def spec_l4Up.j0 : Nat → ByteArray → Int → Bool → Option (ByteArray)
 | 0, _, _, _ => none
 | k + 1, x0, x3, x14 => if x14 = true then (some (strOfNums (([(x3 - 32) % 256] : List Int)))) else (if x3 < 128 then (some x0) else (some (⟨#[63]⟩ : ByteArray)))
def spec_l4Up.j1 : Nat → ByteArray → Bool → Option (ByteArray)
 | 0, _, _ => none
 | k + 1, x22, x23 => if x23 = true then (some (⟨#[65, 69]⟩ : ByteArray)) else (if x22.toList = ([195, 182] : List UInt8) then (spec_l4Up.j2 k x22 (x22.toList == ([195, 182] : List UInt8))) else (if x22.toList = ([195, 150] : List UInt8) then (spec_l4Up.j2 k x22 (x22.toList == ([195, 150] : List UInt8))) else (if x22.toList = ([195, 184] : List UInt8) then (spec_l4Up.j2 k x22 (x22.toList == ([195, 184] : List UInt8))) else (spec_l4Up.j2 k x22 (x22.toList == ([195, 152] : List UInt8))))))
def spec_l4Up.j2 : Nat → ByteArray → Bool → Option (ByteArray)
 | 0, _, _ => none
 | k + 1, x22, x26 => if x26 = true then (some (⟨#[79, 69]⟩ : ByteArray)) else (if x22.toList = ([195, 188] : List UInt8) then (spec_l4Up.j3 k x22 (x22.toList == ([195, 188] : List UInt8))) else (spec_l4Up.j3 k x22 (x22.toList == ([195, 156] : List UInt8))))
def spec_l4Up.j3 : Nat → ByteArray → Bool → Option (ByteArray)
 | 0, _, _ => none
 | k + 1, x22, x31 => if x31 = true then (some (⟨#[85, 69]⟩ : ByteArray)) else (if x22.toList = ([195, 165] : List UInt8) then (spec_l4Up.j4 k x22 (x22.toList == ([195, 165] : List UInt8))) else (spec_l4Up.j4 k x22 (x22.toList == ([195, 133] : List UInt8))))
def spec_l4Up.j4 : Nat → ByteArray → Bool → Option (ByteArray)
 | 0, _, _ => none
 | k + 1, x22, x34 => if x34 = true then (some (⟨#[65, 65]⟩ : ByteArray)) else (if x22.toList = ([195, 159] : List UInt8) then (some (⟨#[83, 83]⟩ : ByteArray)) else (if x22.toList = ([195, 169] : List UInt8) then (spec_l4Up.j5 k x22 (x22.toList == ([195, 169] : List UInt8))) else (if x22.toList = ([195, 168] : List UInt8) then (spec_l4Up.j5 k x22 (x22.toList == ([195, 168] : List UInt8))) else (if x22.toList = ([195, 170] : List UInt8) then (spec_l4Up.j5 k x22 (x22.toList == ([195, 170] : List UInt8))) else (if x22.toList = ([195, 137] : List UInt8) then (spec_l4Up.j5 k x22 (x22.toList == ([195, 137] : List UInt8))) else (if x22.toList = ([195, 136] : List UInt8) then (spec_l4Up.j5 k x22 (x22.toList == ([195, 136] : List UInt8))) else (spec_l4Up.j5 k x22 (x22.toList == ([195, 138] : List UInt8)))))))))
def spec_l4Up.j5 : Nat → ByteArray → Bool → Option (ByteArray)
 | 0, _, _ => none
 | k + 1, x22, x39 => if x39 = true then (some (⟨#[69]⟩ : ByteArray)) else (if x22.toList = ([195, 161] : List UInt8) then (spec_l4Up.j6 k x22 (x22.toList == ([195, 161] : List UInt8))) else (if x22.toList = ([195, 160] : List UInt8) then (spec_l4Up.j6 k x22 (x22.toList == ([195, 160] : List UInt8))) else (if x22.toList = ([195, 162] : List UInt8) then (spec_l4Up.j6 k x22 (x22.toList == ([195, 162] : List UInt8))) else (if x22.toList = ([195, 129] : List UInt8) then (spec_l4Up.j6 k x22 (x22.toList == ([195, 129] : List UInt8))) else (if x22.toList = ([195, 128] : List UInt8) then (spec_l4Up.j6 k x22 (x22.toList == ([195, 128] : List UInt8))) else (spec_l4Up.j6 k x22 (x22.toList == ([195, 130] : List UInt8))))))))
def spec_l4Up.j6 : Nat → ByteArray → Bool → Option (ByteArray)
 | 0, _, _ => none
 | k + 1, x22, x46 => if x46 = true then (some (⟨#[65]⟩ : ByteArray)) else (if x22.toList = ([195, 177] : List UInt8) then (some (⟨#[78]⟩ : ByteArray)) else (if x22.toList = ([195, 145] : List UInt8) then (some (⟨#[78]⟩ : ByteArray)) else (some (⟨#[63]⟩ : ByteArray))))
end
def spec_l4Up.f (k : Nat) (a0 : ByteArray) : Option (ByteArray) := if (a0.size : Int) = 1 then (if 0 < (a0.size : Int) then (if (bt a0 0) ≥ 97 then (spec_l4Up.j0 k a0 (bt a0 0) (decide ((bt a0 0) ≤ 122))) else (spec_l4Up.j0 k a0 (bt a0 0) false)) else (none)) else (if a0.toList = ([195, 164] : List UInt8) then (spec_l4Up.j1 k a0 (a0.toList == ([195, 164] : List UInt8))) else (spec_l4Up.j1 k a0 (a0.toList == ([195, 132] : List UInt8))))
theorem spec_l4Up.mono_l : ∀ k, (∀ y0 y1 y2, LeO (spec_l4Up.j0 k y0 y1 y2) (spec_l4Up.j0 (k + 1) y0 y1 y2)) ∧ (∀ y0 y1, LeO (spec_l4Up.j1 k y0 y1) (spec_l4Up.j1 (k + 1) y0 y1)) ∧ (∀ y0 y1, LeO (spec_l4Up.j2 k y0 y1) (spec_l4Up.j2 (k + 1) y0 y1)) ∧ (∀ y0 y1, LeO (spec_l4Up.j3 k y0 y1) (spec_l4Up.j3 (k + 1) y0 y1)) ∧ (∀ y0 y1, LeO (spec_l4Up.j4 k y0 y1) (spec_l4Up.j4 (k + 1) y0 y1)) ∧ (∀ y0 y1, LeO (spec_l4Up.j5 k y0 y1) (spec_l4Up.j5 (k + 1) y0 y1)) ∧ (∀ y0 y1, LeO (spec_l4Up.j6 k y0 y1) (spec_l4Up.j6 (k + 1) y0 y1))
 | 0 => ⟨fun _ _ _ r h => by simp [spec_l4Up.j0] at h, fun _ _ r h => by simp [spec_l4Up.j1] at h, fun _ _ r h => by simp [spec_l4Up.j2] at h, fun _ _ r h => by simp [spec_l4Up.j3] at h, fun _ _ r h => by simp [spec_l4Up.j4] at h, fun _ _ r h => by simp [spec_l4Up.j5] at h, fun _ _ r h => by simp [spec_l4Up.j6] at h⟩
 | k + 1 => by
  obtain ⟨ih0, ih1, ih2, ih3, ih4, ih5, ih6⟩ := spec_l4Up.mono_l k
  refine ⟨?_, ?_, ?_, ?_, ?_, ?_, ?_⟩
  ·intro y0 y1 y2
   unfold spec_l4Up.j0
   repeat' first
   | (with_reducible exact ih0 _ _ _)
   | (with_reducible exact ih1 _ _)
   | (with_reducible exact ih2 _ _)
   | (with_reducible exact ih3 _ _)
   | (with_reducible exact ih4 _ _)
   | (with_reducible exact ih5 _ _)
   | (with_reducible exact ih6 _ _)
   | (with_reducible exact LeO.refl _)
   | (with_reducible exact LeO.none _)
   | (with_reducible refine LeO.ite ?_ ?_)
   | (with_reducible refine LeO.bind ?_ (fun _ => ?_))
   | exact ih0 _ _ _
   | exact ih1 _ _
   | exact ih2 _ _
   | exact ih3 _ _
   | exact ih4 _ _
   | exact ih5 _ _
   | exact ih6 _ _
   | exact LeO.none _
   | refine LeO.ite ?_ ?_
   | refine LeO.bind ?_ (fun _ => ?_)
  ·intro y0 y1
   unfold spec_l4Up.j1
   repeat' first
   | (with_reducible exact ih0 _ _ _)
   | (with_reducible exact ih1 _ _)
   | (with_reducible exact ih2 _ _)
   | (with_reducible exact ih3 _ _)
   | (with_reducible exact ih4 _ _)
   | (with_reducible exact ih5 _ _)
   | (with_reducible exact ih6 _ _)
   | (with_reducible exact LeO.refl _)
   | (with_reducible exact LeO.none _)
   | (with_reducible refine LeO.ite ?_ ?_)
   | (with_reducible refine LeO.bind ?_ (fun _ => ?_))
   | exact ih0 _ _ _
   | exact ih1 _ _
   | exact ih2 _ _
   | exact ih3 _ _
   | exact ih4 _ _
   | exact ih5 _ _
   | exact ih6 _ _
   | exact LeO.none _
   | refine LeO.ite ?_ ?_
   | refine LeO.bind ?_ (fun _ => ?_)
  ·intro y0 y1
   unfold spec_l4Up.j2
   repeat' first
   | (with_reducible exact ih0 _ _ _)
   | (with_reducible exact ih1 _ _)
   | (with_reducible exact ih2 _ _)
   | (with_reducible exact ih3 _ _)
   | (with_reducible exact ih4 _ _)
   | (with_reducible exact ih5 _ _)
   | (with_reducible exact ih6 _ _)
   | (with_reducible exact LeO.refl _)
   | (with_reducible exact LeO.none _)
   | (with_reducible refine LeO.ite ?_ ?_)
   | (with_reducible refine LeO.bind ?_ (fun _ => ?_))
   | exact ih0 _ _ _
   | exact ih1 _ _
   | exact ih2 _ _
   | exact ih3 _ _
   | exact ih4 _ _
   | exact ih5 _ _
   | exact ih6 _ _
   | exact LeO.none _
   | refine LeO.ite ?_ ?_
   | refine LeO.bind ?_ (fun _ => ?_)
  ·intro y0 y1
   unfold spec_l4Up.j3
   repeat' first
   | (with_reducible exact ih0 _ _ _)
   | (with_reducible exact ih1 _ _)
   | (with_reducible exact ih2 _ _)
   | (with_reducible exact ih3 _ _)
   | (with_reducible exact ih4 _ _)
   | (with_reducible exact ih5 _ _)
   | (with_reducible exact ih6 _ _)
   | (with_reducible exact LeO.refl _)
   | (with_reducible exact LeO.none _)
   | (with_reducible refine LeO.ite ?_ ?_)
   | (with_reducible refine LeO.bind ?_ (fun _ => ?_))
   | exact ih0 _ _ _
   | exact ih1 _ _
   | exact ih2 _ _
   | exact ih3 _ _
   | exact ih4 _ _
   | exact ih5 _ _
   | exact ih6 _ _
   | exact LeO.none _
   | refine LeO.ite ?_ ?_
   | refine LeO.bind ?_ (fun _ => ?_)
  ·intro y0 y1
   unfold spec_l4Up.j4
   repeat' first
   | (with_reducible exact ih0 _ _ _)
   | (with_reducible exact ih1 _ _)
   | (with_reducible exact ih2 _ _)
   | (with_reducible exact ih3 _ _)
   | (with_reducible exact ih4 _ _)
   | (with_reducible exact ih5 _ _)
   | (with_reducible exact ih6 _ _)
   | (with_reducible exact LeO.refl _)
   | (with_reducible exact LeO.none _)
   | (with_reducible refine LeO.ite ?_ ?_)
   | (with_reducible refine LeO.bind ?_ (fun _ => ?_))
   | exact ih0 _ _ _
   | exact ih1 _ _
   | exact ih2 _ _
   | exact ih3 _ _
   | exact ih4 _ _
   | exact ih5 _ _
   | exact ih6 _ _
   | exact LeO.none _
   | refine LeO.ite ?_ ?_
   | refine LeO.bind ?_ (fun _ => ?_)
  ·intro y0 y1
   unfold spec_l4Up.j5
   repeat' first
   | (with_reducible exact ih0 _ _ _)
   | (with_reducible exact ih1 _ _)
   | (with_reducible exact ih2 _ _)
   | (with_reducible exact ih3 _ _)
   | (with_reducible exact ih4 _ _)
   | (with_reducible exact ih5 _ _)
   | (with_reducible exact ih6 _ _)
   | (with_reducible exact LeO.refl _)
   | (with_reducible exact LeO.none _)
   | (with_reducible refine LeO.ite ?_ ?_)
   | (with_reducible refine LeO.bind ?_ (fun _ => ?_))
   | exact ih0 _ _ _
   | exact ih1 _ _
   | exact ih2 _ _
   | exact ih3 _ _
   | exact ih4 _ _
   | exact ih5 _ _
   | exact ih6 _ _
   | exact LeO.none _
   | refine LeO.ite ?_ ?_
   | refine LeO.bind ?_ (fun _ => ?_)
  ·intro y0 y1
   unfold spec_l4Up.j6
   repeat' first
   | (with_reducible exact ih0 _ _ _)
   | (with_reducible exact ih1 _ _)
   | (with_reducible exact ih2 _ _)
   | (with_reducible exact ih3 _ _)
   | (with_reducible exact ih4 _ _)
   | (with_reducible exact ih5 _ _)
   | (with_reducible exact ih6 _ _)
   | (with_reducible exact LeO.refl _)
   | (with_reducible exact LeO.none _)
   | (with_reducible refine LeO.ite ?_ ?_)
   | (with_reducible refine LeO.bind ?_ (fun _ => ?_))
   | exact ih0 _ _ _
   | exact ih1 _ _
   | exact ih2 _ _
   | exact ih3 _ _
   | exact ih4 _ _
   | exact ih5 _ _
   | exact ih6 _ _
   | exact LeO.none _
   | refine LeO.ite ?_ ?_
   | refine LeO.bind ?_ (fun _ => ?_)
theorem spec_l4Up.mono : ∀ a0 k, LeO (spec_l4Up.f k a0) (spec_l4Up.f (k + 1) a0) := by
 intro a0 k
 obtain ⟨ih0, ih1, ih2, ih3, ih4, ih5, ih6⟩ := spec_l4Up.mono_l k
 unfold spec_l4Up.f
 repeat' first
   | (with_reducible exact ih0 _ _ _)
   | (with_reducible exact ih1 _ _)
   | (with_reducible exact ih2 _ _)
   | (with_reducible exact ih3 _ _)
   | (with_reducible exact ih4 _ _)
   | (with_reducible exact ih5 _ _)
   | (with_reducible exact ih6 _ _)
   | (with_reducible exact LeO.refl _)
   | (with_reducible exact LeO.none _)
   | (with_reducible refine LeO.ite ?_ ?_)
   | (with_reducible refine LeO.bind ?_ (fun _ => ?_))
   | exact ih0 _ _ _
   | exact ih1 _ _
   | exact ih2 _ _
   | exact ih3 _ _
   | exact ih4 _ _
   | exact ih5 _ _
   | exact ih6 _ _
   | exact LeO.none _
   | refine LeO.ite ?_ ?_
   | refine LeO.bind ?_ (fun _ => ?_)
set_option maxHeartbeats 8000000 in
set_option maxRecDepth 100000 in
theorem spec_l4Up.calls (k : Nat) (a0 : ByteArray) (r : ByteArray) (w : World) (h : spec_l4Up.f k a0 = some r) :
  Calls Tryd.prog 17 #[.string a0] w fun e w' => e = .returned (.string r) ∧ Below w.heap.size w w' := by
 have HB := Aside0.mk (Below.refl w.heap.size w)
 have H : (if (a0.size : Int) = 1 then (if 0 < (a0.size : Int) then (if (bt a0 0) ≥ 97 then (spec_l4Up.j0 k a0 (bt a0 0) (decide ((bt a0 0) ≤ 122))) else (spec_l4Up.j0 k a0 (bt a0 0) false)) else (none)) else (if a0.toList = ([195, 164] : List UInt8) then (spec_l4Up.j1 k a0 (a0.toList == ([195, 164] : List UInt8))) else (spec_l4Up.j1 k a0 (a0.toList == ([195, 132] : List UInt8))))) = some r := h
 clear h
 by_cases c2 : (a0.size : Int) = 1
 ·rw [if_pos c2] at H
  have c2b0 : ((a0.size : Int) == 1) = true := beq_iff_eq.mpr c2
  have c2b1 : ((a0.size : Int) != 1) = false := bne_eq_false_iff_eq.mpr c2
  clear c2
  by_cases c3 : 0 < (a0.size : Int)
  ·rw [if_pos c3] at H
   have c3b0 : decide (0 < (a0.size : Int)) = true := decide_eq_true c3
   have c3b1 : decide (0 < a0.size) = true := decide_eq_true (by omega)
   clear c3
   have HC5 := Aside0.mk H
   clear H
   have p4 : 0 ≤ (0 : Int) := (by omega)
   have q4 : 0 < a0.size := (by have : (0 : Int) < (a0.size : Int) := of_decide_eq_true (by first | (with_reducible assumption) | assumption); omega)
   have hx4 : ∀ h : 0 < a0.size, ((a0[0]'h).toNat : Int) = bt a0 0 := bt_at a0 0
   clear p4
   have qi4 : (0 < (a0.size : Int)) = True := eq_true (of_decide_eq_true (by first | (with_reducible assumption) | assumption))
   replace q4 := eq_true q4
   go_enter Tryd.func17, Tryd.ntmps17
   go_upto_region 3 with (fail)
   go_cut [14] (fun v14 wc => ∃ (kq : Nat) (x14_4 : Bool), v14 = .bool x14_4 ∧ Aside0 (spec_l4Up.j0 kq a0 (bt a0 0) x14_4 = some r) ∧ Aside0 (kq ≤ k) ∧ Aside0 (Below w.heap.size w wc))
   case first =>
    have H := HC5.out
    clear HC5
    by_cases c6 : (bt a0 0) ≥ 97
    ·rw [if_pos c6] at H
     have c6b0 : decide (97 ≤ (bt a0 0)) = true := decide_eq_true c6
     clear c6
     (first | rw [c6b0] | (simp only [i64_w, i32_w]; rw [c6b0]) | skip)
     have H' := Aside0.mk H
     clear H
     go_wp2
     go_meet
     case rel => exact ⟨_, (decide ((bt a0 0) ≤ 122)), (by first | rfl | (simp; done) | (simp [*]; done)), H', ⟨by first | omega | exact Nat.le_refl _⟩, ⟨by repeat (first | (with_reducible first | exact HB.out | apply below_alloc | apply pw_below_drewN | apply below_drew1) | exact HB.out)⟩⟩
    ·rw [if_neg c6] at H
     have c6b0 : decide (97 ≤ (bt a0 0)) = false := decide_eq_false c6
     clear c6
     (first | rw [c6b0] | (simp only [i64_w, i32_w]; rw [c6b0]) | skip)
     have H' := Aside0.mk H
     clear H
     go_wp2
     go_meet
     case rel => exact ⟨_, (false), (by first | rfl | (simp; done) | (simp [*]; done)), H', ⟨by first | omega | exact Nat.le_refl _⟩, ⟨by repeat (first | (with_reducible first | exact HB.out | apply below_alloc | apply pw_below_drewN | apply below_drew1) | exact HB.out)⟩⟩
   case rest =>
    clear HC5
    try clear c1
    try clear c2
    try clear c2b0
    try clear c2b1
    try clear p2
    try clear c3
    try clear c3b0
    try clear c3b1
    try clear p4
    try clear q4
    try clear hx4
    try clear qi4
    try clear c6
    try clear c6b0
    try clear p4
    try clear q4
    obtain ⟨kq, x14_4, rfl, HA, HJ4, HB⟩ := hcut
    cases kq with
    | zero => exact absurd HA.out (by simp [spec_l4Up.j0])
    | succ kj4 =>
     have H := HA.out
     clear HA
     simp only [spec_l4Up.j0] at H
     by_cases c7 : x14_4 = true
     ·subst c7
      have H1 : (some (strOfNums (([((bt a0 0) - 32) % 256] : List Int)))) = some r := by rw [if_pos rfl] at H; exact H
      clear H
      have H := H1
      clear H1
      obtain ⟨y109, hy109⟩ : ∃ y_ : List Int, y_ = (([((bt a0 0) - 32) % 256] : List Int)) := ⟨_, rfl⟩
      replace H : (some (strOfNums y109)) = some r := by first | (rw [hy109]; with_reducible exact H) | (have H2_ := (Option.bind_some _ _).symm.trans H; rw [hy109]; with_reducible exact H2_) | (have H2_ := (Option.bind_some _ _).symm.trans H; with_reducible exact H2_) | with_reducible exact H | (rw [hy109]; exact H) | exact H
      have Ny109 := Aside0.mk hy109
      clear hy109
      obtain rfl := Option.some.inj H
      go_wp2_with (first | ((with_reducible refine gate_dst (N := 17) rfl ?_); refine Kd.R_lit (Kd.int .u8) _ 5 ?hg (N := 17) ?hd (xs := ([((bt a0 0) - 32) % 256] : List Int)) (inner := [.int .u8 (((bt a0 0) - 32) % 256)]) (ok := fun _ => True) (okp := fun _ => True) ?hr ?hp (fun _ hk => hk) trivial (Below.refl _ _) (Nat.le_refl _) (by simp) ?_; (case hd => rfl); (case hg => rfl); (case hr => first | (go_simp; done) | (go_simp; rfl)); (case hp => exact (Reps.one (show Kd.M (Kd.int .u8) _ _ _ (((bt a0 0) - 32) % 256) [.int .u8 (((bt a0 0) - 32) % 256)] from rfl) (Reps.none _ _))); intro v110 w8 ho9 hb hg_ hnew_; clear hg_ hnew_; (first | rw [← Ny109.out] at ho9 | (simp only [Int.reduceToNat] at ho9; rw [← Ny109.out] at ho9)); have n0_ := Aside0.mk (Kd.R_lower ho9 (below_size (by repeat (first | (with_reducible first | exact HB.out | apply below_alloc | apply pw_below_drewN | apply below_drew1) | exact HB.out)))); have n1_ := Aside0.mk (below_step (by repeat (first | (with_reducible first | exact HB.out | apply below_alloc | apply pw_below_drewN | apply below_drew1) | exact HB.out)) hb); clear HB; have HO111 := n0_; have HB := n1_; clear n0_ n1_; clear hb ho9; have hcv10 := own_string (P := Tryd.prog) Tryd.underlying22 Tryd.underlying5 Tryd.underlying9 (Kd.own_of_R HO111.out)))
      go_ret
      exact ⟨by first | rfl | (simp [errW_none, errW_some] <;> rfl) | (simp [*, errW_none, errW_some] <;> rfl), by repeat (first | (with_reducible first | exact HB.out | apply below_alloc | apply pw_below_drewN | apply below_drew1) | exact HB.out)⟩
     ·replace c7 := Bool.eq_false_iff.mpr c7
      subst c7
      have H1 : (if (bt a0 0) < 128 then (some a0) else (some (⟨#[63]⟩ : ByteArray))) = some r := by rw [if_neg (show ¬ (false = true) by decide)] at H; exact H
      clear H
      have H := H1
      clear H1
      by_cases c11 : (bt a0 0) < 128
      ·rw [if_pos c11] at H
       have c11b0 : decide ((bt a0 0) < 128) = true := decide_eq_true c11
       clear c11
       obtain rfl := Option.some.inj H
       go_wp2
       go_ret
       exact ⟨by first | rfl | (simp [errW_none, errW_some] <;> rfl) | (simp [*, errW_none, errW_some] <;> rfl), by repeat (first | (with_reducible first | exact HB.out | apply below_alloc | apply pw_below_drewN | apply below_drew1) | exact HB.out)⟩
      ·rw [if_neg c11] at H
       have c11b0 : decide ((bt a0 0) < 128) = false := decide_eq_false c11
       clear c11
       obtain rfl := Option.some.inj H
       go_wp2
       go_ret
       exact ⟨by first | rfl | (simp [errW_none, errW_some] <;> rfl) | (simp [*, errW_none, errW_some] <;> rfl), by repeat (first | (with_reducible first | exact HB.out | apply below_alloc | apply pw_below_drewN | apply below_drew1) | exact HB.out)⟩
  ·rw [if_neg c3] at H
   exact absurd H (by simp)
 ·rw [if_neg c2] at H
  have c2b0 : ((a0.size : Int) == 1) = false := beq_eq_false_iff_ne.mpr c2
  have c2b1 : ((a0.size : Int) != 1) = true := bne_iff_ne.mpr c2
  have HC12 := Aside0.mk H
  clear H
  go_enter Tryd.func17, Tryd.ntmps17
  go_upto_if 23 with (fail)
  go_cut [23] (fun v23 wc => ∃ (kq : Nat) (x23_11 : Bool), v23 = .bool x23_11 ∧ Aside0 (spec_l4Up.j1 kq a0 x23_11 = some r) ∧ Aside0 (kq ≤ k) ∧ Aside0 (Below w.heap.size w wc))
  case first =>
   have H := HC12.out
   clear HC12
   by_cases c13 : a0.toList = ([195, 164] : List UInt8)
   ·rw [if_pos c13] at H
    have c13b0 : (a0.toList == ([195, 164] : List UInt8)) = true := beq_iff_eq.mpr c13
    have c13b1 : (a0.toList != ([195, 164] : List UInt8)) = false := bne_eq_false_iff_eq.mpr c13
    clear c13
    (first | rw [c13b0] | (simp only [i64_w, i32_w]; rw [c13b0]) | skip)
    have H' := Aside0.mk H
    clear H
    go_wp2
    go_meet
    case rel => exact ⟨_, ((a0.toList == ([195, 164] : List UInt8))), (by first | rfl | (simp; done) | (simp [*]; done)), H', ⟨by first | omega | exact Nat.le_refl _⟩, ⟨by repeat (first | (with_reducible first | exact HB.out | apply below_alloc | apply pw_below_drewN | apply below_drew1) | exact HB.out)⟩⟩
   ·rw [if_neg c13] at H
    have c13b0 : (a0.toList == ([195, 164] : List UInt8)) = false := beq_eq_false_iff_ne.mpr c13
    have c13b1 : (a0.toList != ([195, 164] : List UInt8)) = true := bne_iff_ne.mpr c13
    (first | rw [c13b0] | (simp only [i64_w, i32_w]; rw [c13b0]) | skip)
    have H' := Aside0.mk H
    clear H
    go_wp2
    go_meet
    case rel => exact ⟨_, ((a0.toList == ([195, 132] : List UInt8))), (by first | rfl | (simp; done) | (simp [*]; done)), H', ⟨by first | omega | exact Nat.le_refl _⟩, ⟨by repeat (first | (with_reducible first | exact HB.out | apply below_alloc | apply pw_below_drewN | apply below_drew1) | exact HB.out)⟩⟩
  case rest =>
   clear HC12
   try clear c1
   try clear hcv1
   try clear c2
   try clear c2b0
   try clear c2b1
   try clear p2
   try clear c3
   try clear c3b0
   try clear c3b1
   try clear p4
   try clear q4
   try clear hx4
   try clear qi4
   try clear c6
   try clear c6b0
   try clear c7
   try clear hcv10
   try clear c11
   try clear c11b0
   try clear c13
   try clear c13b0
   try clear c13b1
   try clear p2
   try clear p4
   try clear q4
   obtain ⟨kq, x23_11, rfl, HA, HJ11, HB⟩ := hcut
   cases kq with
   | zero => exact absurd HA.out (by simp [spec_l4Up.j1])
   | succ kj11 =>
    have H := HA.out
    clear HA
    simp only [spec_l4Up.j1] at H
    by_cases c14 : x23_11 = true
    ·subst c14
     have H1 : (some (⟨#[65, 69]⟩ : ByteArray)) = some r := by rw [if_pos rfl] at H; exact H
     clear H
     have H := H1
     clear H1
     obtain rfl := Option.some.inj H
     go_wp2
     go_ret
     exact ⟨by first | rfl | (simp [errW_none, errW_some] <;> rfl) | (simp [*, errW_none, errW_some] <;> rfl), by repeat (first | (with_reducible first | exact HB.out | apply below_alloc | apply pw_below_drewN | apply below_drew1) | exact HB.out)⟩
    ·replace c14 := Bool.eq_false_iff.mpr c14
     subst c14
     have H1 : (if a0.toList = ([195, 182] : List UInt8) then (spec_l4Up.j2 kj11 a0 (a0.toList == ([195, 182] : List UInt8))) else (if a0.toList = ([195, 150] : List UInt8) then (spec_l4Up.j2 kj11 a0 (a0.toList == ([195, 150] : List UInt8))) else (if a0.toList = ([195, 184] : List UInt8) then (spec_l4Up.j2 kj11 a0 (a0.toList == ([195, 184] : List UInt8))) else (spec_l4Up.j2 kj11 a0 (a0.toList == ([195, 152] : List UInt8)))))) = some r := by rw [if_neg (show ¬ (false = true) by decide)] at H; exact H
     clear H
     have H := H1
     clear H1
     have HC15 := Aside0.mk H
     clear H
     go_upto_if 26 with (fail)
     go_cut [26] (fun v26 wc => ∃ (kq : Nat) (x26_14 : Bool), v26 = .bool x26_14 ∧ Aside0 (spec_l4Up.j2 kq a0 x26_14 = some r) ∧ Aside0 (kq ≤ kj11) ∧ Aside0 (Below w.heap.size w wc))
     case first =>
      have H := HC15.out
      clear HC15
      by_cases c16 : a0.toList = ([195, 182] : List UInt8)
      ·rw [if_pos c16] at H
       have c16b0 : (a0.toList == ([195, 182] : List UInt8)) = true := beq_iff_eq.mpr c16
       have c16b1 : (a0.toList != ([195, 182] : List UInt8)) = false := bne_eq_false_iff_eq.mpr c16
       clear c16
       (first | rw [c16b0] | (simp only [i64_w, i32_w]; rw [c16b0]) | skip)
       have H' := Aside0.mk H
       clear H
       go_wp2
       go_meet
       case rel => exact ⟨_, ((a0.toList == ([195, 182] : List UInt8))), (by first | rfl | (simp; done) | (simp [*]; done)), H', ⟨by have := HJ11.out; first | omega | exact Nat.le_refl _⟩, ⟨by repeat (first | (with_reducible first | exact HB.out | apply below_alloc | apply pw_below_drewN | apply below_drew1) | exact HB.out)⟩⟩
      ·rw [if_neg c16] at H
       have c16b0 : (a0.toList == ([195, 182] : List UInt8)) = false := beq_eq_false_iff_ne.mpr c16
       have c16b1 : (a0.toList != ([195, 182] : List UInt8)) = true := bne_iff_ne.mpr c16
       (first | rw [c16b0] | (simp only [i64_w, i32_w]; rw [c16b0]) | skip)
       by_cases c17 : a0.toList = ([195, 150] : List UInt8)
       ·rw [if_pos c17] at H
        have c17b0 : (a0.toList == ([195, 150] : List UInt8)) = true := beq_iff_eq.mpr c17
        have c17b1 : (a0.toList != ([195, 150] : List UInt8)) = false := bne_eq_false_iff_eq.mpr c17
        clear c17
        have H' := Aside0.mk H
        clear H
        go_wp2
        go_meet
        case rel => exact ⟨_, ((a0.toList == ([195, 150] : List UInt8))), (by first | rfl | (simp; done) | (simp [*]; done)), H', ⟨by have := HJ11.out; first | omega | exact Nat.le_refl _⟩, ⟨by repeat (first | (with_reducible first | exact HB.out | apply below_alloc | apply pw_below_drewN | apply below_drew1) | exact HB.out)⟩⟩
       ·rw [if_neg c17] at H
        have c17b0 : (a0.toList == ([195, 150] : List UInt8)) = false := beq_eq_false_iff_ne.mpr c17
        have c17b1 : (a0.toList != ([195, 150] : List UInt8)) = true := bne_iff_ne.mpr c17
        by_cases c18 : a0.toList = ([195, 184] : List UInt8)
        ·rw [if_pos c18] at H
         have c18b0 : (a0.toList == ([195, 184] : List UInt8)) = true := beq_iff_eq.mpr c18
         have c18b1 : (a0.toList != ([195, 184] : List UInt8)) = false := bne_eq_false_iff_eq.mpr c18
         clear c18
         have H' := Aside0.mk H
         clear H
         go_wp2
         go_meet
         case rel => exact ⟨_, ((a0.toList == ([195, 184] : List UInt8))), (by first | rfl | (simp; done) | (simp [*]; done)), H', ⟨by have := HJ11.out; first | omega | exact Nat.le_refl _⟩, ⟨by repeat (first | (with_reducible first | exact HB.out | apply below_alloc | apply pw_below_drewN | apply below_drew1) | exact HB.out)⟩⟩
        ·rw [if_neg c18] at H
         have c18b0 : (a0.toList == ([195, 184] : List UInt8)) = false := beq_eq_false_iff_ne.mpr c18
         have c18b1 : (a0.toList != ([195, 184] : List UInt8)) = true := bne_iff_ne.mpr c18
         have H' := Aside0.mk H
         clear H
         go_wp2
         go_meet
         case rel => exact ⟨_, ((a0.toList == ([195, 152] : List UInt8))), (by first | rfl | (simp; done) | (simp [*]; done)), H', ⟨by have := HJ11.out; first | omega | exact Nat.le_refl _⟩, ⟨by repeat (first | (with_reducible first | exact HB.out | apply below_alloc | apply pw_below_drewN | apply below_drew1) | exact HB.out)⟩⟩
     case rest =>
      clear HC15
      try clear c1
      try clear hcv1
      try clear c2
      try clear c2b0
      try clear c2b1
      try clear p2
      try clear c3
      try clear c3b0
      try clear c3b1
      try clear p4
      try clear q4
      try clear hx4
      try clear qi4
      try clear c6
      try clear c6b0
      try clear c7
      try clear hcv10
      try clear c11
      try clear c11b0
      try clear c13
      try clear c13b0
      try clear c13b1
      try clear c14
      try clear c16
      try clear c16b0
      try clear c16b1
      try clear c17
      try clear c17b0
      try clear c17b1
      try clear c18
      try clear c18b0
      try clear c18b1
      try clear p2
      try clear p4
      try clear q4
      obtain ⟨kq, x26_14, rfl, HA, HJ14, HB⟩ := hcut
      cases kq with
      | zero => exact absurd HA.out (by simp [spec_l4Up.j2])
      | succ kj14 =>
       have H := HA.out
       clear HA
       simp only [spec_l4Up.j2] at H
       by_cases c19 : x26_14 = true
       ·subst c19
        have H1 : (some (⟨#[79, 69]⟩ : ByteArray)) = some r := by rw [if_pos rfl] at H; exact H
        clear H
        have H := H1
        clear H1
        obtain rfl := Option.some.inj H
        go_wp2
        go_ret
        exact ⟨by first | rfl | (simp [errW_none, errW_some] <;> rfl) | (simp [*, errW_none, errW_some] <;> rfl), by repeat (first | (with_reducible first | exact HB.out | apply below_alloc | apply pw_below_drewN | apply below_drew1) | exact HB.out)⟩
       ·replace c19 := Bool.eq_false_iff.mpr c19
        subst c19
        have H1 : (if a0.toList = ([195, 188] : List UInt8) then (spec_l4Up.j3 kj14 a0 (a0.toList == ([195, 188] : List UInt8))) else (spec_l4Up.j3 kj14 a0 (a0.toList == ([195, 156] : List UInt8)))) = some r := by rw [if_neg (show ¬ (false = true) by decide)] at H; exact H
        clear H
        have H := H1
        clear H1
        have HC20 := Aside0.mk H
        clear H
        go_upto_if 31 with (fail)
        go_cut [31] (fun v31 wc => ∃ (kq : Nat) (x31_19 : Bool), v31 = .bool x31_19 ∧ Aside0 (spec_l4Up.j3 kq a0 x31_19 = some r) ∧ Aside0 (kq ≤ kj14) ∧ Aside0 (Below w.heap.size w wc))
        case first =>
         have H := HC20.out
         clear HC20
         by_cases c21 : a0.toList = ([195, 188] : List UInt8)
         ·rw [if_pos c21] at H
          have c21b0 : (a0.toList == ([195, 188] : List UInt8)) = true := beq_iff_eq.mpr c21
          have c21b1 : (a0.toList != ([195, 188] : List UInt8)) = false := bne_eq_false_iff_eq.mpr c21
          clear c21
          (first | rw [c21b0] | (simp only [i64_w, i32_w]; rw [c21b0]) | skip)
          have H' := Aside0.mk H
          clear H
          go_wp2
          go_meet
          case rel => exact ⟨_, ((a0.toList == ([195, 188] : List UInt8))), (by first | rfl | (simp; done) | (simp [*]; done)), H', ⟨by have := HJ11.out; have := HJ14.out; first | omega | exact Nat.le_refl _⟩, ⟨by repeat (first | (with_reducible first | exact HB.out | apply below_alloc | apply pw_below_drewN | apply below_drew1) | exact HB.out)⟩⟩
         ·rw [if_neg c21] at H
          have c21b0 : (a0.toList == ([195, 188] : List UInt8)) = false := beq_eq_false_iff_ne.mpr c21
          have c21b1 : (a0.toList != ([195, 188] : List UInt8)) = true := bne_iff_ne.mpr c21
          (first | rw [c21b0] | (simp only [i64_w, i32_w]; rw [c21b0]) | skip)
          have H' := Aside0.mk H
          clear H
          go_wp2
          go_meet
          case rel => exact ⟨_, ((a0.toList == ([195, 156] : List UInt8))), (by first | rfl | (simp; done) | (simp [*]; done)), H', ⟨by have := HJ11.out; have := HJ14.out; first | omega | exact Nat.le_refl _⟩, ⟨by repeat (first | (with_reducible first | exact HB.out | apply below_alloc | apply pw_below_drewN | apply below_drew1) | exact HB.out)⟩⟩
        case rest =>
         clear HC20
         try clear c1
         try clear hcv1
         try clear c2
         try clear c2b0
         try clear c2b1
         try clear p2
         try clear c3
         try clear c3b0
         try clear c3b1
         try clear p4
         try clear q4
         try clear hx4
         try clear qi4
         try clear c6
         try clear c6b0
         try clear c7
         try clear hcv10
         try clear c11
         try clear c11b0
         try clear c13
         try clear c13b0
         try clear c13b1
         try clear c14
         try clear c16
         try clear c16b0
         try clear c16b1
         try clear c17
         try clear c17b0
         try clear c17b1
         try clear c18
         try clear c18b0
         try clear c18b1
         try clear c19
         try clear c21
         try clear c21b0
         try clear c21b1
         try clear p2
         try clear p4
         try clear q4
         obtain ⟨kq, x31_19, rfl, HA, HJ19, HB⟩ := hcut
         cases kq with
         | zero => exact absurd HA.out (by simp [spec_l4Up.j3])
         | succ kj19 =>
          have H := HA.out
          clear HA
          simp only [spec_l4Up.j3] at H
          by_cases c22 : x31_19 = true
          ·subst c22
           have H1 : (some (⟨#[85, 69]⟩ : ByteArray)) = some r := by rw [if_pos rfl] at H; exact H
           clear H
           have H := H1
           clear H1
           obtain rfl := Option.some.inj H
           go_wp2
           go_ret
           exact ⟨by first | rfl | (simp [errW_none, errW_some] <;> rfl) | (simp [*, errW_none, errW_some] <;> rfl), by repeat (first | (with_reducible first | exact HB.out | apply below_alloc | apply pw_below_drewN | apply below_drew1) | exact HB.out)⟩
          ·replace c22 := Bool.eq_false_iff.mpr c22
           subst c22
           have H1 : (if a0.toList = ([195, 165] : List UInt8) then (spec_l4Up.j4 kj19 a0 (a0.toList == ([195, 165] : List UInt8))) else (spec_l4Up.j4 kj19 a0 (a0.toList == ([195, 133] : List UInt8)))) = some r := by rw [if_neg (show ¬ (false = true) by decide)] at H; exact H
           clear H
           have H := H1
           clear H1
           have HC23 := Aside0.mk H
           clear H
           go_upto_if 34 with (fail)
           go_cut [34] (fun v34 wc => ∃ (kq : Nat) (x34_22 : Bool), v34 = .bool x34_22 ∧ Aside0 (spec_l4Up.j4 kq a0 x34_22 = some r) ∧ Aside0 (kq ≤ kj19) ∧ Aside0 (Below w.heap.size w wc))
           case first =>
            have H := HC23.out
            clear HC23
            by_cases c24 : a0.toList = ([195, 165] : List UInt8)
            ·rw [if_pos c24] at H
             have c24b0 : (a0.toList == ([195, 165] : List UInt8)) = true := beq_iff_eq.mpr c24
             have c24b1 : (a0.toList != ([195, 165] : List UInt8)) = false := bne_eq_false_iff_eq.mpr c24
             clear c24
             (first | rw [c24b0] | (simp only [i64_w, i32_w]; rw [c24b0]) | skip)
             have H' := Aside0.mk H
             clear H
             go_wp2
             go_meet
             case rel => exact ⟨_, ((a0.toList == ([195, 165] : List UInt8))), (by first | rfl | (simp; done) | (simp [*]; done)), H', ⟨by have := HJ11.out; have := HJ14.out; have := HJ19.out; first | omega | exact Nat.le_refl _⟩, ⟨by repeat (first | (with_reducible first | exact HB.out | apply below_alloc | apply pw_below_drewN | apply below_drew1) | exact HB.out)⟩⟩
            ·rw [if_neg c24] at H
             have c24b0 : (a0.toList == ([195, 165] : List UInt8)) = false := beq_eq_false_iff_ne.mpr c24
             have c24b1 : (a0.toList != ([195, 165] : List UInt8)) = true := bne_iff_ne.mpr c24
             (first | rw [c24b0] | (simp only [i64_w, i32_w]; rw [c24b0]) | skip)
             have H' := Aside0.mk H
             clear H
             go_wp2
             go_meet
             case rel => exact ⟨_, ((a0.toList == ([195, 133] : List UInt8))), (by first | rfl | (simp; done) | (simp [*]; done)), H', ⟨by have := HJ11.out; have := HJ14.out; have := HJ19.out; first | omega | exact Nat.le_refl _⟩, ⟨by repeat (first | (with_reducible first | exact HB.out | apply below_alloc | apply pw_below_drewN | apply below_drew1) | exact HB.out)⟩⟩
           case rest =>
            clear HC23
            try clear c1
            try clear hcv1
            try clear c2
            try clear c2b0
            try clear c2b1
            try clear p2
            try clear c3
            try clear c3b0
            try clear c3b1
            try clear p4
            try clear q4
            try clear hx4
            try clear qi4
            try clear c6
            try clear c6b0
            try clear c7
            try clear hcv10
            try clear c11
            try clear c11b0
            try clear c13
            try clear c13b0
            try clear c13b1
            try clear c14
            try clear c16
            try clear c16b0
            try clear c16b1
            try clear c17
            try clear c17b0
            try clear c17b1
            try clear c18
            try clear c18b0
            try clear c18b1
            try clear c19
            try clear c21
            try clear c21b0
            try clear c21b1
            try clear c22
            try clear c24
            try clear c24b0
            try clear c24b1
            try clear p2
            try clear p4
            try clear q4
            obtain ⟨kq, x34_22, rfl, HA, HJ22, HB⟩ := hcut
            cases kq with
            | zero => exact absurd HA.out (by simp [spec_l4Up.j4])
            | succ kj22 =>
             have H := HA.out
             clear HA
             simp only [spec_l4Up.j4] at H
             by_cases c25 : x34_22 = true
             ·subst c25
              have H1 : (some (⟨#[65, 65]⟩ : ByteArray)) = some r := by rw [if_pos rfl] at H; exact H
              clear H
              have H := H1
              clear H1
              obtain rfl := Option.some.inj H
              go_wp2
              go_ret
              exact ⟨by first | rfl | (simp [errW_none, errW_some] <;> rfl) | (simp [*, errW_none, errW_some] <;> rfl), by repeat (first | (with_reducible first | exact HB.out | apply below_alloc | apply pw_below_drewN | apply below_drew1) | exact HB.out)⟩
             ·replace c25 := Bool.eq_false_iff.mpr c25
              subst c25
              have H1 : (if a0.toList = ([195, 159] : List UInt8) then (some (⟨#[83, 83]⟩ : ByteArray)) else (if a0.toList = ([195, 169] : List UInt8) then (spec_l4Up.j5 kj22 a0 (a0.toList == ([195, 169] : List UInt8))) else (if a0.toList = ([195, 168] : List UInt8) then (spec_l4Up.j5 kj22 a0 (a0.toList == ([195, 168] : List UInt8))) else (if a0.toList = ([195, 170] : List UInt8) then (spec_l4Up.j5 kj22 a0 (a0.toList == ([195, 170] : List UInt8))) else (if a0.toList = ([195, 137] : List UInt8) then (spec_l4Up.j5 kj22 a0 (a0.toList == ([195, 137] : List UInt8))) else (if a0.toList = ([195, 136] : List UInt8) then (spec_l4Up.j5 kj22 a0 (a0.toList == ([195, 136] : List UInt8))) else (spec_l4Up.j5 kj22 a0 (a0.toList == ([195, 138] : List UInt8))))))))) = some r := by rw [if_neg (show ¬ (false = true) by decide)] at H; exact H
              clear H
              have H := H1
              clear H1
              by_cases c26 : a0.toList = ([195, 159] : List UInt8)
              ·rw [if_pos c26] at H
               have c26b0 : (a0.toList == ([195, 159] : List UInt8)) = true := beq_iff_eq.mpr c26
               have c26b1 : (a0.toList != ([195, 159] : List UInt8)) = false := bne_eq_false_iff_eq.mpr c26
               clear c26
               obtain rfl := Option.some.inj H
               go_wp2
               go_ret
               exact ⟨by first | rfl | (simp [errW_none, errW_some] <;> rfl) | (simp [*, errW_none, errW_some] <;> rfl), by repeat (first | (with_reducible first | exact HB.out | apply below_alloc | apply pw_below_drewN | apply below_drew1) | exact HB.out)⟩
              ·rw [if_neg c26] at H
               have c26b0 : (a0.toList == ([195, 159] : List UInt8)) = false := beq_eq_false_iff_ne.mpr c26
               have c26b1 : (a0.toList != ([195, 159] : List UInt8)) = true := bne_iff_ne.mpr c26
               have HC27 := Aside0.mk H
               clear H
               go_upto_if 39 with (fail)
               go_cut [39] (fun v39 wc => ∃ (kq : Nat) (x39_26 : Bool), v39 = .bool x39_26 ∧ Aside0 (spec_l4Up.j5 kq a0 x39_26 = some r) ∧ Aside0 (kq ≤ kj22) ∧ Aside0 (Below w.heap.size w wc))
               case first =>
                have H := HC27.out
                clear HC27
                by_cases c28 : a0.toList = ([195, 169] : List UInt8)
                ·rw [if_pos c28] at H
                 have c28b0 : (a0.toList == ([195, 169] : List UInt8)) = true := beq_iff_eq.mpr c28
                 have c28b1 : (a0.toList != ([195, 169] : List UInt8)) = false := bne_eq_false_iff_eq.mpr c28
                 clear c28
                 (first | rw [c28b0] | (simp only [i64_w, i32_w]; rw [c28b0]) | skip)
                 have H' := Aside0.mk H
                 clear H
                 go_wp2
                 go_meet
                 case rel => exact ⟨_, ((a0.toList == ([195, 169] : List UInt8))), (by first | rfl | (simp; done) | (simp [*]; done)), H', ⟨by have := HJ11.out; have := HJ14.out; have := HJ19.out; have := HJ22.out; first | omega | exact Nat.le_refl _⟩, ⟨by repeat (first | (with_reducible first | exact HB.out | apply below_alloc | apply pw_below_drewN | apply below_drew1) | exact HB.out)⟩⟩
                ·rw [if_neg c28] at H
                 have c28b0 : (a0.toList == ([195, 169] : List UInt8)) = false := beq_eq_false_iff_ne.mpr c28
                 have c28b1 : (a0.toList != ([195, 169] : List UInt8)) = true := bne_iff_ne.mpr c28
                 (first | rw [c28b0] | (simp only [i64_w, i32_w]; rw [c28b0]) | skip)
                 by_cases c29 : a0.toList = ([195, 168] : List UInt8)
                 ·rw [if_pos c29] at H
                  have c29b0 : (a0.toList == ([195, 168] : List UInt8)) = true := beq_iff_eq.mpr c29
                  have c29b1 : (a0.toList != ([195, 168] : List UInt8)) = false := bne_eq_false_iff_eq.mpr c29
                  clear c29
                  have H' := Aside0.mk H
                  clear H
                  go_wp2
                  go_meet
                  case rel => exact ⟨_, ((a0.toList == ([195, 168] : List UInt8))), (by first | rfl | (simp; done) | (simp [*]; done)), H', ⟨by have := HJ11.out; have := HJ14.out; have := HJ19.out; have := HJ22.out; first | omega | exact Nat.le_refl _⟩, ⟨by repeat (first | (with_reducible first | exact HB.out | apply below_alloc | apply pw_below_drewN | apply below_drew1) | exact HB.out)⟩⟩
                 ·rw [if_neg c29] at H
                  have c29b0 : (a0.toList == ([195, 168] : List UInt8)) = false := beq_eq_false_iff_ne.mpr c29
                  have c29b1 : (a0.toList != ([195, 168] : List UInt8)) = true := bne_iff_ne.mpr c29
                  by_cases c30 : a0.toList = ([195, 170] : List UInt8)
                  ·rw [if_pos c30] at H
                   have c30b0 : (a0.toList == ([195, 170] : List UInt8)) = true := beq_iff_eq.mpr c30
                   have c30b1 : (a0.toList != ([195, 170] : List UInt8)) = false := bne_eq_false_iff_eq.mpr c30
                   clear c30
                   have H' := Aside0.mk H
                   clear H
                   go_wp2
                   go_meet
                   case rel => exact ⟨_, ((a0.toList == ([195, 170] : List UInt8))), (by first | rfl | (simp; done) | (simp [*]; done)), H', ⟨by have := HJ11.out; have := HJ14.out; have := HJ19.out; have := HJ22.out; first | omega | exact Nat.le_refl _⟩, ⟨by repeat (first | (with_reducible first | exact HB.out | apply below_alloc | apply pw_below_drewN | apply below_drew1) | exact HB.out)⟩⟩
                  ·rw [if_neg c30] at H
                   have c30b0 : (a0.toList == ([195, 170] : List UInt8)) = false := beq_eq_false_iff_ne.mpr c30
                   have c30b1 : (a0.toList != ([195, 170] : List UInt8)) = true := bne_iff_ne.mpr c30
                   by_cases c31 : a0.toList = ([195, 137] : List UInt8)
                   ·rw [if_pos c31] at H
                    have c31b0 : (a0.toList == ([195, 137] : List UInt8)) = true := beq_iff_eq.mpr c31
                    have c31b1 : (a0.toList != ([195, 137] : List UInt8)) = false := bne_eq_false_iff_eq.mpr c31
                    clear c31
                    have H' := Aside0.mk H
                    clear H
                    go_wp2
                    go_meet
                    case rel => exact ⟨_, ((a0.toList == ([195, 137] : List UInt8))), (by first | rfl | (simp; done) | (simp [*]; done)), H', ⟨by have := HJ11.out; have := HJ14.out; have := HJ19.out; have := HJ22.out; first | omega | exact Nat.le_refl _⟩, ⟨by repeat (first | (with_reducible first | exact HB.out | apply below_alloc | apply pw_below_drewN | apply below_drew1) | exact HB.out)⟩⟩
                   ·rw [if_neg c31] at H
                    have c31b0 : (a0.toList == ([195, 137] : List UInt8)) = false := beq_eq_false_iff_ne.mpr c31
                    have c31b1 : (a0.toList != ([195, 137] : List UInt8)) = true := bne_iff_ne.mpr c31
                    by_cases c32 : a0.toList = ([195, 136] : List UInt8)
                    ·rw [if_pos c32] at H
                     have c32b0 : (a0.toList == ([195, 136] : List UInt8)) = true := beq_iff_eq.mpr c32
                     have c32b1 : (a0.toList != ([195, 136] : List UInt8)) = false := bne_eq_false_iff_eq.mpr c32
                     clear c32
                     have H' := Aside0.mk H
                     clear H
                     go_wp2
                     go_meet
                     case rel => exact ⟨_, ((a0.toList == ([195, 136] : List UInt8))), (by first | rfl | (simp; done) | (simp [*]; done)), H', ⟨by have := HJ11.out; have := HJ14.out; have := HJ19.out; have := HJ22.out; first | omega | exact Nat.le_refl _⟩, ⟨by repeat (first | (with_reducible first | exact HB.out | apply below_alloc | apply pw_below_drewN | apply below_drew1) | exact HB.out)⟩⟩
                    ·rw [if_neg c32] at H
                     have c32b0 : (a0.toList == ([195, 136] : List UInt8)) = false := beq_eq_false_iff_ne.mpr c32
                     have c32b1 : (a0.toList != ([195, 136] : List UInt8)) = true := bne_iff_ne.mpr c32
                     have H' := Aside0.mk H
                     clear H
                     go_wp2
                     go_meet
                     case rel => exact ⟨_, ((a0.toList == ([195, 138] : List UInt8))), (by first | rfl | (simp; done) | (simp [*]; done)), H', ⟨by have := HJ11.out; have := HJ14.out; have := HJ19.out; have := HJ22.out; first | omega | exact Nat.le_refl _⟩, ⟨by repeat (first | (with_reducible first | exact HB.out | apply below_alloc | apply pw_below_drewN | apply below_drew1) | exact HB.out)⟩⟩
               case rest =>
                clear HC27
                try clear c1
                try clear hcv1
                try clear c2
                try clear c2b0
                try clear c2b1
                try clear p2
                try clear c3
                try clear c3b0
                try clear c3b1
                try clear p4
                try clear q4
                try clear hx4
                try clear qi4
                try clear c6
                try clear c6b0
                try clear c7
                try clear hcv10
                try clear c11
                try clear c11b0
                try clear c13
                try clear c13b0
                try clear c13b1
                try clear c14
                try clear c16
                try clear c16b0
                try clear c16b1
                try clear c17
                try clear c17b0
                try clear c17b1
                try clear c18
                try clear c18b0
                try clear c18b1
                try clear c19
                try clear c21
                try clear c21b0
                try clear c21b1
                try clear c22
                try clear c24
                try clear c24b0
                try clear c24b1
                try clear c25
                try clear c26
                try clear c26b0
                try clear c26b1
                try clear c28
                try clear c28b0
                try clear c28b1
                try clear c29
                try clear c29b0
                try clear c29b1
                try clear c30
                try clear c30b0
                try clear c30b1
                try clear c31
                try clear c31b0
                try clear c31b1
                try clear c32
                try clear c32b0
                try clear c32b1
                try clear p2
                try clear p4
                try clear q4
                obtain ⟨kq, x39_26, rfl, HA, HJ26, HB⟩ := hcut
                cases kq with
                | zero => exact absurd HA.out (by simp [spec_l4Up.j5])
                | succ kj26 =>
                 have H := HA.out
                 clear HA
                 simp only [spec_l4Up.j5] at H
                 by_cases c33 : x39_26 = true
                 ·subst c33
                  have H1 : (some (⟨#[69]⟩ : ByteArray)) = some r := by rw [if_pos rfl] at H; exact H
                  clear H
                  have H := H1
                  clear H1
                  obtain rfl := Option.some.inj H
                  go_wp2
                  go_ret
                  exact ⟨by first | rfl | (simp [errW_none, errW_some] <;> rfl) | (simp [*, errW_none, errW_some] <;> rfl), by repeat (first | (with_reducible first | exact HB.out | apply below_alloc | apply pw_below_drewN | apply below_drew1) | exact HB.out)⟩
                 ·replace c33 := Bool.eq_false_iff.mpr c33
                  subst c33
                  have H1 : (if a0.toList = ([195, 161] : List UInt8) then (spec_l4Up.j6 kj26 a0 (a0.toList == ([195, 161] : List UInt8))) else (if a0.toList = ([195, 160] : List UInt8) then (spec_l4Up.j6 kj26 a0 (a0.toList == ([195, 160] : List UInt8))) else (if a0.toList = ([195, 162] : List UInt8) then (spec_l4Up.j6 kj26 a0 (a0.toList == ([195, 162] : List UInt8))) else (if a0.toList = ([195, 129] : List UInt8) then (spec_l4Up.j6 kj26 a0 (a0.toList == ([195, 129] : List UInt8))) else (if a0.toList = ([195, 128] : List UInt8) then (spec_l4Up.j6 kj26 a0 (a0.toList == ([195, 128] : List UInt8))) else (spec_l4Up.j6 kj26 a0 (a0.toList == ([195, 130] : List UInt8)))))))) = some r := by rw [if_neg (show ¬ (false = true) by decide)] at H; exact H
                  clear H
                  have H := H1
                  clear H1
                  have HC34 := Aside0.mk H
                  clear H
                  go_upto_if 46 with (fail)
                  go_cut [46] (fun v46 wc => ∃ (kq : Nat) (x46_33 : Bool), v46 = .bool x46_33 ∧ Aside0 (spec_l4Up.j6 kq a0 x46_33 = some r) ∧ Aside0 (kq ≤ kj26) ∧ Aside0 (Below w.heap.size w wc))
                  case first =>
                   have H := HC34.out
                   clear HC34
                   by_cases c35 : a0.toList = ([195, 161] : List UInt8)
                   ·rw [if_pos c35] at H
                    have c35b0 : (a0.toList == ([195, 161] : List UInt8)) = true := beq_iff_eq.mpr c35
                    have c35b1 : (a0.toList != ([195, 161] : List UInt8)) = false := bne_eq_false_iff_eq.mpr c35
                    clear c35
                    (first | rw [c35b0] | (simp only [i64_w, i32_w]; rw [c35b0]) | skip)
                    have H' := Aside0.mk H
                    clear H
                    go_wp2
                    go_meet
                    case rel => exact ⟨_, ((a0.toList == ([195, 161] : List UInt8))), (by first | rfl | (simp; done) | (simp [*]; done)), H', ⟨by have := HJ11.out; have := HJ14.out; have := HJ19.out; have := HJ22.out; have := HJ26.out; first | omega | exact Nat.le_refl _⟩, ⟨by repeat (first | (with_reducible first | exact HB.out | apply below_alloc | apply pw_below_drewN | apply below_drew1) | exact HB.out)⟩⟩
                   ·rw [if_neg c35] at H
                    have c35b0 : (a0.toList == ([195, 161] : List UInt8)) = false := beq_eq_false_iff_ne.mpr c35
                    have c35b1 : (a0.toList != ([195, 161] : List UInt8)) = true := bne_iff_ne.mpr c35
                    (first | rw [c35b0] | (simp only [i64_w, i32_w]; rw [c35b0]) | skip)
                    by_cases c36 : a0.toList = ([195, 160] : List UInt8)
                    ·rw [if_pos c36] at H
                     have c36b0 : (a0.toList == ([195, 160] : List UInt8)) = true := beq_iff_eq.mpr c36
                     have c36b1 : (a0.toList != ([195, 160] : List UInt8)) = false := bne_eq_false_iff_eq.mpr c36
                     clear c36
                     have H' := Aside0.mk H
                     clear H
                     go_wp2
                     go_meet
                     case rel => exact ⟨_, ((a0.toList == ([195, 160] : List UInt8))), (by first | rfl | (simp; done) | (simp [*]; done)), H', ⟨by have := HJ11.out; have := HJ14.out; have := HJ19.out; have := HJ22.out; have := HJ26.out; first | omega | exact Nat.le_refl _⟩, ⟨by repeat (first | (with_reducible first | exact HB.out | apply below_alloc | apply pw_below_drewN | apply below_drew1) | exact HB.out)⟩⟩
                    ·rw [if_neg c36] at H
                     have c36b0 : (a0.toList == ([195, 160] : List UInt8)) = false := beq_eq_false_iff_ne.mpr c36
                     have c36b1 : (a0.toList != ([195, 160] : List UInt8)) = true := bne_iff_ne.mpr c36
                     by_cases c37 : a0.toList = ([195, 162] : List UInt8)
                     ·rw [if_pos c37] at H
                      have c37b0 : (a0.toList == ([195, 162] : List UInt8)) = true := beq_iff_eq.mpr c37
                      have c37b1 : (a0.toList != ([195, 162] : List UInt8)) = false := bne_eq_false_iff_eq.mpr c37
                      clear c37
                      have H' := Aside0.mk H
                      clear H
                      go_wp2
                      go_meet
                      case rel => exact ⟨_, ((a0.toList == ([195, 162] : List UInt8))), (by first | rfl | (simp; done) | (simp [*]; done)), H', ⟨by have := HJ11.out; have := HJ14.out; have := HJ19.out; have := HJ22.out; have := HJ26.out; first | omega | exact Nat.le_refl _⟩, ⟨by repeat (first | (with_reducible first | exact HB.out | apply below_alloc | apply pw_below_drewN | apply below_drew1) | exact HB.out)⟩⟩
                     ·rw [if_neg c37] at H
                      have c37b0 : (a0.toList == ([195, 162] : List UInt8)) = false := beq_eq_false_iff_ne.mpr c37
                      have c37b1 : (a0.toList != ([195, 162] : List UInt8)) = true := bne_iff_ne.mpr c37
                      by_cases c38 : a0.toList = ([195, 129] : List UInt8)
                      ·rw [if_pos c38] at H
                       have c38b0 : (a0.toList == ([195, 129] : List UInt8)) = true := beq_iff_eq.mpr c38
                       have c38b1 : (a0.toList != ([195, 129] : List UInt8)) = false := bne_eq_false_iff_eq.mpr c38
                       clear c38
                       have H' := Aside0.mk H
                       clear H
                       go_wp2
                       go_meet
                       case rel => exact ⟨_, ((a0.toList == ([195, 129] : List UInt8))), (by first | rfl | (simp; done) | (simp [*]; done)), H', ⟨by have := HJ11.out; have := HJ14.out; have := HJ19.out; have := HJ22.out; have := HJ26.out; first | omega | exact Nat.le_refl _⟩, ⟨by repeat (first | (with_reducible first | exact HB.out | apply below_alloc | apply pw_below_drewN | apply below_drew1) | exact HB.out)⟩⟩
                      ·rw [if_neg c38] at H
                       have c38b0 : (a0.toList == ([195, 129] : List UInt8)) = false := beq_eq_false_iff_ne.mpr c38
                       have c38b1 : (a0.toList != ([195, 129] : List UInt8)) = true := bne_iff_ne.mpr c38
                       by_cases c39 : a0.toList = ([195, 128] : List UInt8)
                       ·rw [if_pos c39] at H
                        have c39b0 : (a0.toList == ([195, 128] : List UInt8)) = true := beq_iff_eq.mpr c39
                        have c39b1 : (a0.toList != ([195, 128] : List UInt8)) = false := bne_eq_false_iff_eq.mpr c39
                        clear c39
                        have H' := Aside0.mk H
                        clear H
                        go_wp2
                        go_meet
                        case rel => exact ⟨_, ((a0.toList == ([195, 128] : List UInt8))), (by first | rfl | (simp; done) | (simp [*]; done)), H', ⟨by have := HJ11.out; have := HJ14.out; have := HJ19.out; have := HJ22.out; have := HJ26.out; first | omega | exact Nat.le_refl _⟩, ⟨by repeat (first | (with_reducible first | exact HB.out | apply below_alloc | apply pw_below_drewN | apply below_drew1) | exact HB.out)⟩⟩
                       ·rw [if_neg c39] at H
                        have c39b0 : (a0.toList == ([195, 128] : List UInt8)) = false := beq_eq_false_iff_ne.mpr c39
                        have c39b1 : (a0.toList != ([195, 128] : List UInt8)) = true := bne_iff_ne.mpr c39
                        have H' := Aside0.mk H
                        clear H
                        go_wp2
                        go_meet
                        case rel => exact ⟨_, ((a0.toList == ([195, 130] : List UInt8))), (by first | rfl | (simp; done) | (simp [*]; done)), H', ⟨by have := HJ11.out; have := HJ14.out; have := HJ19.out; have := HJ22.out; have := HJ26.out; first | omega | exact Nat.le_refl _⟩, ⟨by repeat (first | (with_reducible first | exact HB.out | apply below_alloc | apply pw_below_drewN | apply below_drew1) | exact HB.out)⟩⟩
                  case rest =>
                   clear HC34
                   try clear c1
                   try clear hcv1
                   try clear c2
                   try clear c2b0
                   try clear c2b1
                   try clear p2
                   try clear c3
                   try clear c3b0
                   try clear c3b1
                   try clear p4
                   try clear q4
                   try clear hx4
                   try clear qi4
                   try clear c6
                   try clear c6b0
                   try clear c7
                   try clear hcv10
                   try clear c11
                   try clear c11b0
                   try clear c13
                   try clear c13b0
                   try clear c13b1
                   try clear c14
                   try clear c16
                   try clear c16b0
                   try clear c16b1
                   try clear c17
                   try clear c17b0
                   try clear c17b1
                   try clear c18
                   try clear c18b0
                   try clear c18b1
                   try clear c19
                   try clear c21
                   try clear c21b0
                   try clear c21b1
                   try clear c22
                   try clear c24
                   try clear c24b0
                   try clear c24b1
                   try clear c25
                   try clear c26
                   try clear c26b0
                   try clear c26b1
                   try clear c28
                   try clear c28b0
                   try clear c28b1
                   try clear c29
                   try clear c29b0
                   try clear c29b1
                   try clear c30
                   try clear c30b0
                   try clear c30b1
                   try clear c31
                   try clear c31b0
                   try clear c31b1
                   try clear c32
                   try clear c32b0
                   try clear c32b1
                   try clear c33
                   try clear c35
                   try clear c35b0
                   try clear c35b1
                   try clear c36
                   try clear c36b0
                   try clear c36b1
                   try clear c37
                   try clear c37b0
                   try clear c37b1
                   try clear c38
                   try clear c38b0
                   try clear c38b1
                   try clear c39
                   try clear c39b0
                   try clear c39b1
                   try clear p2
                   try clear p4
                   try clear q4
                   obtain ⟨kq, x46_33, rfl, HA, HJ33, HB⟩ := hcut
                   cases kq with
                   | zero => exact absurd HA.out (by simp [spec_l4Up.j6])
                   | succ kj33 =>
                    have H := HA.out
                    clear HA
                    simp only [spec_l4Up.j6] at H
                    by_cases c40 : x46_33 = true
                    ·subst c40
                     have H1 : (some (⟨#[65]⟩ : ByteArray)) = some r := by rw [if_pos rfl] at H; exact H
                     clear H
                     have H := H1
                     clear H1
                     obtain rfl := Option.some.inj H
                     go_wp2
                     go_ret
                     exact ⟨by first | rfl | (simp [errW_none, errW_some] <;> rfl) | (simp [*, errW_none, errW_some] <;> rfl), by repeat (first | (with_reducible first | exact HB.out | apply below_alloc | apply pw_below_drewN | apply below_drew1) | exact HB.out)⟩
                    ·replace c40 := Bool.eq_false_iff.mpr c40
                     subst c40
                     have H1 : (if a0.toList = ([195, 177] : List UInt8) then (some (⟨#[78]⟩ : ByteArray)) else (if a0.toList = ([195, 145] : List UInt8) then (some (⟨#[78]⟩ : ByteArray)) else (some (⟨#[63]⟩ : ByteArray)))) = some r := by rw [if_neg (show ¬ (false = true) by decide)] at H; exact H
                     clear H
                     have H := H1
                     clear H1
                     by_cases c41 : a0.toList = ([195, 177] : List UInt8)
                     ·rw [if_pos c41] at H
                      have c41b0 : (a0.toList == ([195, 177] : List UInt8)) = true := beq_iff_eq.mpr c41
                      have c41b1 : (a0.toList != ([195, 177] : List UInt8)) = false := bne_eq_false_iff_eq.mpr c41
                      clear c41
                      obtain rfl := Option.some.inj H
                      go_wp2
                      go_ret
                      exact ⟨by first | rfl | (simp [errW_none, errW_some] <;> rfl) | (simp [*, errW_none, errW_some] <;> rfl), by repeat (first | (with_reducible first | exact HB.out | apply below_alloc | apply pw_below_drewN | apply below_drew1) | exact HB.out)⟩
                     ·rw [if_neg c41] at H
                      have c41b0 : (a0.toList == ([195, 177] : List UInt8)) = false := beq_eq_false_iff_ne.mpr c41
                      have c41b1 : (a0.toList != ([195, 177] : List UInt8)) = true := bne_iff_ne.mpr c41
                      by_cases c42 : a0.toList = ([195, 145] : List UInt8)
                      ·rw [if_pos c42] at H
                       have c42b0 : (a0.toList == ([195, 145] : List UInt8)) = true := beq_iff_eq.mpr c42
                       have c42b1 : (a0.toList != ([195, 145] : List UInt8)) = false := bne_eq_false_iff_eq.mpr c42
                       clear c42
                       obtain rfl := Option.some.inj H
                       go_wp2
                       go_ret
                       exact ⟨by first | rfl | (simp [errW_none, errW_some] <;> rfl) | (simp [*, errW_none, errW_some] <;> rfl), by repeat (first | (with_reducible first | exact HB.out | apply below_alloc | apply pw_below_drewN | apply below_drew1) | exact HB.out)⟩
                      ·rw [if_neg c42] at H
                       have c42b0 : (a0.toList == ([195, 145] : List UInt8)) = false := beq_eq_false_iff_ne.mpr c42
                       have c42b1 : (a0.toList != ([195, 145] : List UInt8)) = true := bne_iff_ne.mpr c42
                       obtain rfl := Option.some.inj H
                       go_wp2
                       go_ret
                       exact ⟨by first | rfl | (simp [errW_none, errW_some] <;> rfl) | (simp [*, errW_none, errW_some] <;> rfl), by repeat (first | (with_reducible first | exact HB.out | apply below_alloc | apply pw_below_drewN | apply below_drew1) | exact HB.out)⟩

end Go.Proofs.YtcdghhihfjojaaaDoor.Q
