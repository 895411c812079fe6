/- Plain Lean functions with the same answers as the Go functions of this seat, and a proof for each that the Go code comes to just these answers; no condition. Written by a program of this session (the kit's printer, turned). -/
import Derived.Test.YtcdghhihfjojaabDoorQx0
import Derived.Test.YtcdghhihfjojaabDoorQx8
import Derived.Test.YtcdghhihfjojaabDoorQx10
namespace Go.Proofs.YtcdghhihfjojaabDoor.Q
open Go.RowKit Go.Proofs.YtcdghhihfjojaabDoorW.PrintWords Go.Proofs.YtcdghhihfjojaabDoorW.PrintLast Go.Proofs.YtcdghhihfjojaabDoorW.PrintMore Go.Proofs.YtcdghhihfjojaabDoorW.PrintFlt
attribute [local go_sem] cmp_lss cmp_leq cmp_gtr cmp_geq cmp_eql cmp_neq flt_l flt_r fgt_l fgt_r feq_l feq_r fne_l fne_r ord_lt ord_gt ord_eq ord_ne conv_int conv_flt foi_fold run_store_flt
attribute [local go_sem] max2_int min2_int max_two min_two max_three min_three max_four min_four   -- for this text's walks alone
set_option linter.unusedVariables false
set_option linter.unusedSimpArgs false

/-! ### impl_SkyOk: function 13 -/
mutual
def impl_SkyOk.j1 : Nat → List (List ByteArray) → List (List ByteArray) → Int → Int → Int → ByteArray → ByteArray → Int → Option (Bool)
 | 0, _, _, _, _, _, _, _, _ => none
 | k + 1, x950, x951, x123000, x123001, x123002, x123003, x123004, x123005 => (impl_in.f x123002 (-1) 9999).bind fun t126 => (if t126 = true then (if x123003.toList = ([] : List UInt8) then (impl_SkyOk.j2 k false x951 x123000 x123001 x123002 x123003 x123004 x123005) else (if 0 < (x950.length : Int) then ((slices_Contains_string_string.f k (rd_L1 x950 0) x123003).bind fun t128 => (impl_SkyOk.j2 k (!t128) x951 x123000 x123001 x123002 x123003 x123004 x123005)) else (none))) else (impl_SkyOk.j2 k true x951 x123000 x123001 x123002 x123003 x123004 x123005))
def impl_SkyOk.j2 : Nat → Bool → List (List ByteArray) → Int → Int → Int → ByteArray → ByteArray → Int → Option (Bool)
 | 0, _, _, _, _, _, _, _, _ => none
 | k + 1, x46, x951, x123000, x123001, x123002, x123003, x123004, x123005 => if x46 = true then (some false) else (if x123004.toList = ([] : List UInt8) then (impl_SkyOk.j3 k true x951 x123000 x123001 x123002 x123003 x123004 x123005) else (impl_SkyOk.j3 k (x123004.toList == ([83, 75, 67] : List UInt8)) x951 x123000 x123001 x123002 x123003 x123004 x123005))
def impl_SkyOk.j3 : Nat → Bool → List (List ByteArray) → Int → Int → Int → ByteArray → ByteArray → Int → Option (Bool)
 | 0, _, _, _, _, _, _, _, _ => none
 | k + 1, x54, x951, x123000, x123001, x123002, x123003, x123004, x123005 => if x54 = true then (some (x123005 == 0)) else (if 0 < (x951.length : Int) then ((slices_Contains_string_string.f k (rd_L1 x951 0) x123004).bind fun t130 => (if t130 = true then ((impl_in.f x123005 1 200).bind fun t131 => (some t131)) else (some false))) else (none))
def impl_SkyOk.j0 : Nat → Bool → List (List ByteArray) → List (List ByteArray) → Int → Int → Int → ByteArray → ByteArray → Int → Option (Bool)
 | 0, _, _, _, _, _, _, _, _, _ => none
 | k + 1, x3, x950, x951, x123000, x123001, x123002, x123003, x123004, x123005 => if x3 = true then (if x123001 = 0 then (impl_SkyOk.j1 k x950 x951 x123000 x123001 x123002 x123003 x123004 x123005) else (some false)) else ((impl_in.f x123000 1 36).bind fun t123 => (if t123 = true then ((impl_in.f x123001 1 99).bind fun t124 => (if t124 = true then (impl_SkyOk.j1 k x950 x951 x123000 x123001 x123002 x123003 x123004 x123005) else (some false))) else (if x123000 = 99 then ((impl_in.f x123001 1 99).bind fun t125 => (if t125 = true then (impl_SkyOk.j1 k x950 x951 x123000 x123001 x123002 x123003 x123004 x123005) else (some false))) else (some false))))
end
def impl_SkyOk.f (k : Nat) (a0_0 : Int) (a0_1 : Int) (a0_2 : Int) (a0_3 : ByteArray) (a0_4 : ByteArray) (a0_5 : Int) (l1 : List (List ByteArray)) (l2 : List (List ByteArray)) : Option (Bool) := if a0_0 = (-1) then (impl_SkyOk.j0 k true l1 l2 a0_0 a0_1 a0_2 a0_3 a0_4 a0_5) else (impl_SkyOk.j0 k (a0_0 == 0) l1 l2 a0_0 a0_1 a0_2 a0_3 a0_4 a0_5)
theorem impl_SkyOk.mono_l : ∀ k, (∀ y0 y1 y2 y3 y4 y5 y6 y7, LeO (impl_SkyOk.j1 k y0 y1 y2 y3 y4 y5 y6 y7) (impl_SkyOk.j1 (k + 1) y0 y1 y2 y3 y4 y5 y6 y7)) ∧ (∀ y0 y1 y2 y3 y4 y5 y6 y7, LeO (impl_SkyOk.j2 k y0 y1 y2 y3 y4 y5 y6 y7) (impl_SkyOk.j2 (k + 1) y0 y1 y2 y3 y4 y5 y6 y7)) ∧ (∀ y0 y1 y2 y3 y4 y5 y6 y7, LeO (impl_SkyOk.j3 k y0 y1 y2 y3 y4 y5 y6 y7) (impl_SkyOk.j3 (k + 1) y0 y1 y2 y3 y4 y5 y6 y7)) ∧ (∀ y0 y1 y2 y3 y4 y5 y6 y7 y8, LeO (impl_SkyOk.j0 k y0 y1 y2 y3 y4 y5 y6 y7 y8) (impl_SkyOk.j0 (k + 1) y0 y1 y2 y3 y4 y5 y6 y7 y8))
 | 0 => ⟨fun _ _ _ _ _ _ _ _ r h => by simp [impl_SkyOk.j1] at h, fun _ _ _ _ _ _ _ _ r h => by simp [impl_SkyOk.j2] at h, fun _ _ _ _ _ _ _ _ r h => by simp [impl_SkyOk.j3] at h, fun _ _ _ _ _ _ _ _ _ r h => by simp [impl_SkyOk.j0] at h⟩
 | k + 1 => by
  obtain ⟨ih0, ih1, ih2, ih3⟩ := impl_SkyOk.mono_l k
  refine ⟨?_, ?_, ?_, ?_⟩
  ·intro y0 y1 y2 y3 y4 y5 y6 y7
   unfold impl_SkyOk.j1
   repeat' first
   | (with_reducible exact ih0 _ _ _ _ _ _ _ _)
   | (with_reducible exact ih1 _ _ _ _ _ _ _ _)
   | (with_reducible exact ih2 _ _ _ _ _ _ _ _)
   | (with_reducible exact ih3 _ _ _ _ _ _ _ _ _)
   | (with_reducible exact slices_Contains_string_string.mono _ _ _)
   | (with_reducible exact LeO.refl _)
   | (with_reducible exact LeO.none _)
   | (with_reducible refine LeO.ite ?_ ?_)
   | (with_reducible refine LeO.bind ?_ (fun _ => ?_))
   | exact ih0 _ _ _ _ _ _ _ _
   | exact ih1 _ _ _ _ _ _ _ _
   | exact ih2 _ _ _ _ _ _ _ _
   | exact ih3 _ _ _ _ _ _ _ _ _
   | exact slices_Contains_string_string.mono _ _ _
   | exact LeO.none _
   | refine LeO.ite ?_ ?_
   | refine LeO.bind ?_ (fun _ => ?_)
  ·intro y0 y1 y2 y3 y4 y5 y6 y7
   unfold impl_SkyOk.j2
   repeat' first
   | (with_reducible exact ih0 _ _ _ _ _ _ _ _)
   | (with_reducible exact ih1 _ _ _ _ _ _ _ _)
   | (with_reducible exact ih2 _ _ _ _ _ _ _ _)
   | (with_reducible exact ih3 _ _ _ _ _ _ _ _ _)
   | (with_reducible exact slices_Contains_string_string.mono _ _ _)
   | (with_reducible exact LeO.refl _)
   | (with_reducible exact LeO.none _)
   | (with_reducible refine LeO.ite ?_ ?_)
   | (with_reducible refine LeO.bind ?_ (fun _ => ?_))
   | exact ih0 _ _ _ _ _ _ _ _
   | exact ih1 _ _ _ _ _ _ _ _
   | exact ih2 _ _ _ _ _ _ _ _
   | exact ih3 _ _ _ _ _ _ _ _ _
   | exact slices_Contains_string_string.mono _ _ _
   | exact LeO.none _
   | refine LeO.ite ?_ ?_
   | refine LeO.bind ?_ (fun _ => ?_)
  ·intro y0 y1 y2 y3 y4 y5 y6 y7
   unfold impl_SkyOk.j3
   repeat' first
   | (with_reducible exact ih0 _ _ _ _ _ _ _ _)
   | (with_reducible exact ih1 _ _ _ _ _ _ _ _)
   | (with_reducible exact ih2 _ _ _ _ _ _ _ _)
   | (with_reducible exact ih3 _ _ _ _ _ _ _ _ _)
   | (with_reducible exact slices_Contains_string_string.mono _ _ _)
   | (with_reducible exact LeO.refl _)
   | (with_reducible exact LeO.none _)
   | (with_reducible refine LeO.ite ?_ ?_)
   | (with_reducible refine LeO.bind ?_ (fun _ => ?_))
   | exact ih0 _ _ _ _ _ _ _ _
   | exact ih1 _ _ _ _ _ _ _ _
   | exact ih2 _ _ _ _ _ _ _ _
   | exact ih3 _ _ _ _ _ _ _ _ _
   | exact slices_Contains_string_string.mono _ _ _
   | exact LeO.none _
   | refine LeO.ite ?_ ?_
   | refine LeO.bind ?_ (fun _ => ?_)
  ·intro y0 y1 y2 y3 y4 y5 y6 y7 y8
   unfold impl_SkyOk.j0
   repeat' first
   | (with_reducible exact ih0 _ _ _ _ _ _ _ _)
   | (with_reducible exact ih1 _ _ _ _ _ _ _ _)
   | (with_reducible exact ih2 _ _ _ _ _ _ _ _)
   | (with_reducible exact ih3 _ _ _ _ _ _ _ _ _)
   | (with_reducible exact slices_Contains_string_string.mono _ _ _)
   | (with_reducible exact LeO.refl _)
   | (with_reducible exact LeO.none _)
   | (with_reducible refine LeO.ite ?_ ?_)
   | (with_reducible refine LeO.bind ?_ (fun _ => ?_))
   | exact ih0 _ _ _ _ _ _ _ _
   | exact ih1 _ _ _ _ _ _ _ _
   | exact ih2 _ _ _ _ _ _ _ _
   | exact ih3 _ _ _ _ _ _ _ _ _
   | exact slices_Contains_string_string.mono _ _ _
   | exact LeO.none _
   | refine LeO.ite ?_ ?_
   | refine LeO.bind ?_ (fun _ => ?_)
theorem impl_SkyOk.mono : ∀ a0 a1 a2 a3 a4 a5 a6 a7 k, LeO (impl_SkyOk.f k a0 a1 a2 a3 a4 a5 a6 a7) (impl_SkyOk.f (k + 1) a0 a1 a2 a3 a4 a5 a6 a7) := by
 intro a0 a1 a2 a3 a4 a5 a6 a7 k
 obtain ⟨ih0, ih1, ih2, ih3⟩ := impl_SkyOk.mono_l k
 unfold impl_SkyOk.f
 repeat' first
   | (with_reducible exact ih0 _ _ _ _ _ _ _ _)
   | (with_reducible exact ih1 _ _ _ _ _ _ _ _)
   | (with_reducible exact ih2 _ _ _ _ _ _ _ _)
   | (with_reducible exact ih3 _ _ _ _ _ _ _ _ _)
   | (with_reducible exact slices_Contains_string_string.mono _ _ _)
   | (with_reducible exact LeO.refl _)
   | (with_reducible exact LeO.none _)
   | (with_reducible refine LeO.ite ?_ ?_)
   | (with_reducible refine LeO.bind ?_ (fun _ => ?_))
   | exact ih0 _ _ _ _ _ _ _ _
   | exact ih1 _ _ _ _ _ _ _ _
   | exact ih2 _ _ _ _ _ _ _ _
   | exact ih3 _ _ _ _ _ _ _ _ _
   | exact slices_Contains_string_string.mono _ _ _
   | exact LeO.none _
   | refine LeO.ite ?_ ?_
   | refine LeO.bind ?_ (fun _ => ?_)
set_option maxHeartbeats 8000000 in
set_option maxRecDepth 100000 in
theorem impl_SkyOk.calls (k : Nat) (a0_0 : Int) (a0_1 : Int) (a0_2 : Int) (a0_3 : ByteArray) (a0_4 : ByteArray) (a0_5 : Int) (l1 : List (List ByteArray)) (l2 : List (List ByteArray)) (r : Bool) (w : World) (hr1 : Kd.C (Kd.slice 9 Kd.string) w (some ⟨0, 0, none⟩) l1.length l1) (hc1 : l1.length ≤ l1.length) (hr2 : Kd.C (Kd.slice 9 Kd.string) w (some ⟨1, 0, none⟩) l2.length l2) (hc2 : l2.length ≤ l2.length) (h : impl_SkyOk.f k a0_0 a0_1 a0_2 a0_3 a0_4 a0_5 l1 l2 = some r) :
  Calls Tryd.prog 13 #[.agg #[.int .i64 a0_0, .int .i64 a0_1, .int .i64 a0_2, .string a0_3, .string a0_4, .int .i64 a0_5]] w fun e w' => e = .returned (.bool r) ∧ Below w.heap.size w w' := by
 have hu25 := Tryd.underlying25
 have HR1 := Aside0.mk hr1
 have HC1 := Aside0.mk hc1
 clear hr1 hc1
 have HR2 := Aside0.mk hr2
 have HC2 := Aside0.mk hc2
 clear hr2 hc2
 have HB := A0 (Below.refl w.heap.size w)
 have H : (if a0_0 = (-1) then (impl_SkyOk.j0 k true l1 l2 a0_0 a0_1 a0_2 a0_3 a0_4 a0_5) else (impl_SkyOk.j0 k (a0_0 == 0) l1 l2 a0_0 a0_1 a0_2 a0_3 a0_4 a0_5)) = some r := h
 clear h
 have HC4 := Aside0.mk H
 clear H
 go_enter Tryd.func13, Tryd.ntmps13
 go_upto_block 0 with (first | ((with_reducible refine gate_dst (N := 1) rfl ?_); refine box_event ?hg (N := 1) ?hd (cs := #[.int .i64 a0_0, .int .i64 a0_1, .int .i64 a0_2, .string a0_3, .string a0_4, .int .i64 a0_5]) (t := 25) ?hr ?_; (case hd => rfl); (case hg => rfl); (case hr => first | (go_simp; done) | (go_simp; rfl)); intro gb122 hg w5 hbox hb; have n0_ := A0 (below_step (by repeat (first | (with_reducible first | exact HB.out | apply wA | apply wN | apply wD) | exact HB.out)) hb); have n1_ := A0 (hbox); have n2_ := A0 ((by rw [hg]; exact (below_size (by repeat (first | (with_reducible first | exact HB.out | apply wA | apply wN | apply wD) | exact HB.out))) : w.heap.size ≤ gb122)); have n3_ := A0 ((by rw [hg]; exact (below_size (by repeat (first | (with_reducible first | exact HB.out | apply wA | apply wN | apply wD) | exact HB.out))) : w.heap.size ≤ gb122)); clear HB; have HB := n0_; have BK122 := n1_; have GW122 := n2_; have GE122 := n3_; clear n0_ n1_ n2_ n3_; clear hb hbox hg))
 (try simp only [Act.put, sqA, sqZ, sqS])
 go_cut [] (fun wc => ∃ (kq : Nat), Aside0 (impl_SkyOk.j1 kq l1 l2 a0_0 a0_1 a0_2 a0_3 a0_4 a0_5 = some r) ∧ Aside0 (kq ≤ k) ∧ Aside0 (wc.heap[gb122]? = some (.cells #[.int .i64 a0_0, .int .i64 a0_1, .int .i64 a0_2, .string a0_3, .string a0_4, .int .i64 a0_5] 25 (0, 0))) ∧ Aside0 (Below w.heap.size w wc))
 case first =>
  have H := HC4.out
  clear HC4
  have HC6 := Aside0.mk H
  clear H
  go_upto_region 1 with (fail)
  go_cut [3] (fun v3 wc => ∃ (kq : Nat) (x3_5 : Bool), v3 = .bool x3_5 ∧ Aside0 (impl_SkyOk.j0 kq x3_5 l1 l2 a0_0 a0_1 a0_2 a0_3 a0_4 a0_5 = some r) ∧ Aside0 (kq ≤ k) ∧ Aside0 (wc.heap[gb122]? = some (.cells #[.int .i64 a0_0, .int .i64 a0_1, .int .i64 a0_2, .string a0_3, .string a0_4, .int .i64 a0_5] 25 (0, 0))) ∧ Aside0 (Below w.heap.size w wc))
  case first =>
   have H := HC6.out
   clear HC6
   by_cases c7 : a0_0 = (-1)
   ·rw [if_pos c7] at H
    have c7b0 : (a0_0 == (-1)) = true := beq_iff_eq.mpr c7
    have c7b1 : (a0_0 != (-1)) = false := bne_eq_false_iff_eq.mpr c7
    clear c7
    (first | rw [c7b0] | (simp only [i64_w, i32_w]; rw [c7b0]) | skip)
    have H' := Aside0.mk H
    clear H
    have hcz8_0 : w5.cell? ⟨gb122, 0, none⟩ = some (.int .i64 a0_0) := bC BK122.out 0 rfl
    have hcz8_1 : w5.cell? ⟨gb122, 1, none⟩ = some (.int .i64 a0_1) := bC BK122.out 1 rfl
    have hcz8_2 : w5.cell? ⟨gb122, 2, none⟩ = some (.int .i64 a0_2) := bC BK122.out 2 rfl
    have hcz8_3 : w5.cell? ⟨gb122, 3, none⟩ = some (.string a0_3) := bC BK122.out 3 rfl
    have hcz8_4 : w5.cell? ⟨gb122, 4, none⟩ = some (.string a0_4) := bC BK122.out 4 rfl
    have hcz8_5 : w5.cell? ⟨gb122, 5, none⟩ = some (.int .i64 a0_5) := bC BK122.out 5 rfl
    have hfz8_0 := blk_frozen BK122.out 0
    have hfz8_1 := blk_frozen BK122.out 1
    have hfz8_2 := blk_frozen BK122.out 2
    have hfz8_3 := blk_frozen BK122.out 3
    have hfz8_4 := blk_frozen BK122.out 4
    have hfz8_5 := blk_frozen BK122.out 5
    go_wp2
    go_meet
    case rel => exact ⟨_, (true), (by first | rfl | (simp; done) | (simp [*]; done)), H', ⟨by first | omega | exact Nat.le_refl _⟩, ⟨by (with_reducible repeat (first | refine bN ?_ _ | refine bD ?_ | refine bA ?_ _)); exact BK122.out⟩, ⟨by repeat (first | (with_reducible first | exact HB.out | apply wA | apply wN | apply wD | refine bS ?_ GE122.out) | exact HB.out)⟩⟩
   ·rw [if_neg c7] at H
    have c7b0 : (a0_0 == (-1)) = false := beq_eq_false_iff_ne.mpr c7
    have c7b1 : (a0_0 != (-1)) = true := bne_iff_ne.mpr c7
    (first | rw [c7b0] | (simp only [i64_w, i32_w]; rw [c7b0]) | skip)
    have H' := Aside0.mk H
    clear H
    have hcz9_0 : w5.cell? ⟨gb122, 0, none⟩ = some (.int .i64 a0_0) := bC BK122.out 0 rfl
    have hcz9_1 : w5.cell? ⟨gb122, 1, none⟩ = some (.int .i64 a0_1) := bC BK122.out 1 rfl
    have hcz9_2 : w5.cell? ⟨gb122, 2, none⟩ = some (.int .i64 a0_2) := bC BK122.out 2 rfl
    have hcz9_3 : w5.cell? ⟨gb122, 3, none⟩ = some (.string a0_3) := bC BK122.out 3 rfl
    have hcz9_4 : w5.cell? ⟨gb122, 4, none⟩ = some (.string a0_4) := bC BK122.out 4 rfl
    have hcz9_5 : w5.cell? ⟨gb122, 5, none⟩ = some (.int .i64 a0_5) := bC BK122.out 5 rfl
    have hfz9_0 := blk_frozen BK122.out 0
    have hfz9_1 := blk_frozen BK122.out 1
    have hfz9_2 := blk_frozen BK122.out 2
    have hfz9_3 := blk_frozen BK122.out 3
    have hfz9_4 := blk_frozen BK122.out 4
    have hfz9_5 := blk_frozen BK122.out 5
    go_wp2
    go_meet
    case rel => exact ⟨_, ((a0_0 == 0)), (by first | rfl | (simp; done) | (simp [*]; done)), H', ⟨by first | omega | exact Nat.le_refl _⟩, ⟨by (with_reducible repeat (first | refine bN ?_ _ | refine bD ?_ | refine bA ?_ _)); exact BK122.out⟩, ⟨by repeat (first | (with_reducible first | exact HB.out | apply wA | apply wN | apply wD | refine bS ?_ GE122.out) | exact HB.out)⟩⟩
  case rest =>
   clear HC6
   try clear c1
   try clear c2
   try clear p2
   try clear c7
   try clear c7b0
   try clear c7b1
   try clear hcz8_0
   try clear hcz8_1
   try clear hcz8_2
   try clear hcz8_3
   try clear hcz8_4
   try clear hcz8_5
   try clear hcz9_0
   try clear hcz9_1
   try clear hcz9_2
   try clear hcz9_3
   try clear hcz9_4
   try clear hcz9_5
   try clear hfz8_0
   try clear hfz8_1
   try clear hfz8_2
   try clear hfz8_3
   try clear hfz8_4
   try clear hfz8_5
   try clear hfz9_0
   try clear hfz9_1
   try clear hfz9_2
   try clear hfz9_3
   try clear hfz9_4
   try clear hfz9_5
   obtain ⟨kq, x3_5, rfl, HA, HJ5, BK122, HB⟩ := hcut
   cases kq with
   | zero => exact absurd HA.out (by simp [impl_SkyOk.j0])
   | succ kj5 =>
    have H := HA.out
    clear HA
    simp only [impl_SkyOk.j0] at H
    by_cases c10 : x3_5 = true
    ·subst c10
     have H1 : (if a0_1 = 0 then (impl_SkyOk.j1 kj5 l1 l2 a0_0 a0_1 a0_2 a0_3 a0_4 a0_5) else (some false)) = some r := by rw [if_pos rfl] at H; exact H
     clear H
     have H := H1
     clear H1
     by_cases c11 : a0_1 = 0
     ·rw [if_pos c11] at H
      have c11b0 : (a0_1 == 0) = true := beq_iff_eq.mpr c11
      have c11b1 : (a0_1 != 0) = false := bne_eq_false_iff_eq.mpr c11
      clear c11
      have H' := Aside0.mk H
      clear H
      have hcz12_0 : wc.cell? ⟨gb122, 0, none⟩ = some (.int .i64 a0_0) := bC BK122.out 0 rfl
      have hcz12_1 : wc.cell? ⟨gb122, 1, none⟩ = some (.int .i64 a0_1) := bC BK122.out 1 rfl
      have hcz12_2 : wc.cell? ⟨gb122, 2, none⟩ = some (.int .i64 a0_2) := bC BK122.out 2 rfl
      have hcz12_3 : wc.cell? ⟨gb122, 3, none⟩ = some (.string a0_3) := bC BK122.out 3 rfl
      have hcz12_4 : wc.cell? ⟨gb122, 4, none⟩ = some (.string a0_4) := bC BK122.out 4 rfl
      have hcz12_5 : wc.cell? ⟨gb122, 5, none⟩ = some (.int .i64 a0_5) := bC BK122.out 5 rfl
      have hfz12_0 := blk_frozen BK122.out 0
      have hfz12_1 := blk_frozen BK122.out 1
      have hfz12_2 := blk_frozen BK122.out 2
      have hfz12_3 := blk_frozen BK122.out 3
      have hfz12_4 := blk_frozen BK122.out 4
      have hfz12_5 := blk_frozen BK122.out 5
      go_wp2
      go_meet
      case rel => exact ⟨_, H', ⟨by have := HJ5.out; first | omega | exact Nat.le_refl _⟩, ⟨by (with_reducible repeat (first | refine bN ?_ _ | refine bD ?_ | refine bA ?_ _)); exact BK122.out⟩, ⟨by repeat (first | (with_reducible first | exact HB.out | apply wA | apply wN | apply wD | refine bS ?_ GE122.out) | exact HB.out)⟩⟩
     ·rw [if_neg c11] at H
      have c11b0 : (a0_1 == 0) = false := beq_eq_false_iff_ne.mpr c11
      have c11b1 : (a0_1 != 0) = true := bne_iff_ne.mpr c11
      obtain rfl := Option.some.inj H
      have hcz13_0 : wc.cell? ⟨gb122, 0, none⟩ = some (.int .i64 a0_0) := bC BK122.out 0 rfl
      have hcz13_1 : wc.cell? ⟨gb122, 1, none⟩ = some (.int .i64 a0_1) := bC BK122.out 1 rfl
      have hcz13_2 : wc.cell? ⟨gb122, 2, none⟩ = some (.int .i64 a0_2) := bC BK122.out 2 rfl
      have hcz13_3 : wc.cell? ⟨gb122, 3, none⟩ = some (.string a0_3) := bC BK122.out 3 rfl
      have hcz13_4 : wc.cell? ⟨gb122, 4, none⟩ = some (.string a0_4) := bC BK122.out 4 rfl
      have hcz13_5 : wc.cell? ⟨gb122, 5, none⟩ = some (.int .i64 a0_5) := bC BK122.out 5 rfl
      have hfz13_0 := blk_frozen BK122.out 0
      have hfz13_1 := blk_frozen BK122.out 1
      have hfz13_2 := blk_frozen BK122.out 2
      have hfz13_3 := blk_frozen BK122.out 3
      have hfz13_4 := blk_frozen BK122.out 4
      have hfz13_5 := blk_frozen BK122.out 5
      go_wp2
      go_ret
      exact ⟨by first | rfl | (simp [errW_none, errW_some] <;> rfl) | (simp [*, errW_none, errW_some] <;> rfl), by repeat (first | (with_reducible first | exact HB.out | apply wA | apply wN | apply wD | refine bS ?_ GE122.out) | exact HB.out)⟩
    ·replace c10 := Bool.eq_false_iff.mpr c10
     subst c10
     have H1 : ((impl_in.f a0_0 1 36).bind fun t123 => (if t123 = true then ((impl_in.f a0_1 1 99).bind fun t124 => (if t124 = true then (impl_SkyOk.j1 kj5 l1 l2 a0_0 a0_1 a0_2 a0_3 a0_4 a0_5) else (some false))) else (if a0_0 = 99 then ((impl_in.f a0_1 1 99).bind fun t125 => (if t125 = true then (impl_SkyOk.j1 kj5 l1 l2 a0_0 a0_1 a0_2 a0_3 a0_4 a0_5) else (some false))) else (some false)))) = some r := by rw [if_neg (show ¬ (false = true) by decide)] at H; exact H
     clear H
     have H := H1
     clear H1
     replace H := Option.bind_eq_some_iff.mp H
     obtain ⟨t123, A140, H⟩ := H
     replace H : (if t123 = true then ((impl_in.f a0_1 1 99).bind fun t124 => (if t124 = true then (impl_SkyOk.j1 kj5 l1 l2 a0_0 a0_1 a0_2 a0_3 a0_4 a0_5) else (some false))) else (if a0_0 = 99 then ((impl_in.f a0_1 1 99).bind fun t125 => (if t125 = true then (impl_SkyOk.j1 kj5 l1 l2 a0_0 a0_1 a0_2 a0_3 a0_4 a0_5) else (some false))) else (some false))) = some r := H
     have A14 := Aside0.mk A140
     clear A140
     by_cases c15 : t123 = true
     ·subst c15
      have H1 : ((impl_in.f a0_1 1 99).bind fun t124 => (if t124 = true then (impl_SkyOk.j1 kj5 l1 l2 a0_0 a0_1 a0_2 a0_3 a0_4 a0_5) else (some false))) = some r := by rw [if_pos rfl] at H; exact H
      clear H
      have H := H1
      clear H1
      replace H := Option.bind_eq_some_iff.mp H
      obtain ⟨t124, A160, H⟩ := H
      replace H : (if t124 = true then (impl_SkyOk.j1 kj5 l1 l2 a0_0 a0_1 a0_2 a0_3 a0_4 a0_5) else (some false)) = some r := H
      have A16 := Aside0.mk A160
      clear A160
      by_cases c17 : t124 = true
      ·subst c17
       have H1 : (impl_SkyOk.j1 kj5 l1 l2 a0_0 a0_1 a0_2 a0_3 a0_4 a0_5) = some r := by rw [if_pos rfl] at H; exact H
       clear H
       have H := H1
       clear H1
       have H' := Aside0.mk H
       clear H
       have hcz18_0 : wc.cell? ⟨gb122, 0, none⟩ = some (.int .i64 a0_0) := bC BK122.out 0 rfl
       have hcz18_1 : wc.cell? ⟨gb122, 1, none⟩ = some (.int .i64 a0_1) := bC BK122.out 1 rfl
       have hcz18_2 : wc.cell? ⟨gb122, 2, none⟩ = some (.int .i64 a0_2) := bC BK122.out 2 rfl
       have hcz18_3 : wc.cell? ⟨gb122, 3, none⟩ = some (.string a0_3) := bC BK122.out 3 rfl
       have hcz18_4 : wc.cell? ⟨gb122, 4, none⟩ = some (.string a0_4) := bC BK122.out 4 rfl
       have hcz18_5 : wc.cell? ⟨gb122, 5, none⟩ = some (.int .i64 a0_5) := bC BK122.out 5 rfl
       have hfz18_0 := blk_frozen BK122.out 0
       have hfz18_1 := blk_frozen BK122.out 1
       have hfz18_2 := blk_frozen BK122.out 2
       have hfz18_3 := blk_frozen BK122.out 3
       have hfz18_4 := blk_frozen BK122.out 4
       have hfz18_5 := blk_frozen BK122.out 5
       go_wp2_with (first | ((with_reducible refine gate_callee (f := 22) rfl ?_); refine goesL_ (some 18) rfl rfl Tryd.func22 (by kernel_rfl) rfl #[.int .i64 a0_0, .int .i64 1, .int .i64 36] rfl (by (try simp only [lM, lC, lN]); first | done | rfl | (simp only [lD, lT]; rfl)) ?_; (with_reducible refine (impl_in.calls a0_0 1 36 true _ A14.out).mono ?_); rintro e w' ⟨rfl, ⟨nd, rfl⟩⟩; refine ⟨_, rfl, ?_⟩) | (go_at_call 22; (with_reducible refine (impl_in.calls a0_1 1 99 true _ A16.out).mono ?_); rintro e w' ⟨rfl, ⟨nd, rfl⟩⟩))
       go_meet
       case rel => exact ⟨_, H', ⟨by have := HJ5.out; first | omega | exact Nat.le_refl _⟩, ⟨by (with_reducible repeat (first | refine bN ?_ _ | refine bD ?_ | refine bA ?_ _)); exact BK122.out⟩, ⟨by repeat (first | (with_reducible first | exact HB.out | apply wA | apply wN | apply wD | refine bS ?_ GE122.out) | exact HB.out)⟩⟩
      ·replace c17 := Bool.eq_false_iff.mpr c17
       subst c17
       have H1 : (some false) = some r := by rw [if_neg (show ¬ (false = true) by decide)] at H; exact H
       clear H
       have H := H1
       clear H1
       obtain rfl := Option.some.inj H
       have hcz19_0 : wc.cell? ⟨gb122, 0, none⟩ = some (.int .i64 a0_0) := bC BK122.out 0 rfl
       have hcz19_1 : wc.cell? ⟨gb122, 1, none⟩ = some (.int .i64 a0_1) := bC BK122.out 1 rfl
       have hcz19_2 : wc.cell? ⟨gb122, 2, none⟩ = some (.int .i64 a0_2) := bC BK122.out 2 rfl
       have hcz19_3 : wc.cell? ⟨gb122, 3, none⟩ = some (.string a0_3) := bC BK122.out 3 rfl
       have hcz19_4 : wc.cell? ⟨gb122, 4, none⟩ = some (.string a0_4) := bC BK122.out 4 rfl
       have hcz19_5 : wc.cell? ⟨gb122, 5, none⟩ = some (.int .i64 a0_5) := bC BK122.out 5 rfl
       have hfz19_0 := blk_frozen BK122.out 0
       have hfz19_1 := blk_frozen BK122.out 1
       have hfz19_2 := blk_frozen BK122.out 2
       have hfz19_3 := blk_frozen BK122.out 3
       have hfz19_4 := blk_frozen BK122.out 4
       have hfz19_5 := blk_frozen BK122.out 5
       go_wp2_with (first | ((with_reducible refine gate_callee (f := 22) rfl ?_); refine goesL_ (some 18) rfl rfl Tryd.func22 (by kernel_rfl) rfl #[.int .i64 a0_0, .int .i64 1, .int .i64 36] rfl (by (try simp only [lM, lC, lN]); first | done | rfl | (simp only [lD, lT]; rfl)) ?_; (with_reducible refine (impl_in.calls a0_0 1 36 true _ A14.out).mono ?_); rintro e w' ⟨rfl, ⟨nd, rfl⟩⟩; refine ⟨_, rfl, ?_⟩) | (go_at_call 22; (with_reducible refine (impl_in.calls a0_1 1 99 false _ A16.out).mono ?_); rintro e w' ⟨rfl, ⟨nd, rfl⟩⟩))
       go_ret
       exact ⟨by first | rfl | (simp [errW_none, errW_some] <;> rfl) | (simp [*, errW_none, errW_some] <;> rfl), by repeat (first | (with_reducible first | exact HB.out | apply wA | apply wN | apply wD | refine bS ?_ GE122.out) | exact HB.out)⟩
     ·replace c15 := Bool.eq_false_iff.mpr c15
      subst c15
      have H1 : (if a0_0 = 99 then ((impl_in.f a0_1 1 99).bind fun t125 => (if t125 = true then (impl_SkyOk.j1 kj5 l1 l2 a0_0 a0_1 a0_2 a0_3 a0_4 a0_5) else (some false))) else (some false)) = some r := by rw [if_neg (show ¬ (false = true) by decide)] at H; exact H
      clear H
      have H := H1
      clear H1
      by_cases c20 : a0_0 = 99
      ·rw [if_pos c20] at H
       have c20b0 : (a0_0 == 99) = true := beq_iff_eq.mpr c20
       have c20b1 : (a0_0 != 99) = false := bne_eq_false_iff_eq.mpr c20
       clear c20
       replace H := Option.bind_eq_some_iff.mp H
       obtain ⟨t125, A210, H⟩ := H
       replace H : (if t125 = true then (impl_SkyOk.j1 kj5 l1 l2 a0_0 a0_1 a0_2 a0_3 a0_4 a0_5) else (some false)) = some r := H
       have A21 := Aside0.mk A210
       clear A210
       by_cases c22 : t125 = true
       ·subst c22
        have H1 : (impl_SkyOk.j1 kj5 l1 l2 a0_0 a0_1 a0_2 a0_3 a0_4 a0_5) = some r := by rw [if_pos rfl] at H; exact H
        clear H
        have H := H1
        clear H1
        have H' := Aside0.mk H
        clear H
        have hcz23_0 : wc.cell? ⟨gb122, 0, none⟩ = some (.int .i64 a0_0) := bC BK122.out 0 rfl
        have hcz23_1 : wc.cell? ⟨gb122, 1, none⟩ = some (.int .i64 a0_1) := bC BK122.out 1 rfl
        have hcz23_2 : wc.cell? ⟨gb122, 2, none⟩ = some (.int .i64 a0_2) := bC BK122.out 2 rfl
        have hcz23_3 : wc.cell? ⟨gb122, 3, none⟩ = some (.string a0_3) := bC BK122.out 3 rfl
        have hcz23_4 : wc.cell? ⟨gb122, 4, none⟩ = some (.string a0_4) := bC BK122.out 4 rfl
        have hcz23_5 : wc.cell? ⟨gb122, 5, none⟩ = some (.int .i64 a0_5) := bC BK122.out 5 rfl
        have hfz23_0 := blk_frozen BK122.out 0
        have hfz23_1 := blk_frozen BK122.out 1
        have hfz23_2 := blk_frozen BK122.out 2
        have hfz23_3 := blk_frozen BK122.out 3
        have hfz23_4 := blk_frozen BK122.out 4
        have hfz23_5 := blk_frozen BK122.out 5
        go_wp2_with (first | ((with_reducible refine gate_callee (f := 22) rfl ?_); refine goesL_ (some 18) rfl rfl Tryd.func22 (by kernel_rfl) rfl #[.int .i64 a0_0, .int .i64 1, .int .i64 36] rfl (by (try simp only [lM, lC, lN]); first | done | rfl | (simp only [lD, lT]; rfl)) ?_; (with_reducible refine (impl_in.calls a0_0 1 36 false _ A14.out).mono ?_); rintro e w' ⟨rfl, ⟨nd, rfl⟩⟩; refine ⟨_, rfl, ?_⟩) | (go_at_call 22; (with_reducible refine (impl_in.calls a0_1 1 99 true _ A21.out).mono ?_); rintro e w' ⟨rfl, ⟨nd, rfl⟩⟩))
        go_meet
        case rel => exact ⟨_, H', ⟨by have := HJ5.out; first | omega | exact Nat.le_refl _⟩, ⟨by (with_reducible repeat (first | refine bN ?_ _ | refine bD ?_ | refine bA ?_ _)); exact BK122.out⟩, ⟨by repeat (first | (with_reducible first | exact HB.out | apply wA | apply wN | apply wD | refine bS ?_ GE122.out) | exact HB.out)⟩⟩
       ·replace c22 := Bool.eq_false_iff.mpr c22
        subst c22
        have H1 : (some false) = some r := by rw [if_neg (show ¬ (false = true) by decide)] at H; exact H
        clear H
        have H := H1
        clear H1
        obtain rfl := Option.some.inj H
        have hcz24_0 : wc.cell? ⟨gb122, 0, none⟩ = some (.int .i64 a0_0) := bC BK122.out 0 rfl
        have hcz24_1 : wc.cell? ⟨gb122, 1, none⟩ = some (.int .i64 a0_1) := bC BK122.out 1 rfl
        have hcz24_2 : wc.cell? ⟨gb122, 2, none⟩ = some (.int .i64 a0_2) := bC BK122.out 2 rfl
        have hcz24_3 : wc.cell? ⟨gb122, 3, none⟩ = some (.string a0_3) := bC BK122.out 3 rfl
        have hcz24_4 : wc.cell? ⟨gb122, 4, none⟩ = some (.string a0_4) := bC BK122.out 4 rfl
        have hcz24_5 : wc.cell? ⟨gb122, 5, none⟩ = some (.int .i64 a0_5) := bC BK122.out 5 rfl
        have hfz24_0 := blk_frozen BK122.out 0
        have hfz24_1 := blk_frozen BK122.out 1
        have hfz24_2 := blk_frozen BK122.out 2
        have hfz24_3 := blk_frozen BK122.out 3
        have hfz24_4 := blk_frozen BK122.out 4
        have hfz24_5 := blk_frozen BK122.out 5
        go_wp2_with (first | ((with_reducible refine gate_callee (f := 22) rfl ?_); refine goesL_ (some 18) rfl rfl Tryd.func22 (by kernel_rfl) rfl #[.int .i64 a0_0, .int .i64 1, .int .i64 36] rfl (by (try simp only [lM, lC, lN]); first | done | rfl | (simp only [lD, lT]; rfl)) ?_; (with_reducible refine (impl_in.calls a0_0 1 36 false _ A14.out).mono ?_); rintro e w' ⟨rfl, ⟨nd, rfl⟩⟩; refine ⟨_, rfl, ?_⟩) | (go_at_call 22; (with_reducible refine (impl_in.calls a0_1 1 99 false _ A21.out).mono ?_); rintro e w' ⟨rfl, ⟨nd, rfl⟩⟩))
        go_ret
        exact ⟨by first | rfl | (simp [errW_none, errW_some] <;> rfl) | (simp [*, errW_none, errW_some] <;> rfl), by repeat (first | (with_reducible first | exact HB.out | apply wA | apply wN | apply wD | refine bS ?_ GE122.out) | exact HB.out)⟩
      ·rw [if_neg c20] at H
       have c20b0 : (a0_0 == 99) = false := beq_eq_false_iff_ne.mpr c20
       have c20b1 : (a0_0 != 99) = true := bne_iff_ne.mpr c20
       obtain rfl := Option.some.inj H
       have hcz25_0 : wc.cell? ⟨gb122, 0, none⟩ = some (.int .i64 a0_0) := bC BK122.out 0 rfl
       have hcz25_1 : wc.cell? ⟨gb122, 1, none⟩ = some (.int .i64 a0_1) := bC BK122.out 1 rfl
       have hcz25_2 : wc.cell? ⟨gb122, 2, none⟩ = some (.int .i64 a0_2) := bC BK122.out 2 rfl
       have hcz25_3 : wc.cell? ⟨gb122, 3, none⟩ = some (.string a0_3) := bC BK122.out 3 rfl
       have hcz25_4 : wc.cell? ⟨gb122, 4, none⟩ = some (.string a0_4) := bC BK122.out 4 rfl
       have hcz25_5 : wc.cell? ⟨gb122, 5, none⟩ = some (.int .i64 a0_5) := bC BK122.out 5 rfl
       have hfz25_0 := blk_frozen BK122.out 0
       have hfz25_1 := blk_frozen BK122.out 1
       have hfz25_2 := blk_frozen BK122.out 2
       have hfz25_3 := blk_frozen BK122.out 3
       have hfz25_4 := blk_frozen BK122.out 4
       have hfz25_5 := blk_frozen BK122.out 5
       go_wp2_with (first | ((with_reducible refine gate_callee (f := 22) rfl ?_); refine goesL_ (some 18) rfl rfl Tryd.func22 (by kernel_rfl) rfl #[.int .i64 a0_0, .int .i64 1, .int .i64 36] rfl (by (try simp only [lM, lC, lN]); first | done | rfl | (simp only [lD, lT]; rfl)) ?_; (with_reducible refine (impl_in.calls a0_0 1 36 false _ A14.out).mono ?_); rintro e w' ⟨rfl, ⟨nd, rfl⟩⟩; refine ⟨_, rfl, ?_⟩))
       go_ret
       exact ⟨by first | rfl | (simp [errW_none, errW_some] <;> rfl) | (simp [*, errW_none, errW_some] <;> rfl), by repeat (first | (with_reducible first | exact HB.out | apply wA | apply wN | apply wD | refine bS ?_ GE122.out) | exact HB.out)⟩
 case rest =>
  clear HC4
  try clear c1
  try clear c2
  try clear p2
  try clear c7
  try clear c7b0
  try clear c7b1
  try clear c10
  try clear c11
  try clear c11b0
  try clear c11b1
  try clear c13
  try clear c15
  try clear c17
  try clear c20
  try clear c20b0
  try clear c20b1
  try clear c22
  try clear hcz12_0
  try clear hcz12_1
  try clear hcz12_2
  try clear hcz12_3
  try clear hcz12_4
  try clear hcz12_5
  try clear hcz13_0
  try clear hcz13_1
  try clear hcz13_2
  try clear hcz13_3
  try clear hcz13_4
  try clear hcz13_5
  try clear hcz18_0
  try clear hcz18_1
  try clear hcz18_2
  try clear hcz18_3
  try clear hcz18_4
  try clear hcz18_5
  try clear hcz19_0
  try clear hcz19_1
  try clear hcz19_2
  try clear hcz19_3
  try clear hcz19_4
  try clear hcz19_5
  try clear hcz23_0
  try clear hcz23_1
  try clear hcz23_2
  try clear hcz23_3
  try clear hcz23_4
  try clear hcz23_5
  try clear hcz24_0
  try clear hcz24_1
  try clear hcz24_2
  try clear hcz24_3
  try clear hcz24_4
  try clear hcz24_5
  try clear hcz25_0
  try clear hcz25_1
  try clear hcz25_2
  try clear hcz25_3
  try clear hcz25_4
  try clear hcz25_5
  try clear hcz8_0
  try clear hcz8_1
  try clear hcz8_2
  try clear hcz8_3
  try clear hcz8_4
  try clear hcz8_5
  try clear hcz9_0
  try clear hcz9_1
  try clear hcz9_2
  try clear hcz9_3
  try clear hcz9_4
  try clear hcz9_5
  try clear hfz12_0
  try clear hfz12_1
  try clear hfz12_2
  try clear hfz12_3
  try clear hfz12_4
  try clear hfz12_5
  try clear hfz13_0
  try clear hfz13_1
  try clear hfz13_2
  try clear hfz13_3
  try clear hfz13_4
  try clear hfz13_5
  try clear hfz18_0
  try clear hfz18_1
  try clear hfz18_2
  try clear hfz18_3
  try clear hfz18_4
  try clear hfz18_5
  try clear hfz19_0
  try clear hfz19_1
  try clear hfz19_2
  try clear hfz19_3
  try clear hfz19_4
  try clear hfz19_5
  try clear hfz23_0
  try clear hfz23_1
  try clear hfz23_2
  try clear hfz23_3
  try clear hfz23_4
  try clear hfz23_5
  try clear hfz24_0
  try clear hfz24_1
  try clear hfz24_2
  try clear hfz24_3
  try clear hfz24_4
  try clear hfz24_5
  try clear hfz25_0
  try clear hfz25_1
  try clear hfz25_2
  try clear hfz25_3
  try clear hfz25_4
  try clear hfz25_5
  try clear hfz8_0
  try clear hfz8_1
  try clear hfz8_2
  try clear hfz8_3
  try clear hfz8_4
  try clear hfz8_5
  try clear hfz9_0
  try clear hfz9_1
  try clear hfz9_2
  try clear hfz9_3
  try clear hfz9_4
  try clear hfz9_5
  try clear p2
  obtain ⟨kq, HA, HJ3, BK122, HB⟩ := hcut
  cases kq with
  | zero => exact absurd HA.out (by simp [impl_SkyOk.j1])
  | succ kj3 =>
   have H := HA.out
   clear HA
   simp only [impl_SkyOk.j1] at H
   have HC26 := Aside0.mk H
   clear H
   go_upto_region 6 with (fail)
   go_cut [46] (fun v46 wc => ∃ (kq : Nat) (x46_25 : Bool), v46 = .bool x46_25 ∧ Aside0 (impl_SkyOk.j2 kq x46_25 l2 a0_0 a0_1 a0_2 a0_3 a0_4 a0_5 = some r) ∧ Aside0 (kq ≤ kj3) ∧ Aside0 (wc.heap[gb122]? = some (.cells #[.int .i64 a0_0, .int .i64 a0_1, .int .i64 a0_2, .string a0_3, .string a0_4, .int .i64 a0_5] 25 (0, 0))) ∧ Aside0 (Below w.heap.size w wc))
   case first =>
    have H := HC26.out
    clear HC26
    replace H := Option.bind_eq_some_iff.mp H
    obtain ⟨t126, A270, H⟩ := H
    replace H : (if t126 = true then (if a0_3.toList = ([] : List UInt8) then (impl_SkyOk.j2 kj3 false l2 a0_0 a0_1 a0_2 a0_3 a0_4 a0_5) else (if 0 < (l1.length : Int) then ((slices_Contains_string_string.f kj3 (rd_L1 l1 0) a0_3).bind fun t128 => (impl_SkyOk.j2 kj3 (!t128) l2 a0_0 a0_1 a0_2 a0_3 a0_4 a0_5)) else (none))) else (impl_SkyOk.j2 kj3 true l2 a0_0 a0_1 a0_2 a0_3 a0_4 a0_5)) = some r := H
    have A27 := Aside0.mk A270
    clear A270
    by_cases c28 : t126 = true
    ·subst c28
     have H1 : (if a0_3.toList = ([] : List UInt8) then (impl_SkyOk.j2 kj3 false l2 a0_0 a0_1 a0_2 a0_3 a0_4 a0_5) else (if 0 < (l1.length : Int) then ((slices_Contains_string_string.f kj3 (rd_L1 l1 0) a0_3).bind fun t128 => (impl_SkyOk.j2 kj3 (!t128) l2 a0_0 a0_1 a0_2 a0_3 a0_4 a0_5)) else (none))) = some r := by rw [if_pos rfl] at H; exact H
     clear H
     have H := H1
     clear H1
     by_cases c29 : a0_3.toList = ([] : List UInt8)
     ·rw [if_pos c29] at H
      have c29b0 : a0_3.toList.isEmpty = true := by rw [c29]; rfl
      have c29b1 : (!a0_3.toList.isEmpty) = false := by rw [c29]; rfl
      have c29b2 : (a0_3.toList == ([] : List UInt8)) = true := beq_iff_eq.mpr c29
      clear c29
      (first | rw [c29b0] | (simp only [i64_w, i32_w]; rw [c29b0]) | skip)
      have H' := Aside0.mk H
      clear H
      have hcz30_0 : wc.cell? ⟨gb122, 0, none⟩ = some (.int .i64 a0_0) := bC BK122.out 0 rfl
      have hcz30_1 : wc.cell? ⟨gb122, 1, none⟩ = some (.int .i64 a0_1) := bC BK122.out 1 rfl
      have hcz30_2 : wc.cell? ⟨gb122, 2, none⟩ = some (.int .i64 a0_2) := bC BK122.out 2 rfl
      have hcz30_3 : wc.cell? ⟨gb122, 3, none⟩ = some (.string a0_3) := bC BK122.out 3 rfl
      have hcz30_4 : wc.cell? ⟨gb122, 4, none⟩ = some (.string a0_4) := bC BK122.out 4 rfl
      have hcz30_5 : wc.cell? ⟨gb122, 5, none⟩ = some (.int .i64 a0_5) := bC BK122.out 5 rfl
      have hfz30_0 := blk_frozen BK122.out 0
      have hfz30_1 := blk_frozen BK122.out 1
      have hfz30_2 := blk_frozen BK122.out 2
      have hfz30_3 := blk_frozen BK122.out 3
      have hfz30_4 := blk_frozen BK122.out 4
      have hfz30_5 := blk_frozen BK122.out 5
      go_wp2_with (first | ((with_reducible refine gate_callee (f := 22) rfl ?_); refine goesL_ (some 33) rfl rfl Tryd.func22 (by kernel_rfl) rfl #[.int .i64 a0_2, .int .i64 (-1), .int .i64 9999] rfl (by (try simp only [lM, lC, lN]); first | done | rfl | (simp only [lD, lT]; rfl)) ?_; (with_reducible refine (impl_in.calls a0_2 (-1) 9999 true _ A27.out).mono ?_); rintro e w' ⟨rfl, ⟨nd, rfl⟩⟩; refine ⟨_, rfl, ?_⟩))
      go_meet
      case rel => exact ⟨_, (false), (by first | rfl | (simp; done) | (simp [*]; done)), H', ⟨by have := HJ3.out; first | omega | exact Nat.le_refl _⟩, ⟨by (with_reducible repeat (first | refine bN ?_ _ | refine bD ?_ | refine bA ?_ _)); exact BK122.out⟩, ⟨by repeat (first | (with_reducible first | exact HB.out | apply wA | apply wN | apply wD | refine bS ?_ GE122.out) | exact HB.out)⟩⟩
     ·rw [if_neg c29] at H
      have c29b0 : a0_3.toList.isEmpty = false := by simpa using c29
      have c29b1 : (!a0_3.toList.isEmpty) = true := by simpa using c29
      have c29b2 : (a0_3.toList == ([] : List UInt8)) = false := beq_eq_false_iff_ne.mpr c29
      (first | rw [c29b0] | (simp only [i64_w, i32_w]; rw [c29b0]) | skip)
      by_cases c31 : 0 < (l1.length : Int)
      ·rw [if_pos c31] at H
       have c31b0 : decide (0 < (l1.length : Int)) = true := decide_eq_true c31
       have c31b1 : decide (0 < l1.length) = true := decide_eq_true (by omega)
       clear c31
       replace H := Option.bind_eq_some_iff.mp H
       obtain ⟨t128, A320, H⟩ := H
       replace H : (impl_SkyOk.j2 kj3 (!t128) l2 a0_0 a0_1 a0_2 a0_3 a0_4 a0_5) = some r := H
       have A32 := Aside0.mk A320
       clear A320
       have H' := Aside0.mk H
       clear H
       have hcz33_0 : wc.cell? ⟨gb122, 0, none⟩ = some (.int .i64 a0_0) := bC BK122.out 0 rfl
       have hcz33_1 : wc.cell? ⟨gb122, 1, none⟩ = some (.int .i64 a0_1) := bC BK122.out 1 rfl
       have hcz33_2 : wc.cell? ⟨gb122, 2, none⟩ = some (.int .i64 a0_2) := bC BK122.out 2 rfl
       have hcz33_3 : wc.cell? ⟨gb122, 3, none⟩ = some (.string a0_3) := bC BK122.out 3 rfl
       have hcz33_4 : wc.cell? ⟨gb122, 4, none⟩ = some (.string a0_4) := bC BK122.out 4 rfl
       have hcz33_5 : wc.cell? ⟨gb122, 5, none⟩ = some (.int .i64 a0_5) := bC BK122.out 5 rfl
       have hfz33_0 := blk_frozen BK122.out 0
       have hfz33_1 := blk_frozen BK122.out 1
       have hfz33_2 := blk_frozen BK122.out 2
       have hfz33_3 := blk_frozen BK122.out 3
       have hfz33_4 := blk_frozen BK122.out 4
       have hfz33_5 := blk_frozen BK122.out 5
       go_wp2_with (first | ((with_reducible refine gate_callee (f := 22) rfl ?_); refine goesL_ (some 33) rfl rfl Tryd.func22 (by kernel_rfl) rfl #[.int .i64 a0_2, .int .i64 (-1), .int .i64 9999] rfl (by (try simp only [lM, lC, lN]); first | done | rfl | (simp only [lD, lT]; rfl)) ?_; (with_reducible refine (impl_in.calls a0_2 (-1) 9999 true _ A27.out).mono ?_); rintro e w' ⟨rfl, ⟨nd, rfl⟩⟩; refine ⟨_, rfl, ?_⟩; have p127 : 0 ≤ (0 : Int) := (by omega); have q127 : 0 < (l1.length : Int) := of_decide_eq_true (by first | (with_reducible assumption) | assumption); obtain ⟨ad127, A127_0, c127_0, e127, hx127_0, hl127_0, hi127_0⟩ := at_L1 HR1.out 0 p127 q127; obtain rfl : (⟨0, 0, none⟩ : Addr) = ad127 := (by injection e127); (first | simp only [add_plain] at hx127_0 | simp only [add_at] at hx127_0 | simp only [Addr.add, Nat.zero_add] at hx127_0 | skip); have qi127 : (0 < l1.length) = True := eq_true (by omega); (try rw [show ((0 : Int)).toNat = 0 from rfl] at hx127_0); (try rw [Addr.add_zero'] at hx127_0); replace hx127_0 := (HB.out.cell (World.block_lt_of_cell? w _ hx127_0)).trans hx127_0; have HR127_0 := Aside0.mk hi127_0; have HC127_0 := Aside0.mk hl127_0; clear hi127_0 hl127_0; replace p127 := eq_true p127; replace q127 := eq_true q127) | (go_at_call 23; (with_reducible refine (slices_Contains_string_string.calls kj3 _ _ (rd_L1 l1 0) a0_3 t128 _ ?side1 ?side2 A32.out).mono ?_); (case side1 => repeat (first | exact (Kd.C_below HR127_0.out (by repeat (first | (with_reducible first | exact HB.out | apply wA | apply wN | apply wD | refine bS ?_ GE122.out) | exact HB.out))) | (with_reducible refine Kd.C_alloc ?_ _) | (with_reducible refine Kd.C_drewN ?_ _) | (with_reducible refine Kd.C_drew ?_))); (case side2 => exact HC127_0.out); rintro e w' ⟨rfl, ⟨nd, rfl⟩⟩))
       go_meet
       case rel => exact ⟨_, (!t128), (by first | rfl | (simp; done) | (simp [*]; done)), H', ⟨by have := HJ3.out; first | omega | exact Nat.le_refl _⟩, ⟨by (with_reducible repeat (first | refine bN ?_ _ | refine bD ?_ | refine bA ?_ _)); exact BK122.out⟩, ⟨by repeat (first | (with_reducible first | exact HB.out | apply wA | apply wN | apply wD | refine bS ?_ GE122.out) | exact HB.out)⟩⟩
      ·rw [if_neg c31] at H
       exact absurd H (by simp)
    ·replace c28 := Bool.eq_false_iff.mpr c28
     subst c28
     have H1 : (impl_SkyOk.j2 kj3 true l2 a0_0 a0_1 a0_2 a0_3 a0_4 a0_5) = some r := by rw [if_neg (show ¬ (false = true) by decide)] at H; exact H
     clear H
     have H := H1
     clear H1
     have H' := Aside0.mk H
     clear H
     have hcz34_0 : wc.cell? ⟨gb122, 0, none⟩ = some (.int .i64 a0_0) := bC BK122.out 0 rfl
     have hcz34_1 : wc.cell? ⟨gb122, 1, none⟩ = some (.int .i64 a0_1) := bC BK122.out 1 rfl
     have hcz34_2 : wc.cell? ⟨gb122, 2, none⟩ = some (.int .i64 a0_2) := bC BK122.out 2 rfl
     have hcz34_3 : wc.cell? ⟨gb122, 3, none⟩ = some (.string a0_3) := bC BK122.out 3 rfl
     have hcz34_4 : wc.cell? ⟨gb122, 4, none⟩ = some (.string a0_4) := bC BK122.out 4 rfl
     have hcz34_5 : wc.cell? ⟨gb122, 5, none⟩ = some (.int .i64 a0_5) := bC BK122.out 5 rfl
     have hfz34_0 := blk_frozen BK122.out 0
     have hfz34_1 := blk_frozen BK122.out 1
     have hfz34_2 := blk_frozen BK122.out 2
     have hfz34_3 := blk_frozen BK122.out 3
     have hfz34_4 := blk_frozen BK122.out 4
     have hfz34_5 := blk_frozen BK122.out 5
     go_wp2_with (first | ((with_reducible refine gate_callee (f := 22) rfl ?_); refine goesL_ (some 33) rfl rfl Tryd.func22 (by kernel_rfl) rfl #[.int .i64 a0_2, .int .i64 (-1), .int .i64 9999] rfl (by (try simp only [lM, lC, lN]); first | done | rfl | (simp only [lD, lT]; rfl)) ?_; (with_reducible refine (impl_in.calls a0_2 (-1) 9999 false _ A27.out).mono ?_); rintro e w' ⟨rfl, ⟨nd, rfl⟩⟩; refine ⟨_, rfl, ?_⟩))
     go_meet
     case rel => exact ⟨_, (true), (by first | rfl | (simp; done) | (simp [*]; done)), H', ⟨by have := HJ3.out; first | omega | exact Nat.le_refl _⟩, ⟨by (with_reducible repeat (first | refine bN ?_ _ | refine bD ?_ | refine bA ?_ _)); exact BK122.out⟩, ⟨by repeat (first | (with_reducible first | exact HB.out | apply wA | apply wN | apply wD | refine bS ?_ GE122.out) | exact HB.out)⟩⟩
   case rest =>
    clear HC26
    try clear c1
    try clear p1
    try clear q1
    try clear hx1
    try clear qi1
    try clear c2
    try clear p2
    try clear c3
    try clear c7
    try clear c7b0
    try clear c7b1
    try clear c10
    try clear c11
    try clear c11b0
    try clear c11b1
    try clear c12
    try clear p12
    try clear q12
    try clear hx12
    try clear qi12
    try clear c13
    try clear c15
    try clear c17
    try clear c20
    try clear c20b0
    try clear c20b1
    try clear c22
    try clear c28
    try clear c29
    try clear c29b0
    try clear c29b1
    try clear c29b2
    try clear c31
    try clear c31b0
    try clear c31b1
    try clear hcz12_0
    try clear hcz12_1
    try clear hcz12_2
    try clear hcz12_3
    try clear hcz12_4
    try clear hcz12_5
    try clear hcz13_0
    try clear hcz13_1
    try clear hcz13_2
    try clear hcz13_3
    try clear hcz13_4
    try clear hcz13_5
    try clear hcz18_0
    try clear hcz18_1
    try clear hcz18_2
    try clear hcz18_3
    try clear hcz18_4
    try clear hcz18_5
    try clear hcz19_0
    try clear hcz19_1
    try clear hcz19_2
    try clear hcz19_3
    try clear hcz19_4
    try clear hcz19_5
    try clear hcz23_0
    try clear hcz23_1
    try clear hcz23_2
    try clear hcz23_3
    try clear hcz23_4
    try clear hcz23_5
    try clear hcz24_0
    try clear hcz24_1
    try clear hcz24_2
    try clear hcz24_3
    try clear hcz24_4
    try clear hcz24_5
    try clear hcz25_0
    try clear hcz25_1
    try clear hcz25_2
    try clear hcz25_3
    try clear hcz25_4
    try clear hcz25_5
    try clear hcz30_0
    try clear hcz30_1
    try clear hcz30_2
    try clear hcz30_3
    try clear hcz30_4
    try clear hcz30_5
    try clear hcz33_0
    try clear hcz33_1
    try clear hcz33_2
    try clear hcz33_3
    try clear hcz33_4
    try clear hcz33_5
    try clear hcz34_0
    try clear hcz34_1
    try clear hcz34_2
    try clear hcz34_3
    try clear hcz34_4
    try clear hcz34_5
    try clear hcz8_0
    try clear hcz8_1
    try clear hcz8_2
    try clear hcz8_3
    try clear hcz8_4
    try clear hcz8_5
    try clear hcz9_0
    try clear hcz9_1
    try clear hcz9_2
    try clear hcz9_3
    try clear hcz9_4
    try clear hcz9_5
    try clear hfz12_0
    try clear hfz12_1
    try clear hfz12_2
    try clear hfz12_3
    try clear hfz12_4
    try clear hfz12_5
    try clear hfz13_0
    try clear hfz13_1
    try clear hfz13_2
    try clear hfz13_3
    try clear hfz13_4
    try clear hfz13_5
    try clear hfz18_0
    try clear hfz18_1
    try clear hfz18_2
    try clear hfz18_3
    try clear hfz18_4
    try clear hfz18_5
    try clear hfz19_0
    try clear hfz19_1
    try clear hfz19_2
    try clear hfz19_3
    try clear hfz19_4
    try clear hfz19_5
    try clear hfz23_0
    try clear hfz23_1
    try clear hfz23_2
    try clear hfz23_3
    try clear hfz23_4
    try clear hfz23_5
    try clear hfz24_0
    try clear hfz24_1
    try clear hfz24_2
    try clear hfz24_3
    try clear hfz24_4
    try clear hfz24_5
    try clear hfz25_0
    try clear hfz25_1
    try clear hfz25_2
    try clear hfz25_3
    try clear hfz25_4
    try clear hfz25_5
    try clear hfz30_0
    try clear hfz30_1
    try clear hfz30_2
    try clear hfz30_3
    try clear hfz30_4
    try clear hfz30_5
    try clear hfz33_0
    try clear hfz33_1
    try clear hfz33_2
    try clear hfz33_3
    try clear hfz33_4
    try clear hfz33_5
    try clear hfz34_0
    try clear hfz34_1
    try clear hfz34_2
    try clear hfz34_3
    try clear hfz34_4
    try clear hfz34_5
    try clear hfz8_0
    try clear hfz8_1
    try clear hfz8_2
    try clear hfz8_3
    try clear hfz8_4
    try clear hfz8_5
    try clear hfz9_0
    try clear hfz9_1
    try clear hfz9_2
    try clear hfz9_3
    try clear hfz9_4
    try clear hfz9_5
    try clear hx127_0
    try clear p127
    try clear p2
    try clear q127
    obtain ⟨kq, x46_25, rfl, HA, HJ25, BK122, HB⟩ := hcut
    cases kq with
    | zero => exact absurd HA.out (by simp [impl_SkyOk.j2])
    | succ kj25 =>
     have H := HA.out
     clear HA
     simp only [impl_SkyOk.j2] at H
     by_cases c35 : x46_25 = true
     ·subst c35
      have H1 : (some false) = some r := by rw [if_pos rfl] at H; exact H
      clear H
      have H := H1
      clear H1
      obtain rfl := Option.some.inj H
      go_wp2
      go_ret
      exact ⟨by first | rfl | (simp [errW_none, errW_some] <;> rfl) | (simp [*, errW_none, errW_some] <;> rfl), by repeat (first | (with_reducible first | exact HB.out | apply wA | apply wN | apply wD | refine bS ?_ GE122.out) | exact HB.out)⟩
     ·replace c35 := Bool.eq_false_iff.mpr c35
      subst c35
      have H1 : (if a0_4.toList = ([] : List UInt8) then (impl_SkyOk.j3 kj25 true l2 a0_0 a0_1 a0_2 a0_3 a0_4 a0_5) else (impl_SkyOk.j3 kj25 (a0_4.toList == ([83, 75, 67] : List UInt8)) l2 a0_0 a0_1 a0_2 a0_3 a0_4 a0_5)) = some r := by rw [if_neg (show ¬ (false = true) by decide)] at H; exact H
      clear H
      have H := H1
      clear H1
      have HC36 := Aside0.mk H
      clear H
      go_upto_region 8 with (fail)
      go_cut [54] (fun v54 wc => ∃ (kq : Nat) (x54_35 : Bool), v54 = .bool x54_35 ∧ Aside0 (impl_SkyOk.j3 kq x54_35 l2 a0_0 a0_1 a0_2 a0_3 a0_4 a0_5 = some r) ∧ Aside0 (kq ≤ kj25) ∧ Aside0 (wc.heap[gb122]? = some (.cells #[.int .i64 a0_0, .int .i64 a0_1, .int .i64 a0_2, .string a0_3, .string a0_4, .int .i64 a0_5] 25 (0, 0))) ∧ Aside0 (Below w.heap.size w wc))
      case first =>
       have H := HC36.out
       clear HC36
       by_cases c37 : a0_4.toList = ([] : List UInt8)
       ·rw [if_pos c37] at H
        have c37b0 : a0_4.toList.isEmpty = true := by rw [c37]; rfl
        have c37b1 : (!a0_4.toList.isEmpty) = false := by rw [c37]; rfl
        have c37b2 : (a0_4.toList == ([] : List UInt8)) = true := beq_iff_eq.mpr c37
        clear c37
        (first | rw [c37b0] | (simp only [i64_w, i32_w]; rw [c37b0]) | skip)
        have H' := Aside0.mk H
        clear H
        have hcz38_0 : wc.cell? ⟨gb122, 0, none⟩ = some (.int .i64 a0_0) := bC BK122.out 0 rfl
        have hcz38_1 : wc.cell? ⟨gb122, 1, none⟩ = some (.int .i64 a0_1) := bC BK122.out 1 rfl
        have hcz38_2 : wc.cell? ⟨gb122, 2, none⟩ = some (.int .i64 a0_2) := bC BK122.out 2 rfl
        have hcz38_3 : wc.cell? ⟨gb122, 3, none⟩ = some (.string a0_3) := bC BK122.out 3 rfl
        have hcz38_4 : wc.cell? ⟨gb122, 4, none⟩ = some (.string a0_4) := bC BK122.out 4 rfl
        have hcz38_5 : wc.cell? ⟨gb122, 5, none⟩ = some (.int .i64 a0_5) := bC BK122.out 5 rfl
        have hfz38_0 := blk_frozen BK122.out 0
        have hfz38_1 := blk_frozen BK122.out 1
        have hfz38_2 := blk_frozen BK122.out 2
        have hfz38_3 := blk_frozen BK122.out 3
        have hfz38_4 := blk_frozen BK122.out 4
        have hfz38_5 := blk_frozen BK122.out 5
        go_wp2
        go_meet
        case rel => exact ⟨_, (true), (by first | rfl | (simp; done) | (simp [*]; done)), H', ⟨by have := HJ3.out; have := HJ25.out; first | omega | exact Nat.le_refl _⟩, ⟨by (with_reducible repeat (first | refine bN ?_ _ | refine bD ?_ | refine bA ?_ _)); exact BK122.out⟩, ⟨by repeat (first | (with_reducible first | exact HB.out | apply wA | apply wN | apply wD | refine bS ?_ GE122.out) | exact HB.out)⟩⟩
       ·rw [if_neg c37] at H
        have c37b0 : a0_4.toList.isEmpty = false := by simpa using c37
        have c37b1 : (!a0_4.toList.isEmpty) = true := by simpa using c37
        have c37b2 : (a0_4.toList == ([] : List UInt8)) = false := beq_eq_false_iff_ne.mpr c37
        (first | rw [c37b0] | (simp only [i64_w, i32_w]; rw [c37b0]) | skip)
        have H' := Aside0.mk H
        clear H
        have hcz39_0 : wc.cell? ⟨gb122, 0, none⟩ = some (.int .i64 a0_0) := bC BK122.out 0 rfl
        have hcz39_1 : wc.cell? ⟨gb122, 1, none⟩ = some (.int .i64 a0_1) := bC BK122.out 1 rfl
        have hcz39_2 : wc.cell? ⟨gb122, 2, none⟩ = some (.int .i64 a0_2) := bC BK122.out 2 rfl
        have hcz39_3 : wc.cell? ⟨gb122, 3, none⟩ = some (.string a0_3) := bC BK122.out 3 rfl
        have hcz39_4 : wc.cell? ⟨gb122, 4, none⟩ = some (.string a0_4) := bC BK122.out 4 rfl
        have hcz39_5 : wc.cell? ⟨gb122, 5, none⟩ = some (.int .i64 a0_5) := bC BK122.out 5 rfl
        have hfz39_0 := blk_frozen BK122.out 0
        have hfz39_1 := blk_frozen BK122.out 1
        have hfz39_2 := blk_frozen BK122.out 2
        have hfz39_3 := blk_frozen BK122.out 3
        have hfz39_4 := blk_frozen BK122.out 4
        have hfz39_5 := blk_frozen BK122.out 5
        go_wp2
        go_meet
        case rel => exact ⟨_, ((a0_4.toList == ([83, 75, 67] : List UInt8))), (by first | rfl | (simp; done) | (simp [*]; done)), H', ⟨by have := HJ3.out; have := HJ25.out; first | omega | exact Nat.le_refl _⟩, ⟨by (with_reducible repeat (first | refine bN ?_ _ | refine bD ?_ | refine bA ?_ _)); exact BK122.out⟩, ⟨by repeat (first | (with_reducible first | exact HB.out | apply wA | apply wN | apply wD | refine bS ?_ GE122.out) | exact HB.out)⟩⟩
      case rest =>
       clear HC36
       try clear c1
       try clear p1
       try clear q1
       try clear hx1
       try clear qi1
       try clear c2
       try clear p2
       try clear c3
       try clear c7
       try clear c7b0
       try clear c7b1
       try clear c10
       try clear c11
       try clear c11b0
       try clear c11b1
       try clear c12
       try clear p12
       try clear q12
       try clear hx12
       try clear qi12
       try clear c13
       try clear c15
       try clear c17
       try clear c20
       try clear c20b0
       try clear c20b1
       try clear c22
       try clear c28
       try clear c29
       try clear c29b0
       try clear c29b1
       try clear c29b2
       try clear c31
       try clear c31b0
       try clear c31b1
       try clear c35
       try clear c37
       try clear c37b0
       try clear c37b1
       try clear c37b2
       try clear hcz12_0
       try clear hcz12_1
       try clear hcz12_2
       try clear hcz12_3
       try clear hcz12_4
       try clear hcz12_5
       try clear hcz13_0
       try clear hcz13_1
       try clear hcz13_2
       try clear hcz13_3
       try clear hcz13_4
       try clear hcz13_5
       try clear hcz18_0
       try clear hcz18_1
       try clear hcz18_2
       try clear hcz18_3
       try clear hcz18_4
       try clear hcz18_5
       try clear hcz19_0
       try clear hcz19_1
       try clear hcz19_2
       try clear hcz19_3
       try clear hcz19_4
       try clear hcz19_5
       try clear hcz23_0
       try clear hcz23_1
       try clear hcz23_2
       try clear hcz23_3
       try clear hcz23_4
       try clear hcz23_5
       try clear hcz24_0
       try clear hcz24_1
       try clear hcz24_2
       try clear hcz24_3
       try clear hcz24_4
       try clear hcz24_5
       try clear hcz25_0
       try clear hcz25_1
       try clear hcz25_2
       try clear hcz25_3
       try clear hcz25_4
       try clear hcz25_5
       try clear hcz30_0
       try clear hcz30_1
       try clear hcz30_2
       try clear hcz30_3
       try clear hcz30_4
       try clear hcz30_5
       try clear hcz33_0
       try clear hcz33_1
       try clear hcz33_2
       try clear hcz33_3
       try clear hcz33_4
       try clear hcz33_5
       try clear hcz34_0
       try clear hcz34_1
       try clear hcz34_2
       try clear hcz34_3
       try clear hcz34_4
       try clear hcz34_5
       try clear hcz38_0
       try clear hcz38_1
       try clear hcz38_2
       try clear hcz38_3
       try clear hcz38_4
       try clear hcz38_5
       try clear hcz39_0
       try clear hcz39_1
       try clear hcz39_2
       try clear hcz39_3
       try clear hcz39_4
       try clear hcz39_5
       try clear hcz8_0
       try clear hcz8_1
       try clear hcz8_2
       try clear hcz8_3
       try clear hcz8_4
       try clear hcz8_5
       try clear hcz9_0
       try clear hcz9_1
       try clear hcz9_2
       try clear hcz9_3
       try clear hcz9_4
       try clear hcz9_5
       try clear hfz12_0
       try clear hfz12_1
       try clear hfz12_2
       try clear hfz12_3
       try clear hfz12_4
       try clear hfz12_5
       try clear hfz13_0
       try clear hfz13_1
       try clear hfz13_2
       try clear hfz13_3
       try clear hfz13_4
       try clear hfz13_5
       try clear hfz18_0
       try clear hfz18_1
       try clear hfz18_2
       try clear hfz18_3
       try clear hfz18_4
       try clear hfz18_5
       try clear hfz19_0
       try clear hfz19_1
       try clear hfz19_2
       try clear hfz19_3
       try clear hfz19_4
       try clear hfz19_5
       try clear hfz23_0
       try clear hfz23_1
       try clear hfz23_2
       try clear hfz23_3
       try clear hfz23_4
       try clear hfz23_5
       try clear hfz24_0
       try clear hfz24_1
       try clear hfz24_2
       try clear hfz24_3
       try clear hfz24_4
       try clear hfz24_5
       try clear hfz25_0
       try clear hfz25_1
       try clear hfz25_2
       try clear hfz25_3
       try clear hfz25_4
       try clear hfz25_5
       try clear hfz30_0
       try clear hfz30_1
       try clear hfz30_2
       try clear hfz30_3
       try clear hfz30_4
       try clear hfz30_5
       try clear hfz33_0
       try clear hfz33_1
       try clear hfz33_2
       try clear hfz33_3
       try clear hfz33_4
       try clear hfz33_5
       try clear hfz34_0
       try clear hfz34_1
       try clear hfz34_2
       try clear hfz34_3
       try clear hfz34_4
       try clear hfz34_5
       try clear hfz38_0
       try clear hfz38_1
       try clear hfz38_2
       try clear hfz38_3
       try clear hfz38_4
       try clear hfz38_5
       try clear hfz39_0
       try clear hfz39_1
       try clear hfz39_2
       try clear hfz39_3
       try clear hfz39_4
       try clear hfz39_5
       try clear hfz8_0
       try clear hfz8_1
       try clear hfz8_2
       try clear hfz8_3
       try clear hfz8_4
       try clear hfz8_5
       try clear hfz9_0
       try clear hfz9_1
       try clear hfz9_2
       try clear hfz9_3
       try clear hfz9_4
       try clear hfz9_5
       try clear hx127_0
       try clear p1
       try clear p12
       try clear p127
       try clear p2
       try clear q1
       try clear q12
       try clear q127
       obtain ⟨kq, x54_35, rfl, HA, HJ35, BK122, HB⟩ := hcut
       cases kq with
       | zero => exact absurd HA.out (by simp [impl_SkyOk.j3])
       | succ kj35 =>
        have H := HA.out
        clear HA
        simp only [impl_SkyOk.j3] at H
        by_cases c40 : x54_35 = true
        ·subst c40
         have H1 : (some (a0_5 == 0)) = some r := by rw [if_pos rfl] at H; exact H
         clear H
         have H := H1
         clear H1
         obtain rfl := Option.some.inj H
         have hcz41_0 : wc.cell? ⟨gb122, 0, none⟩ = some (.int .i64 a0_0) := bC BK122.out 0 rfl
         have hcz41_1 : wc.cell? ⟨gb122, 1, none⟩ = some (.int .i64 a0_1) := bC BK122.out 1 rfl
         have hcz41_2 : wc.cell? ⟨gb122, 2, none⟩ = some (.int .i64 a0_2) := bC BK122.out 2 rfl
         have hcz41_3 : wc.cell? ⟨gb122, 3, none⟩ = some (.string a0_3) := bC BK122.out 3 rfl
         have hcz41_4 : wc.cell? ⟨gb122, 4, none⟩ = some (.string a0_4) := bC BK122.out 4 rfl
         have hcz41_5 : wc.cell? ⟨gb122, 5, none⟩ = some (.int .i64 a0_5) := bC BK122.out 5 rfl
         have hfz41_0 := blk_frozen BK122.out 0
         have hfz41_1 := blk_frozen BK122.out 1
         have hfz41_2 := blk_frozen BK122.out 2
         have hfz41_3 := blk_frozen BK122.out 3
         have hfz41_4 := blk_frozen BK122.out 4
         have hfz41_5 := blk_frozen BK122.out 5
         go_wp2
         go_ret
         exact ⟨by first | rfl | (simp [errW_none, errW_some] <;> rfl) | (simp [*, errW_none, errW_some] <;> rfl), by repeat (first | (with_reducible first | exact HB.out | apply wA | apply wN | apply wD | refine bS ?_ GE122.out) | exact HB.out)⟩
        ·replace c40 := Bool.eq_false_iff.mpr c40
         subst c40
         have H1 : (if 0 < (l2.length : Int) then ((slices_Contains_string_string.f kj35 (rd_L1 l2 0) a0_4).bind fun t130 => (if t130 = true then ((impl_in.f a0_5 1 200).bind fun t131 => (some t131)) else (some false))) else (none)) = some r := by rw [if_neg (show ¬ (false = true) by decide)] at H; exact H
         clear H
         have H := H1
         clear H1
         by_cases c42 : 0 < (l2.length : Int)
         ·rw [if_pos c42] at H
          have c42b0 : decide (0 < (l2.length : Int)) = true := decide_eq_true c42
          have c42b1 : decide (0 < l2.length) = true := decide_eq_true (by omega)
          clear c42
          replace H := Option.bind_eq_some_iff.mp H
          obtain ⟨t130, A430, H⟩ := H
          replace H : (if t130 = true then ((impl_in.f a0_5 1 200).bind fun t131 => (some t131)) else (some false)) = some r := H
          have A43 := Aside0.mk A430
          clear A430
          by_cases c44 : t130 = true
          ·subst c44
           have H1 : ((impl_in.f a0_5 1 200).bind fun t131 => (some t131)) = some r := by rw [if_pos rfl] at H; exact H
           clear H
           have H := H1
           clear H1
           replace H := Option.bind_eq_some_iff.mp H
           obtain ⟨t131, A450, H⟩ := H
           replace H : (some t131) = some r := H
           have A45 := Aside0.mk A450
           clear A450
           obtain rfl := Option.some.inj H
           have p129 : 0 ≤ (0 : Int) := (by omega)
           have q129 : 0 < (l2.length : Int) := of_decide_eq_true (by first | (with_reducible assumption) | assumption)
           obtain ⟨ad129, A129_0, c129_0, e129, hx129_0, hl129_0, hi129_0⟩ := at_L1 HR2.out 0 p129 q129
           obtain rfl : (⟨1, 0, none⟩ : Addr) = ad129 := (by injection e129)
           (first | simp only [add_plain] at hx129_0 | simp only [add_at] at hx129_0 | simp only [Addr.add, Nat.zero_add] at hx129_0 | skip)
           have qi129 : (0 < l2.length) = True := eq_true (by omega)
           (try rw [show ((0 : Int)).toNat = 0 from rfl] at hx129_0)
           (try rw [Addr.add_zero'] at hx129_0)
           replace hx129_0 := (HB.out.cell (World.block_lt_of_cell? w _ hx129_0)).trans hx129_0
           have HR129_0 := Aside0.mk hi129_0
           have HC129_0 := Aside0.mk hl129_0
           clear hi129_0 hl129_0
           replace p129 := eq_true p129
           replace q129 := eq_true q129
           have hcz46_0 : wc.cell? ⟨gb122, 0, none⟩ = some (.int .i64 a0_0) := bC BK122.out 0 rfl
           have hcz46_1 : wc.cell? ⟨gb122, 1, none⟩ = some (.int .i64 a0_1) := bC BK122.out 1 rfl
           have hcz46_2 : wc.cell? ⟨gb122, 2, none⟩ = some (.int .i64 a0_2) := bC BK122.out 2 rfl
           have hcz46_3 : wc.cell? ⟨gb122, 3, none⟩ = some (.string a0_3) := bC BK122.out 3 rfl
           have hcz46_4 : wc.cell? ⟨gb122, 4, none⟩ = some (.string a0_4) := bC BK122.out 4 rfl
           have hcz46_5 : wc.cell? ⟨gb122, 5, none⟩ = some (.int .i64 a0_5) := bC BK122.out 5 rfl
           have hfz46_0 := blk_frozen BK122.out 0
           have hfz46_1 := blk_frozen BK122.out 1
           have hfz46_2 := blk_frozen BK122.out 2
           have hfz46_3 := blk_frozen BK122.out 3
           have hfz46_4 := blk_frozen BK122.out 4
           have hfz46_5 := blk_frozen BK122.out 5
           go_wp2_with (first | ((with_reducible refine gate_callee (f := 23) rfl ?_); refine goesL_ (some 61) rfl rfl Tryd.func23 (by kernel_rfl) rfl #[.slice A129_0 (rd_L1 l2 0).length c129_0, .string a0_4] rfl (by (try simp only [lM, lC, lN]); first | done | rfl | (simp only [lD, lT]; rfl)) ?_; (with_reducible refine (slices_Contains_string_string.calls kj35 _ _ (rd_L1 l2 0) a0_4 true _ ?side1 ?side2 A43.out).mono ?_); (case side1 => repeat (first | exact (Kd.C_below HR129_0.out HB.out) | (with_reducible refine Kd.C_alloc ?_ _) | (with_reducible refine Kd.C_drewN ?_ _) | (with_reducible refine Kd.C_drew ?_))); (case side2 => exact HC129_0.out); rintro e w' ⟨rfl, ⟨nd, rfl⟩⟩; refine ⟨_, rfl, ?_⟩) | (go_at_call 22; (with_reducible refine (impl_in.calls a0_5 1 200 t131 _ A45.out).mono ?_); rintro e w' ⟨rfl, ⟨nd, rfl⟩⟩))
           go_ret
           exact ⟨by first | rfl | (simp [errW_none, errW_some] <;> rfl) | (simp [*, errW_none, errW_some] <;> rfl), by repeat (first | (with_reducible first | exact HB.out | apply wA | apply wN | apply wD | refine bS ?_ GE122.out) | exact HB.out)⟩
          ·replace c44 := Bool.eq_false_iff.mpr c44
           subst c44
           have H1 : (some false) = some r := by rw [if_neg (show ¬ (false = true) by decide)] at H; exact H
           clear H
           have H := H1
           clear H1
           obtain rfl := Option.some.inj H
           have p129 : 0 ≤ (0 : Int) := (by omega)
           have q129 : 0 < (l2.length : Int) := of_decide_eq_true (by first | (with_reducible assumption) | assumption)
           obtain ⟨ad129, A129_0, c129_0, e129, hx129_0, hl129_0, hi129_0⟩ := at_L1 HR2.out 0 p129 q129
           obtain rfl : (⟨1, 0, none⟩ : Addr) = ad129 := (by injection e129)
           (first | simp only [add_plain] at hx129_0 | simp only [add_at] at hx129_0 | simp only [Addr.add, Nat.zero_add] at hx129_0 | skip)
           have qi129 : (0 < l2.length) = True := eq_true (by omega)
           (try rw [show ((0 : Int)).toNat = 0 from rfl] at hx129_0)
           (try rw [Addr.add_zero'] at hx129_0)
           replace hx129_0 := (HB.out.cell (World.block_lt_of_cell? w _ hx129_0)).trans hx129_0
           have HR129_0 := Aside0.mk hi129_0
           have HC129_0 := Aside0.mk hl129_0
           clear hi129_0 hl129_0
           replace p129 := eq_true p129
           replace q129 := eq_true q129
           have hcz47_0 : wc.cell? ⟨gb122, 0, none⟩ = some (.int .i64 a0_0) := bC BK122.out 0 rfl
           have hcz47_1 : wc.cell? ⟨gb122, 1, none⟩ = some (.int .i64 a0_1) := bC BK122.out 1 rfl
           have hcz47_2 : wc.cell? ⟨gb122, 2, none⟩ = some (.int .i64 a0_2) := bC BK122.out 2 rfl
           have hcz47_3 : wc.cell? ⟨gb122, 3, none⟩ = some (.string a0_3) := bC BK122.out 3 rfl
           have hcz47_4 : wc.cell? ⟨gb122, 4, none⟩ = some (.string a0_4) := bC BK122.out 4 rfl
           have hcz47_5 : wc.cell? ⟨gb122, 5, none⟩ = some (.int .i64 a0_5) := bC BK122.out 5 rfl
           have hfz47_0 := blk_frozen BK122.out 0
           have hfz47_1 := blk_frozen BK122.out 1
           have hfz47_2 := blk_frozen BK122.out 2
           have hfz47_3 := blk_frozen BK122.out 3
           have hfz47_4 := blk_frozen BK122.out 4
           have hfz47_5 := blk_frozen BK122.out 5
           go_wp2_with (first | ((with_reducible refine gate_callee (f := 23) rfl ?_); refine goesL_ (some 61) rfl rfl Tryd.func23 (by kernel_rfl) rfl #[.slice A129_0 (rd_L1 l2 0).length c129_0, .string a0_4] rfl (by (try simp only [lM, lC, lN]); first | done | rfl | (simp only [lD, lT]; rfl)) ?_; (with_reducible refine (slices_Contains_string_string.calls kj35 _ _ (rd_L1 l2 0) a0_4 false _ ?side1 ?side2 A43.out).mono ?_); (case side1 => repeat (first | exact (Kd.C_below HR129_0.out HB.out) | (with_reducible refine Kd.C_alloc ?_ _) | (with_reducible refine Kd.C_drewN ?_ _) | (with_reducible refine Kd.C_drew ?_))); (case side2 => exact HC129_0.out); rintro e w' ⟨rfl, ⟨nd, rfl⟩⟩; refine ⟨_, rfl, ?_⟩))
           go_ret
           exact ⟨by first | rfl | (simp [errW_none, errW_some] <;> rfl) | (simp [*, errW_none, errW_some] <;> rfl), by repeat (first | (with_reducible first | exact HB.out | apply wA | apply wN | apply wD | refine bS ?_ GE122.out) | exact HB.out)⟩
         ·rw [if_neg c42] at H
          exact absurd H (by simp)

end Go.Proofs.YtcdghhihfjojaabDoor.Q
