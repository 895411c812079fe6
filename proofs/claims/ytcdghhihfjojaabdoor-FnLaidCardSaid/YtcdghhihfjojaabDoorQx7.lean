/- Plain Lean functions with the same answers as the Go functions of this seat, and a proof for each that the Go code comes to just these answers; no condition. Written by a program of this session (the kit's printer, turned). -/
import Derived.Test.YtcdghhihfjojaabDoorQx0
import Derived.Test.YtcdghhihfjojaabDoorQx6
namespace Go.Proofs.YtcdghhihfjojaabDoor.Q
open Go.RowKit Go.Proofs.YtcdghhihfjojaabDoorW.PrintWords Go.Proofs.YtcdghhihfjojaabDoorW.PrintLast Go.Proofs.YtcdghhihfjojaabDoorW.PrintMore Go.Proofs.YtcdghhihfjojaabDoorW.PrintFlt
attribute [local go_sem] cmp_lss cmp_leq cmp_gtr cmp_geq cmp_eql cmp_neq flt_l flt_r fgt_l fgt_r feq_l feq_r fne_l fne_r ord_lt ord_gt ord_eq ord_ne conv_int conv_flt foi_fold run_store_flt
attribute [local go_sem] max2_int min2_int max_two min_two max_three min_three max_four min_four   -- for this text's walks alone
set_option linter.unusedVariables false
set_option linter.unusedSimpArgs false

/-! ### spec_Laid: function 6 -/
mutual
def spec_Laid.j0 : Nat → Bool → Int → Int → Int → ByteArray → ByteArray → Int → Int → Int → Int → ByteArray → ByteArray → Int → Option (Int × Int × Int × ByteArray × ByteArray × Int)
 | 0, _, _, _, _, _, _, _, _, _, _, _, _, _ => none
 | k + 1, x12, x116000, x116001, x116002, x116003, x116004, x116005, x117000, x117001, x117002, x117003, x117004, x117005 => if x12 = true then (some (0, 0, 0, (⟨#[]⟩ : ByteArray), (⟨#[]⟩ : ByteArray), 0)) else (if x117000 = (-1) then (spec_Laid.j1 k x116000 x116001 x116002 x116003 x116004 x116005 x117000 x117001 x117002 x117003 x117004 x117005) else (spec_Laid.j1 k x117000 x117001 x116002 x116003 x116004 x116005 x117000 x117001 x117002 x117003 x117004 x117005))
def spec_Laid.j1 : Nat → Int → Int → Int → ByteArray → ByteArray → Int → Int → Int → Int → ByteArray → ByteArray → Int → Option (Int × Int × Int × ByteArray × ByteArray × Int)
 | 0, _, _, _, _, _, _, _, _, _, _, _, _ => none
 | k + 1, x116000, x116001, x116002, x116003, x116004, x116005, x117000, x117001, x117002, x117003, x117004, x117005 => if x117002 = (-1) then (spec_Laid.j2 k x116000 x116001 x116002 x116003 x116004 x116005 x117000 x117001 x117002 x117003 x117004 x117005) else (spec_Laid.j2 k x116000 x116001 x117002 x116003 x116004 x116005 x117000 x117001 x117002 x117003 x117004 x117005)
def spec_Laid.j2 : Nat → Int → Int → Int → ByteArray → ByteArray → Int → Int → Int → Int → ByteArray → ByteArray → Int → Option (Int × Int × Int × ByteArray × ByteArray × Int)
 | 0, _, _, _, _, _, _, _, _, _, _, _, _ => none
 | k + 1, x116000, x116001, x116002, x116003, x116004, x116005, x117000, x117001, x117002, x117003, x117004, x117005 => if x117003.toList = ([] : List UInt8) then (if x117004.toList = ([] : List UInt8) then (some (x116000, x116001, x116002, x116003, x116004, x116005)) else (some (x116000, x116001, x116002, x116003, x117004, x117005))) else (if x117004.toList = ([] : List UInt8) then (some (x116000, x116001, x116002, x117003, x116004, x116005)) else (some (x116000, x116001, x116002, x117003, x117004, x117005)))
end
def spec_Laid.f (k : Nat) (a0_0 : Int) (a0_1 : Int) (a0_2 : Int) (a0_3 : ByteArray) (a0_4 : ByteArray) (a0_5 : Int) (a1_0 : Int) (a1_1 : Int) (a1_2 : Int) (a1_3 : ByteArray) (a1_4 : ByteArray) (a1_5 : Int) : Option (Int × Int × Int × ByteArray × ByteArray × Int) := (spec_SkyOk.f k a0_0 a0_1 a0_2 a0_3 a0_4 a0_5).bind fun t118 => (if t118 = true then ((spec_SkyOk.f k a1_0 a1_1 a1_2 a1_3 a1_4 a1_5).bind fun t119 => (spec_Laid.j0 k (!t119) a0_0 a0_1 a0_2 a0_3 a0_4 a0_5 a1_0 a1_1 a1_2 a1_3 a1_4 a1_5)) else (spec_Laid.j0 k true a0_0 a0_1 a0_2 a0_3 a0_4 a0_5 a1_0 a1_1 a1_2 a1_3 a1_4 a1_5))
theorem spec_Laid.mono_l : ∀ k, (∀ y0 y1 y2 y3 y4 y5 y6 y7 y8 y9 y10 y11 y12, LeO (spec_Laid.j0 k y0 y1 y2 y3 y4 y5 y6 y7 y8 y9 y10 y11 y12) (spec_Laid.j0 (k + 1) y0 y1 y2 y3 y4 y5 y6 y7 y8 y9 y10 y11 y12)) ∧ (∀ y0 y1 y2 y3 y4 y5 y6 y7 y8 y9 y10 y11, LeO (spec_Laid.j1 k y0 y1 y2 y3 y4 y5 y6 y7 y8 y9 y10 y11) (spec_Laid.j1 (k + 1) y0 y1 y2 y3 y4 y5 y6 y7 y8 y9 y10 y11)) ∧ (∀ y0 y1 y2 y3 y4 y5 y6 y7 y8 y9 y10 y11, LeO (spec_Laid.j2 k y0 y1 y2 y3 y4 y5 y6 y7 y8 y9 y10 y11) (spec_Laid.j2 (k + 1) y0 y1 y2 y3 y4 y5 y6 y7 y8 y9 y10 y11))
 | 0 => ⟨fun _ _ _ _ _ _ _ _ _ _ _ _ _ r h => by simp [spec_Laid.j0] at h, fun _ _ _ _ _ _ _ _ _ _ _ _ r h => by simp [spec_Laid.j1] at h, fun _ _ _ _ _ _ _ _ _ _ _ _ r h => by simp [spec_Laid.j2] at h⟩
 | k + 1 => by
  obtain ⟨ih0, ih1, ih2⟩ := spec_Laid.mono_l k
  refine ⟨?_, ?_, ?_⟩
  ·intro y0 y1 y2 y3 y4 y5 y6 y7 y8 y9 y10 y11 y12
   unfold spec_Laid.j0
   repeat' first
   | (with_reducible exact ih0 _ _ _ _ _ _ _ _ _ _ _ _ _)
   | (with_reducible exact ih1 _ _ _ _ _ _ _ _ _ _ _ _)
   | (with_reducible exact ih2 _ _ _ _ _ _ _ _ _ _ _ _)
   | (with_reducible exact spec_SkyOk.mono _ _ _ _ _ _ _)
   | (with_reducible exact LeO.refl _)
   | (with_reducible exact LeO.none _)
   | (with_reducible refine LeO.ite ?_ ?_)
   | (with_reducible refine LeO.bind ?_ (fun _ => ?_))
   | exact ih0 _ _ _ _ _ _ _ _ _ _ _ _ _
   | exact ih1 _ _ _ _ _ _ _ _ _ _ _ _
   | exact ih2 _ _ _ _ _ _ _ _ _ _ _ _
   | exact spec_SkyOk.mono _ _ _ _ _ _ _
   | exact LeO.none _
   | refine LeO.ite ?_ ?_
   | refine LeO.bind ?_ (fun _ => ?_)
  ·intro y0 y1 y2 y3 y4 y5 y6 y7 y8 y9 y10 y11
   unfold spec_Laid.j1
   repeat' first
   | (with_reducible exact ih0 _ _ _ _ _ _ _ _ _ _ _ _ _)
   | (with_reducible exact ih1 _ _ _ _ _ _ _ _ _ _ _ _)
   | (with_reducible exact ih2 _ _ _ _ _ _ _ _ _ _ _ _)
   | (with_reducible exact spec_SkyOk.mono _ _ _ _ _ _ _)
   | (with_reducible exact LeO.refl _)
   | (with_reducible exact LeO.none _)
   | (with_reducible refine LeO.ite ?_ ?_)
   | (with_reducible refine LeO.bind ?_ (fun _ => ?_))
   | exact ih0 _ _ _ _ _ _ _ _ _ _ _ _ _
   | exact ih1 _ _ _ _ _ _ _ _ _ _ _ _
   | exact ih2 _ _ _ _ _ _ _ _ _ _ _ _
   | exact spec_SkyOk.mono _ _ _ _ _ _ _
   | exact LeO.none _
   | refine LeO.ite ?_ ?_
   | refine LeO.bind ?_ (fun _ => ?_)
  ·intro y0 y1 y2 y3 y4 y5 y6 y7 y8 y9 y10 y11
   unfold spec_Laid.j2
   repeat' first
   | (with_reducible exact ih0 _ _ _ _ _ _ _ _ _ _ _ _ _)
   | (with_reducible exact ih1 _ _ _ _ _ _ _ _ _ _ _ _)
   | (with_reducible exact ih2 _ _ _ _ _ _ _ _ _ _ _ _)
   | (with_reducible exact spec_SkyOk.mono _ _ _ _ _ _ _)
   | (with_reducible exact LeO.refl _)
   | (with_reducible exact LeO.none _)
   | (with_reducible refine LeO.ite ?_ ?_)
   | (with_reducible refine LeO.bind ?_ (fun _ => ?_))
   | exact ih0 _ _ _ _ _ _ _ _ _ _ _ _ _
   | exact ih1 _ _ _ _ _ _ _ _ _ _ _ _
   | exact ih2 _ _ _ _ _ _ _ _ _ _ _ _
   | exact spec_SkyOk.mono _ _ _ _ _ _ _
   | exact LeO.none _
   | refine LeO.ite ?_ ?_
   | refine LeO.bind ?_ (fun _ => ?_)
theorem spec_Laid.mono : ∀ a0 a1 a2 a3 a4 a5 a6 a7 a8 a9 a10 a11 k, LeO (spec_Laid.f k a0 a1 a2 a3 a4 a5 a6 a7 a8 a9 a10 a11) (spec_Laid.f (k + 1) a0 a1 a2 a3 a4 a5 a6 a7 a8 a9 a10 a11) := by
 intro a0 a1 a2 a3 a4 a5 a6 a7 a8 a9 a10 a11 k
 obtain ⟨ih0, ih1, ih2⟩ := spec_Laid.mono_l k
 unfold spec_Laid.f
 repeat' first
   | (with_reducible exact ih0 _ _ _ _ _ _ _ _ _ _ _ _ _)
   | (with_reducible exact ih1 _ _ _ _ _ _ _ _ _ _ _ _)
   | (with_reducible exact ih2 _ _ _ _ _ _ _ _ _ _ _ _)
   | (with_reducible exact spec_SkyOk.mono _ _ _ _ _ _ _)
   | (with_reducible exact LeO.refl _)
   | (with_reducible exact LeO.none _)
   | (with_reducible refine LeO.ite ?_ ?_)
   | (with_reducible refine LeO.bind ?_ (fun _ => ?_))
   | exact ih0 _ _ _ _ _ _ _ _ _ _ _ _ _
   | exact ih1 _ _ _ _ _ _ _ _ _ _ _ _
   | exact ih2 _ _ _ _ _ _ _ _ _ _ _ _
   | exact spec_SkyOk.mono _ _ _ _ _ _ _
   | exact LeO.none _
   | refine LeO.ite ?_ ?_
   | refine LeO.bind ?_ (fun _ => ?_)
set_option maxHeartbeats 8000000 in
set_option maxRecDepth 100000 in
theorem spec_Laid.calls (k : Nat) (a0_0 : Int) (a0_1 : Int) (a0_2 : Int) (a0_3 : ByteArray) (a0_4 : ByteArray) (a0_5 : Int) (a1_0 : Int) (a1_1 : Int) (a1_2 : Int) (a1_3 : ByteArray) (a1_4 : ByteArray) (a1_5 : Int) (r1 : Int) (r2 : Int) (r3 : Int) (r4 : ByteArray) (r5 : ByteArray) (r6 : Int) (w : World) (h : spec_Laid.f k a0_0 a0_1 a0_2 a0_3 a0_4 a0_5 a1_0 a1_1 a1_2 a1_3 a1_4 a1_5 = some (r1, r2, r3, r4, r5, r6)) :
  Calls Tryd.prog 6 #[.agg #[.int .i64 a0_0, .int .i64 a0_1, .int .i64 a0_2, .string a0_3, .string a0_4, .int .i64 a0_5], .agg #[.int .i64 a1_0, .int .i64 a1_1, .int .i64 a1_2, .string a1_3, .string a1_4, .int .i64 a1_5]] w fun e w' => e = .returned (.agg #[.int .i64 r1, .int .i64 r2, .int .i64 r3, .string r4, .string r5, .int .i64 r6]) ∧ Below w.heap.size w w' := by
 have hu25 := Tryd.underlying25
 have HB := A0 (Below.refl w.heap.size w)
 have H : ((spec_SkyOk.f k a0_0 a0_1 a0_2 a0_3 a0_4 a0_5).bind fun t118 => (if t118 = true then ((spec_SkyOk.f k a1_0 a1_1 a1_2 a1_3 a1_4 a1_5).bind fun t119 => (spec_Laid.j0 k (!t119) a0_0 a0_1 a0_2 a0_3 a0_4 a0_5 a1_0 a1_1 a1_2 a1_3 a1_4 a1_5)) else (spec_Laid.j0 k true a0_0 a0_1 a0_2 a0_3 a0_4 a0_5 a1_0 a1_1 a1_2 a1_3 a1_4 a1_5))) = some (r1, r2, r3, r4, r5, r6) := h
 clear h
 have HC3 := Aside0.mk H
 clear H
 go_enter Tryd.func6, Tryd.ntmps6
 go_upto_region 1 with (first | ((with_reducible refine gate_dst (N := 2) rfl ?_); refine box_event ?hg (N := 2) ?hd (cs := #[.int .i64 a0_0, .int .i64 a0_1, .int .i64 a0_2, .string a0_3, .string a0_4, .int .i64 a0_5]) (t := 25) ?hr ?_; (case hd => rfl); (case hg => rfl); (case hr => first | (go_simp; done) | (go_simp; rfl)); intro gb115 hg w4 hbox hb; have n0_ := A0 (below_step (by repeat (first | (with_reducible first | exact HB.out | apply wA | apply wN | apply wD) | exact HB.out)) hb); have n1_ := A0 (hbox); have n2_ := A0 ((by rw [hg]; exact (below_size (by repeat (first | (with_reducible first | exact HB.out | apply wA | apply wN | apply wD) | exact HB.out))) : w.heap.size ≤ gb115)); have n3_ := A0 ((by rw [hg]; exact (below_size (by repeat (first | (with_reducible first | exact HB.out | apply wA | apply wN | apply wD) | exact HB.out))) : w.heap.size ≤ gb115)); clear HB; have HB := n0_; have BK115 := n1_; have GW115 := n2_; have GE115 := n3_; clear n0_ n1_ n2_ n3_; clear hb hbox hg) | ((with_reducible refine gate_dst (N := 3) rfl ?_); refine box_event ?hg (N := 3) ?hd (cs := #[.int .i64 a1_0, .int .i64 a1_1, .int .i64 a1_2, .string a1_3, .string a1_4, .int .i64 a1_5]) (t := 25) ?hr ?_; (case hd => rfl); (case hg => rfl); (case hr => first | (go_simp; done) | (go_simp; rfl)); intro gb116 hg w5 hbox hb; have n0_ := A0 (blk_below (g := gb115) (o := .cells #[.int .i64 a0_0, .int .i64 a0_1, .int .i64 a0_2, .string a0_3, .string a0_4, .int .i64 a0_5] 25 (0, 0)) (by (with_reducible repeat (first | refine bN ?_ _ | refine bD ?_ | refine bA ?_ _)); exact BK115.out) hb); have n1_ := A0 (below_step (by repeat (first | (with_reducible first | exact HB.out | apply wA | apply wN | apply wD | refine bS ?_ GE115.out) | exact HB.out)) hb); have n2_ := A0 (hbox); have n3_ := A0 ((by rw [hg]; exact (below_size (by repeat (first | (with_reducible first | exact HB.out | apply wA | apply wN | apply wD | refine bS ?_ GE115.out) | exact HB.out))) : w.heap.size ≤ gb116)); have n4_ := A0 ((by rw [hg]; exact (below_size (by repeat (first | (with_reducible first | exact HB.out | apply wA | apply wN | apply wD | refine bS ?_ GE115.out) | exact HB.out))) : w.heap.size ≤ gb116)); have n5_ := A0 ((by rw [hg]; exact Nat.ne_of_lt (blk_lt (g := gb115) (o := .cells #[.int .i64 a0_0, .int .i64 a0_1, .int .i64 a0_2, .string a0_3, .string a0_4, .int .i64 a0_5] 25 (0, 0)) (by (with_reducible repeat (first | refine bN ?_ _ | refine bD ?_ | refine bA ?_ _)); exact BK115.out)) : gb115 ≠ gb116)); have n6_ := A0 ((by rw [hg]; exact Nat.ne_of_gt (blk_lt (g := gb115) (o := .cells #[.int .i64 a0_0, .int .i64 a0_1, .int .i64 a0_2, .string a0_3, .string a0_4, .int .i64 a0_5] 25 (0, 0)) (by (with_reducible repeat (first | refine bN ?_ _ | refine bD ?_ | refine bA ?_ _)); exact BK115.out)) : gb116 ≠ gb115)); clear BK115; clear HB; have BK115 := n0_; have HB := n1_; have BK116 := n2_; have GW116 := n3_; have GE116 := n4_; have NB115_116 := n5_; have NB116_115 := n6_; clear n0_ n1_ n2_ n3_ n4_ n5_ n6_; clear hb hbox hg) | ((with_reducible refine gate_dst (N := 4) rfl ?_); refine box_event ?hg (N := 4) ?hd (cs := #[.int .i64 0, .int .i64 0, .int .i64 0, .string (⟨#[]⟩ : ByteArray), .string (⟨#[]⟩ : ByteArray), .int .i64 0]) (t := 25) ?hr ?_; (case hd => rfl); (case hg => rfl); (case hr => first | (go_simp; done) | (go_simp; rfl)); intro gb117 hg w6 hbox hb; have n0_ := A0 (blk_below (g := gb115) (o := .cells #[.int .i64 a0_0, .int .i64 a0_1, .int .i64 a0_2, .string a0_3, .string a0_4, .int .i64 a0_5] 25 (0, 0)) (by (with_reducible repeat (first | refine bN ?_ _ | refine bD ?_ | refine bA ?_ _)); exact BK115.out) hb); have n1_ := A0 (blk_below (g := gb116) (o := .cells #[.int .i64 a1_0, .int .i64 a1_1, .int .i64 a1_2, .string a1_3, .string a1_4, .int .i64 a1_5] 25 (0, 0)) (by (with_reducible repeat (first | refine bN ?_ _ | refine bD ?_ | refine bA ?_ _)); exact BK116.out) hb); have n2_ := A0 (below_step (by repeat (first | (with_reducible first | exact HB.out | apply wA | apply wN | apply wD | refine bS ?_ GE115.out | refine bS ?_ GE116.out) | exact HB.out)) hb); have n3_ := A0 (hbox); have n4_ := A0 ((by rw [hg]; exact (below_size (by repeat (first | (with_reducible first | exact HB.out | apply wA | apply wN | apply wD | refine bS ?_ GE115.out | refine bS ?_ GE116.out) | exact HB.out))) : w.heap.size ≤ gb117)); have n5_ := A0 ((by rw [hg]; exact (below_size (by repeat (first | (with_reducible first | exact HB.out | apply wA | apply wN | apply wD | refine bS ?_ GE115.out | refine bS ?_ GE116.out) | exact HB.out))) : w.heap.size ≤ gb117)); have n6_ := A0 ((by rw [hg]; exact Nat.ne_of_lt (blk_lt (g := gb115) (o := .cells #[.int .i64 a0_0, .int .i64 a0_1, .int .i64 a0_2, .string a0_3, .string a0_4, .int .i64 a0_5] 25 (0, 0)) (by (with_reducible repeat (first | refine bN ?_ _ | refine bD ?_ | refine bA ?_ _)); exact BK115.out)) : gb115 ≠ gb117)); have n7_ := A0 ((by rw [hg]; exact Nat.ne_of_gt (blk_lt (g := gb115) (o := .cells #[.int .i64 a0_0, .int .i64 a0_1, .int .i64 a0_2, .string a0_3, .string a0_4, .int .i64 a0_5] 25 (0, 0)) (by (with_reducible repeat (first | refine bN ?_ _ | refine bD ?_ | refine bA ?_ _)); exact BK115.out)) : gb117 ≠ gb115)); have n8_ := A0 ((by rw [hg]; exact Nat.ne_of_lt (blk_lt (g := gb116) (o := .cells #[.int .i64 a1_0, .int .i64 a1_1, .int .i64 a1_2, .string a1_3, .string a1_4, .int .i64 a1_5] 25 (0, 0)) (by (with_reducible repeat (first | refine bN ?_ _ | refine bD ?_ | refine bA ?_ _)); exact BK116.out)) : gb116 ≠ gb117)); have n9_ := A0 ((by rw [hg]; exact Nat.ne_of_gt (blk_lt (g := gb116) (o := .cells #[.int .i64 a1_0, .int .i64 a1_1, .int .i64 a1_2, .string a1_3, .string a1_4, .int .i64 a1_5] 25 (0, 0)) (by (with_reducible repeat (first | refine bN ?_ _ | refine bD ?_ | refine bA ?_ _)); exact BK116.out)) : gb117 ≠ gb116)); clear BK115; clear BK116; clear HB; have BK115 := n0_; have BK116 := n1_; have HB := n2_; have BK117 := n3_; have GW117 := n4_; have GE117 := n5_; have NB115_117 := n6_; have NB117_115 := n7_; have NB116_117 := n8_; have NB117_116 := n9_; clear n0_ n1_ n2_ n3_ n4_ n5_ n6_ n7_ n8_ n9_; clear hb hbox hg))
 (try simp only [Act.put, sqA, sqZ, sqS])
 go_cut [12] (fun v12 wc => ∃ (kq : Nat) (x12_2 : Bool), v12 = .bool x12_2 ∧ Aside0 (spec_Laid.j0 kq x12_2 a0_0 a0_1 a0_2 a0_3 a0_4 a0_5 a1_0 a1_1 a1_2 a1_3 a1_4 a1_5 = some (r1, r2, r3, r4, r5, r6)) ∧ Aside0 (kq ≤ k) ∧ Aside0 (wc.heap[gb115]? = some (.cells #[.int .i64 a0_0, .int .i64 a0_1, .int .i64 a0_2, .string a0_3, .string a0_4, .int .i64 a0_5] 25 (0, 0))) ∧ Aside0 (wc.heap[gb116]? = some (.cells #[.int .i64 a1_0, .int .i64 a1_1, .int .i64 a1_2, .string a1_3, .string a1_4, .int .i64 a1_5] 25 (0, 0))) ∧ Aside0 (wc.heap[gb117]? = some (.cells #[.int .i64 0, .int .i64 0, .int .i64 0, .string (⟨#[]⟩ : ByteArray), .string (⟨#[]⟩ : ByteArray), .int .i64 0] 25 (0, 0))) ∧ Aside0 (Below w.heap.size w wc))
 case first =>
  have H := HC3.out
  clear HC3
  replace H := Option.bind_eq_some_iff.mp H
  obtain ⟨t118, A70, H⟩ := H
  replace H : (if t118 = true then ((spec_SkyOk.f k a1_0 a1_1 a1_2 a1_3 a1_4 a1_5).bind fun t119 => (spec_Laid.j0 k (!t119) a0_0 a0_1 a0_2 a0_3 a0_4 a0_5 a1_0 a1_1 a1_2 a1_3 a1_4 a1_5)) else (spec_Laid.j0 k true a0_0 a0_1 a0_2 a0_3 a0_4 a0_5 a1_0 a1_1 a1_2 a1_3 a1_4 a1_5)) = some (r1, r2, r3, r4, r5, r6) := H
  have A7 := Aside0.mk A70
  clear A70
  by_cases c8 : t118 = true
  ·subst c8
   have H1 : ((spec_SkyOk.f k a1_0 a1_1 a1_2 a1_3 a1_4 a1_5).bind fun t119 => (spec_Laid.j0 k (!t119) a0_0 a0_1 a0_2 a0_3 a0_4 a0_5 a1_0 a1_1 a1_2 a1_3 a1_4 a1_5)) = some (r1, r2, r3, r4, r5, r6) := by rw [if_pos rfl] at H; exact H
   clear H
   have H := H1
   clear H1
   replace H := Option.bind_eq_some_iff.mp H
   obtain ⟨t119, A90, H⟩ := H
   replace H : (spec_Laid.j0 k (!t119) a0_0 a0_1 a0_2 a0_3 a0_4 a0_5 a1_0 a1_1 a1_2 a1_3 a1_4 a1_5) = some (r1, r2, r3, r4, r5, r6) := H
   have A9 := Aside0.mk A90
   clear A90
   have H' := Aside0.mk H
   clear H
   have hnb10 := NB115_116.out
   have hnc10 := NB116_115.out
   have hnb11 := NB115_117.out
   have hnc11 := NB117_115.out
   have hcz12_0 : w6.cell? ⟨gb115, 0, none⟩ = some (.int .i64 a0_0) := bC BK115.out 0 rfl
   have hcz12_1 : w6.cell? ⟨gb115, 1, none⟩ = some (.int .i64 a0_1) := bC BK115.out 1 rfl
   have hcz12_2 : w6.cell? ⟨gb115, 2, none⟩ = some (.int .i64 a0_2) := bC BK115.out 2 rfl
   have hcz12_3 : w6.cell? ⟨gb115, 3, none⟩ = some (.string a0_3) := bC BK115.out 3 rfl
   have hcz12_4 : w6.cell? ⟨gb115, 4, none⟩ = some (.string a0_4) := bC BK115.out 4 rfl
   have hcz12_5 : w6.cell? ⟨gb115, 5, none⟩ = some (.int .i64 a0_5) := bC BK115.out 5 rfl
   have hfz12_0 := blk_frozen BK115.out 0
   have hfz12_1 := blk_frozen BK115.out 1
   have hfz12_2 := blk_frozen BK115.out 2
   have hfz12_3 := blk_frozen BK115.out 3
   have hfz12_4 := blk_frozen BK115.out 4
   have hfz12_5 := blk_frozen BK115.out 5
   go_wp2_with (first | ((with_reducible refine gate_callee (f := 12) rfl ?_); refine goesL_ (some 6) rfl rfl Tryd.func12 (by kernel_rfl) rfl #[.agg #[.int .i64 a0_0, .int .i64 a0_1, .int .i64 a0_2, .string a0_3, .string a0_4, .int .i64 a0_5]] rfl (by (try simp only [lM, lC, lN]); first | done | rfl | (simp only [lD, lT]; rfl)) ?_; (with_reducible refine (spec_SkyOk.calls k a0_0 a0_1 a0_2 a0_3 a0_4 a0_5 true _ A7.out).mono ?_); rintro e w13 ⟨rfl, hb⟩; refine ⟨_, rfl, ?_⟩; have n0_ := A0 (blk_below (g := gb115) (o := .cells #[.int .i64 a0_0, .int .i64 a0_1, .int .i64 a0_2, .string a0_3, .string a0_4, .int .i64 a0_5] 25 (0, 0)) (by (with_reducible repeat (first | refine bN ?_ _ | refine bD ?_ | refine bA ?_ _)); exact BK115.out) hb); have n1_ := A0 (blk_below (g := gb116) (o := .cells #[.int .i64 a1_0, .int .i64 a1_1, .int .i64 a1_2, .string a1_3, .string a1_4, .int .i64 a1_5] 25 (0, 0)) (by (with_reducible repeat (first | refine bN ?_ _ | refine bD ?_ | refine bA ?_ _)); exact BK116.out) hb); have n2_ := A0 (blk_below (g := gb117) (o := .cells #[.int .i64 0, .int .i64 0, .int .i64 0, .string (⟨#[]⟩ : ByteArray), .string (⟨#[]⟩ : ByteArray), .int .i64 0] 25 (0, 0)) (by (with_reducible repeat (first | refine bN ?_ _ | refine bD ?_ | refine bA ?_ _)); exact BK117.out) hb); have n3_ := A0 (below_step (by repeat (first | (with_reducible first | exact HB.out | apply wA | apply wN | apply wD | refine bS ?_ GE115.out | refine bS ?_ GE116.out | refine bS ?_ GE117.out) | exact HB.out)) hb); clear BK115; clear BK116; clear BK117; clear HB; have BK115 := n0_; have BK116 := n1_; have BK117 := n2_; have HB := n3_; clear n0_ n1_ n2_ n3_; (try clear hb); (try clear hb2); (try clear hk); (try clear hi); have hnb14 := NB116_117.out; have hnc14 := NB117_116.out; have hcz15_0 : w13.cell? ⟨gb116, 0, none⟩ = some (.int .i64 a1_0) := bC BK116.out 0 rfl; have hcz15_1 : w13.cell? ⟨gb116, 1, none⟩ = some (.int .i64 a1_1) := bC BK116.out 1 rfl; have hcz15_2 : w13.cell? ⟨gb116, 2, none⟩ = some (.int .i64 a1_2) := bC BK116.out 2 rfl; have hcz15_3 : w13.cell? ⟨gb116, 3, none⟩ = some (.string a1_3) := bC BK116.out 3 rfl; have hcz15_4 : w13.cell? ⟨gb116, 4, none⟩ = some (.string a1_4) := bC BK116.out 4 rfl; have hcz15_5 : w13.cell? ⟨gb116, 5, none⟩ = some (.int .i64 a1_5) := bC BK116.out 5 rfl; have hfz15_0 := blk_frozen BK116.out 0; have hfz15_1 := blk_frozen BK116.out 1; have hfz15_2 := blk_frozen BK116.out 2; have hfz15_3 := blk_frozen BK116.out 3; have hfz15_4 := blk_frozen BK116.out 4; have hfz15_5 := blk_frozen BK116.out 5) | (go_at_call 12; (with_reducible refine (spec_SkyOk.calls k a1_0 a1_1 a1_2 a1_3 a1_4 a1_5 t119 _ A9.out).mono ?_); rintro e w16 ⟨rfl, hb⟩; have n0_ := A0 (blk_below (g := gb115) (o := .cells #[.int .i64 a0_0, .int .i64 a0_1, .int .i64 a0_2, .string a0_3, .string a0_4, .int .i64 a0_5] 25 (0, 0)) (by (with_reducible repeat (first | refine bN ?_ _ | refine bD ?_ | refine bA ?_ _)); exact BK115.out) hb); have n1_ := A0 (blk_below (g := gb116) (o := .cells #[.int .i64 a1_0, .int .i64 a1_1, .int .i64 a1_2, .string a1_3, .string a1_4, .int .i64 a1_5] 25 (0, 0)) (by (with_reducible repeat (first | refine bN ?_ _ | refine bD ?_ | refine bA ?_ _)); exact BK116.out) hb); have n2_ := A0 (blk_below (g := gb117) (o := .cells #[.int .i64 0, .int .i64 0, .int .i64 0, .string (⟨#[]⟩ : ByteArray), .string (⟨#[]⟩ : ByteArray), .int .i64 0] 25 (0, 0)) (by (with_reducible repeat (first | refine bN ?_ _ | refine bD ?_ | refine bA ?_ _)); exact BK117.out) hb); have n3_ := A0 (below_step (by repeat (first | (with_reducible first | exact HB.out | apply wA | apply wN | apply wD | refine bS ?_ GE115.out | refine bS ?_ GE116.out | refine bS ?_ GE117.out) | exact HB.out)) hb); clear BK115; clear BK116; clear BK117; clear HB; have BK115 := n0_; have BK116 := n1_; have BK117 := n2_; have HB := n3_; clear n0_ n1_ n2_ n3_; (try clear hb); (try clear hb2); (try clear hk); (try clear hi)))
   go_meet
   case rel => exact ⟨_, (!t119), (by first | rfl | (simp; done) | (simp [*]; done)), H', ⟨by first | omega | exact Nat.le_refl _⟩, ⟨by (with_reducible repeat (first | refine bN ?_ _ | refine bD ?_ | refine bA ?_ _)); exact BK115.out⟩, ⟨by (with_reducible repeat (first | refine bN ?_ _ | refine bD ?_ | refine bA ?_ _)); exact BK116.out⟩, ⟨by (with_reducible repeat (first | refine bN ?_ _ | refine bD ?_ | refine bA ?_ _)); exact BK117.out⟩, ⟨by repeat (first | (with_reducible first | exact HB.out | apply wA | apply wN | apply wD | refine bS ?_ GE115.out | refine bS ?_ GE116.out | refine bS ?_ GE117.out) | exact HB.out)⟩⟩
  ·replace c8 := Bool.eq_false_iff.mpr c8
   subst c8
   have H1 : (spec_Laid.j0 k true a0_0 a0_1 a0_2 a0_3 a0_4 a0_5 a1_0 a1_1 a1_2 a1_3 a1_4 a1_5) = some (r1, r2, r3, r4, r5, r6) := by rw [if_neg (show ¬ (false = true) by decide)] at H; exact H
   clear H
   have H := H1
   clear H1
   have H' := Aside0.mk H
   clear H
   have hnb17 := NB115_116.out
   have hnc17 := NB116_115.out
   have hnb18 := NB115_117.out
   have hnc18 := NB117_115.out
   have hcz19_0 : w6.cell? ⟨gb115, 0, none⟩ = some (.int .i64 a0_0) := bC BK115.out 0 rfl
   have hcz19_1 : w6.cell? ⟨gb115, 1, none⟩ = some (.int .i64 a0_1) := bC BK115.out 1 rfl
   have hcz19_2 : w6.cell? ⟨gb115, 2, none⟩ = some (.int .i64 a0_2) := bC BK115.out 2 rfl
   have hcz19_3 : w6.cell? ⟨gb115, 3, none⟩ = some (.string a0_3) := bC BK115.out 3 rfl
   have hcz19_4 : w6.cell? ⟨gb115, 4, none⟩ = some (.string a0_4) := bC BK115.out 4 rfl
   have hcz19_5 : w6.cell? ⟨gb115, 5, none⟩ = some (.int .i64 a0_5) := bC BK115.out 5 rfl
   have hfz19_0 := blk_frozen BK115.out 0
   have hfz19_1 := blk_frozen BK115.out 1
   have hfz19_2 := blk_frozen BK115.out 2
   have hfz19_3 := blk_frozen BK115.out 3
   have hfz19_4 := blk_frozen BK115.out 4
   have hfz19_5 := blk_frozen BK115.out 5
   go_wp2_with (first | ((with_reducible refine gate_callee (f := 12) rfl ?_); refine goesL_ (some 6) rfl rfl Tryd.func12 (by kernel_rfl) rfl #[.agg #[.int .i64 a0_0, .int .i64 a0_1, .int .i64 a0_2, .string a0_3, .string a0_4, .int .i64 a0_5]] rfl (by (try simp only [lM, lC, lN]); first | done | rfl | (simp only [lD, lT]; rfl)) ?_; (with_reducible refine (spec_SkyOk.calls k a0_0 a0_1 a0_2 a0_3 a0_4 a0_5 false _ A7.out).mono ?_); rintro e w20 ⟨rfl, hb⟩; refine ⟨_, rfl, ?_⟩; have n0_ := A0 (blk_below (g := gb115) (o := .cells #[.int .i64 a0_0, .int .i64 a0_1, .int .i64 a0_2, .string a0_3, .string a0_4, .int .i64 a0_5] 25 (0, 0)) (by (with_reducible repeat (first | refine bN ?_ _ | refine bD ?_ | refine bA ?_ _)); exact BK115.out) hb); have n1_ := A0 (blk_below (g := gb116) (o := .cells #[.int .i64 a1_0, .int .i64 a1_1, .int .i64 a1_2, .string a1_3, .string a1_4, .int .i64 a1_5] 25 (0, 0)) (by (with_reducible repeat (first | refine bN ?_ _ | refine bD ?_ | refine bA ?_ _)); exact BK116.out) hb); have n2_ := A0 (blk_below (g := gb117) (o := .cells #[.int .i64 0, .int .i64 0, .int .i64 0, .string (⟨#[]⟩ : ByteArray), .string (⟨#[]⟩ : ByteArray), .int .i64 0] 25 (0, 0)) (by (with_reducible repeat (first | refine bN ?_ _ | refine bD ?_ | refine bA ?_ _)); exact BK117.out) hb); have n3_ := A0 (below_step (by repeat (first | (with_reducible first | exact HB.out | apply wA | apply wN | apply wD | refine bS ?_ GE115.out | refine bS ?_ GE116.out | refine bS ?_ GE117.out) | exact HB.out)) hb); clear BK115; clear BK116; clear BK117; clear HB; have BK115 := n0_; have BK116 := n1_; have BK117 := n2_; have HB := n3_; clear n0_ n1_ n2_ n3_; (try clear hb); (try clear hb2); (try clear hk); (try clear hi)))
   go_meet
   case rel => exact ⟨_, (true), (by first | rfl | (simp; done) | (simp [*]; done)), H', ⟨by first | omega | exact Nat.le_refl _⟩, ⟨by (with_reducible repeat (first | refine bN ?_ _ | refine bD ?_ | refine bA ?_ _)); exact BK115.out⟩, ⟨by (with_reducible repeat (first | refine bN ?_ _ | refine bD ?_ | refine bA ?_ _)); exact BK116.out⟩, ⟨by (with_reducible repeat (first | refine bN ?_ _ | refine bD ?_ | refine bA ?_ _)); exact BK117.out⟩, ⟨by repeat (first | (with_reducible first | exact HB.out | apply wA | apply wN | apply wD | refine bS ?_ GE115.out | refine bS ?_ GE116.out | refine bS ?_ GE117.out) | exact HB.out)⟩⟩
 case rest =>
  clear HC3
  try clear c1
  try clear p2
  try clear c6
  try clear c8
  try clear c10
  try clear c11
  try clear c12
  try clear c14
  try clear c17
  try clear c18
  try clear hcz12_0
  try clear hcz12_1
  try clear hcz12_2
  try clear hcz12_3
  try clear hcz12_4
  try clear hcz12_5
  try clear hcz15_0
  try clear hcz15_1
  try clear hcz15_2
  try clear hcz15_3
  try clear hcz15_4
  try clear hcz15_5
  try clear hcz19_0
  try clear hcz19_1
  try clear hcz19_2
  try clear hcz19_3
  try clear hcz19_4
  try clear hcz19_5
  try clear hfz12_0
  try clear hfz12_1
  try clear hfz12_2
  try clear hfz12_3
  try clear hfz12_4
  try clear hfz12_5
  try clear hfz15_0
  try clear hfz15_1
  try clear hfz15_2
  try clear hfz15_3
  try clear hfz15_4
  try clear hfz15_5
  try clear hfz19_0
  try clear hfz19_1
  try clear hfz19_2
  try clear hfz19_3
  try clear hfz19_4
  try clear hfz19_5
  obtain ⟨kq, x12_2, rfl, HA, HJ2, BK115, BK116, BK117, HB⟩ := hcut
  cases kq with
  | zero => exact absurd HA.out (by simp [spec_Laid.j0])
  | succ kj2 =>
   have H := HA.out
   clear HA
   simp only [spec_Laid.j0] at H
   by_cases c21 : x12_2 = true
   ·subst c21
    have H1 : (some (0, 0, 0, (⟨#[]⟩ : ByteArray), (⟨#[]⟩ : ByteArray), 0)) = some (r1, r2, r3, r4, r5, r6) := by rw [if_pos rfl] at H; exact H
    clear H
    have H := H1
    clear H1
    simp only [Option.some.injEq, Prod.mk.injEq] at H
    obtain ⟨rfl, rfl, rfl, rfl, rfl, rfl⟩ := H
    have hnb22 := NB117_115.out
    have hnc22 := NB115_117.out
    have hnb23 := NB117_116.out
    have hnc23 := NB116_117.out
    have hcz24_0 : wc.cell? ⟨gb117, 0, none⟩ = some (.int .i64 0) := bC BK117.out 0 rfl
    have hcz24_1 : wc.cell? ⟨gb117, 1, none⟩ = some (.int .i64 0) := bC BK117.out 1 rfl
    have hcz24_2 : wc.cell? ⟨gb117, 2, none⟩ = some (.int .i64 0) := bC BK117.out 2 rfl
    have hcz24_3 : wc.cell? ⟨gb117, 3, none⟩ = some (.string (⟨#[]⟩ : ByteArray)) := bC BK117.out 3 rfl
    have hcz24_4 : wc.cell? ⟨gb117, 4, none⟩ = some (.string (⟨#[]⟩ : ByteArray)) := bC BK117.out 4 rfl
    have hcz24_5 : wc.cell? ⟨gb117, 5, none⟩ = some (.int .i64 0) := bC BK117.out 5 rfl
    have hfz24_0 := blk_frozen BK117.out 0
    have hfz24_1 := blk_frozen BK117.out 1
    have hfz24_2 := blk_frozen BK117.out 2
    have hfz24_3 := blk_frozen BK117.out 3
    have hfz24_4 := blk_frozen BK117.out 4
    have hfz24_5 := blk_frozen BK117.out 5
    go_wp2
    refine bodyPost_ret (results_cell_row rfl _ _ gb117 25 #[.int .i64 0, .int .i64 0, .int .i64 0, .string (⟨#[]⟩ : ByteArray), .string (⟨#[]⟩ : ByteArray), .int .i64 0] (0, 0) _ rfl (by (with_reducible repeat (first | refine bN ?_ _ | refine bD ?_ | refine bA ?_ _)); refine blk_put (cs := #[.int .i64 0, .int .i64 0, .int .i64 0, .string (⟨#[]⟩ : ByteArray), .string (⟨#[]⟩ : ByteArray), .int .i64 0]) ?_ 5 _ rfl; (with_reducible repeat (first | refine bN ?_ _ | refine bD ?_ | refine bA ?_ _)); refine blk_put (cs := #[.int .i64 0, .int .i64 0, .int .i64 0, .string (⟨#[]⟩ : ByteArray), .string (⟨#[]⟩ : ByteArray), .int .i64 0]) ?_ 4 _ rfl; (with_reducible repeat (first | refine bN ?_ _ | refine bD ?_ | refine bA ?_ _)); refine blk_put (cs := #[.int .i64 0, .int .i64 0, .int .i64 0, .string (⟨#[]⟩ : ByteArray), .string (⟨#[]⟩ : ByteArray), .int .i64 0]) ?_ 3 _ rfl; (with_reducible repeat (first | refine bN ?_ _ | refine bD ?_ | refine bA ?_ _)); refine blk_put (cs := #[.int .i64 0, .int .i64 0, .int .i64 0, .string (⟨#[]⟩ : ByteArray), .string (⟨#[]⟩ : ByteArray), .int .i64 0]) ?_ 2 _ rfl; (with_reducible repeat (first | refine bN ?_ _ | refine bD ?_ | refine bA ?_ _)); refine blk_put (cs := #[.int .i64 0, .int .i64 0, .int .i64 0, .string (⟨#[]⟩ : ByteArray), .string (⟨#[]⟩ : ByteArray), .int .i64 0]) ?_ 1 _ rfl; (with_reducible repeat (first | refine bN ?_ _ | refine bD ?_ | refine bA ?_ _)); refine blk_put (cs := #[.int .i64 0, .int .i64 0, .int .i64 0, .string (⟨#[]⟩ : ByteArray), .string (⟨#[]⟩ : ByteArray), .int .i64 0]) ?_ 0 _ rfl; (with_reducible repeat (first | refine bN ?_ _ | refine bD ?_ | refine bA ?_ _)); exact BK117.out) Tryd.underlying25 rfl (by kernel_rfl)) rfl ?_
    exact ⟨by first | rfl | (simp [errW_none, errW_some] <;> rfl) | (simp [*, errW_none, errW_some] <;> rfl), by repeat (first | (with_reducible first | exact HB.out | apply wA | apply wN | apply wD | refine bS ?_ GE115.out | refine bS ?_ GE116.out | refine bS ?_ GE117.out) | exact HB.out)⟩
   ·replace c21 := Bool.eq_false_iff.mpr c21
    subst c21
    have H1 : (if a1_0 = (-1) then (spec_Laid.j1 kj2 a0_0 a0_1 a0_2 a0_3 a0_4 a0_5 a1_0 a1_1 a1_2 a1_3 a1_4 a1_5) else (spec_Laid.j1 kj2 a1_0 a1_1 a0_2 a0_3 a0_4 a0_5 a1_0 a1_1 a1_2 a1_3 a1_4 a1_5)) = some (r1, r2, r3, r4, r5, r6) := by rw [if_neg (show ¬ (false = true) by decide)] at H; exact H
    clear H
    have H := H1
    clear H1
    have HC25 := Aside0.mk H
    clear H
    have hnb26 := NB116_115.out
    have hnc26 := NB115_116.out
    have hnb27 := NB116_117.out
    have hnc27 := NB117_116.out
    have hcz28_0 : wc.cell? ⟨gb116, 0, none⟩ = some (.int .i64 a1_0) := bC BK116.out 0 rfl
    have hcz28_1 : wc.cell? ⟨gb116, 1, none⟩ = some (.int .i64 a1_1) := bC BK116.out 1 rfl
    have hcz28_2 : wc.cell? ⟨gb116, 2, none⟩ = some (.int .i64 a1_2) := bC BK116.out 2 rfl
    have hcz28_3 : wc.cell? ⟨gb116, 3, none⟩ = some (.string a1_3) := bC BK116.out 3 rfl
    have hcz28_4 : wc.cell? ⟨gb116, 4, none⟩ = some (.string a1_4) := bC BK116.out 4 rfl
    have hcz28_5 : wc.cell? ⟨gb116, 5, none⟩ = some (.int .i64 a1_5) := bC BK116.out 5 rfl
    have hfz28_0 := blk_frozen BK116.out 0
    have hfz28_1 := blk_frozen BK116.out 1
    have hfz28_2 := blk_frozen BK116.out 2
    have hfz28_3 := blk_frozen BK116.out 3
    have hfz28_4 := blk_frozen BK116.out 4
    have hfz28_5 := blk_frozen BK116.out 5
    go_upto_if 16 with (fail)
    go_cut [] (fun wc => ∃ (kq : Nat) (x116000_24 : Int) (x116001_24 : Int), Aside0 (spec_Laid.j1 kq x116000_24 x116001_24 a0_2 a0_3 a0_4 a0_5 a1_0 a1_1 a1_2 a1_3 a1_4 a1_5 = some (r1, r2, r3, r4, r5, r6)) ∧ Aside0 (kq ≤ kj2) ∧ Aside0 (wc.heap[gb115]? = some (.cells #[.int .i64 x116000_24, .int .i64 x116001_24, .int .i64 a0_2, .string a0_3, .string a0_4, .int .i64 a0_5] 25 (0, 0))) ∧ Aside0 (wc.heap[gb116]? = some (.cells #[.int .i64 a1_0, .int .i64 a1_1, .int .i64 a1_2, .string a1_3, .string a1_4, .int .i64 a1_5] 25 (0, 0))) ∧ Aside0 (wc.heap[gb117]? = some (.cells #[.int .i64 0, .int .i64 0, .int .i64 0, .string (⟨#[]⟩ : ByteArray), .string (⟨#[]⟩ : ByteArray), .int .i64 0] 25 (0, 0))) ∧ Aside0 (Below w.heap.size w wc))
    case first =>
     have H := HC25.out
     clear HC25
     by_cases c29 : a1_0 = (-1)
     ·rw [if_pos c29] at H
      have c29b0 : (a1_0 == (-1)) = true := beq_iff_eq.mpr c29
      have c29b1 : (a1_0 != (-1)) = false := bne_eq_false_iff_eq.mpr c29
      clear c29
      (first | rw [c29b0] | (simp only [i64_w, i32_w]; rw [c29b0]) | skip)
      have H' := Aside0.mk H
      clear H
      go_wp2
      go_meet
      case rel => exact ⟨_, (a0_0), (a0_1), H', ⟨by have := HJ2.out; first | omega | exact Nat.le_refl _⟩, ⟨by (with_reducible repeat (first | refine bN ?_ _ | refine bD ?_ | refine bA ?_ _)); exact BK115.out⟩, ⟨by (with_reducible repeat (first | refine bN ?_ _ | refine bD ?_ | refine bA ?_ _)); exact BK116.out⟩, ⟨by (with_reducible repeat (first | refine bN ?_ _ | refine bD ?_ | refine bA ?_ _)); exact BK117.out⟩, ⟨by repeat (first | (with_reducible first | exact HB.out | apply wA | apply wN | apply wD | refine bS ?_ GE115.out | refine bS ?_ GE116.out | refine bS ?_ GE117.out) | exact HB.out)⟩⟩
     ·rw [if_neg c29] at H
      have c29b0 : (a1_0 == (-1)) = false := beq_eq_false_iff_ne.mpr c29
      have c29b1 : (a1_0 != (-1)) = true := bne_iff_ne.mpr c29
      (first | rw [c29b0] | (simp only [i64_w, i32_w]; rw [c29b0]) | skip)
      have H' := Aside0.mk H
      clear H
      have hnb30 := NB116_115.out
      have hnc30 := NB115_116.out
      have hnb31 := NB116_117.out
      have hnc31 := NB117_116.out
      have hcz32_0 : wc.cell? ⟨gb116, 0, none⟩ = some (.int .i64 a1_0) := bC BK116.out 0 rfl
      have hcz32_1 : wc.cell? ⟨gb116, 1, none⟩ = some (.int .i64 a1_1) := bC BK116.out 1 rfl
      have hcz32_2 : wc.cell? ⟨gb116, 2, none⟩ = some (.int .i64 a1_2) := bC BK116.out 2 rfl
      have hcz32_3 : wc.cell? ⟨gb116, 3, none⟩ = some (.string a1_3) := bC BK116.out 3 rfl
      have hcz32_4 : wc.cell? ⟨gb116, 4, none⟩ = some (.string a1_4) := bC BK116.out 4 rfl
      have hcz32_5 : wc.cell? ⟨gb116, 5, none⟩ = some (.int .i64 a1_5) := bC BK116.out 5 rfl
      have hfz32_0 := blk_frozen BK116.out 0
      have hfz32_1 := blk_frozen BK116.out 1
      have hfz32_2 := blk_frozen BK116.out 2
      have hfz32_3 := blk_frozen BK116.out 3
      have hfz32_4 := blk_frozen BK116.out 4
      have hfz32_5 := blk_frozen BK116.out 5
      have hnb33 := NB115_117.out
      have hnc33 := NB117_115.out
      have hcz34_0 : wc.cell? ⟨gb115, 0, none⟩ = some (.int .i64 a0_0) := bC BK115.out 0 rfl
      have hcz34_1 : wc.cell? ⟨gb115, 1, none⟩ = some (.int .i64 a0_1) := bC BK115.out 1 rfl
      have hcz34_2 : wc.cell? ⟨gb115, 2, none⟩ = some (.int .i64 a0_2) := bC BK115.out 2 rfl
      have hcz34_3 : wc.cell? ⟨gb115, 3, none⟩ = some (.string a0_3) := bC BK115.out 3 rfl
      have hcz34_4 : wc.cell? ⟨gb115, 4, none⟩ = some (.string a0_4) := bC BK115.out 4 rfl
      have hcz34_5 : wc.cell? ⟨gb115, 5, none⟩ = some (.int .i64 a0_5) := bC BK115.out 5 rfl
      have hfz34_0 := blk_frozen BK115.out 0
      have hfz34_1 := blk_frozen BK115.out 1
      have hfz34_2 := blk_frozen BK115.out 2
      have hfz34_3 := blk_frozen BK115.out 3
      have hfz34_4 := blk_frozen BK115.out 4
      have hfz34_5 := blk_frozen BK115.out 5
      go_wp2
      go_meet
      case rel => exact ⟨_, (a1_0), (a1_1), H', ⟨by have := HJ2.out; first | omega | exact Nat.le_refl _⟩, ⟨by (with_reducible repeat (first | refine bN ?_ _ | refine bD ?_ | refine bA ?_ _)); refine blk_put (cs := #[.int .i64 a1_0, .int .i64 a0_1, .int .i64 a0_2, .string a0_3, .string a0_4, .int .i64 a0_5]) ?_ 1 _ rfl; (with_reducible repeat (first | refine bN ?_ _ | refine bD ?_ | refine bA ?_ _)); refine blk_put (cs := #[.int .i64 a0_0, .int .i64 a0_1, .int .i64 a0_2, .string a0_3, .string a0_4, .int .i64 a0_5]) ?_ 0 _ rfl; (with_reducible repeat (first | refine bN ?_ _ | refine bD ?_ | refine bA ?_ _)); exact BK115.out⟩, ⟨by (with_reducible repeat (first | refine bN ?_ _ | refine bD ?_ | refine bA ?_ _)); refine blk_far ?_ NB116_115.out _; (with_reducible repeat (first | refine bN ?_ _ | refine bD ?_ | refine bA ?_ _)); refine blk_far ?_ NB116_115.out _; (with_reducible repeat (first | refine bN ?_ _ | refine bD ?_ | refine bA ?_ _)); exact BK116.out⟩, ⟨by (with_reducible repeat (first | refine bN ?_ _ | refine bD ?_ | refine bA ?_ _)); refine blk_far ?_ NB117_115.out _; (with_reducible repeat (first | refine bN ?_ _ | refine bD ?_ | refine bA ?_ _)); refine blk_far ?_ NB117_115.out _; (with_reducible repeat (first | refine bN ?_ _ | refine bD ?_ | refine bA ?_ _)); exact BK117.out⟩, ⟨by repeat (first | (with_reducible first | exact HB.out | apply wA | apply wN | apply wD | refine bS ?_ GE115.out | refine bS ?_ GE116.out | refine bS ?_ GE117.out) | exact HB.out)⟩⟩
    case rest =>
     clear HC25
     try clear c1
     try clear c2
     try clear p2
     try clear c3
     try clear c6
     try clear c8
     try clear c10
     try clear c11
     try clear c12
     try clear c14
     try clear c17
     try clear c18
     try clear c21
     try clear c22
     try clear c23
     try clear c26
     try clear c27
     try clear c29
     try clear c29b0
     try clear c29b1
     try clear c30
     try clear c31
     try clear c33
     try clear hcz12_0
     try clear hcz12_1
     try clear hcz12_2
     try clear hcz12_3
     try clear hcz12_4
     try clear hcz12_5
     try clear hcz15_0
     try clear hcz15_1
     try clear hcz15_2
     try clear hcz15_3
     try clear hcz15_4
     try clear hcz15_5
     try clear hcz19_0
     try clear hcz19_1
     try clear hcz19_2
     try clear hcz19_3
     try clear hcz19_4
     try clear hcz19_5
     try clear hcz24_0
     try clear hcz24_1
     try clear hcz24_2
     try clear hcz24_3
     try clear hcz24_4
     try clear hcz24_5
     try clear hcz28_0
     try clear hcz28_1
     try clear hcz28_2
     try clear hcz28_3
     try clear hcz28_4
     try clear hcz28_5
     try clear hcz32_0
     try clear hcz32_1
     try clear hcz32_2
     try clear hcz32_3
     try clear hcz32_4
     try clear hcz32_5
     try clear hcz34_0
     try clear hcz34_1
     try clear hcz34_2
     try clear hcz34_3
     try clear hcz34_4
     try clear hcz34_5
     try clear hfz12_0
     try clear hfz12_1
     try clear hfz12_2
     try clear hfz12_3
     try clear hfz12_4
     try clear hfz12_5
     try clear hfz15_0
     try clear hfz15_1
     try clear hfz15_2
     try clear hfz15_3
     try clear hfz15_4
     try clear hfz15_5
     try clear hfz19_0
     try clear hfz19_1
     try clear hfz19_2
     try clear hfz19_3
     try clear hfz19_4
     try clear hfz19_5
     try clear hfz24_0
     try clear hfz24_1
     try clear hfz24_2
     try clear hfz24_3
     try clear hfz24_4
     try clear hfz24_5
     try clear hfz28_0
     try clear hfz28_1
     try clear hfz28_2
     try clear hfz28_3
     try clear hfz28_4
     try clear hfz28_5
     try clear hfz32_0
     try clear hfz32_1
     try clear hfz32_2
     try clear hfz32_3
     try clear hfz32_4
     try clear hfz32_5
     try clear hfz34_0
     try clear hfz34_1
     try clear hfz34_2
     try clear hfz34_3
     try clear hfz34_4
     try clear hfz34_5
     try clear p2
     obtain ⟨kq, x116000_24, x116001_24, HA, HJ24, BK115, BK116, BK117, HB⟩ := hcut
     cases kq with
     | zero => exact absurd HA.out (by simp [spec_Laid.j1])
     | succ kj24 =>
      have H := HA.out
      clear HA
      simp only [spec_Laid.j1] at H
      have HC35 := Aside0.mk H
      clear H
      have hnb36 := NB116_115.out
      have hnc36 := NB115_116.out
      have hnb37 := NB116_117.out
      have hnc37 := NB117_116.out
      have hcz38_0 : wc.cell? ⟨gb116, 0, none⟩ = some (.int .i64 a1_0) := bC BK116.out 0 rfl
      have hcz38_1 : wc.cell? ⟨gb116, 1, none⟩ = some (.int .i64 a1_1) := bC BK116.out 1 rfl
      have hcz38_2 : wc.cell? ⟨gb116, 2, none⟩ = some (.int .i64 a1_2) := bC BK116.out 2 rfl
      have hcz38_3 : wc.cell? ⟨gb116, 3, none⟩ = some (.string a1_3) := bC BK116.out 3 rfl
      have hcz38_4 : wc.cell? ⟨gb116, 4, none⟩ = some (.string a1_4) := bC BK116.out 4 rfl
      have hcz38_5 : wc.cell? ⟨gb116, 5, none⟩ = some (.int .i64 a1_5) := bC BK116.out 5 rfl
      have hfz38_0 := blk_frozen BK116.out 0
      have hfz38_1 := blk_frozen BK116.out 1
      have hfz38_2 := blk_frozen BK116.out 2
      have hfz38_3 := blk_frozen BK116.out 3
      have hfz38_4 := blk_frozen BK116.out 4
      have hfz38_5 := blk_frozen BK116.out 5
      go_upto_if 25 with (fail)
      go_cut [] (fun wc => ∃ (kq : Nat) (x116002_34 : Int), Aside0 (spec_Laid.j2 kq x116000_24 x116001_24 x116002_34 a0_3 a0_4 a0_5 a1_0 a1_1 a1_2 a1_3 a1_4 a1_5 = some (r1, r2, r3, r4, r5, r6)) ∧ Aside0 (kq ≤ kj24) ∧ Aside0 (wc.heap[gb115]? = some (.cells #[.int .i64 x116000_24, .int .i64 x116001_24, .int .i64 x116002_34, .string a0_3, .string a0_4, .int .i64 a0_5] 25 (0, 0))) ∧ Aside0 (wc.heap[gb116]? = some (.cells #[.int .i64 a1_0, .int .i64 a1_1, .int .i64 a1_2, .string a1_3, .string a1_4, .int .i64 a1_5] 25 (0, 0))) ∧ Aside0 (wc.heap[gb117]? = some (.cells #[.int .i64 0, .int .i64 0, .int .i64 0, .string (⟨#[]⟩ : ByteArray), .string (⟨#[]⟩ : ByteArray), .int .i64 0] 25 (0, 0))) ∧ Aside0 (Below w.heap.size w wc))
      case first =>
       have H := HC35.out
       clear HC35
       by_cases c39 : a1_2 = (-1)
       ·rw [if_pos c39] at H
        have c39b0 : (a1_2 == (-1)) = true := beq_iff_eq.mpr c39
        have c39b1 : (a1_2 != (-1)) = false := bne_eq_false_iff_eq.mpr c39
        clear c39
        (first | rw [c39b0] | (simp only [i64_w, i32_w]; rw [c39b0]) | skip)
        have H' := Aside0.mk H
        clear H
        go_wp2
        go_meet
        case rel => exact ⟨_, (a0_2), H', ⟨by have := HJ2.out; have := HJ24.out; first | omega | exact Nat.le_refl _⟩, ⟨by (with_reducible repeat (first | refine bN ?_ _ | refine bD ?_ | refine bA ?_ _)); exact BK115.out⟩, ⟨by (with_reducible repeat (first | refine bN ?_ _ | refine bD ?_ | refine bA ?_ _)); exact BK116.out⟩, ⟨by (with_reducible repeat (first | refine bN ?_ _ | refine bD ?_ | refine bA ?_ _)); exact BK117.out⟩, ⟨by repeat (first | (with_reducible first | exact HB.out | apply wA | apply wN | apply wD | refine bS ?_ GE115.out | refine bS ?_ GE116.out | refine bS ?_ GE117.out) | exact HB.out)⟩⟩
       ·rw [if_neg c39] at H
        have c39b0 : (a1_2 == (-1)) = false := beq_eq_false_iff_ne.mpr c39
        have c39b1 : (a1_2 != (-1)) = true := bne_iff_ne.mpr c39
        (first | rw [c39b0] | (simp only [i64_w, i32_w]; rw [c39b0]) | skip)
        have H' := Aside0.mk H
        clear H
        have hnb40 := NB116_115.out
        have hnc40 := NB115_116.out
        have hnb41 := NB116_117.out
        have hnc41 := NB117_116.out
        have hcz42_0 : wc.cell? ⟨gb116, 0, none⟩ = some (.int .i64 a1_0) := bC BK116.out 0 rfl
        have hcz42_1 : wc.cell? ⟨gb116, 1, none⟩ = some (.int .i64 a1_1) := bC BK116.out 1 rfl
        have hcz42_2 : wc.cell? ⟨gb116, 2, none⟩ = some (.int .i64 a1_2) := bC BK116.out 2 rfl
        have hcz42_3 : wc.cell? ⟨gb116, 3, none⟩ = some (.string a1_3) := bC BK116.out 3 rfl
        have hcz42_4 : wc.cell? ⟨gb116, 4, none⟩ = some (.string a1_4) := bC BK116.out 4 rfl
        have hcz42_5 : wc.cell? ⟨gb116, 5, none⟩ = some (.int .i64 a1_5) := bC BK116.out 5 rfl
        have hfz42_0 := blk_frozen BK116.out 0
        have hfz42_1 := blk_frozen BK116.out 1
        have hfz42_2 := blk_frozen BK116.out 2
        have hfz42_3 := blk_frozen BK116.out 3
        have hfz42_4 := blk_frozen BK116.out 4
        have hfz42_5 := blk_frozen BK116.out 5
        have hnb43 := NB115_117.out
        have hnc43 := NB117_115.out
        have hcz44_0 : wc.cell? ⟨gb115, 0, none⟩ = some (.int .i64 x116000_24) := bC BK115.out 0 rfl
        have hcz44_1 : wc.cell? ⟨gb115, 1, none⟩ = some (.int .i64 x116001_24) := bC BK115.out 1 rfl
        have hcz44_2 : wc.cell? ⟨gb115, 2, none⟩ = some (.int .i64 a0_2) := bC BK115.out 2 rfl
        have hcz44_3 : wc.cell? ⟨gb115, 3, none⟩ = some (.string a0_3) := bC BK115.out 3 rfl
        have hcz44_4 : wc.cell? ⟨gb115, 4, none⟩ = some (.string a0_4) := bC BK115.out 4 rfl
        have hcz44_5 : wc.cell? ⟨gb115, 5, none⟩ = some (.int .i64 a0_5) := bC BK115.out 5 rfl
        have hfz44_0 := blk_frozen BK115.out 0
        have hfz44_1 := blk_frozen BK115.out 1
        have hfz44_2 := blk_frozen BK115.out 2
        have hfz44_3 := blk_frozen BK115.out 3
        have hfz44_4 := blk_frozen BK115.out 4
        have hfz44_5 := blk_frozen BK115.out 5
        go_wp2
        go_meet
        case rel => exact ⟨_, (a1_2), H', ⟨by have := HJ2.out; have := HJ24.out; first | omega | exact Nat.le_refl _⟩, ⟨by (with_reducible repeat (first | refine bN ?_ _ | refine bD ?_ | refine bA ?_ _)); refine blk_put (cs := #[.int .i64 x116000_24, .int .i64 x116001_24, .int .i64 a0_2, .string a0_3, .string a0_4, .int .i64 a0_5]) ?_ 2 _ rfl; (with_reducible repeat (first | refine bN ?_ _ | refine bD ?_ | refine bA ?_ _)); exact BK115.out⟩, ⟨by (with_reducible repeat (first | refine bN ?_ _ | refine bD ?_ | refine bA ?_ _)); refine blk_far ?_ NB116_115.out _; (with_reducible repeat (first | refine bN ?_ _ | refine bD ?_ | refine bA ?_ _)); exact BK116.out⟩, ⟨by (with_reducible repeat (first | refine bN ?_ _ | refine bD ?_ | refine bA ?_ _)); refine blk_far ?_ NB117_115.out _; (with_reducible repeat (first | refine bN ?_ _ | refine bD ?_ | refine bA ?_ _)); exact BK117.out⟩, ⟨by repeat (first | (with_reducible first | exact HB.out | apply wA | apply wN | apply wD | refine bS ?_ GE115.out | refine bS ?_ GE116.out | refine bS ?_ GE117.out) | exact HB.out)⟩⟩
      case rest =>
       clear HC35
       try clear c1
       try clear c2
       try clear p2
       try clear c3
       try clear c4
       try clear c6
       try clear c8
       try clear c10
       try clear c11
       try clear c12
       try clear c14
       try clear c17
       try clear c18
       try clear c21
       try clear c22
       try clear c23
       try clear c26
       try clear c27
       try clear c29
       try clear c29b0
       try clear c29b1
       try clear c30
       try clear c31
       try clear c33
       try clear c36
       try clear c37
       try clear c39
       try clear c39b0
       try clear c39b1
       try clear c40
       try clear c41
       try clear c43
       try clear hcz12_0
       try clear hcz12_1
       try clear hcz12_2
       try clear hcz12_3
       try clear hcz12_4
       try clear hcz12_5
       try clear hcz15_0
       try clear hcz15_1
       try clear hcz15_2
       try clear hcz15_3
       try clear hcz15_4
       try clear hcz15_5
       try clear hcz19_0
       try clear hcz19_1
       try clear hcz19_2
       try clear hcz19_3
       try clear hcz19_4
       try clear hcz19_5
       try clear hcz24_0
       try clear hcz24_1
       try clear hcz24_2
       try clear hcz24_3
       try clear hcz24_4
       try clear hcz24_5
       try clear hcz28_0
       try clear hcz28_1
       try clear hcz28_2
       try clear hcz28_3
       try clear hcz28_4
       try clear hcz28_5
       try clear hcz32_0
       try clear hcz32_1
       try clear hcz32_2
       try clear hcz32_3
       try clear hcz32_4
       try clear hcz32_5
       try clear hcz34_0
       try clear hcz34_1
       try clear hcz34_2
       try clear hcz34_3
       try clear hcz34_4
       try clear hcz34_5
       try clear hcz38_0
       try clear hcz38_1
       try clear hcz38_2
       try clear hcz38_3
       try clear hcz38_4
       try clear hcz38_5
       try clear hcz42_0
       try clear hcz42_1
       try clear hcz42_2
       try clear hcz42_3
       try clear hcz42_4
       try clear hcz42_5
       try clear hcz44_0
       try clear hcz44_1
       try clear hcz44_2
       try clear hcz44_3
       try clear hcz44_4
       try clear hcz44_5
       try clear hfz12_0
       try clear hfz12_1
       try clear hfz12_2
       try clear hfz12_3
       try clear hfz12_4
       try clear hfz12_5
       try clear hfz15_0
       try clear hfz15_1
       try clear hfz15_2
       try clear hfz15_3
       try clear hfz15_4
       try clear hfz15_5
       try clear hfz19_0
       try clear hfz19_1
       try clear hfz19_2
       try clear hfz19_3
       try clear hfz19_4
       try clear hfz19_5
       try clear hfz24_0
       try clear hfz24_1
       try clear hfz24_2
       try clear hfz24_3
       try clear hfz24_4
       try clear hfz24_5
       try clear hfz28_0
       try clear hfz28_1
       try clear hfz28_2
       try clear hfz28_3
       try clear hfz28_4
       try clear hfz28_5
       try clear hfz32_0
       try clear hfz32_1
       try clear hfz32_2
       try clear hfz32_3
       try clear hfz32_4
       try clear hfz32_5
       try clear hfz34_0
       try clear hfz34_1
       try clear hfz34_2
       try clear hfz34_3
       try clear hfz34_4
       try clear hfz34_5
       try clear hfz38_0
       try clear hfz38_1
       try clear hfz38_2
       try clear hfz38_3
       try clear hfz38_4
       try clear hfz38_5
       try clear hfz42_0
       try clear hfz42_1
       try clear hfz42_2
       try clear hfz42_3
       try clear hfz42_4
       try clear hfz42_5
       try clear hfz44_0
       try clear hfz44_1
       try clear hfz44_2
       try clear hfz44_3
       try clear hfz44_4
       try clear hfz44_5
       try clear p2
       obtain ⟨kq, x116002_34, HA, HJ34, BK115, BK116, BK117, HB⟩ := hcut
       cases kq with
       | zero => exact absurd HA.out (by simp [spec_Laid.j2])
       | succ kj34 =>
        have H := HA.out
        clear HA
        simp only [spec_Laid.j2] at H
        by_cases c45 : a1_3.toList = ([] : List UInt8)
        ·rw [if_pos c45] at H
         have c45b0 : a1_3.toList.isEmpty = true := by rw [c45]; rfl
         have c45b1 : (!a1_3.toList.isEmpty) = false := by rw [c45]; rfl
         have c45b2 : (a1_3.toList == ([] : List UInt8)) = true := beq_iff_eq.mpr c45
         clear c45
         by_cases c46 : a1_4.toList = ([] : List UInt8)
         ·rw [if_pos c46] at H
          have c46b0 : a1_4.toList.isEmpty = true := by rw [c46]; rfl
          have c46b1 : (!a1_4.toList.isEmpty) = false := by rw [c46]; rfl
          have c46b2 : (a1_4.toList == ([] : List UInt8)) = true := beq_iff_eq.mpr c46
          clear c46
          simp only [Option.some.injEq, Prod.mk.injEq] at H
          obtain ⟨rfl, rfl, rfl, rfl, rfl, rfl⟩ := H
          have hnb47 := NB116_115.out
          have hnc47 := NB115_116.out
          have hnb48 := NB116_117.out
          have hnc48 := NB117_116.out
          have hcz49_0 : wc.cell? ⟨gb116, 0, none⟩ = some (.int .i64 a1_0) := bC BK116.out 0 rfl
          have hcz49_1 : wc.cell? ⟨gb116, 1, none⟩ = some (.int .i64 a1_1) := bC BK116.out 1 rfl
          have hcz49_2 : wc.cell? ⟨gb116, 2, none⟩ = some (.int .i64 a1_2) := bC BK116.out 2 rfl
          have hcz49_3 : wc.cell? ⟨gb116, 3, none⟩ = some (.string a1_3) := bC BK116.out 3 rfl
          have hcz49_4 : wc.cell? ⟨gb116, 4, none⟩ = some (.string a1_4) := bC BK116.out 4 rfl
          have hcz49_5 : wc.cell? ⟨gb116, 5, none⟩ = some (.int .i64 a1_5) := bC BK116.out 5 rfl
          have hfz49_0 := blk_frozen BK116.out 0
          have hfz49_1 := blk_frozen BK116.out 1
          have hfz49_2 := blk_frozen BK116.out 2
          have hfz49_3 := blk_frozen BK116.out 3
          have hfz49_4 := blk_frozen BK116.out 4
          have hfz49_5 := blk_frozen BK116.out 5
          have hnb50 := NB115_117.out
          have hnc50 := NB117_115.out
          have hcz51_0 : wc.cell? ⟨gb115, 0, none⟩ = some (.int .i64 x116000_24) := bC BK115.out 0 rfl
          have hcz51_1 : wc.cell? ⟨gb115, 1, none⟩ = some (.int .i64 x116001_24) := bC BK115.out 1 rfl
          have hcz51_2 : wc.cell? ⟨gb115, 2, none⟩ = some (.int .i64 x116002_34) := bC BK115.out 2 rfl
          have hcz51_3 : wc.cell? ⟨gb115, 3, none⟩ = some (.string a0_3) := bC BK115.out 3 rfl
          have hcz51_4 : wc.cell? ⟨gb115, 4, none⟩ = some (.string a0_4) := bC BK115.out 4 rfl
          have hcz51_5 : wc.cell? ⟨gb115, 5, none⟩ = some (.int .i64 a0_5) := bC BK115.out 5 rfl
          have hfz51_0 := blk_frozen BK115.out 0
          have hfz51_1 := blk_frozen BK115.out 1
          have hfz51_2 := blk_frozen BK115.out 2
          have hfz51_3 := blk_frozen BK115.out 3
          have hfz51_4 := blk_frozen BK115.out 4
          have hfz51_5 := blk_frozen BK115.out 5
          have hcz52_0 : wc.cell? ⟨gb117, 0, none⟩ = some (.int .i64 0) := bC BK117.out 0 rfl
          have hcz52_1 : wc.cell? ⟨gb117, 1, none⟩ = some (.int .i64 0) := bC BK117.out 1 rfl
          have hcz52_2 : wc.cell? ⟨gb117, 2, none⟩ = some (.int .i64 0) := bC BK117.out 2 rfl
          have hcz52_3 : wc.cell? ⟨gb117, 3, none⟩ = some (.string (⟨#[]⟩ : ByteArray)) := bC BK117.out 3 rfl
          have hcz52_4 : wc.cell? ⟨gb117, 4, none⟩ = some (.string (⟨#[]⟩ : ByteArray)) := bC BK117.out 4 rfl
          have hcz52_5 : wc.cell? ⟨gb117, 5, none⟩ = some (.int .i64 0) := bC BK117.out 5 rfl
          have hfz52_0 := blk_frozen BK117.out 0
          have hfz52_1 := blk_frozen BK117.out 1
          have hfz52_2 := blk_frozen BK117.out 2
          have hfz52_3 := blk_frozen BK117.out 3
          have hfz52_4 := blk_frozen BK117.out 4
          have hfz52_5 := blk_frozen BK117.out 5
          go_wp2
          refine bodyPost_ret (results_cell_row rfl _ _ gb117 25 #[.int .i64 x116000_24, .int .i64 x116001_24, .int .i64 x116002_34, .string a0_3, .string a0_4, .int .i64 a0_5] (0, 0) _ rfl (by (with_reducible repeat (first | refine bN ?_ _ | refine bD ?_ | refine bA ?_ _)); refine blk_put (cs := #[.int .i64 x116000_24, .int .i64 x116001_24, .int .i64 x116002_34, .string a0_3, .string a0_4, .int .i64 0]) ?_ 5 _ rfl; (with_reducible repeat (first | refine bN ?_ _ | refine bD ?_ | refine bA ?_ _)); refine blk_put (cs := #[.int .i64 x116000_24, .int .i64 x116001_24, .int .i64 x116002_34, .string a0_3, .string (⟨#[]⟩ : ByteArray), .int .i64 0]) ?_ 4 _ rfl; (with_reducible repeat (first | refine bN ?_ _ | refine bD ?_ | refine bA ?_ _)); refine blk_put (cs := #[.int .i64 x116000_24, .int .i64 x116001_24, .int .i64 x116002_34, .string (⟨#[]⟩ : ByteArray), .string (⟨#[]⟩ : ByteArray), .int .i64 0]) ?_ 3 _ rfl; (with_reducible repeat (first | refine bN ?_ _ | refine bD ?_ | refine bA ?_ _)); refine blk_put (cs := #[.int .i64 x116000_24, .int .i64 x116001_24, .int .i64 0, .string (⟨#[]⟩ : ByteArray), .string (⟨#[]⟩ : ByteArray), .int .i64 0]) ?_ 2 _ rfl; (with_reducible repeat (first | refine bN ?_ _ | refine bD ?_ | refine bA ?_ _)); refine blk_put (cs := #[.int .i64 x116000_24, .int .i64 0, .int .i64 0, .string (⟨#[]⟩ : ByteArray), .string (⟨#[]⟩ : ByteArray), .int .i64 0]) ?_ 1 _ rfl; (with_reducible repeat (first | refine bN ?_ _ | refine bD ?_ | refine bA ?_ _)); refine blk_put (cs := #[.int .i64 0, .int .i64 0, .int .i64 0, .string (⟨#[]⟩ : ByteArray), .string (⟨#[]⟩ : ByteArray), .int .i64 0]) ?_ 0 _ rfl; (with_reducible repeat (first | refine bN ?_ _ | refine bD ?_ | refine bA ?_ _)); exact BK117.out) Tryd.underlying25 rfl (by kernel_rfl)) rfl ?_
          exact ⟨by first | rfl | (simp [errW_none, errW_some] <;> rfl) | (simp [*, errW_none, errW_some] <;> rfl), by repeat (first | (with_reducible first | exact HB.out | apply wA | apply wN | apply wD | refine bS ?_ GE115.out | refine bS ?_ GE116.out | refine bS ?_ GE117.out) | exact HB.out)⟩
         ·rw [if_neg c46] at H
          have c46b0 : a1_4.toList.isEmpty = false := by simpa using c46
          have c46b1 : (!a1_4.toList.isEmpty) = true := by simpa using c46
          have c46b2 : (a1_4.toList == ([] : List UInt8)) = false := beq_eq_false_iff_ne.mpr c46
          simp only [Option.some.injEq, Prod.mk.injEq] at H
          obtain ⟨rfl, rfl, rfl, rfl, rfl, rfl⟩ := H
          have hnb53 := NB116_115.out
          have hnc53 := NB115_116.out
          have hnb54 := NB116_117.out
          have hnc54 := NB117_116.out
          have hcz55_0 : wc.cell? ⟨gb116, 0, none⟩ = some (.int .i64 a1_0) := bC BK116.out 0 rfl
          have hcz55_1 : wc.cell? ⟨gb116, 1, none⟩ = some (.int .i64 a1_1) := bC BK116.out 1 rfl
          have hcz55_2 : wc.cell? ⟨gb116, 2, none⟩ = some (.int .i64 a1_2) := bC BK116.out 2 rfl
          have hcz55_3 : wc.cell? ⟨gb116, 3, none⟩ = some (.string a1_3) := bC BK116.out 3 rfl
          have hcz55_4 : wc.cell? ⟨gb116, 4, none⟩ = some (.string a1_4) := bC BK116.out 4 rfl
          have hcz55_5 : wc.cell? ⟨gb116, 5, none⟩ = some (.int .i64 a1_5) := bC BK116.out 5 rfl
          have hfz55_0 := blk_frozen BK116.out 0
          have hfz55_1 := blk_frozen BK116.out 1
          have hfz55_2 := blk_frozen BK116.out 2
          have hfz55_3 := blk_frozen BK116.out 3
          have hfz55_4 := blk_frozen BK116.out 4
          have hfz55_5 := blk_frozen BK116.out 5
          have hnb56 := NB115_117.out
          have hnc56 := NB117_115.out
          have hcz57_0 : wc.cell? ⟨gb115, 0, none⟩ = some (.int .i64 x116000_24) := bC BK115.out 0 rfl
          have hcz57_1 : wc.cell? ⟨gb115, 1, none⟩ = some (.int .i64 x116001_24) := bC BK115.out 1 rfl
          have hcz57_2 : wc.cell? ⟨gb115, 2, none⟩ = some (.int .i64 x116002_34) := bC BK115.out 2 rfl
          have hcz57_3 : wc.cell? ⟨gb115, 3, none⟩ = some (.string a0_3) := bC BK115.out 3 rfl
          have hcz57_4 : wc.cell? ⟨gb115, 4, none⟩ = some (.string a0_4) := bC BK115.out 4 rfl
          have hcz57_5 : wc.cell? ⟨gb115, 5, none⟩ = some (.int .i64 a0_5) := bC BK115.out 5 rfl
          have hfz57_0 := blk_frozen BK115.out 0
          have hfz57_1 := blk_frozen BK115.out 1
          have hfz57_2 := blk_frozen BK115.out 2
          have hfz57_3 := blk_frozen BK115.out 3
          have hfz57_4 := blk_frozen BK115.out 4
          have hfz57_5 := blk_frozen BK115.out 5
          have hcz58_0 : wc.cell? ⟨gb117, 0, none⟩ = some (.int .i64 0) := bC BK117.out 0 rfl
          have hcz58_1 : wc.cell? ⟨gb117, 1, none⟩ = some (.int .i64 0) := bC BK117.out 1 rfl
          have hcz58_2 : wc.cell? ⟨gb117, 2, none⟩ = some (.int .i64 0) := bC BK117.out 2 rfl
          have hcz58_3 : wc.cell? ⟨gb117, 3, none⟩ = some (.string (⟨#[]⟩ : ByteArray)) := bC BK117.out 3 rfl
          have hcz58_4 : wc.cell? ⟨gb117, 4, none⟩ = some (.string (⟨#[]⟩ : ByteArray)) := bC BK117.out 4 rfl
          have hcz58_5 : wc.cell? ⟨gb117, 5, none⟩ = some (.int .i64 0) := bC BK117.out 5 rfl
          have hfz58_0 := blk_frozen BK117.out 0
          have hfz58_1 := blk_frozen BK117.out 1
          have hfz58_2 := blk_frozen BK117.out 2
          have hfz58_3 := blk_frozen BK117.out 3
          have hfz58_4 := blk_frozen BK117.out 4
          have hfz58_5 := blk_frozen BK117.out 5
          go_wp2
          refine bodyPost_ret (results_cell_row rfl _ _ gb117 25 #[.int .i64 x116000_24, .int .i64 x116001_24, .int .i64 x116002_34, .string a0_3, .string a1_4, .int .i64 a1_5] (0, 0) _ rfl (by (with_reducible repeat (first | refine bN ?_ _ | refine bD ?_ | refine bA ?_ _)); refine blk_put (cs := #[.int .i64 x116000_24, .int .i64 x116001_24, .int .i64 x116002_34, .string a0_3, .string a1_4, .int .i64 0]) ?_ 5 _ rfl; (with_reducible repeat (first | refine bN ?_ _ | refine bD ?_ | refine bA ?_ _)); refine blk_put (cs := #[.int .i64 x116000_24, .int .i64 x116001_24, .int .i64 x116002_34, .string a0_3, .string (⟨#[]⟩ : ByteArray), .int .i64 0]) ?_ 4 _ rfl; (with_reducible repeat (first | refine bN ?_ _ | refine bD ?_ | refine bA ?_ _)); refine blk_put (cs := #[.int .i64 x116000_24, .int .i64 x116001_24, .int .i64 x116002_34, .string (⟨#[]⟩ : ByteArray), .string (⟨#[]⟩ : ByteArray), .int .i64 0]) ?_ 3 _ rfl; (with_reducible repeat (first | refine bN ?_ _ | refine bD ?_ | refine bA ?_ _)); refine blk_put (cs := #[.int .i64 x116000_24, .int .i64 x116001_24, .int .i64 0, .string (⟨#[]⟩ : ByteArray), .string (⟨#[]⟩ : ByteArray), .int .i64 0]) ?_ 2 _ rfl; (with_reducible repeat (first | refine bN ?_ _ | refine bD ?_ | refine bA ?_ _)); refine blk_put (cs := #[.int .i64 x116000_24, .int .i64 0, .int .i64 0, .string (⟨#[]⟩ : ByteArray), .string (⟨#[]⟩ : ByteArray), .int .i64 0]) ?_ 1 _ rfl; (with_reducible repeat (first | refine bN ?_ _ | refine bD ?_ | refine bA ?_ _)); refine blk_put (cs := #[.int .i64 0, .int .i64 0, .int .i64 0, .string (⟨#[]⟩ : ByteArray), .string (⟨#[]⟩ : ByteArray), .int .i64 0]) ?_ 0 _ rfl; (with_reducible repeat (first | refine bN ?_ _ | refine bD ?_ | refine bA ?_ _)); refine blk_far ?_ NB117_115.out _; (with_reducible repeat (first | refine bN ?_ _ | refine bD ?_ | refine bA ?_ _)); refine blk_far ?_ NB117_115.out _; (with_reducible repeat (first | refine bN ?_ _ | refine bD ?_ | refine bA ?_ _)); exact BK117.out) Tryd.underlying25 rfl (by kernel_rfl)) rfl ?_
          exact ⟨by first | rfl | (simp [errW_none, errW_some] <;> rfl) | (simp [*, errW_none, errW_some] <;> rfl), by repeat (first | (with_reducible first | exact HB.out | apply wA | apply wN | apply wD | refine bS ?_ GE115.out | refine bS ?_ GE116.out | refine bS ?_ GE117.out) | exact HB.out)⟩
        ·rw [if_neg c45] at H
         have c45b0 : a1_3.toList.isEmpty = false := by simpa using c45
         have c45b1 : (!a1_3.toList.isEmpty) = true := by simpa using c45
         have c45b2 : (a1_3.toList == ([] : List UInt8)) = false := beq_eq_false_iff_ne.mpr c45
         by_cases c59 : a1_4.toList = ([] : List UInt8)
         ·rw [if_pos c59] at H
          have c59b0 : a1_4.toList.isEmpty = true := by rw [c59]; rfl
          have c59b1 : (!a1_4.toList.isEmpty) = false := by rw [c59]; rfl
          have c59b2 : (a1_4.toList == ([] : List UInt8)) = true := beq_iff_eq.mpr c59
          clear c59
          simp only [Option.some.injEq, Prod.mk.injEq] at H
          obtain ⟨rfl, rfl, rfl, rfl, rfl, rfl⟩ := H
          have hnb60 := NB116_115.out
          have hnc60 := NB115_116.out
          have hnb61 := NB116_117.out
          have hnc61 := NB117_116.out
          have hcz62_0 : wc.cell? ⟨gb116, 0, none⟩ = some (.int .i64 a1_0) := bC BK116.out 0 rfl
          have hcz62_1 : wc.cell? ⟨gb116, 1, none⟩ = some (.int .i64 a1_1) := bC BK116.out 1 rfl
          have hcz62_2 : wc.cell? ⟨gb116, 2, none⟩ = some (.int .i64 a1_2) := bC BK116.out 2 rfl
          have hcz62_3 : wc.cell? ⟨gb116, 3, none⟩ = some (.string a1_3) := bC BK116.out 3 rfl
          have hcz62_4 : wc.cell? ⟨gb116, 4, none⟩ = some (.string a1_4) := bC BK116.out 4 rfl
          have hcz62_5 : wc.cell? ⟨gb116, 5, none⟩ = some (.int .i64 a1_5) := bC BK116.out 5 rfl
          have hfz62_0 := blk_frozen BK116.out 0
          have hfz62_1 := blk_frozen BK116.out 1
          have hfz62_2 := blk_frozen BK116.out 2
          have hfz62_3 := blk_frozen BK116.out 3
          have hfz62_4 := blk_frozen BK116.out 4
          have hfz62_5 := blk_frozen BK116.out 5
          have hnb63 := NB115_117.out
          have hnc63 := NB117_115.out
          have hcz64_0 : wc.cell? ⟨gb115, 0, none⟩ = some (.int .i64 x116000_24) := bC BK115.out 0 rfl
          have hcz64_1 : wc.cell? ⟨gb115, 1, none⟩ = some (.int .i64 x116001_24) := bC BK115.out 1 rfl
          have hcz64_2 : wc.cell? ⟨gb115, 2, none⟩ = some (.int .i64 x116002_34) := bC BK115.out 2 rfl
          have hcz64_3 : wc.cell? ⟨gb115, 3, none⟩ = some (.string a0_3) := bC BK115.out 3 rfl
          have hcz64_4 : wc.cell? ⟨gb115, 4, none⟩ = some (.string a0_4) := bC BK115.out 4 rfl
          have hcz64_5 : wc.cell? ⟨gb115, 5, none⟩ = some (.int .i64 a0_5) := bC BK115.out 5 rfl
          have hfz64_0 := blk_frozen BK115.out 0
          have hfz64_1 := blk_frozen BK115.out 1
          have hfz64_2 := blk_frozen BK115.out 2
          have hfz64_3 := blk_frozen BK115.out 3
          have hfz64_4 := blk_frozen BK115.out 4
          have hfz64_5 := blk_frozen BK115.out 5
          have hcz65_0 : wc.cell? ⟨gb117, 0, none⟩ = some (.int .i64 0) := bC BK117.out 0 rfl
          have hcz65_1 : wc.cell? ⟨gb117, 1, none⟩ = some (.int .i64 0) := bC BK117.out 1 rfl
          have hcz65_2 : wc.cell? ⟨gb117, 2, none⟩ = some (.int .i64 0) := bC BK117.out 2 rfl
          have hcz65_3 : wc.cell? ⟨gb117, 3, none⟩ = some (.string (⟨#[]⟩ : ByteArray)) := bC BK117.out 3 rfl
          have hcz65_4 : wc.cell? ⟨gb117, 4, none⟩ = some (.string (⟨#[]⟩ : ByteArray)) := bC BK117.out 4 rfl
          have hcz65_5 : wc.cell? ⟨gb117, 5, none⟩ = some (.int .i64 0) := bC BK117.out 5 rfl
          have hfz65_0 := blk_frozen BK117.out 0
          have hfz65_1 := blk_frozen BK117.out 1
          have hfz65_2 := blk_frozen BK117.out 2
          have hfz65_3 := blk_frozen BK117.out 3
          have hfz65_4 := blk_frozen BK117.out 4
          have hfz65_5 := blk_frozen BK117.out 5
          go_wp2
          refine bodyPost_ret (results_cell_row rfl _ _ gb117 25 #[.int .i64 x116000_24, .int .i64 x116001_24, .int .i64 x116002_34, .string a1_3, .string a0_4, .int .i64 a0_5] (0, 0) _ rfl (by (with_reducible repeat (first | refine bN ?_ _ | refine bD ?_ | refine bA ?_ _)); refine blk_put (cs := #[.int .i64 x116000_24, .int .i64 x116001_24, .int .i64 x116002_34, .string a1_3, .string a0_4, .int .i64 0]) ?_ 5 _ rfl; (with_reducible repeat (first | refine bN ?_ _ | refine bD ?_ | refine bA ?_ _)); refine blk_put (cs := #[.int .i64 x116000_24, .int .i64 x116001_24, .int .i64 x116002_34, .string a1_3, .string (⟨#[]⟩ : ByteArray), .int .i64 0]) ?_ 4 _ rfl; (with_reducible repeat (first | refine bN ?_ _ | refine bD ?_ | refine bA ?_ _)); refine blk_put (cs := #[.int .i64 x116000_24, .int .i64 x116001_24, .int .i64 x116002_34, .string (⟨#[]⟩ : ByteArray), .string (⟨#[]⟩ : ByteArray), .int .i64 0]) ?_ 3 _ rfl; (with_reducible repeat (first | refine bN ?_ _ | refine bD ?_ | refine bA ?_ _)); refine blk_put (cs := #[.int .i64 x116000_24, .int .i64 x116001_24, .int .i64 0, .string (⟨#[]⟩ : ByteArray), .string (⟨#[]⟩ : ByteArray), .int .i64 0]) ?_ 2 _ rfl; (with_reducible repeat (first | refine bN ?_ _ | refine bD ?_ | refine bA ?_ _)); refine blk_put (cs := #[.int .i64 x116000_24, .int .i64 0, .int .i64 0, .string (⟨#[]⟩ : ByteArray), .string (⟨#[]⟩ : ByteArray), .int .i64 0]) ?_ 1 _ rfl; (with_reducible repeat (first | refine bN ?_ _ | refine bD ?_ | refine bA ?_ _)); refine blk_put (cs := #[.int .i64 0, .int .i64 0, .int .i64 0, .string (⟨#[]⟩ : ByteArray), .string (⟨#[]⟩ : ByteArray), .int .i64 0]) ?_ 0 _ rfl; (with_reducible repeat (first | refine bN ?_ _ | refine bD ?_ | refine bA ?_ _)); refine blk_far ?_ NB117_115.out _; (with_reducible repeat (first | refine bN ?_ _ | refine bD ?_ | refine bA ?_ _)); exact BK117.out) Tryd.underlying25 rfl (by kernel_rfl)) rfl ?_
          exact ⟨by first | rfl | (simp [errW_none, errW_some] <;> rfl) | (simp [*, errW_none, errW_some] <;> rfl), by repeat (first | (with_reducible first | exact HB.out | apply wA | apply wN | apply wD | refine bS ?_ GE115.out | refine bS ?_ GE116.out | refine bS ?_ GE117.out) | exact HB.out)⟩
         ·rw [if_neg c59] at H
          have c59b0 : a1_4.toList.isEmpty = false := by simpa using c59
          have c59b1 : (!a1_4.toList.isEmpty) = true := by simpa using c59
          have c59b2 : (a1_4.toList == ([] : List UInt8)) = false := beq_eq_false_iff_ne.mpr c59
          simp only [Option.some.injEq, Prod.mk.injEq] at H
          obtain ⟨rfl, rfl, rfl, rfl, rfl, rfl⟩ := H
          have hnb66 := NB116_115.out
          have hnc66 := NB115_116.out
          have hnb67 := NB116_117.out
          have hnc67 := NB117_116.out
          have hcz68_0 : wc.cell? ⟨gb116, 0, none⟩ = some (.int .i64 a1_0) := bC BK116.out 0 rfl
          have hcz68_1 : wc.cell? ⟨gb116, 1, none⟩ = some (.int .i64 a1_1) := bC BK116.out 1 rfl
          have hcz68_2 : wc.cell? ⟨gb116, 2, none⟩ = some (.int .i64 a1_2) := bC BK116.out 2 rfl
          have hcz68_3 : wc.cell? ⟨gb116, 3, none⟩ = some (.string a1_3) := bC BK116.out 3 rfl
          have hcz68_4 : wc.cell? ⟨gb116, 4, none⟩ = some (.string a1_4) := bC BK116.out 4 rfl
          have hcz68_5 : wc.cell? ⟨gb116, 5, none⟩ = some (.int .i64 a1_5) := bC BK116.out 5 rfl
          have hfz68_0 := blk_frozen BK116.out 0
          have hfz68_1 := blk_frozen BK116.out 1
          have hfz68_2 := blk_frozen BK116.out 2
          have hfz68_3 := blk_frozen BK116.out 3
          have hfz68_4 := blk_frozen BK116.out 4
          have hfz68_5 := blk_frozen BK116.out 5
          have hnb69 := NB115_117.out
          have hnc69 := NB117_115.out
          have hcz70_0 : wc.cell? ⟨gb115, 0, none⟩ = some (.int .i64 x116000_24) := bC BK115.out 0 rfl
          have hcz70_1 : wc.cell? ⟨gb115, 1, none⟩ = some (.int .i64 x116001_24) := bC BK115.out 1 rfl
          have hcz70_2 : wc.cell? ⟨gb115, 2, none⟩ = some (.int .i64 x116002_34) := bC BK115.out 2 rfl
          have hcz70_3 : wc.cell? ⟨gb115, 3, none⟩ = some (.string a0_3) := bC BK115.out 3 rfl
          have hcz70_4 : wc.cell? ⟨gb115, 4, none⟩ = some (.string a0_4) := bC BK115.out 4 rfl
          have hcz70_5 : wc.cell? ⟨gb115, 5, none⟩ = some (.int .i64 a0_5) := bC BK115.out 5 rfl
          have hfz70_0 := blk_frozen BK115.out 0
          have hfz70_1 := blk_frozen BK115.out 1
          have hfz70_2 := blk_frozen BK115.out 2
          have hfz70_3 := blk_frozen BK115.out 3
          have hfz70_4 := blk_frozen BK115.out 4
          have hfz70_5 := blk_frozen BK115.out 5
          have hcz71_0 : wc.cell? ⟨gb117, 0, none⟩ = some (.int .i64 0) := bC BK117.out 0 rfl
          have hcz71_1 : wc.cell? ⟨gb117, 1, none⟩ = some (.int .i64 0) := bC BK117.out 1 rfl
          have hcz71_2 : wc.cell? ⟨gb117, 2, none⟩ = some (.int .i64 0) := bC BK117.out 2 rfl
          have hcz71_3 : wc.cell? ⟨gb117, 3, none⟩ = some (.string (⟨#[]⟩ : ByteArray)) := bC BK117.out 3 rfl
          have hcz71_4 : wc.cell? ⟨gb117, 4, none⟩ = some (.string (⟨#[]⟩ : ByteArray)) := bC BK117.out 4 rfl
          have hcz71_5 : wc.cell? ⟨gb117, 5, none⟩ = some (.int .i64 0) := bC BK117.out 5 rfl
          have hfz71_0 := blk_frozen BK117.out 0
          have hfz71_1 := blk_frozen BK117.out 1
          have hfz71_2 := blk_frozen BK117.out 2
          have hfz71_3 := blk_frozen BK117.out 3
          have hfz71_4 := blk_frozen BK117.out 4
          have hfz71_5 := blk_frozen BK117.out 5
          go_wp2
          refine bodyPost_ret (results_cell_row rfl _ _ gb117 25 #[.int .i64 x116000_24, .int .i64 x116001_24, .int .i64 x116002_34, .string a1_3, .string a1_4, .int .i64 a1_5] (0, 0) _ rfl (by (with_reducible repeat (first | refine bN ?_ _ | refine bD ?_ | refine bA ?_ _)); refine blk_put (cs := #[.int .i64 x116000_24, .int .i64 x116001_24, .int .i64 x116002_34, .string a1_3, .string a1_4, .int .i64 0]) ?_ 5 _ rfl; (with_reducible repeat (first | refine bN ?_ _ | refine bD ?_ | refine bA ?_ _)); refine blk_put (cs := #[.int .i64 x116000_24, .int .i64 x116001_24, .int .i64 x116002_34, .string a1_3, .string (⟨#[]⟩ : ByteArray), .int .i64 0]) ?_ 4 _ rfl; (with_reducible repeat (first | refine bN ?_ _ | refine bD ?_ | refine bA ?_ _)); refine blk_put (cs := #[.int .i64 x116000_24, .int .i64 x116001_24, .int .i64 x116002_34, .string (⟨#[]⟩ : ByteArray), .string (⟨#[]⟩ : ByteArray), .int .i64 0]) ?_ 3 _ rfl; (with_reducible repeat (first | refine bN ?_ _ | refine bD ?_ | refine bA ?_ _)); refine blk_put (cs := #[.int .i64 x116000_24, .int .i64 x116001_24, .int .i64 0, .string (⟨#[]⟩ : ByteArray), .string (⟨#[]⟩ : ByteArray), .int .i64 0]) ?_ 2 _ rfl; (with_reducible repeat (first | refine bN ?_ _ | refine bD ?_ | refine bA ?_ _)); refine blk_put (cs := #[.int .i64 x116000_24, .int .i64 0, .int .i64 0, .string (⟨#[]⟩ : ByteArray), .string (⟨#[]⟩ : ByteArray), .int .i64 0]) ?_ 1 _ rfl; (with_reducible repeat (first | refine bN ?_ _ | refine bD ?_ | refine bA ?_ _)); refine blk_put (cs := #[.int .i64 0, .int .i64 0, .int .i64 0, .string (⟨#[]⟩ : ByteArray), .string (⟨#[]⟩ : ByteArray), .int .i64 0]) ?_ 0 _ rfl; (with_reducible repeat (first | refine bN ?_ _ | refine bD ?_ | refine bA ?_ _)); refine blk_far ?_ NB117_115.out _; (with_reducible repeat (first | refine bN ?_ _ | refine bD ?_ | refine bA ?_ _)); refine blk_far ?_ NB117_115.out _; (with_reducible repeat (first | refine bN ?_ _ | refine bD ?_ | refine bA ?_ _)); refine blk_far ?_ NB117_115.out _; (with_reducible repeat (first | refine bN ?_ _ | refine bD ?_ | refine bA ?_ _)); exact BK117.out) Tryd.underlying25 rfl (by kernel_rfl)) rfl ?_
          exact ⟨by first | rfl | (simp [errW_none, errW_some] <;> rfl) | (simp [*, errW_none, errW_some] <;> rfl), by repeat (first | (with_reducible first | exact HB.out | apply wA | apply wN | apply wD | refine bS ?_ GE115.out | refine bS ?_ GE116.out | refine bS ?_ GE117.out) | exact HB.out)⟩

end Go.Proofs.YtcdghhihfjojaabDoor.Q
