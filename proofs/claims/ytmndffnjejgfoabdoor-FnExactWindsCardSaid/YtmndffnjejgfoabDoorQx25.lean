/- Plain Lean functions with the same answers as the Go functions of this seat, and a proof for each that the Go code comes to just these answers; no condition. Written by a program of this session (the kit's printer, turned). -/
import Derived.Test.YtmndffnjejgfoabDoorQx0
import Derived.Test.YtmndffnjejgfoabDoorQx10
import Derived.Test.YtmndffnjejgfoabDoorQx19
import Derived.Test.YtmndffnjejgfoabDoorQx24
namespace Go.Proofs.YtmndffnjejgfoabDoor.Q
open Go.RowKit Go.Proofs.YtmndffnjejgfoabDoorW.PrintWords Go.Proofs.YtmndffnjejgfoabDoorW.PrintLast Go.Proofs.YtmndffnjejgfoabDoorW.PrintMore
attribute [local go_sem] max2_int min2_int max_two min_two max_three min_three max_four min_four   -- for this text's walks alone
set_option linter.unusedVariables false
set_option linter.unusedSimpArgs false

/-! ### impl_walk_impl_Winds_1: function 20 -/
mutual
def impl_walk_impl_Winds_1.j0 : Nat → Bool → List Int → List Int → List Int → List Int → Int → Int → Int → List Int → Option (Int × Int × Bool × Int)
 | 0, _, _, _, _, _, _, _, _, _ => none
 | k + 1, x28, x901, x902, x950, x951, x4000, x252000, x252001, x252002 => if x28 = true then (some (0, 0, false, x4000)) else (impl_walk_impl_Winds_1.l0 k x252002 (x252002.length : Int) 0 x901 x902 x950 x951 x4000 x252000 x252001 x252002)
def impl_walk_impl_Winds_1.l0 : Nat → List Int → Int → Int → List Int → List Int → List Int → List Int → Int → Int → Int → List Int → Option (Int × Int × Bool × Int)
 | 0, _, _, _, _, _, _, _, _, _, _, _ => none
 | k + 1, x30, x31, x32, x901, x902, x950, x951, x4000, x252000, x252001, x252002 => if x32 < x31 then (if 0 ≤ x32 then (if x32 < (x30.length : Int) then ((impl_in.f (rd x30 x32) 0 3).bind fun t255 => (if t255 = true then (impl_walk_impl_Winds_1.l0 k x30 x31 (wrap64 (x32 + 1)) x901 x902 x950 x951 x4000 x252000 x252001 x252002) else (some (0, 0, false, x4000)))) else (none)) else (none)) else (impl_walk_impl_Winds_1.l1 k x252000 x252001 x252002 (x252002.length : Int) 0 x901 x902 x950 x951 x4000)
def impl_walk_impl_Winds_1.l1 : Nat → Int → Int → List Int → Int → Int → List Int → List Int → List Int → List Int → Int → Option (Int × Int × Bool × Int)
 | 0, _, _, _, _, _, _, _, _, _, _ => none
 | k + 1, x9, x10, x45, x46, x47, x901, x902, x950, x951, x4000 => if x47 < x46 then (if 0 ≤ x47 then (if x47 < (x45.length : Int) then ((impl_Winds_1.f k x9 x10 (rd x45 x47) x901 x902 x4000).bind fun t257 => (if 0 ≤ (rd x45 x47) then (if (rd x45 x47) < 4 then (impl_walk_impl_Winds_1.l1 k (wrap64 (x9 + (rd x950 (rd x45 x47)))) (wrap64 (x10 + (rd x951 (rd x45 x47)))) x45 x46 (wrap64 (x47 + 1)) x901 x902 x950 x951 t257) else (none)) else (none))) else (none)) else (none)) else (some (x9, x10, true, x4000))
end
def impl_walk_impl_Winds_1.f (k : Nat) (a0_0 : Int) (a0_1 : Int) (l0_2 : List Int) (l1 : List Int) (l2 : List Int) (s3_0 : Int) (l4 : List Int) (l5 : List Int) : Option (Int × Int × Bool × Int) := if (l0_2.length : Int) > 2000 then (impl_walk_impl_Winds_1.j0 k true l1 l2 l4 l5 s3_0 a0_0 a0_1 l0_2) else ((impl_in.f a0_0 (-1000000) 1000000).bind fun t252 => (if t252 = true then ((impl_in.f a0_1 (-1000000) 1000000).bind fun t253 => (impl_walk_impl_Winds_1.j0 k (!t253) l1 l2 l4 l5 s3_0 a0_0 a0_1 l0_2)) else (impl_walk_impl_Winds_1.j0 k true l1 l2 l4 l5 s3_0 a0_0 a0_1 l0_2)))
theorem impl_walk_impl_Winds_1.mono_l : ∀ k, (∀ y0 y1 y2 y3 y4 y5 y6 y7 y8, LeO (impl_walk_impl_Winds_1.j0 k y0 y1 y2 y3 y4 y5 y6 y7 y8) (impl_walk_impl_Winds_1.j0 (k + 1) y0 y1 y2 y3 y4 y5 y6 y7 y8)) ∧ (∀ y0 y1 y2 y3 y4 y5 y6 y7 y8 y9 y10, LeO (impl_walk_impl_Winds_1.l0 k y0 y1 y2 y3 y4 y5 y6 y7 y8 y9 y10) (impl_walk_impl_Winds_1.l0 (k + 1) y0 y1 y2 y3 y4 y5 y6 y7 y8 y9 y10)) ∧ (∀ y0 y1 y2 y3 y4 y5 y6 y7 y8 y9, LeO (impl_walk_impl_Winds_1.l1 k y0 y1 y2 y3 y4 y5 y6 y7 y8 y9) (impl_walk_impl_Winds_1.l1 (k + 1) y0 y1 y2 y3 y4 y5 y6 y7 y8 y9))
 | 0 => ⟨fun _ _ _ _ _ _ _ _ _ r h => by simp [impl_walk_impl_Winds_1.j0] at h, fun _ _ _ _ _ _ _ _ _ _ _ r h => by simp [impl_walk_impl_Winds_1.l0] at h, fun _ _ _ _ _ _ _ _ _ _ r h => by simp [impl_walk_impl_Winds_1.l1] at h⟩
 | k + 1 => by
  obtain ⟨ih0, ih1, ih2⟩ := impl_walk_impl_Winds_1.mono_l k
  refine ⟨?_, ?_, ?_⟩
  ·intro y0 y1 y2 y3 y4 y5 y6 y7 y8
   unfold impl_walk_impl_Winds_1.j0
   repeat' first
   | (with_reducible exact ih0 _ _ _ _ _ _ _ _ _)
   | (with_reducible exact ih1 _ _ _ _ _ _ _ _ _ _ _)
   | (with_reducible exact ih2 _ _ _ _ _ _ _ _ _ _)
   | (with_reducible exact impl_Winds_1.mono _ _ _ _ _ _ _)
   | (with_reducible exact LeO.refl _)
   | (with_reducible exact LeO.none _)
   | (with_reducible refine LeO.ite ?_ ?_)
   | (with_reducible refine LeO.bind ?_ (fun _ => ?_))
   | exact ih0 _ _ _ _ _ _ _ _ _
   | exact ih1 _ _ _ _ _ _ _ _ _ _ _
   | exact ih2 _ _ _ _ _ _ _ _ _ _
   | exact impl_Winds_1.mono _ _ _ _ _ _ _
   | exact LeO.none _
   | refine LeO.ite ?_ ?_
   | refine LeO.bind ?_ (fun _ => ?_)
  ·intro y0 y1 y2 y3 y4 y5 y6 y7 y8 y9 y10
   unfold impl_walk_impl_Winds_1.l0
   repeat' first
   | (with_reducible exact ih0 _ _ _ _ _ _ _ _ _)
   | (with_reducible exact ih1 _ _ _ _ _ _ _ _ _ _ _)
   | (with_reducible exact ih2 _ _ _ _ _ _ _ _ _ _)
   | (with_reducible exact impl_Winds_1.mono _ _ _ _ _ _ _)
   | (with_reducible exact LeO.refl _)
   | (with_reducible exact LeO.none _)
   | (with_reducible refine LeO.ite ?_ ?_)
   | (with_reducible refine LeO.bind ?_ (fun _ => ?_))
   | exact ih0 _ _ _ _ _ _ _ _ _
   | exact ih1 _ _ _ _ _ _ _ _ _ _ _
   | exact ih2 _ _ _ _ _ _ _ _ _ _
   | exact impl_Winds_1.mono _ _ _ _ _ _ _
   | exact LeO.none _
   | refine LeO.ite ?_ ?_
   | refine LeO.bind ?_ (fun _ => ?_)
  ·intro y0 y1 y2 y3 y4 y5 y6 y7 y8 y9
   unfold impl_walk_impl_Winds_1.l1
   repeat' first
   | (with_reducible exact ih0 _ _ _ _ _ _ _ _ _)
   | (with_reducible exact ih1 _ _ _ _ _ _ _ _ _ _ _)
   | (with_reducible exact ih2 _ _ _ _ _ _ _ _ _ _)
   | (with_reducible exact impl_Winds_1.mono _ _ _ _ _ _ _)
   | (with_reducible exact LeO.refl _)
   | (with_reducible exact LeO.none _)
   | (with_reducible refine LeO.ite ?_ ?_)
   | (with_reducible refine LeO.bind ?_ (fun _ => ?_))
   | exact ih0 _ _ _ _ _ _ _ _ _
   | exact ih1 _ _ _ _ _ _ _ _ _ _ _
   | exact ih2 _ _ _ _ _ _ _ _ _ _
   | exact impl_Winds_1.mono _ _ _ _ _ _ _
   | exact LeO.none _
   | refine LeO.ite ?_ ?_
   | refine LeO.bind ?_ (fun _ => ?_)
theorem impl_walk_impl_Winds_1.mono : ∀ a0 a1 a2 a3 a4 a5 a6 a7 k, LeO (impl_walk_impl_Winds_1.f k a0 a1 a2 a3 a4 a5 a6 a7) (impl_walk_impl_Winds_1.f (k + 1) a0 a1 a2 a3 a4 a5 a6 a7) := by
 intro a0 a1 a2 a3 a4 a5 a6 a7 k
 obtain ⟨ih0, ih1, ih2⟩ := impl_walk_impl_Winds_1.mono_l k
 unfold impl_walk_impl_Winds_1.f
 repeat' first
   | (with_reducible exact ih0 _ _ _ _ _ _ _ _ _)
   | (with_reducible exact ih1 _ _ _ _ _ _ _ _ _ _ _)
   | (with_reducible exact ih2 _ _ _ _ _ _ _ _ _ _)
   | (with_reducible exact impl_Winds_1.mono _ _ _ _ _ _ _)
   | (with_reducible exact LeO.refl _)
   | (with_reducible exact LeO.none _)
   | (with_reducible refine LeO.ite ?_ ?_)
   | (with_reducible refine LeO.bind ?_ (fun _ => ?_))
   | exact ih0 _ _ _ _ _ _ _ _ _
   | exact ih1 _ _ _ _ _ _ _ _ _ _ _
   | exact ih2 _ _ _ _ _ _ _ _ _ _
   | exact impl_Winds_1.mono _ _ _ _ _ _ _
   | exact LeO.none _
   | refine LeO.ite ?_ ?_
   | refine LeO.bind ?_ (fun _ => ?_)
set_option maxHeartbeats 8000000 in
set_option maxRecDepth 100000 in
theorem impl_walk_impl_Winds_1.calls (k : Nat) (a0_0 : Int) (a0_1 : Int) (A0_2 : Option Addr) (c0_2 : Nat) (l0_2 : List Int) (G1 : Nat) (l1 : List Int) (G2 : Nat) (l2 : List Int) (g : Nat) (s3_0 : Int) (l4 : List Int) (l5 : List Int) (r1 : Int) (r2 : Int) (r3 : Bool) (r4 : Int) (w0 w : World) (hI : IsS2 w0 w g s3_0) (hB : Below w0.heap.size w0 w) (hr0_2 : Kd.C (Kd.int .i64) w A0_2 l0_2.length l0_2) (hc0_2 : l0_2.length ≤ c0_2) (hf0_2 : ∀ ad, A0_2 = some ad → 0 < l0_2.length → ad.block ≠ g) (hr1 : Kd.C (Kd.int .i64) w (some ⟨G1, 0, none⟩) l1.length l1) (hc1 : l1.length ≤ l1.length) (hf1 : ∀ ad : Addr, (some ⟨G1, 0, none⟩ : Option Addr) = some ad → 0 < l1.length → ad.block ≠ g) (hr2 : Kd.C (Kd.int .i64) w (some ⟨G2, 0, none⟩) l2.length l2) (hc2 : l2.length ≤ l2.length) (hf2 : ∀ ad : Addr, (some ⟨G2, 0, none⟩ : Option Addr) = some ad → 0 < l2.length → ad.block ≠ g) (hr4 : Kd.C (Kd.int .i64) w (some ⟨0, 0, none⟩) l4.length l4) (hc4 : l4.length ≤ l4.length) (hf4 : ∀ ad : Addr, (some ⟨0, 0, none⟩ : Option Addr) = some ad → 0 < l4.length → ad.block ≠ g) (hr5 : Kd.C (Kd.int .i64) w (some ⟨1, 0, none⟩) l5.length l5) (hc5 : l5.length ≤ l5.length) (hf5 : ∀ ad : Addr, (some ⟨1, 0, none⟩ : Option Addr) = some ad → 0 < l5.length → ad.block ≠ g) (hn4 : l4.length = 4) (hn5 : l5.length = 4) (h : impl_walk_impl_Winds_1.f k a0_0 a0_1 l0_2 l1 l2 s3_0 l4 l5 = some (r1, r2, r3, r4)) :
  Calls Tryd.prog 20 #[.agg #[.int .i64 a0_0, .int .i64 a0_1, .slice A0_2 l0_2.length c0_2], .func (.func 24) #[] #[.pointer (some ⟨G1, 0, none⟩), .pointer (some ⟨G2, 0, none⟩), .pointer (some ⟨g, 0, none⟩)]] w fun e w' => e = .returned (.tuple #[.int .i64 r1, .int .i64 r2, .bool r3]) ∧ IsS2 w0 w' g r4 ∧ Below w0.heap.size w0 w' ∧ KeepBut w w' g none := by
 have hu27 := Tryd.underlying27
 have hu45 := Tryd.underlying45
 have HR0_2 := Aside0.mk hr0_2
 have HC0_2 := Aside0.mk hc0_2
 clear hr0_2 hc0_2
 have HR1 := Aside0.mk hr1
 have HC1 := Aside0.mk hc1
 clear hr1 hc1
 have HR2 := Aside0.mk hr2
 have HC2 := Aside0.mk hc2
 clear hr2 hc2
 have HR4 := Aside0.mk hr4
 have HC4 := Aside0.mk hc4
 clear hr4 hc4
 have HN4 := Aside0.mk hn4
 clear hn4
 have HR5 := Aside0.mk hr5
 have HC5 := Aside0.mk hc5
 clear hr5 hc5
 have HN5 := Aside0.mk hn5
 clear hn5
 have HI3 := Aside0.mk hI
 have HK := Aside0.mk (KeepBut.refl w g none)
 have HL := Aside0.mk hB.size
 clear hI
 have HW0 := Aside0.mk hB.size
 have HB := Aside0.mk hB
 clear hB
 have H : (if (l0_2.length : Int) > 2000 then (impl_walk_impl_Winds_1.j0 k true l1 l2 l4 l5 s3_0 a0_0 a0_1 l0_2) else ((impl_in.f a0_0 (-1000000) 1000000).bind fun t252 => (if t252 = true then ((impl_in.f a0_1 (-1000000) 1000000).bind fun t253 => (impl_walk_impl_Winds_1.j0 k (!t253) l1 l2 l4 l5 s3_0 a0_0 a0_1 l0_2)) else (impl_walk_impl_Winds_1.j0 k true l1 l2 l4 l5 s3_0 a0_0 a0_1 l0_2)))) = some (r1, r2, r3, r4) := h
 clear h
 have HC7 := Aside0.mk H
 clear H
 go_enter Tryd.func20, Tryd.ntmps20
 go_upto_region 1 with (first | ((with_reducible refine gate_dst (N := 2) rfl ?_); refine box_event ?hg (N := 2) ?hd (cs := #[.int .i64 a0_0, .int .i64 a0_1, .slice A0_2 l0_2.length c0_2]) (t := 27) ?hr ?_; (case hd => rfl); (case hg => rfl); (case hr => first | (go_simp; done) | (go_simp; rfl)); intro gb251 hg w8 hbox hb; have n0_ := Aside0.mk (IsS2.below (by repeat (first | (with_reducible first | exact HI3.out | apply IsS2.alloc | apply IsS2.drewN | apply IsS2.drew | apply IsS2.set_0) | exact HI3.out)) hb); have n1_ := Aside0.mk (KeepBut.trans (by repeat (first | (with_reducible first | exact HK.out | apply KeepBut.set_ | apply keep_drewN | apply keep_drew | apply keep_alloc) | exact HK.out)) (KeepBut.of_below hb g none) (.inl rfl)); have n2_ := Aside0.mk (below_step (by repeat (first | (with_reducible first | exact HB.out | apply below_alloc | apply pw_below_drewN | apply below_drew1 | refine below_set ?_ (IsS2.ge HI3.out)) | exact HB.out)) hb); have n3_ := Aside0.mk (hbox); have n4_ := Aside0.mk ((by rw [hg]; exact (keep_size (w := w) (g := g) (row := none) (by repeat (first | (with_reducible first | exact HK.out | apply KeepBut.set_ | apply keep_drewN | apply keep_drew | apply keep_alloc) | exact HK.out))) : w.heap.size ≤ gb251)); have n5_ := Aside0.mk ((Nat.le_trans HW0.out (by rw [hg]; exact (keep_size (w := w) (g := g) (row := none) (by repeat (first | (with_reducible first | exact HK.out | apply KeepBut.set_ | apply keep_drewN | apply keep_drew | apply keep_alloc) | exact HK.out))) : w.heap.size ≤ gb251) : w0.heap.size ≤ gb251)); have n6_ := Aside0.mk ((by rw [hg]; exact Nat.ne_of_lt (IsS2.lt (show IsS2 w0 _ g s3_0 from by repeat (first | (with_reducible first | exact HI3.out | apply IsS2.alloc | apply IsS2.drewN | apply IsS2.drew | apply IsS2.set_0) | exact HI3.out))) : g ≠ gb251)); have n7_ := Aside0.mk ((by rw [hg]; exact Nat.ne_of_gt (IsS2.lt (show IsS2 w0 _ g s3_0 from by repeat (first | (with_reducible first | exact HI3.out | apply IsS2.alloc | apply IsS2.drewN | apply IsS2.drew | apply IsS2.set_0) | exact HI3.out))) : gb251 ≠ g)); clear HI3; clear HK; clear HB; have HI3 := n0_; have HK := n1_; have HB := n2_; have BK251 := n3_; have GW251 := n4_; have GE251 := n5_; have NB3_251 := n6_; have NB251_3 := n7_; clear n0_ n1_ n2_ n3_ n4_ n5_ n6_ n7_; clear hb hbox hg))
 repeat (go_quiet (first | ((with_reducible refine gate_dst (N := 2) rfl ?_); refine box_event ?hg (N := 2) ?hd (cs := #[.int .i64 a0_0, .int .i64 a0_1, .slice A0_2 l0_2.length c0_2]) (t := 27) ?hr ?_; (case hd => rfl); (case hg => rfl); (case hr => first | (go_simp; done) | (go_simp; rfl)); intro gb251 hg w8 hbox hb; have n0_ := Aside0.mk (IsS2.below (by repeat (first | (with_reducible first | exact HI3.out | apply IsS2.alloc | apply IsS2.drewN | apply IsS2.drew | apply IsS2.set_0) | exact HI3.out)) hb); have n1_ := Aside0.mk (KeepBut.trans (by repeat (first | (with_reducible first | exact HK.out | apply KeepBut.set_ | apply keep_drewN | apply keep_drew | apply keep_alloc) | exact HK.out)) (KeepBut.of_below hb g none) (.inl rfl)); have n2_ := Aside0.mk (below_step (by repeat (first | (with_reducible first | exact HB.out | apply below_alloc | apply pw_below_drewN | apply below_drew1 | refine below_set ?_ (IsS2.ge HI3.out)) | exact HB.out)) hb); have n3_ := Aside0.mk (hbox); have n4_ := Aside0.mk ((by rw [hg]; exact (keep_size (w := w) (g := g) (row := none) (by repeat (first | (with_reducible first | exact HK.out | apply KeepBut.set_ | apply keep_drewN | apply keep_drew | apply keep_alloc) | exact HK.out))) : w.heap.size ≤ gb251)); have n5_ := Aside0.mk ((Nat.le_trans HW0.out (by rw [hg]; exact (keep_size (w := w) (g := g) (row := none) (by repeat (first | (with_reducible first | exact HK.out | apply KeepBut.set_ | apply keep_drewN | apply keep_drew | apply keep_alloc) | exact HK.out))) : w.heap.size ≤ gb251) : w0.heap.size ≤ gb251)); have n6_ := Aside0.mk ((by rw [hg]; exact Nat.ne_of_lt (IsS2.lt (show IsS2 w0 _ g s3_0 from by repeat (first | (with_reducible first | exact HI3.out | apply IsS2.alloc | apply IsS2.drewN | apply IsS2.drew | apply IsS2.set_0) | exact HI3.out))) : g ≠ gb251)); have n7_ := Aside0.mk ((by rw [hg]; exact Nat.ne_of_gt (IsS2.lt (show IsS2 w0 _ g s3_0 from by repeat (first | (with_reducible first | exact HI3.out | apply IsS2.alloc | apply IsS2.drewN | apply IsS2.drew | apply IsS2.set_0) | exact HI3.out))) : gb251 ≠ g)); clear HI3; clear HK; clear HB; have HI3 := n0_; have HK := n1_; have HB := n2_; have BK251 := n3_; have GW251 := n4_; have GE251 := n5_; have NB3_251 := n6_; have NB251_3 := n7_; clear n0_ n1_ n2_ n3_ n4_ n5_ n6_ n7_; clear hb hbox hg)); go_upto_region 1 with (first | ((with_reducible refine gate_dst (N := 2) rfl ?_); refine box_event ?hg (N := 2) ?hd (cs := #[.int .i64 a0_0, .int .i64 a0_1, .slice A0_2 l0_2.length c0_2]) (t := 27) ?hr ?_; (case hd => rfl); (case hg => rfl); (case hr => first | (go_simp; done) | (go_simp; rfl)); intro gb251 hg w8 hbox hb; have n0_ := Aside0.mk (IsS2.below (by repeat (first | (with_reducible first | exact HI3.out | apply IsS2.alloc | apply IsS2.drewN | apply IsS2.drew | apply IsS2.set_0) | exact HI3.out)) hb); have n1_ := Aside0.mk (KeepBut.trans (by repeat (first | (with_reducible first | exact HK.out | apply KeepBut.set_ | apply keep_drewN | apply keep_drew | apply keep_alloc) | exact HK.out)) (KeepBut.of_below hb g none) (.inl rfl)); have n2_ := Aside0.mk (below_step (by repeat (first | (with_reducible first | exact HB.out | apply below_alloc | apply pw_below_drewN | apply below_drew1 | refine below_set ?_ (IsS2.ge HI3.out)) | exact HB.out)) hb); have n3_ := Aside0.mk (hbox); have n4_ := Aside0.mk ((by rw [hg]; exact (keep_size (w := w) (g := g) (row := none) (by repeat (first | (with_reducible first | exact HK.out | apply KeepBut.set_ | apply keep_drewN | apply keep_drew | apply keep_alloc) | exact HK.out))) : w.heap.size ≤ gb251)); have n5_ := Aside0.mk ((Nat.le_trans HW0.out (by rw [hg]; exact (keep_size (w := w) (g := g) (row := none) (by repeat (first | (with_reducible first | exact HK.out | apply KeepBut.set_ | apply keep_drewN | apply keep_drew | apply keep_alloc) | exact HK.out))) : w.heap.size ≤ gb251) : w0.heap.size ≤ gb251)); have n6_ := Aside0.mk ((by rw [hg]; exact Nat.ne_of_lt (IsS2.lt (show IsS2 w0 _ g s3_0 from by repeat (first | (with_reducible first | exact HI3.out | apply IsS2.alloc | apply IsS2.drewN | apply IsS2.drew | apply IsS2.set_0) | exact HI3.out))) : g ≠ gb251)); have n7_ := Aside0.mk ((by rw [hg]; exact Nat.ne_of_gt (IsS2.lt (show IsS2 w0 _ g s3_0 from by repeat (first | (with_reducible first | exact HI3.out | apply IsS2.alloc | apply IsS2.drewN | apply IsS2.drew | apply IsS2.set_0) | exact HI3.out))) : gb251 ≠ g)); clear HI3; clear HK; clear HB; have HI3 := n0_; have HK := n1_; have HB := n2_; have BK251 := n3_; have GW251 := n4_; have GE251 := n5_; have NB3_251 := n6_; have NB251_3 := n7_; clear n0_ n1_ n2_ n3_ n4_ n5_ n6_ n7_; clear hb hbox hg)))
 (try simp only [Act.put, List.setIfInBounds_toArray, List.set_cons_zero, List.set_cons_succ])
 go_cut [28] (fun v28 wc => ∃ (kq : Nat) (x28_6 : Bool) (x4000_6 : Int), v28 = .bool x28_6 ∧ Aside0 (impl_walk_impl_Winds_1.j0 kq x28_6 l1 l2 l4 l5 x4000_6 a0_0 a0_1 l0_2 = some (r1, r2, r3, r4)) ∧ Aside0 (kq ≤ k) ∧ Aside0 (wc.heap[gb251]? = some (.cells #[.int .i64 a0_0, .int .i64 a0_1, (.slice A0_2 l0_2.length c0_2)] 27 (0, 0))) ∧ Aside0 (IsS2 w0 wc g x4000_6) ∧ Aside0 (KeepBut w wc g none) ∧ Aside0 (Below w0.heap.size w0 wc))
 case first =>
  have H := HC7.out
  clear HC7
  by_cases c9 : (l0_2.length : Int) > 2000
  ·rw [if_pos c9] at H
   have c9b0 : decide (2000 < (l0_2.length : Int)) = true := decide_eq_true c9
   have c9b1 : decide (2000 < l0_2.length) = true := decide_eq_true (by omega)
   clear c9
   (first | rw [c9b0] | (simp only [i64_w, i32_w]; rw [c9b0]) | skip)
   have H' := Aside0.mk H
   clear H
   have hnb10 := NB251_3.out
   have hnc10 := NB3_251.out
   have hcz11_0 : w8.cell? ⟨gb251, 0, none⟩ = some (.int .i64 a0_0) := (blk_cell BK251.out 0).trans rfl
   have hcz11_1 : w8.cell? ⟨gb251, 1, none⟩ = some (.int .i64 a0_1) := (blk_cell BK251.out 1).trans rfl
   have hcz11_2 : w8.cell? ⟨gb251, 2, none⟩ = some (.slice A0_2 l0_2.length c0_2) := (blk_cell BK251.out 2).trans rfl
   have hfz11_0 := blk_frozen BK251.out 0
   have hfz11_1 := blk_frozen BK251.out 1
   have hfz11_2 := blk_frozen BK251.out 2
   go_wp2
   repeat (go_quiet (fail); try go_wp2)
   go_meet
   case rel => exact ⟨_, (true), (s3_0), (by first | rfl | (simp; done) | (simp [*]; done)), H', ⟨by first | omega | exact Nat.le_refl _⟩, ⟨by (with_reducible repeat (first | refine blk_drewN ?_ _ | refine blk_drew ?_ | refine blk_alloc ?_ _)); exact BK251.out⟩, ⟨by repeat (first | (with_reducible first | exact HI3.out | apply IsS2.alloc | apply IsS2.drewN | apply IsS2.drew | apply IsS2.set_0 | apply IsS2.far (hne := NB3_251.out)) | exact HI3.out)⟩, ⟨by repeat (first | (with_reducible first | exact HK.out | apply KeepBut.set_ | apply keep_drewN | apply keep_drew | apply keep_alloc | refine keep_far ?_ GW251.out _) | exact HK.out)⟩, ⟨by repeat (first | (with_reducible first | exact HB.out | apply below_alloc | apply pw_below_drewN | apply below_drew1 | refine below_set ?_ (IsS2.ge HI3.out) | refine below_set ?_ GE251.out) | exact HB.out)⟩⟩
  ·rw [if_neg c9] at H
   have c9b0 : decide (2000 < (l0_2.length : Int)) = false := decide_eq_false c9
   have c9b1 : decide (2000 < l0_2.length) = false := decide_eq_false (by omega)
   clear c9
   (first | rw [c9b0] | (simp only [i64_w, i32_w]; rw [c9b0]) | skip)
   replace H := Option.bind_eq_some_iff.mp H
   obtain ⟨t252, A120, H⟩ := H
   replace H : (if t252 = true then ((impl_in.f a0_1 (-1000000) 1000000).bind fun t253 => (impl_walk_impl_Winds_1.j0 k (!t253) l1 l2 l4 l5 s3_0 a0_0 a0_1 l0_2)) else (impl_walk_impl_Winds_1.j0 k true l1 l2 l4 l5 s3_0 a0_0 a0_1 l0_2)) = some (r1, r2, r3, r4) := H
   have A12 := Aside0.mk A120
   clear A120
   by_cases c13 : t252 = true
   ·subst c13
    have H1 : ((impl_in.f a0_1 (-1000000) 1000000).bind fun t253 => (impl_walk_impl_Winds_1.j0 k (!t253) l1 l2 l4 l5 s3_0 a0_0 a0_1 l0_2)) = some (r1, r2, r3, r4) := by rw [if_pos rfl] at H; exact H
    clear H
    have H := H1
    clear H1
    replace H := Option.bind_eq_some_iff.mp H
    obtain ⟨t253, A140, H⟩ := H
    replace H : (impl_walk_impl_Winds_1.j0 k (!t253) l1 l2 l4 l5 s3_0 a0_0 a0_1 l0_2) = some (r1, r2, r3, r4) := H
    have A14 := Aside0.mk A140
    clear A140
    have H' := Aside0.mk H
    clear H
    have hnb15 := NB251_3.out
    have hnc15 := NB3_251.out
    have hcz16_0 : w8.cell? ⟨gb251, 0, none⟩ = some (.int .i64 a0_0) := (blk_cell BK251.out 0).trans rfl
    have hcz16_1 : w8.cell? ⟨gb251, 1, none⟩ = some (.int .i64 a0_1) := (blk_cell BK251.out 1).trans rfl
    have hcz16_2 : w8.cell? ⟨gb251, 2, none⟩ = some (.slice A0_2 l0_2.length c0_2) := (blk_cell BK251.out 2).trans rfl
    have hfz16_0 := blk_frozen BK251.out 0
    have hfz16_1 := blk_frozen BK251.out 1
    have hfz16_2 := blk_frozen BK251.out 2
    go_wp2_with (first | (go_at_call 26; (with_reducible refine (impl_in.calls a0_0 (-1000000) 1000000 true _ A12.out).mono ?_); rintro e w' ⟨rfl, ⟨nd, rfl⟩⟩; (try first | exact ⟨rfl, _, World.drewN_drewN _ _ _⟩ | exact ⟨rfl, _, Eq.trans (World.drewN_drewN _ _ _) (congrArg (World.drewN _) (Nat.add_assoc _ _ _))⟩)) | (go_at_call 26; (with_reducible refine (impl_in.calls a0_1 (-1000000) 1000000 t253 _ A14.out).mono ?_); rintro e w' ⟨rfl, ⟨nd, rfl⟩⟩; (try first | exact ⟨rfl, _, World.drewN_drewN _ _ _⟩ | exact ⟨rfl, _, Eq.trans (World.drewN_drewN _ _ _) (congrArg (World.drewN _) (Nat.add_assoc _ _ _))⟩)))
    repeat (go_quiet (first | (go_at_call 26; (with_reducible refine (impl_in.calls a0_0 (-1000000) 1000000 true _ A12.out).mono ?_); rintro e w' ⟨rfl, ⟨nd, rfl⟩⟩; (try first | exact ⟨rfl, _, World.drewN_drewN _ _ _⟩ | exact ⟨rfl, _, Eq.trans (World.drewN_drewN _ _ _) (congrArg (World.drewN _) (Nat.add_assoc _ _ _))⟩)) | (go_at_call 26; (with_reducible refine (impl_in.calls a0_1 (-1000000) 1000000 t253 _ A14.out).mono ?_); rintro e w' ⟨rfl, ⟨nd, rfl⟩⟩; (try first | exact ⟨rfl, _, World.drewN_drewN _ _ _⟩ | exact ⟨rfl, _, Eq.trans (World.drewN_drewN _ _ _) (congrArg (World.drewN _) (Nat.add_assoc _ _ _))⟩))); try go_wp2_with (first | (go_at_call 26; (with_reducible refine (impl_in.calls a0_0 (-1000000) 1000000 true _ A12.out).mono ?_); rintro e w' ⟨rfl, ⟨nd, rfl⟩⟩; (try first | exact ⟨rfl, _, World.drewN_drewN _ _ _⟩ | exact ⟨rfl, _, Eq.trans (World.drewN_drewN _ _ _) (congrArg (World.drewN _) (Nat.add_assoc _ _ _))⟩)) | (go_at_call 26; (with_reducible refine (impl_in.calls a0_1 (-1000000) 1000000 t253 _ A14.out).mono ?_); rintro e w' ⟨rfl, ⟨nd, rfl⟩⟩; (try first | exact ⟨rfl, _, World.drewN_drewN _ _ _⟩ | exact ⟨rfl, _, Eq.trans (World.drewN_drewN _ _ _) (congrArg (World.drewN _) (Nat.add_assoc _ _ _))⟩))))
    go_meet
    case rel => exact ⟨_, (!t253), (s3_0), (by first | rfl | (simp; done) | (simp [*]; done)), H', ⟨by first | omega | exact Nat.le_refl _⟩, ⟨by (with_reducible repeat (first | refine blk_drewN ?_ _ | refine blk_drew ?_ | refine blk_alloc ?_ _)); exact BK251.out⟩, ⟨by repeat (first | (with_reducible first | exact HI3.out | apply IsS2.alloc | apply IsS2.drewN | apply IsS2.drew | apply IsS2.set_0 | apply IsS2.far (hne := NB3_251.out)) | exact HI3.out)⟩, ⟨by repeat (first | (with_reducible first | exact HK.out | apply KeepBut.set_ | apply keep_drewN | apply keep_drew | apply keep_alloc | refine keep_far ?_ GW251.out _) | exact HK.out)⟩, ⟨by repeat (first | (with_reducible first | exact HB.out | apply below_alloc | apply pw_below_drewN | apply below_drew1 | refine below_set ?_ (IsS2.ge HI3.out) | refine below_set ?_ GE251.out) | exact HB.out)⟩⟩
   ·replace c13 := Bool.eq_false_iff.mpr c13
    subst c13
    have H1 : (impl_walk_impl_Winds_1.j0 k true l1 l2 l4 l5 s3_0 a0_0 a0_1 l0_2) = some (r1, r2, r3, r4) := by rw [if_neg (show ¬ (false = true) by decide)] at H; exact H
    clear H
    have H := H1
    clear H1
    have H' := Aside0.mk H
    clear H
    have hnb17 := NB251_3.out
    have hnc17 := NB3_251.out
    have hcz18_0 : w8.cell? ⟨gb251, 0, none⟩ = some (.int .i64 a0_0) := (blk_cell BK251.out 0).trans rfl
    have hcz18_1 : w8.cell? ⟨gb251, 1, none⟩ = some (.int .i64 a0_1) := (blk_cell BK251.out 1).trans rfl
    have hcz18_2 : w8.cell? ⟨gb251, 2, none⟩ = some (.slice A0_2 l0_2.length c0_2) := (blk_cell BK251.out 2).trans rfl
    have hfz18_0 := blk_frozen BK251.out 0
    have hfz18_1 := blk_frozen BK251.out 1
    have hfz18_2 := blk_frozen BK251.out 2
    go_wp2_with (first | (go_at_call 26; (with_reducible refine (impl_in.calls a0_0 (-1000000) 1000000 false _ A12.out).mono ?_); rintro e w' ⟨rfl, ⟨nd, rfl⟩⟩; (try first | exact ⟨rfl, _, World.drewN_drewN _ _ _⟩ | exact ⟨rfl, _, Eq.trans (World.drewN_drewN _ _ _) (congrArg (World.drewN _) (Nat.add_assoc _ _ _))⟩)))
    repeat (go_quiet (first | (go_at_call 26; (with_reducible refine (impl_in.calls a0_0 (-1000000) 1000000 false _ A12.out).mono ?_); rintro e w' ⟨rfl, ⟨nd, rfl⟩⟩; (try first | exact ⟨rfl, _, World.drewN_drewN _ _ _⟩ | exact ⟨rfl, _, Eq.trans (World.drewN_drewN _ _ _) (congrArg (World.drewN _) (Nat.add_assoc _ _ _))⟩))); try go_wp2_with (first | (go_at_call 26; (with_reducible refine (impl_in.calls a0_0 (-1000000) 1000000 false _ A12.out).mono ?_); rintro e w' ⟨rfl, ⟨nd, rfl⟩⟩; (try first | exact ⟨rfl, _, World.drewN_drewN _ _ _⟩ | exact ⟨rfl, _, Eq.trans (World.drewN_drewN _ _ _) (congrArg (World.drewN _) (Nat.add_assoc _ _ _))⟩))))
    go_meet
    case rel => exact ⟨_, (true), (s3_0), (by first | rfl | (simp; done) | (simp [*]; done)), H', ⟨by first | omega | exact Nat.le_refl _⟩, ⟨by (with_reducible repeat (first | refine blk_drewN ?_ _ | refine blk_drew ?_ | refine blk_alloc ?_ _)); exact BK251.out⟩, ⟨by repeat (first | (with_reducible first | exact HI3.out | apply IsS2.alloc | apply IsS2.drewN | apply IsS2.drew | apply IsS2.set_0 | apply IsS2.far (hne := NB3_251.out)) | exact HI3.out)⟩, ⟨by repeat (first | (with_reducible first | exact HK.out | apply KeepBut.set_ | apply keep_drewN | apply keep_drew | apply keep_alloc | refine keep_far ?_ GW251.out _) | exact HK.out)⟩, ⟨by repeat (first | (with_reducible first | exact HB.out | apply below_alloc | apply pw_below_drewN | apply below_drew1 | refine below_set ?_ (IsS2.ge HI3.out) | refine below_set ?_ GE251.out) | exact HB.out)⟩⟩
 case rest =>
  clear HC7
  try clear c1
  try clear c2
  try clear p2
  try clear c4
  try clear c5
  try clear c9
  try clear c9b0
  try clear c9b1
  try clear c10
  try clear c13
  try clear c15
  try clear c17
  try clear hcz11_0
  try clear hcz11_1
  try clear hcz11_2
  try clear hcz16_0
  try clear hcz16_1
  try clear hcz16_2
  try clear hcz18_0
  try clear hcz18_1
  try clear hcz18_2
  try clear hfz11_0
  try clear hfz11_1
  try clear hfz11_2
  try clear hfz16_0
  try clear hfz16_1
  try clear hfz16_2
  try clear hfz18_0
  try clear hfz18_1
  try clear hfz18_2
  obtain ⟨kq, x28_6, x4000_6, rfl, HA, HJ6, BK251, HI3, HK, HB⟩ := hcut
  cases kq with
  | zero => exact absurd HA.out (by simp [impl_walk_impl_Winds_1.j0])
  | succ kj6 =>
   have H := HA.out
   clear HA
   simp only [impl_walk_impl_Winds_1.j0] at H
   by_cases c19 : x28_6 = true
   ·subst c19
    have H1 : (some (0, 0, false, x4000_6)) = some (r1, r2, r3, r4) := by rw [if_pos rfl] at H; exact H
    clear H
    have H := H1
    clear H1
    simp only [Option.some.injEq, Prod.mk.injEq] at H
    obtain ⟨rfl, rfl, rfl, rfl⟩ := H
    go_wp2
    repeat (go_quiet (fail); try go_wp2)
    go_ret3
    exact ⟨by first | rfl | (simp [errW_none, errW_some] <;> rfl) | (simp [*, errW_none, errW_some] <;> rfl), by repeat (first | (with_reducible first | exact HI3.out | apply IsS2.alloc | apply IsS2.drewN | apply IsS2.drew | apply IsS2.set_0 | apply IsS2.far (hne := NB3_251.out)) | exact HI3.out), by repeat (first | (with_reducible first | exact HB.out | apply below_alloc | apply pw_below_drewN | apply below_drew1 | refine below_set ?_ (IsS2.ge HI3.out) | refine below_set ?_ GE251.out) | exact HB.out), by repeat (first | (with_reducible first | exact HK.out | apply KeepBut.set_ | apply keep_drewN | apply keep_drew | apply keep_alloc | refine keep_far ?_ GW251.out _) | exact HK.out)⟩
   ·replace c19 := Bool.eq_false_iff.mpr c19
    subst c19
    have H1 : (impl_walk_impl_Winds_1.l0 kj6 l0_2 (l0_2.length : Int) 0 l1 l2 l4 l5 x4000_6 a0_0 a0_1 l0_2) = some (r1, r2, r3, r4) := by rw [if_neg (show ¬ (false = true) by decide)] at H; exact H
    clear H
    have H := H1
    clear H1
    have H' := Aside0.mk H
    clear H
    have hnb20 := NB251_3.out
    have hnc20 := NB3_251.out
    have hcz21_0 : wc.cell? ⟨gb251, 0, none⟩ = some (.int .i64 a0_0) := (blk_cell BK251.out 0).trans rfl
    have hcz21_1 : wc.cell? ⟨gb251, 1, none⟩ = some (.int .i64 a0_1) := (blk_cell BK251.out 1).trans rfl
    have hcz21_2 : wc.cell? ⟨gb251, 2, none⟩ = some (.slice A0_2 l0_2.length c0_2) := (blk_cell BK251.out 2).trans rfl
    have hfz21_0 := blk_frozen BK251.out 0
    have hfz21_1 := blk_frozen BK251.out 1
    have hfz21_2 := blk_frozen BK251.out 2
    go_wp2
    repeat (go_quiet (fail); try go_wp2)
    go_loopg [32] kj6 (fun kq v32 w' => ∃ (x32_2 : Int) (x4000_2 : Int), v32 = .int .i64 x32_2 ∧ Aside0 (impl_walk_impl_Winds_1.l0 kq l0_2 (l0_2.length : Int) x32_2 l1 l2 l4 l5 x4000_2 a0_0 a0_1 l0_2 = some (r1, r2, r3, r4)) ∧ Aside0 (kq ≤ kj6) ∧ Aside0 (w'.heap[gb251]? = some (.cells #[.int .i64 a0_0, .int .i64 a0_1, (.slice A0_2 l0_2.length c0_2)] 27 (0, 0))) ∧ Aside0 (IsS2 w0 w' g x4000_2) ∧ Aside0 (KeepBut w w' g none) ∧ Aside0 (Below w0.heap.size w0 w'))
    case atStart => exact ⟨(0), (x4000_6), (by first | rfl | (simp; done) | (simp [*]; done)), H', ⟨Nat.le_refl _⟩, ⟨by (with_reducible repeat (first | refine blk_drewN ?_ _ | refine blk_drew ?_ | refine blk_alloc ?_ _)); exact BK251.out⟩, ⟨by repeat (first | (with_reducible first | exact HI3.out | apply IsS2.alloc | apply IsS2.drewN | apply IsS2.drew | apply IsS2.set_0 | apply IsS2.far (hne := NB3_251.out)) | exact HI3.out)⟩, ⟨by repeat (first | (with_reducible first | exact HK.out | apply KeepBut.set_ | apply keep_drewN | apply keep_drew | apply keep_alloc | refine keep_far ?_ GW251.out _) | exact HK.out)⟩, ⟨by repeat (first | (with_reducible first | exact HB.out | apply below_alloc | apply pw_below_drewN | apply below_drew1 | refine below_set ?_ (IsS2.ge HI3.out) | refine below_set ?_ GE251.out) | exact HB.out)⟩⟩
    case round =>
     clear H'
     try clear c1
     try clear c2
     try clear p2
     try clear c4
     try clear c5
     try clear c9
     try clear c9b0
     try clear c9b1
     try clear c10
     try clear c13
     try clear c15
     try clear c17
     try clear c19
     try clear c20
     try clear hcz11_0
     try clear hcz11_1
     try clear hcz11_2
     try clear hcz16_0
     try clear hcz16_1
     try clear hcz16_2
     try clear hcz18_0
     try clear hcz18_1
     try clear hcz18_2
     try clear hcz21_0
     try clear hcz21_1
     try clear hcz21_2
     try clear hfz11_0
     try clear hfz11_1
     try clear hfz11_2
     try clear hfz16_0
     try clear hfz16_1
     try clear hfz16_2
     try clear hfz18_0
     try clear hfz18_1
     try clear hfz18_2
     try clear hfz21_0
     try clear hfz21_1
     try clear hfz21_2
     try clear p2
     obtain ⟨x32_2, x4000_2, rfl, HA, HK2, BK251, HI3, HK, HB⟩ := hrel
     cases gk with
     | zero => exact absurd HA.out (by simp [impl_walk_impl_Winds_1.l0])
     | succ k2 =>
      have H := HA.out
      clear HA
      simp only [impl_walk_impl_Winds_1.l0] at H
      by_cases c22 : x32_2 < (l0_2.length : Int)
      ·rw [if_pos c22] at H
       have c22b0 : decide (x32_2 < (l0_2.length : Int)) = true := decide_eq_true c22
       clear c22
       by_cases c23 : 0 ≤ x32_2
       ·rw [if_pos c23] at H
        have c23b0 : decide (0 ≤ x32_2) = true := decide_eq_true c23
        clear c23
        by_cases c24 : x32_2 < (l0_2.length : Int)
        ·rw [if_pos c24] at H
         have c24b0 : decide (x32_2 < (l0_2.length : Int)) = true := decide_eq_true c24
         clear c24
         replace H := Option.bind_eq_some_iff.mp H
         obtain ⟨t255, A250, H⟩ := H
         replace H : (if t255 = true then (impl_walk_impl_Winds_1.l0 k2 l0_2 (l0_2.length : Int) (wrap64 (x32_2 + 1)) l1 l2 l4 l5 x4000_2 a0_0 a0_1 l0_2) else (some (0, 0, false, x4000_2))) = some (r1, r2, r3, r4) := H
         have A25 := Aside0.mk A250
         clear A250
         by_cases c26 : t255 = true
         ·subst c26
          have H1 : (impl_walk_impl_Winds_1.l0 k2 l0_2 (l0_2.length : Int) (wrap64 (x32_2 + 1)) l1 l2 l4 l5 x4000_2 a0_0 a0_1 l0_2) = some (r1, r2, r3, r4) := by rw [if_pos rfl] at H; exact H
          clear H
          have H := H1
          clear H1
          have H' := Aside0.mk H
          clear H
          have p254 : 0 ≤ (x32_2 : Int) := of_decide_eq_true (by first | (with_reducible assumption) | assumption)
          have q254 : x32_2 < (l0_2.length : Int) := of_decide_eq_true (by first | (with_reducible assumption) | assumption)
          obtain ⟨ad254, e254, hx254_0⟩ := Kd.at_int HR0_2.out x32_2 p254 q254
          cases e254
          replace hx254_0 := keep_cell HK.out hx254_0 (by first | (rw [add_block]; exact hf0_2 _ rfl (by omega)) | exact hf0_2 _ rfl (by omega) | exact hf0_2 ad254 rfl (by omega))
          replace p254 := eq_true p254
          replace q254 := eq_true q254
          go_wp2_with (first | (go_at_call 26; (with_reducible refine (impl_in.calls (rd l0_2 x32_2) 0 3 true _ A25.out).mono ?_); rintro e w' ⟨rfl, ⟨nd, rfl⟩⟩; (try first | exact ⟨rfl, _, World.drewN_drewN _ _ _⟩ | exact ⟨rfl, _, Eq.trans (World.drewN_drewN _ _ _) (congrArg (World.drewN _) (Nat.add_assoc _ _ _))⟩)))
          repeat (go_quiet (first | (go_at_call 26; (with_reducible refine (impl_in.calls (rd l0_2 x32_2) 0 3 true _ A25.out).mono ?_); rintro e w' ⟨rfl, ⟨nd, rfl⟩⟩; (try first | exact ⟨rfl, _, World.drewN_drewN _ _ _⟩ | exact ⟨rfl, _, Eq.trans (World.drewN_drewN _ _ _) (congrArg (World.drewN _) (Nat.add_assoc _ _ _))⟩))); try go_wp2_with (first | (go_at_call 26; (with_reducible refine (impl_in.calls (rd l0_2 x32_2) 0 3 true _ A25.out).mono ?_); rintro e w' ⟨rfl, ⟨nd, rfl⟩⟩; (try first | exact ⟨rfl, _, World.drewN_drewN _ _ _⟩ | exact ⟨rfl, _, Eq.trans (World.drewN_drewN _ _ _) (congrArg (World.drewN _) (Nat.add_assoc _ _ _))⟩))))
          go_roundg k2
          case measure => have := HJ6.out; have := HK2.out; omega
          case rel => exact ⟨(wrap64 (x32_2 + 1)), (x4000_2), (by first | rfl | (simp; done) | (simp [*]; done)), H', ⟨by have := HJ6.out; have := HK2.out; omega⟩, ⟨by (with_reducible repeat (first | refine blk_drewN ?_ _ | refine blk_drew ?_ | refine blk_alloc ?_ _)); exact BK251.out⟩, ⟨by repeat (first | (with_reducible first | exact HI3.out | apply IsS2.alloc | apply IsS2.drewN | apply IsS2.drew | apply IsS2.set_0 | apply IsS2.far (hne := NB3_251.out)) | exact HI3.out)⟩, ⟨by repeat (first | (with_reducible first | exact HK.out | apply KeepBut.set_ | apply keep_drewN | apply keep_drew | apply keep_alloc | refine keep_far ?_ GW251.out _) | exact HK.out)⟩, ⟨by repeat (first | (with_reducible first | exact HB.out | apply below_alloc | apply pw_below_drewN | apply below_drew1 | refine below_set ?_ (IsS2.ge HI3.out) | refine below_set ?_ GE251.out) | exact HB.out)⟩⟩
         ·replace c26 := Bool.eq_false_iff.mpr c26
          subst c26
          have H1 : (some (0, 0, false, x4000_2)) = some (r1, r2, r3, r4) := by rw [if_neg (show ¬ (false = true) by decide)] at H; exact H
          clear H
          have H := H1
          clear H1
          simp only [Option.some.injEq, Prod.mk.injEq] at H
          obtain ⟨rfl, rfl, rfl, rfl⟩ := H
          have p254 : 0 ≤ (x32_2 : Int) := of_decide_eq_true (by first | (with_reducible assumption) | assumption)
          have q254 : x32_2 < (l0_2.length : Int) := of_decide_eq_true (by first | (with_reducible assumption) | assumption)
          obtain ⟨ad254, e254, hx254_0⟩ := Kd.at_int HR0_2.out x32_2 p254 q254
          cases e254
          replace hx254_0 := keep_cell HK.out hx254_0 (by first | (rw [add_block]; exact hf0_2 _ rfl (by omega)) | exact hf0_2 _ rfl (by omega) | exact hf0_2 ad254 rfl (by omega))
          replace p254 := eq_true p254
          replace q254 := eq_true q254
          go_wp2_with (first | (go_at_call 26; (with_reducible refine (impl_in.calls (rd l0_2 x32_2) 0 3 false _ A25.out).mono ?_); rintro e w' ⟨rfl, ⟨nd, rfl⟩⟩; (try first | exact ⟨rfl, _, World.drewN_drewN _ _ _⟩ | exact ⟨rfl, _, Eq.trans (World.drewN_drewN _ _ _) (congrArg (World.drewN _) (Nat.add_assoc _ _ _))⟩)))
          repeat (go_quiet (first | (go_at_call 26; (with_reducible refine (impl_in.calls (rd l0_2 x32_2) 0 3 false _ A25.out).mono ?_); rintro e w' ⟨rfl, ⟨nd, rfl⟩⟩; (try first | exact ⟨rfl, _, World.drewN_drewN _ _ _⟩ | exact ⟨rfl, _, Eq.trans (World.drewN_drewN _ _ _) (congrArg (World.drewN _) (Nat.add_assoc _ _ _))⟩))); try go_wp2_with (first | (go_at_call 26; (with_reducible refine (impl_in.calls (rd l0_2 x32_2) 0 3 false _ A25.out).mono ?_); rintro e w' ⟨rfl, ⟨nd, rfl⟩⟩; (try first | exact ⟨rfl, _, World.drewN_drewN _ _ _⟩ | exact ⟨rfl, _, Eq.trans (World.drewN_drewN _ _ _) (congrArg (World.drewN _) (Nat.add_assoc _ _ _))⟩))))
          go_ret3
          exact ⟨by first | rfl | (simp [errW_none, errW_some] <;> rfl) | (simp [*, errW_none, errW_some] <;> rfl), by repeat (first | (with_reducible first | exact HI3.out | apply IsS2.alloc | apply IsS2.drewN | apply IsS2.drew | apply IsS2.set_0 | apply IsS2.far (hne := NB3_251.out)) | exact HI3.out), by repeat (first | (with_reducible first | exact HB.out | apply below_alloc | apply pw_below_drewN | apply below_drew1 | refine below_set ?_ (IsS2.ge HI3.out) | refine below_set ?_ GE251.out) | exact HB.out), by repeat (first | (with_reducible first | exact HK.out | apply KeepBut.set_ | apply keep_drewN | apply keep_drew | apply keep_alloc | refine keep_far ?_ GW251.out _) | exact HK.out)⟩
        ·rw [if_neg c24] at H
         exact absurd H (by simp)
       ·rw [if_neg c23] at H
        exact absurd H (by simp)
      ·rw [if_neg c22] at H
       have c22b0 : decide (x32_2 < (l0_2.length : Int)) = false := decide_eq_false c22
       clear c22
       have H' := Aside0.mk H
       clear H
       have hnb27 := NB251_3.out
       have hnc27 := NB3_251.out
       have hcz28_0 : wr.cell? ⟨gb251, 0, none⟩ = some (.int .i64 a0_0) := (blk_cell BK251.out 0).trans rfl
       have hcz28_1 : wr.cell? ⟨gb251, 1, none⟩ = some (.int .i64 a0_1) := (blk_cell BK251.out 1).trans rfl
       have hcz28_2 : wr.cell? ⟨gb251, 2, none⟩ = some (.slice A0_2 l0_2.length c0_2) := (blk_cell BK251.out 2).trans rfl
       have hfz28_0 := blk_frozen BK251.out 0
       have hfz28_1 := blk_frozen BK251.out 1
       have hfz28_2 := blk_frozen BK251.out 2
       go_wp2
       repeat (go_quiet (fail); try go_wp2)
       go_loopg [9, 10, 47] k2 (fun kq v9 v10 v47 w' => ∃ (x9_3 : Int) (x10_3 : Int) (x47_3 : Int) (x4000_3 : Int), v9 = .int .i64 x9_3 ∧ v10 = .int .i64 x10_3 ∧ v47 = .int .i64 x47_3 ∧ Aside0 (impl_walk_impl_Winds_1.l1 kq x9_3 x10_3 l0_2 (l0_2.length : Int) x47_3 l1 l2 l4 l5 x4000_3 = some (r1, r2, r3, r4)) ∧ Aside0 (kq ≤ k2) ∧ Aside0 (w'.heap[gb251]? = some (.cells #[.int .i64 a0_0, .int .i64 a0_1, (.slice A0_2 l0_2.length c0_2)] 27 (0, 0))) ∧ Aside0 (IsS2 w0 w' g x4000_3) ∧ Aside0 (KeepBut w w' g none) ∧ Aside0 (Below w0.heap.size w0 w'))
       case atStart => exact ⟨(a0_0), (a0_1), (0), (x4000_2), (by first | rfl | (simp; done) | (simp [*]; done)), (by first | rfl | (simp; done) | (simp [*]; done)), (by first | rfl | (simp; done) | (simp [*]; done)), H', ⟨Nat.le_refl _⟩, ⟨by (with_reducible repeat (first | refine blk_drewN ?_ _ | refine blk_drew ?_ | refine blk_alloc ?_ _)); exact BK251.out⟩, ⟨by repeat (first | (with_reducible first | exact HI3.out | apply IsS2.alloc | apply IsS2.drewN | apply IsS2.drew | apply IsS2.set_0 | apply IsS2.far (hne := NB3_251.out)) | exact HI3.out)⟩, ⟨by repeat (first | (with_reducible first | exact HK.out | apply KeepBut.set_ | apply keep_drewN | apply keep_drew | apply keep_alloc | refine keep_far ?_ GW251.out _) | exact HK.out)⟩, ⟨by repeat (first | (with_reducible first | exact HB.out | apply below_alloc | apply pw_below_drewN | apply below_drew1 | refine below_set ?_ (IsS2.ge HI3.out) | refine below_set ?_ GE251.out) | exact HB.out)⟩⟩
       case round =>
        clear H'
        try clear c1
        try clear c2
        try clear p2
        try clear q2
        try clear hx2
        try clear c4
        try clear c5
        try clear p6
        try clear c9
        try clear c9b0
        try clear c9b1
        try clear c10
        try clear c13
        try clear c15
        try clear c17
        try clear c19
        try clear c20
        try clear c22
        try clear c22b0
        try clear c23
        try clear c23b0
        try clear c24
        try clear c24b0
        try clear p25
        try clear q25
        try clear hx25
        try clear c26
        try clear c27
        try clear hcz11_0
        try clear hcz11_1
        try clear hcz11_2
        try clear hcz16_0
        try clear hcz16_1
        try clear hcz16_2
        try clear hcz18_0
        try clear hcz18_1
        try clear hcz18_2
        try clear hcz21_0
        try clear hcz21_1
        try clear hcz21_2
        try clear hcz28_0
        try clear hcz28_1
        try clear hcz28_2
        try clear hfz11_0
        try clear hfz11_1
        try clear hfz11_2
        try clear hfz16_0
        try clear hfz16_1
        try clear hfz16_2
        try clear hfz18_0
        try clear hfz18_1
        try clear hfz18_2
        try clear hfz21_0
        try clear hfz21_1
        try clear hfz21_2
        try clear hfz28_0
        try clear hfz28_1
        try clear hfz28_2
        try clear hx254_0
        try clear p2
        try clear p254
        try clear q254
        obtain ⟨x9_3, x10_3, x47_3, x4000_3, rfl, rfl, rfl, HA, HK3, BK251, HI3, HK, HB⟩ := hrel
        cases gk with
        | zero => exact absurd HA.out (by simp [impl_walk_impl_Winds_1.l1])
        | succ k3 =>
         have H := HA.out
         clear HA
         simp only [impl_walk_impl_Winds_1.l1] at H
         by_cases c29 : x47_3 < (l0_2.length : Int)
         ·rw [if_pos c29] at H
          have c29b0 : decide (x47_3 < (l0_2.length : Int)) = true := decide_eq_true c29
          clear c29
          by_cases c30 : 0 ≤ x47_3
          ·rw [if_pos c30] at H
           have c30b0 : decide (0 ≤ x47_3) = true := decide_eq_true c30
           clear c30
           by_cases c31 : x47_3 < (l0_2.length : Int)
           ·rw [if_pos c31] at H
            have c31b0 : decide (x47_3 < (l0_2.length : Int)) = true := decide_eq_true c31
            clear c31
            replace H := Option.bind_eq_some_iff.mp H
            obtain ⟨t257, A320, H⟩ := H
            replace H : (if 0 ≤ (rd l0_2 x47_3) then (if (rd l0_2 x47_3) < 4 then (impl_walk_impl_Winds_1.l1 k3 (wrap64 (x9_3 + (rd l4 (rd l0_2 x47_3)))) (wrap64 (x10_3 + (rd l5 (rd l0_2 x47_3)))) l0_2 (l0_2.length : Int) (wrap64 (x47_3 + 1)) l1 l2 l4 l5 t257) else (none)) else (none)) = some (r1, r2, r3, r4) := H
            have A32 := Aside0.mk A320
            clear A320
            by_cases c33 : 0 ≤ (rd l0_2 x47_3)
            ·rw [if_pos c33] at H
             have c33b0 : decide (0 ≤ (rd l0_2 x47_3)) = true := decide_eq_true c33
             clear c33
             by_cases c34 : (rd l0_2 x47_3) < 4
             ·rw [if_pos c34] at H
              have c34b0 : decide ((rd l0_2 x47_3) < 4) = true := decide_eq_true c34
              clear c34
              have H' := Aside0.mk H
              clear H
              have p256 : 0 ≤ (x47_3 : Int) := of_decide_eq_true (by first | (with_reducible assumption) | assumption)
              have q256 : x47_3 < (l0_2.length : Int) := of_decide_eq_true (by first | (with_reducible assumption) | assumption)
              obtain ⟨ad256, e256, hx256_0⟩ := Kd.at_int HR0_2.out x47_3 p256 q256
              cases e256
              replace hx256_0 := keep_cell HK.out hx256_0 (by first | (rw [add_block]; exact hf0_2 _ rfl (by omega)) | exact hf0_2 _ rfl (by omega) | exact hf0_2 ad256 rfl (by omega))
              replace p256 := eq_true p256
              replace q256 := eq_true q256
              go_wp2_with (first | (go_at_call 24; (with_reducible refine (impl_Winds_1.calls k3 x9_3 x10_3 (rd l0_2 x47_3) _ l1 _ l2 g x4000_3 t257 w0 _ ?side1 ?side2 ?side3 ?side4 ?side5 ?side6 ?side7 ?side8 A32.out).mono ?_); (case side1 => repeat (first | (with_reducible first | exact HI3.out | apply IsS2.alloc | apply IsS2.drewN | apply IsS2.drew | apply IsS2.set_0 | apply IsS2.far (hne := NB3_251.out)) | exact HI3.out)); (case side2 => repeat (first | (with_reducible first | exact HB.out | apply below_alloc | apply pw_below_drewN | apply below_drew1 | refine below_set ?_ (IsS2.ge HI3.out) | refine below_set ?_ GE251.out) | exact HB.out)); (case side3 => exact Kd.C_keep 0 HR1.out (by repeat (first | (with_reducible first | exact HK.out | apply KeepBut.set_ | apply keep_drewN | apply keep_drew | apply keep_alloc | refine keep_far ?_ GW251.out _) | exact HK.out)) hf1); (case side4 => exact HC1.out); (case side5 => exact hf1); (case side6 => exact Kd.C_keep 0 HR2.out (by repeat (first | (with_reducible first | exact HK.out | apply KeepBut.set_ | apply keep_drewN | apply keep_drew | apply keep_alloc | refine keep_far ?_ GW251.out _) | exact HK.out)) hf2); (case side7 => exact HC2.out); (case side8 => exact hf2); rintro e w35 ⟨rfl, hi, hb, hk⟩; have n0_ := Aside0.mk (KeepBut.blk hk (g' := gb251) (o := .cells #[.int .i64 a0_0, .int .i64 a0_1, .slice (some ad256) l0_2.length c0_2] 27 (0, 0)) (by (with_reducible repeat (first | refine blk_drewN ?_ _ | refine blk_drew ?_ | refine blk_alloc ?_ _)); exact BK251.out) NB251_3.out (by simp)); have n1_ := Aside0.mk (KeepBut.trans (by repeat (first | (with_reducible first | exact HK.out | apply KeepBut.set_ | apply keep_drewN | apply keep_drew | apply keep_alloc | refine keep_far ?_ GW251.out _) | exact HK.out)) hk (.inl rfl)); have n2_ := Aside0.mk (hb); have n3_ := Aside0.mk (hi); clear BK251; clear HK; clear HB; clear HI3; have BK251 := n0_; have HK := n1_; have HB := n2_; have HI3 := n3_; clear n0_ n1_ n2_ n3_; (try clear hb); (try clear hb2); (try clear hk); (try clear hi); have p258 : 0 ≤ ((rd l0_2 x47_3) : Int) := of_decide_eq_true (by first | (with_reducible assumption) | assumption); have q258 : (rd l0_2 x47_3) < (l4.length : Int) := (by have h_ : ((rd l0_2 x47_3) : Int) < (4 : Int) := of_decide_eq_true (by first | (with_reducible assumption) | assumption); have e_ := HN4.out; omega); have ql258 : (((rd l0_2 x47_3) : Int) < (4 : Int)) = True := eq_true (of_decide_eq_true (by first | (with_reducible assumption) | assumption)); obtain ⟨ad258, e258, hx258_0⟩ := Kd.at_int HR4.out (rd l0_2 x47_3) p258 q258; obtain rfl : (⟨0, 0, none⟩ : Addr) = ad258 := (by injection e258); (first | simp only [add_plain] at hx258_0 | simp only [add_at] at hx258_0 | simp only [Addr.add, Nat.zero_add] at hx258_0 | skip); replace hx258_0 := keep_cell HK.out hx258_0 (by first | (rw [add_block]; exact hf4 _ rfl (by omega)) | exact hf4 _ rfl (by omega) | exact hf4 ⟨0, 0, none⟩ rfl (by omega)); replace p258 := eq_true p258; replace q258 := eq_true q258; have p259 : 0 ≤ ((rd l0_2 x47_3) : Int) := of_decide_eq_true (by first | (with_reducible assumption) | assumption); have q259 : (rd l0_2 x47_3) < (l5.length : Int) := (by have h_ : ((rd l0_2 x47_3) : Int) < (4 : Int) := of_decide_eq_true (by first | (with_reducible assumption) | assumption); have e_ := HN5.out; omega); have ql259 : (((rd l0_2 x47_3) : Int) < (4 : Int)) = True := eq_true (of_decide_eq_true (by first | (with_reducible assumption) | assumption)); obtain ⟨ad259, e259, hx259_0⟩ := Kd.at_int HR5.out (rd l0_2 x47_3) p259 q259; obtain rfl : (⟨1, 0, none⟩ : Addr) = ad259 := (by injection e259); (first | simp only [add_plain] at hx259_0 | simp only [add_at] at hx259_0 | simp only [Addr.add, Nat.zero_add] at hx259_0 | skip); replace hx259_0 := keep_cell HK.out hx259_0 (by first | (rw [add_block]; exact hf5 _ rfl (by omega)) | exact hf5 _ rfl (by omega) | exact hf5 ⟨1, 0, none⟩ rfl (by omega)); replace p259 := eq_true p259; replace q259 := eq_true q259))
              repeat (go_quiet (first | (go_at_call 24; (with_reducible refine (impl_Winds_1.calls k3 x9_3 x10_3 (rd l0_2 x47_3) _ l1 _ l2 g x4000_3 t257 w0 _ ?side1 ?side2 ?side3 ?side4 ?side5 ?side6 ?side7 ?side8 A32.out).mono ?_); (case side1 => repeat (first | (with_reducible first | exact HI3.out | apply IsS2.alloc | apply IsS2.drewN | apply IsS2.drew | apply IsS2.set_0 | apply IsS2.far (hne := NB3_251.out)) | exact HI3.out)); (case side2 => repeat (first | (with_reducible first | exact HB.out | apply below_alloc | apply pw_below_drewN | apply below_drew1 | refine below_set ?_ (IsS2.ge HI3.out) | refine below_set ?_ GE251.out) | exact HB.out)); (case side3 => exact Kd.C_keep 0 HR1.out (by repeat (first | (with_reducible first | exact HK.out | apply KeepBut.set_ | apply keep_drewN | apply keep_drew | apply keep_alloc | refine keep_far ?_ GW251.out _) | exact HK.out)) hf1); (case side4 => exact HC1.out); (case side5 => exact hf1); (case side6 => exact Kd.C_keep 0 HR2.out (by repeat (first | (with_reducible first | exact HK.out | apply KeepBut.set_ | apply keep_drewN | apply keep_drew | apply keep_alloc | refine keep_far ?_ GW251.out _) | exact HK.out)) hf2); (case side7 => exact HC2.out); (case side8 => exact hf2); rintro e w35 ⟨rfl, hi, hb, hk⟩; have n0_ := Aside0.mk (KeepBut.blk hk (g' := gb251) (o := .cells #[.int .i64 a0_0, .int .i64 a0_1, .slice (some ad256) l0_2.length c0_2] 27 (0, 0)) (by (with_reducible repeat (first | refine blk_drewN ?_ _ | refine blk_drew ?_ | refine blk_alloc ?_ _)); exact BK251.out) NB251_3.out (by simp)); have n1_ := Aside0.mk (KeepBut.trans (by repeat (first | (with_reducible first | exact HK.out | apply KeepBut.set_ | apply keep_drewN | apply keep_drew | apply keep_alloc | refine keep_far ?_ GW251.out _) | exact HK.out)) hk (.inl rfl)); have n2_ := Aside0.mk (hb); have n3_ := Aside0.mk (hi); clear BK251; clear HK; clear HB; clear HI3; have BK251 := n0_; have HK := n1_; have HB := n2_; have HI3 := n3_; clear n0_ n1_ n2_ n3_; (try clear hb); (try clear hb2); (try clear hk); (try clear hi); have p258 : 0 ≤ ((rd l0_2 x47_3) : Int) := of_decide_eq_true (by first | (with_reducible assumption) | assumption); have q258 : (rd l0_2 x47_3) < (l4.length : Int) := (by have h_ : ((rd l0_2 x47_3) : Int) < (4 : Int) := of_decide_eq_true (by first | (with_reducible assumption) | assumption); have e_ := HN4.out; omega); have ql258 : (((rd l0_2 x47_3) : Int) < (4 : Int)) = True := eq_true (of_decide_eq_true (by first | (with_reducible assumption) | assumption)); obtain ⟨ad258, e258, hx258_0⟩ := Kd.at_int HR4.out (rd l0_2 x47_3) p258 q258; obtain rfl : (⟨0, 0, none⟩ : Addr) = ad258 := (by injection e258); (first | simp only [add_plain] at hx258_0 | simp only [add_at] at hx258_0 | simp only [Addr.add, Nat.zero_add] at hx258_0 | skip); replace hx258_0 := keep_cell HK.out hx258_0 (by first | (rw [add_block]; exact hf4 _ rfl (by omega)) | exact hf4 _ rfl (by omega) | exact hf4 ⟨0, 0, none⟩ rfl (by omega)); replace p258 := eq_true p258; replace q258 := eq_true q258; have p259 : 0 ≤ ((rd l0_2 x47_3) : Int) := of_decide_eq_true (by first | (with_reducible assumption) | assumption); have q259 : (rd l0_2 x47_3) < (l5.length : Int) := (by have h_ : ((rd l0_2 x47_3) : Int) < (4 : Int) := of_decide_eq_true (by first | (with_reducible assumption) | assumption); have e_ := HN5.out; omega); have ql259 : (((rd l0_2 x47_3) : Int) < (4 : Int)) = True := eq_true (of_decide_eq_true (by first | (with_reducible assumption) | assumption)); obtain ⟨ad259, e259, hx259_0⟩ := Kd.at_int HR5.out (rd l0_2 x47_3) p259 q259; obtain rfl : (⟨1, 0, none⟩ : Addr) = ad259 := (by injection e259); (first | simp only [add_plain] at hx259_0 | simp only [add_at] at hx259_0 | simp only [Addr.add, Nat.zero_add] at hx259_0 | skip); replace hx259_0 := keep_cell HK.out hx259_0 (by first | (rw [add_block]; exact hf5 _ rfl (by omega)) | exact hf5 _ rfl (by omega) | exact hf5 ⟨1, 0, none⟩ rfl (by omega)); replace p259 := eq_true p259; replace q259 := eq_true q259)); try go_wp2_with (first | (go_at_call 24; (with_reducible refine (impl_Winds_1.calls k3 x9_3 x10_3 (rd l0_2 x47_3) _ l1 _ l2 g x4000_3 t257 w0 _ ?side1 ?side2 ?side3 ?side4 ?side5 ?side6 ?side7 ?side8 A32.out).mono ?_); (case side1 => repeat (first | (with_reducible first | exact HI3.out | apply IsS2.alloc | apply IsS2.drewN | apply IsS2.drew | apply IsS2.set_0 | apply IsS2.far (hne := NB3_251.out)) | exact HI3.out)); (case side2 => repeat (first | (with_reducible first | exact HB.out | apply below_alloc | apply pw_below_drewN | apply below_drew1 | refine below_set ?_ (IsS2.ge HI3.out) | refine below_set ?_ GE251.out) | exact HB.out)); (case side3 => exact Kd.C_keep 0 HR1.out (by repeat (first | (with_reducible first | exact HK.out | apply KeepBut.set_ | apply keep_drewN | apply keep_drew | apply keep_alloc | refine keep_far ?_ GW251.out _) | exact HK.out)) hf1); (case side4 => exact HC1.out); (case side5 => exact hf1); (case side6 => exact Kd.C_keep 0 HR2.out (by repeat (first | (with_reducible first | exact HK.out | apply KeepBut.set_ | apply keep_drewN | apply keep_drew | apply keep_alloc | refine keep_far ?_ GW251.out _) | exact HK.out)) hf2); (case side7 => exact HC2.out); (case side8 => exact hf2); rintro e w35 ⟨rfl, hi, hb, hk⟩; have n0_ := Aside0.mk (KeepBut.blk hk (g' := gb251) (o := .cells #[.int .i64 a0_0, .int .i64 a0_1, .slice (some ad256) l0_2.length c0_2] 27 (0, 0)) (by (with_reducible repeat (first | refine blk_drewN ?_ _ | refine blk_drew ?_ | refine blk_alloc ?_ _)); exact BK251.out) NB251_3.out (by simp)); have n1_ := Aside0.mk (KeepBut.trans (by repeat (first | (with_reducible first | exact HK.out | apply KeepBut.set_ | apply keep_drewN | apply keep_drew | apply keep_alloc | refine keep_far ?_ GW251.out _) | exact HK.out)) hk (.inl rfl)); have n2_ := Aside0.mk (hb); have n3_ := Aside0.mk (hi); clear BK251; clear HK; clear HB; clear HI3; have BK251 := n0_; have HK := n1_; have HB := n2_; have HI3 := n3_; clear n0_ n1_ n2_ n3_; (try clear hb); (try clear hb2); (try clear hk); (try clear hi); have p258 : 0 ≤ ((rd l0_2 x47_3) : Int) := of_decide_eq_true (by first | (with_reducible assumption) | assumption); have q258 : (rd l0_2 x47_3) < (l4.length : Int) := (by have h_ : ((rd l0_2 x47_3) : Int) < (4 : Int) := of_decide_eq_true (by first | (with_reducible assumption) | assumption); have e_ := HN4.out; omega); have ql258 : (((rd l0_2 x47_3) : Int) < (4 : Int)) = True := eq_true (of_decide_eq_true (by first | (with_reducible assumption) | assumption)); obtain ⟨ad258, e258, hx258_0⟩ := Kd.at_int HR4.out (rd l0_2 x47_3) p258 q258; obtain rfl : (⟨0, 0, none⟩ : Addr) = ad258 := (by injection e258); (first | simp only [add_plain] at hx258_0 | simp only [add_at] at hx258_0 | simp only [Addr.add, Nat.zero_add] at hx258_0 | skip); replace hx258_0 := keep_cell HK.out hx258_0 (by first | (rw [add_block]; exact hf4 _ rfl (by omega)) | exact hf4 _ rfl (by omega) | exact hf4 ⟨0, 0, none⟩ rfl (by omega)); replace p258 := eq_true p258; replace q258 := eq_true q258; have p259 : 0 ≤ ((rd l0_2 x47_3) : Int) := of_decide_eq_true (by first | (with_reducible assumption) | assumption); have q259 : (rd l0_2 x47_3) < (l5.length : Int) := (by have h_ : ((rd l0_2 x47_3) : Int) < (4 : Int) := of_decide_eq_true (by first | (with_reducible assumption) | assumption); have e_ := HN5.out; omega); have ql259 : (((rd l0_2 x47_3) : Int) < (4 : Int)) = True := eq_true (of_decide_eq_true (by first | (with_reducible assumption) | assumption)); obtain ⟨ad259, e259, hx259_0⟩ := Kd.at_int HR5.out (rd l0_2 x47_3) p259 q259; obtain rfl : (⟨1, 0, none⟩ : Addr) = ad259 := (by injection e259); (first | simp only [add_plain] at hx259_0 | simp only [add_at] at hx259_0 | simp only [Addr.add, Nat.zero_add] at hx259_0 | skip); replace hx259_0 := keep_cell HK.out hx259_0 (by first | (rw [add_block]; exact hf5 _ rfl (by omega)) | exact hf5 _ rfl (by omega) | exact hf5 ⟨1, 0, none⟩ rfl (by omega)); replace p259 := eq_true p259; replace q259 := eq_true q259)))
              go_roundg k3
              case measure => have := HJ6.out; have := HK2.out; have := HK3.out; omega
              case rel => exact ⟨(wrap64 (x9_3 + (rd l4 (rd l0_2 x47_3)))), (wrap64 (x10_3 + (rd l5 (rd l0_2 x47_3)))), (wrap64 (x47_3 + 1)), (t257), (by first | rfl | (simp; done) | (simp [*]; done)), (by first | rfl | (simp; done) | (simp [*]; done)), (by first | rfl | (simp; done) | (simp [*]; done)), H', ⟨by have := HJ6.out; have := HK2.out; have := HK3.out; omega⟩, ⟨by (with_reducible repeat (first | refine blk_drewN ?_ _ | refine blk_drew ?_ | refine blk_alloc ?_ _)); exact BK251.out⟩, ⟨by repeat (first | (with_reducible first | exact HI3.out | apply IsS2.alloc | apply IsS2.drewN | apply IsS2.drew | apply IsS2.set_0 | apply IsS2.far (hne := NB3_251.out)) | exact HI3.out)⟩, ⟨by repeat (first | (with_reducible first | exact HK.out | apply KeepBut.set_ | apply keep_drewN | apply keep_drew | apply keep_alloc | refine keep_far ?_ GW251.out _) | exact HK.out)⟩, ⟨by repeat (first | (with_reducible first | exact HB.out | apply below_alloc | apply pw_below_drewN | apply below_drew1 | refine below_set ?_ (IsS2.ge HI3.out) | refine below_set ?_ GE251.out) | exact HB.out)⟩⟩
             ·rw [if_neg c34] at H
              exact absurd H (by simp)
            ·rw [if_neg c33] at H
             exact absurd H (by simp)
           ·rw [if_neg c31] at H
            exact absurd H (by simp)
          ·rw [if_neg c30] at H
           exact absurd H (by simp)
         ·rw [if_neg c29] at H
          have c29b0 : decide (x47_3 < (l0_2.length : Int)) = false := decide_eq_false c29
          clear c29
          simp only [Option.some.injEq, Prod.mk.injEq] at H
          obtain ⟨rfl, rfl, rfl, rfl⟩ := H
          go_wp2
          repeat (go_quiet (fail); try go_wp2)
          go_ret3
          exact ⟨by first | rfl | (simp [errW_none, errW_some] <;> rfl) | (simp [*, errW_none, errW_some] <;> rfl), by repeat (first | (with_reducible first | exact HI3.out | apply IsS2.alloc | apply IsS2.drewN | apply IsS2.drew | apply IsS2.set_0 | apply IsS2.far (hne := NB3_251.out)) | exact HI3.out), by repeat (first | (with_reducible first | exact HB.out | apply below_alloc | apply pw_below_drewN | apply below_drew1 | refine below_set ?_ (IsS2.ge HI3.out) | refine below_set ?_ GE251.out) | exact HB.out), by repeat (first | (with_reducible first | exact HK.out | apply KeepBut.set_ | apply keep_drewN | apply keep_drew | apply keep_alloc | refine keep_far ?_ GW251.out _) | exact HK.out)⟩

end Go.Proofs.YtmndffnjejgfoabDoor.Q
