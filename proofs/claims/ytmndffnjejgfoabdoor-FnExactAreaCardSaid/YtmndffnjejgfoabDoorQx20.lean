/- Plain Lean functions with the same answers as the Go functions of this seat, and a proof for each that the Go code comes to just these answers; no condition. Written by a program of this session (the kit's printer, turned). -/
import Derived.Test.YtmndffnjejgfoabDoorQx0
import Derived.Test.YtmndffnjejgfoabDoorQx10
import Derived.Test.YtmndffnjejgfoabDoorQx19
namespace Go.Proofs.YtmndffnjejgfoabDoor.Q
open Go.RowKit Go.Proofs.YtmndffnjejgfoabDoorW.PrintWords Go.Proofs.YtmndffnjejgfoabDoorW.PrintLast Go.Proofs.YtmndffnjejgfoabDoorW.PrintMore
attribute [local go_sem] max2_int min2_int max_two min_two max_three min_three max_four min_four   -- for this text's walks alone
set_option linter.unusedVariables false
set_option linter.unusedSimpArgs false

/-! ### impl_walk_impl_Area_1: function 20 -/
mutual
def impl_walk_impl_Area_1.j0 : Nat → Bool → List Int → List Int → Int → Int → Int → List Int → Option (Int × Int × Bool × Int)
 | 0, _, _, _, _, _, _, _ => none
 | k + 1, x28, x950, x951, x2000, x199000, x199001, x199002 => if x28 = true then (some (0, 0, false, x2000)) else (impl_walk_impl_Area_1.l0 k x199002 (x199002.length : Int) 0 x950 x951 x2000 x199000 x199001 x199002)
def impl_walk_impl_Area_1.l0 : Nat → List Int → Int → Int → List Int → List Int → Int → Int → Int → List Int → Option (Int × Int × Bool × Int)
 | 0, _, _, _, _, _, _, _, _, _ => none
 | k + 1, x30, x31, x32, x950, x951, x2000, x199000, x199001, x199002 => if x32 < x31 then (if 0 ≤ x32 then (if x32 < (x30.length : Int) then ((impl_in.f (rd x30 x32) 0 3).bind fun t202 => (if t202 = true then (impl_walk_impl_Area_1.l0 k x30 x31 (wrap64 (x32 + 1)) x950 x951 x2000 x199000 x199001 x199002) else (some (0, 0, false, x2000)))) else (none)) else (none)) else (impl_walk_impl_Area_1.l1 k x199000 x199001 x199002 (x199002.length : Int) 0 x950 x951 x2000)
def impl_walk_impl_Area_1.l1 : Nat → Int → Int → List Int → Int → Int → List Int → List Int → Int → Option (Int × Int × Bool × Int)
 | 0, _, _, _, _, _, _, _, _ => none
 | k + 1, x9, x10, x45, x46, x47, x950, x951, x2000 => if x47 < x46 then (if 0 ≤ x47 then (if x47 < (x45.length : Int) then ((impl_Area_1.f x9 x10 (rd x45 x47) x2000).bind fun t204 => (if 0 ≤ (rd x45 x47) then (if (rd x45 x47) < 4 then (impl_walk_impl_Area_1.l1 k (wrap64 (x9 + (rd x950 (rd x45 x47)))) (wrap64 (x10 + (rd x951 (rd x45 x47)))) x45 x46 (wrap64 (x47 + 1)) x950 x951 t204) else (none)) else (none))) else (none)) else (none)) else (some (x9, x10, true, x2000))
end
def impl_walk_impl_Area_1.f (k : Nat) (a0_0 : Int) (a0_1 : Int) (l0_2 : List Int) (s1_0 : Int) (l2 : List Int) (l3 : List Int) : Option (Int × Int × Bool × Int) := if (l0_2.length : Int) > 2000 then (impl_walk_impl_Area_1.j0 k true l2 l3 s1_0 a0_0 a0_1 l0_2) else ((impl_in.f a0_0 (-1000000) 1000000).bind fun t199 => (if t199 = true then ((impl_in.f a0_1 (-1000000) 1000000).bind fun t200 => (impl_walk_impl_Area_1.j0 k (!t200) l2 l3 s1_0 a0_0 a0_1 l0_2)) else (impl_walk_impl_Area_1.j0 k true l2 l3 s1_0 a0_0 a0_1 l0_2)))
theorem impl_walk_impl_Area_1.mono_l : ∀ k, (∀ y0 y1 y2 y3 y4 y5 y6, LeO (impl_walk_impl_Area_1.j0 k y0 y1 y2 y3 y4 y5 y6) (impl_walk_impl_Area_1.j0 (k + 1) y0 y1 y2 y3 y4 y5 y6)) ∧ (∀ y0 y1 y2 y3 y4 y5 y6 y7 y8, LeO (impl_walk_impl_Area_1.l0 k y0 y1 y2 y3 y4 y5 y6 y7 y8) (impl_walk_impl_Area_1.l0 (k + 1) y0 y1 y2 y3 y4 y5 y6 y7 y8)) ∧ (∀ y0 y1 y2 y3 y4 y5 y6 y7, LeO (impl_walk_impl_Area_1.l1 k y0 y1 y2 y3 y4 y5 y6 y7) (impl_walk_impl_Area_1.l1 (k + 1) y0 y1 y2 y3 y4 y5 y6 y7))
 | 0 => ⟨fun _ _ _ _ _ _ _ r h => by simp [impl_walk_impl_Area_1.j0] at h, fun _ _ _ _ _ _ _ _ _ r h => by simp [impl_walk_impl_Area_1.l0] at h, fun _ _ _ _ _ _ _ _ r h => by simp [impl_walk_impl_Area_1.l1] at h⟩
 | k + 1 => by
  obtain ⟨ih0, ih1, ih2⟩ := impl_walk_impl_Area_1.mono_l k
  refine ⟨?_, ?_, ?_⟩
  ·intro y0 y1 y2 y3 y4 y5 y6
   unfold impl_walk_impl_Area_1.j0
   repeat' first
   | (with_reducible exact ih0 _ _ _ _ _ _ _)
   | (with_reducible exact ih1 _ _ _ _ _ _ _ _ _)
   | (with_reducible exact ih2 _ _ _ _ _ _ _ _)
   | (with_reducible exact LeO.refl _)
   | (with_reducible exact LeO.none _)
   | (with_reducible refine LeO.ite ?_ ?_)
   | (with_reducible refine LeO.bind ?_ (fun _ => ?_))
   | exact ih0 _ _ _ _ _ _ _
   | exact ih1 _ _ _ _ _ _ _ _ _
   | exact ih2 _ _ _ _ _ _ _ _
   | exact LeO.none _
   | refine LeO.ite ?_ ?_
   | refine LeO.bind ?_ (fun _ => ?_)
  ·intro y0 y1 y2 y3 y4 y5 y6 y7 y8
   unfold impl_walk_impl_Area_1.l0
   repeat' first
   | (with_reducible exact ih0 _ _ _ _ _ _ _)
   | (with_reducible exact ih1 _ _ _ _ _ _ _ _ _)
   | (with_reducible exact ih2 _ _ _ _ _ _ _ _)
   | (with_reducible exact LeO.refl _)
   | (with_reducible exact LeO.none _)
   | (with_reducible refine LeO.ite ?_ ?_)
   | (with_reducible refine LeO.bind ?_ (fun _ => ?_))
   | exact ih0 _ _ _ _ _ _ _
   | exact ih1 _ _ _ _ _ _ _ _ _
   | exact ih2 _ _ _ _ _ _ _ _
   | exact LeO.none _
   | refine LeO.ite ?_ ?_
   | refine LeO.bind ?_ (fun _ => ?_)
  ·intro y0 y1 y2 y3 y4 y5 y6 y7
   unfold impl_walk_impl_Area_1.l1
   repeat' first
   | (with_reducible exact ih0 _ _ _ _ _ _ _)
   | (with_reducible exact ih1 _ _ _ _ _ _ _ _ _)
   | (with_reducible exact ih2 _ _ _ _ _ _ _ _)
   | (with_reducible exact LeO.refl _)
   | (with_reducible exact LeO.none _)
   | (with_reducible refine LeO.ite ?_ ?_)
   | (with_reducible refine LeO.bind ?_ (fun _ => ?_))
   | exact ih0 _ _ _ _ _ _ _
   | exact ih1 _ _ _ _ _ _ _ _ _
   | exact ih2 _ _ _ _ _ _ _ _
   | exact LeO.none _
   | refine LeO.ite ?_ ?_
   | refine LeO.bind ?_ (fun _ => ?_)
theorem impl_walk_impl_Area_1.mono : ∀ a0 a1 a2 a3 a4 a5 k, LeO (impl_walk_impl_Area_1.f k a0 a1 a2 a3 a4 a5) (impl_walk_impl_Area_1.f (k + 1) a0 a1 a2 a3 a4 a5) := by
 intro a0 a1 a2 a3 a4 a5 k
 obtain ⟨ih0, ih1, ih2⟩ := impl_walk_impl_Area_1.mono_l k
 unfold impl_walk_impl_Area_1.f
 repeat' first
   | (with_reducible exact ih0 _ _ _ _ _ _ _)
   | (with_reducible exact ih1 _ _ _ _ _ _ _ _ _)
   | (with_reducible exact ih2 _ _ _ _ _ _ _ _)
   | (with_reducible exact LeO.refl _)
   | (with_reducible exact LeO.none _)
   | (with_reducible refine LeO.ite ?_ ?_)
   | (with_reducible refine LeO.bind ?_ (fun _ => ?_))
   | exact ih0 _ _ _ _ _ _ _
   | exact ih1 _ _ _ _ _ _ _ _ _
   | exact ih2 _ _ _ _ _ _ _ _
   | exact LeO.none _
   | refine LeO.ite ?_ ?_
   | refine LeO.bind ?_ (fun _ => ?_)
set_option maxHeartbeats 8000000 in
set_option maxRecDepth 100000 in
theorem impl_walk_impl_Area_1.calls (k : Nat) (a0_0 : Int) (a0_1 : Int) (A0_2 : Option Addr) (c0_2 : Nat) (l0_2 : List Int) (g : Nat) (s1_0 : Int) (l2 : List Int) (l3 : List Int) (r1 : Int) (r2 : Int) (r3 : Bool) (r4 : Int) (w0 w : World) (hI : IsS2 w0 w g s1_0) (hB : Below w0.heap.size w0 w) (hr0_2 : Kd.C (Kd.int .i64) w A0_2 l0_2.length l0_2) (hc0_2 : l0_2.length ≤ c0_2) (hf0_2 : ∀ ad, A0_2 = some ad → 0 < l0_2.length → ad.block ≠ g) (hr2 : Kd.C (Kd.int .i64) w (some ⟨0, 0, none⟩) l2.length l2) (hc2 : l2.length ≤ l2.length) (hf2 : ∀ ad : Addr, (some ⟨0, 0, none⟩ : Option Addr) = some ad → 0 < l2.length → ad.block ≠ g) (hr3 : Kd.C (Kd.int .i64) w (some ⟨1, 0, none⟩) l3.length l3) (hc3 : l3.length ≤ l3.length) (hf3 : ∀ ad : Addr, (some ⟨1, 0, none⟩ : Option Addr) = some ad → 0 < l3.length → ad.block ≠ g) (hn2 : l2.length = 4) (hn3 : l3.length = 4) (h : impl_walk_impl_Area_1.f k a0_0 a0_1 l0_2 s1_0 l2 l3 = some (r1, r2, r3, r4)) :
  Calls Tryd.prog 20 #[.agg #[.int .i64 a0_0, .int .i64 a0_1, .slice A0_2 l0_2.length c0_2], .func (.func 23) #[] #[.pointer (some ⟨g, 0, none⟩)]] w fun e w' => e = .returned (.tuple #[.int .i64 r1, .int .i64 r2, .bool r3]) ∧ IsS2 w0 w' g r4 ∧ Below w0.heap.size w0 w' ∧ KeepBut w w' g none := by
 have hu27 := Tryd.underlying27
 have hu45 := Tryd.underlying45
 have HR0_2 := Aside0.mk hr0_2
 have HC0_2 := Aside0.mk hc0_2
 clear hr0_2 hc0_2
 have HR2 := Aside0.mk hr2
 have HC2 := Aside0.mk hc2
 clear hr2 hc2
 have HN2 := Aside0.mk hn2
 clear hn2
 have HR3 := Aside0.mk hr3
 have HC3 := Aside0.mk hc3
 clear hr3 hc3
 have HN3 := Aside0.mk hn3
 clear hn3
 have HI1 := Aside0.mk hI
 have HK := Aside0.mk (KeepBut.refl w g none)
 have HL := Aside0.mk hB.size
 clear hI
 have HW0 := Aside0.mk hB.size
 have HB := Aside0.mk hB
 clear hB
 have H : (if (l0_2.length : Int) > 2000 then (impl_walk_impl_Area_1.j0 k true l2 l3 s1_0 a0_0 a0_1 l0_2) else ((impl_in.f a0_0 (-1000000) 1000000).bind fun t199 => (if t199 = true then ((impl_in.f a0_1 (-1000000) 1000000).bind fun t200 => (impl_walk_impl_Area_1.j0 k (!t200) l2 l3 s1_0 a0_0 a0_1 l0_2)) else (impl_walk_impl_Area_1.j0 k true l2 l3 s1_0 a0_0 a0_1 l0_2)))) = some (r1, r2, r3, r4) := h
 clear h
 have HC5 := Aside0.mk H
 clear H
 go_enter Tryd.func20, Tryd.ntmps20
 go_upto_region 1 with (first | ((with_reducible refine gate_dst (N := 2) rfl ?_); refine box_event ?hg (N := 2) ?hd (cs := #[.int .i64 a0_0, .int .i64 a0_1, .slice A0_2 l0_2.length c0_2]) (t := 27) ?hr ?_; (case hd => rfl); (case hg => rfl); (case hr => first | (go_simp; done) | (go_simp; rfl)); intro gb198 hg w6 hbox hb; have n0_ := Aside0.mk (IsS2.below (by repeat (first | (with_reducible first | exact HI1.out | apply IsS2.alloc | apply IsS2.drewN | apply IsS2.drew | apply IsS2.set_0) | exact HI1.out)) hb); have n1_ := Aside0.mk (KeepBut.trans (by repeat (first | (with_reducible first | exact HK.out | apply KeepBut.set_ | apply keep_drewN | apply keep_drew | apply keep_alloc) | exact HK.out)) (KeepBut.of_below hb g none) (.inl rfl)); have n2_ := Aside0.mk (below_step (by repeat (first | (with_reducible first | exact HB.out | apply below_alloc | apply pw_below_drewN | apply below_drew1 | refine below_set ?_ (IsS2.ge HI1.out)) | exact HB.out)) hb); have n3_ := Aside0.mk (hbox); have n4_ := Aside0.mk ((by rw [hg]; exact (keep_size (w := w) (g := g) (row := none) (by repeat (first | (with_reducible first | exact HK.out | apply KeepBut.set_ | apply keep_drewN | apply keep_drew | apply keep_alloc) | exact HK.out))) : w.heap.size ≤ gb198)); have n5_ := Aside0.mk ((Nat.le_trans HW0.out (by rw [hg]; exact (keep_size (w := w) (g := g) (row := none) (by repeat (first | (with_reducible first | exact HK.out | apply KeepBut.set_ | apply keep_drewN | apply keep_drew | apply keep_alloc) | exact HK.out))) : w.heap.size ≤ gb198) : w0.heap.size ≤ gb198)); have n6_ := Aside0.mk ((by rw [hg]; exact Nat.ne_of_lt (IsS2.lt (show IsS2 w0 _ g s1_0 from by repeat (first | (with_reducible first | exact HI1.out | apply IsS2.alloc | apply IsS2.drewN | apply IsS2.drew | apply IsS2.set_0) | exact HI1.out))) : g ≠ gb198)); have n7_ := Aside0.mk ((by rw [hg]; exact Nat.ne_of_gt (IsS2.lt (show IsS2 w0 _ g s1_0 from by repeat (first | (with_reducible first | exact HI1.out | apply IsS2.alloc | apply IsS2.drewN | apply IsS2.drew | apply IsS2.set_0) | exact HI1.out))) : gb198 ≠ g)); clear HI1; clear HK; clear HB; have HI1 := n0_; have HK := n1_; have HB := n2_; have BK198 := n3_; have GW198 := n4_; have GE198 := n5_; have NB1_198 := n6_; have NB198_1 := n7_; clear n0_ n1_ n2_ n3_ n4_ n5_ n6_ n7_; clear hb hbox hg))
 repeat (go_quiet (first | ((with_reducible refine gate_dst (N := 2) rfl ?_); refine box_event ?hg (N := 2) ?hd (cs := #[.int .i64 a0_0, .int .i64 a0_1, .slice A0_2 l0_2.length c0_2]) (t := 27) ?hr ?_; (case hd => rfl); (case hg => rfl); (case hr => first | (go_simp; done) | (go_simp; rfl)); intro gb198 hg w6 hbox hb; have n0_ := Aside0.mk (IsS2.below (by repeat (first | (with_reducible first | exact HI1.out | apply IsS2.alloc | apply IsS2.drewN | apply IsS2.drew | apply IsS2.set_0) | exact HI1.out)) hb); have n1_ := Aside0.mk (KeepBut.trans (by repeat (first | (with_reducible first | exact HK.out | apply KeepBut.set_ | apply keep_drewN | apply keep_drew | apply keep_alloc) | exact HK.out)) (KeepBut.of_below hb g none) (.inl rfl)); have n2_ := Aside0.mk (below_step (by repeat (first | (with_reducible first | exact HB.out | apply below_alloc | apply pw_below_drewN | apply below_drew1 | refine below_set ?_ (IsS2.ge HI1.out)) | exact HB.out)) hb); have n3_ := Aside0.mk (hbox); have n4_ := Aside0.mk ((by rw [hg]; exact (keep_size (w := w) (g := g) (row := none) (by repeat (first | (with_reducible first | exact HK.out | apply KeepBut.set_ | apply keep_drewN | apply keep_drew | apply keep_alloc) | exact HK.out))) : w.heap.size ≤ gb198)); have n5_ := Aside0.mk ((Nat.le_trans HW0.out (by rw [hg]; exact (keep_size (w := w) (g := g) (row := none) (by repeat (first | (with_reducible first | exact HK.out | apply KeepBut.set_ | apply keep_drewN | apply keep_drew | apply keep_alloc) | exact HK.out))) : w.heap.size ≤ gb198) : w0.heap.size ≤ gb198)); have n6_ := Aside0.mk ((by rw [hg]; exact Nat.ne_of_lt (IsS2.lt (show IsS2 w0 _ g s1_0 from by repeat (first | (with_reducible first | exact HI1.out | apply IsS2.alloc | apply IsS2.drewN | apply IsS2.drew | apply IsS2.set_0) | exact HI1.out))) : g ≠ gb198)); have n7_ := Aside0.mk ((by rw [hg]; exact Nat.ne_of_gt (IsS2.lt (show IsS2 w0 _ g s1_0 from by repeat (first | (with_reducible first | exact HI1.out | apply IsS2.alloc | apply IsS2.drewN | apply IsS2.drew | apply IsS2.set_0) | exact HI1.out))) : gb198 ≠ g)); clear HI1; clear HK; clear HB; have HI1 := n0_; have HK := n1_; have HB := n2_; have BK198 := n3_; have GW198 := n4_; have GE198 := n5_; have NB1_198 := n6_; have NB198_1 := n7_; clear n0_ n1_ n2_ n3_ n4_ n5_ n6_ n7_; clear hb hbox hg)); go_upto_region 1 with (first | ((with_reducible refine gate_dst (N := 2) rfl ?_); refine box_event ?hg (N := 2) ?hd (cs := #[.int .i64 a0_0, .int .i64 a0_1, .slice A0_2 l0_2.length c0_2]) (t := 27) ?hr ?_; (case hd => rfl); (case hg => rfl); (case hr => first | (go_simp; done) | (go_simp; rfl)); intro gb198 hg w6 hbox hb; have n0_ := Aside0.mk (IsS2.below (by repeat (first | (with_reducible first | exact HI1.out | apply IsS2.alloc | apply IsS2.drewN | apply IsS2.drew | apply IsS2.set_0) | exact HI1.out)) hb); have n1_ := Aside0.mk (KeepBut.trans (by repeat (first | (with_reducible first | exact HK.out | apply KeepBut.set_ | apply keep_drewN | apply keep_drew | apply keep_alloc) | exact HK.out)) (KeepBut.of_below hb g none) (.inl rfl)); have n2_ := Aside0.mk (below_step (by repeat (first | (with_reducible first | exact HB.out | apply below_alloc | apply pw_below_drewN | apply below_drew1 | refine below_set ?_ (IsS2.ge HI1.out)) | exact HB.out)) hb); have n3_ := Aside0.mk (hbox); have n4_ := Aside0.mk ((by rw [hg]; exact (keep_size (w := w) (g := g) (row := none) (by repeat (first | (with_reducible first | exact HK.out | apply KeepBut.set_ | apply keep_drewN | apply keep_drew | apply keep_alloc) | exact HK.out))) : w.heap.size ≤ gb198)); have n5_ := Aside0.mk ((Nat.le_trans HW0.out (by rw [hg]; exact (keep_size (w := w) (g := g) (row := none) (by repeat (first | (with_reducible first | exact HK.out | apply KeepBut.set_ | apply keep_drewN | apply keep_drew | apply keep_alloc) | exact HK.out))) : w.heap.size ≤ gb198) : w0.heap.size ≤ gb198)); have n6_ := Aside0.mk ((by rw [hg]; exact Nat.ne_of_lt (IsS2.lt (show IsS2 w0 _ g s1_0 from by repeat (first | (with_reducible first | exact HI1.out | apply IsS2.alloc | apply IsS2.drewN | apply IsS2.drew | apply IsS2.set_0) | exact HI1.out))) : g ≠ gb198)); have n7_ := Aside0.mk ((by rw [hg]; exact Nat.ne_of_gt (IsS2.lt (show IsS2 w0 _ g s1_0 from by repeat (first | (with_reducible first | exact HI1.out | apply IsS2.alloc | apply IsS2.drewN | apply IsS2.drew | apply IsS2.set_0) | exact HI1.out))) : gb198 ≠ g)); clear HI1; clear HK; clear HB; have HI1 := n0_; have HK := n1_; have HB := n2_; have BK198 := n3_; have GW198 := n4_; have GE198 := n5_; have NB1_198 := n6_; have NB198_1 := n7_; clear n0_ n1_ n2_ n3_ n4_ n5_ n6_ n7_; clear hb hbox hg)))
 (try simp only [Act.put, List.setIfInBounds_toArray, List.set_cons_zero, List.set_cons_succ])
 go_cut [28] (fun v28 wc => ∃ (kq : Nat) (x28_4 : Bool) (x2000_4 : Int), v28 = .bool x28_4 ∧ Aside0 (impl_walk_impl_Area_1.j0 kq x28_4 l2 l3 x2000_4 a0_0 a0_1 l0_2 = some (r1, r2, r3, r4)) ∧ Aside0 (kq ≤ k) ∧ Aside0 (wc.heap[gb198]? = some (.cells #[.int .i64 a0_0, .int .i64 a0_1, (.slice A0_2 l0_2.length c0_2)] 27 (0, 0))) ∧ Aside0 (IsS2 w0 wc g x2000_4) ∧ Aside0 (KeepBut w wc g none) ∧ Aside0 (Below w0.heap.size w0 wc))
 case first =>
  have H := HC5.out
  clear HC5
  by_cases c7 : (l0_2.length : Int) > 2000
  ·rw [if_pos c7] at H
   have c7b0 : decide (2000 < (l0_2.length : Int)) = true := decide_eq_true c7
   have c7b1 : decide (2000 < l0_2.length) = true := decide_eq_true (by omega)
   clear c7
   (first | rw [c7b0] | (simp only [i64_w, i32_w]; rw [c7b0]) | skip)
   have H' := Aside0.mk H
   clear H
   have hnb8 := NB198_1.out
   have hnc8 := NB1_198.out
   have hcz9_0 : w6.cell? ⟨gb198, 0, none⟩ = some (.int .i64 a0_0) := (blk_cell BK198.out 0).trans rfl
   have hcz9_1 : w6.cell? ⟨gb198, 1, none⟩ = some (.int .i64 a0_1) := (blk_cell BK198.out 1).trans rfl
   have hcz9_2 : w6.cell? ⟨gb198, 2, none⟩ = some (.slice A0_2 l0_2.length c0_2) := (blk_cell BK198.out 2).trans rfl
   have hfz9_0 := blk_frozen BK198.out 0
   have hfz9_1 := blk_frozen BK198.out 1
   have hfz9_2 := blk_frozen BK198.out 2
   go_wp2
   repeat (go_quiet (fail); try go_wp2)
   go_meet
   case rel => exact ⟨_, (true), (s1_0), (by first | rfl | (simp; done) | (simp [*]; done)), H', ⟨by first | omega | exact Nat.le_refl _⟩, ⟨by (with_reducible repeat (first | refine blk_drewN ?_ _ | refine blk_drew ?_ | refine blk_alloc ?_ _)); exact BK198.out⟩, ⟨by repeat (first | (with_reducible first | exact HI1.out | apply IsS2.alloc | apply IsS2.drewN | apply IsS2.drew | apply IsS2.set_0 | apply IsS2.far (hne := NB1_198.out)) | exact HI1.out)⟩, ⟨by repeat (first | (with_reducible first | exact HK.out | apply KeepBut.set_ | apply keep_drewN | apply keep_drew | apply keep_alloc | refine keep_far ?_ GW198.out _) | exact HK.out)⟩, ⟨by repeat (first | (with_reducible first | exact HB.out | apply below_alloc | apply pw_below_drewN | apply below_drew1 | refine below_set ?_ (IsS2.ge HI1.out) | refine below_set ?_ GE198.out) | exact HB.out)⟩⟩
  ·rw [if_neg c7] at H
   have c7b0 : decide (2000 < (l0_2.length : Int)) = false := decide_eq_false c7
   have c7b1 : decide (2000 < l0_2.length) = false := decide_eq_false (by omega)
   clear c7
   (first | rw [c7b0] | (simp only [i64_w, i32_w]; rw [c7b0]) | skip)
   replace H := Option.bind_eq_some_iff.mp H
   obtain ⟨t199, A100, H⟩ := H
   replace H : (if t199 = true then ((impl_in.f a0_1 (-1000000) 1000000).bind fun t200 => (impl_walk_impl_Area_1.j0 k (!t200) l2 l3 s1_0 a0_0 a0_1 l0_2)) else (impl_walk_impl_Area_1.j0 k true l2 l3 s1_0 a0_0 a0_1 l0_2)) = some (r1, r2, r3, r4) := H
   have A10 := Aside0.mk A100
   clear A100
   by_cases c11 : t199 = true
   ·subst c11
    have H1 : ((impl_in.f a0_1 (-1000000) 1000000).bind fun t200 => (impl_walk_impl_Area_1.j0 k (!t200) l2 l3 s1_0 a0_0 a0_1 l0_2)) = some (r1, r2, r3, r4) := by rw [if_pos rfl] at H; exact H
    clear H
    have H := H1
    clear H1
    replace H := Option.bind_eq_some_iff.mp H
    obtain ⟨t200, A120, H⟩ := H
    replace H : (impl_walk_impl_Area_1.j0 k (!t200) l2 l3 s1_0 a0_0 a0_1 l0_2) = some (r1, r2, r3, r4) := H
    have A12 := Aside0.mk A120
    clear A120
    have H' := Aside0.mk H
    clear H
    have hnb13 := NB198_1.out
    have hnc13 := NB1_198.out
    have hcz14_0 : w6.cell? ⟨gb198, 0, none⟩ = some (.int .i64 a0_0) := (blk_cell BK198.out 0).trans rfl
    have hcz14_1 : w6.cell? ⟨gb198, 1, none⟩ = some (.int .i64 a0_1) := (blk_cell BK198.out 1).trans rfl
    have hcz14_2 : w6.cell? ⟨gb198, 2, none⟩ = some (.slice A0_2 l0_2.length c0_2) := (blk_cell BK198.out 2).trans rfl
    have hfz14_0 := blk_frozen BK198.out 0
    have hfz14_1 := blk_frozen BK198.out 1
    have hfz14_2 := blk_frozen BK198.out 2
    go_wp2_with (first | (go_at_call 26; (with_reducible refine (impl_in.calls a0_0 (-1000000) 1000000 true _ A10.out).mono ?_); rintro e w' ⟨rfl, ⟨nd, rfl⟩⟩; (try first | exact ⟨rfl, _, World.drewN_drewN _ _ _⟩ | exact ⟨rfl, _, Eq.trans (World.drewN_drewN _ _ _) (congrArg (World.drewN _) (Nat.add_assoc _ _ _))⟩)) | (go_at_call 26; (with_reducible refine (impl_in.calls a0_1 (-1000000) 1000000 t200 _ A12.out).mono ?_); rintro e w' ⟨rfl, ⟨nd, rfl⟩⟩; (try first | exact ⟨rfl, _, World.drewN_drewN _ _ _⟩ | exact ⟨rfl, _, Eq.trans (World.drewN_drewN _ _ _) (congrArg (World.drewN _) (Nat.add_assoc _ _ _))⟩)))
    repeat (go_quiet (first | (go_at_call 26; (with_reducible refine (impl_in.calls a0_0 (-1000000) 1000000 true _ A10.out).mono ?_); rintro e w' ⟨rfl, ⟨nd, rfl⟩⟩; (try first | exact ⟨rfl, _, World.drewN_drewN _ _ _⟩ | exact ⟨rfl, _, Eq.trans (World.drewN_drewN _ _ _) (congrArg (World.drewN _) (Nat.add_assoc _ _ _))⟩)) | (go_at_call 26; (with_reducible refine (impl_in.calls a0_1 (-1000000) 1000000 t200 _ A12.out).mono ?_); rintro e w' ⟨rfl, ⟨nd, rfl⟩⟩; (try first | exact ⟨rfl, _, World.drewN_drewN _ _ _⟩ | exact ⟨rfl, _, Eq.trans (World.drewN_drewN _ _ _) (congrArg (World.drewN _) (Nat.add_assoc _ _ _))⟩))); try go_wp2_with (first | (go_at_call 26; (with_reducible refine (impl_in.calls a0_0 (-1000000) 1000000 true _ A10.out).mono ?_); rintro e w' ⟨rfl, ⟨nd, rfl⟩⟩; (try first | exact ⟨rfl, _, World.drewN_drewN _ _ _⟩ | exact ⟨rfl, _, Eq.trans (World.drewN_drewN _ _ _) (congrArg (World.drewN _) (Nat.add_assoc _ _ _))⟩)) | (go_at_call 26; (with_reducible refine (impl_in.calls a0_1 (-1000000) 1000000 t200 _ A12.out).mono ?_); rintro e w' ⟨rfl, ⟨nd, rfl⟩⟩; (try first | exact ⟨rfl, _, World.drewN_drewN _ _ _⟩ | exact ⟨rfl, _, Eq.trans (World.drewN_drewN _ _ _) (congrArg (World.drewN _) (Nat.add_assoc _ _ _))⟩))))
    go_meet
    case rel => exact ⟨_, (!t200), (s1_0), (by first | rfl | (simp; done) | (simp [*]; done)), H', ⟨by first | omega | exact Nat.le_refl _⟩, ⟨by (with_reducible repeat (first | refine blk_drewN ?_ _ | refine blk_drew ?_ | refine blk_alloc ?_ _)); exact BK198.out⟩, ⟨by repeat (first | (with_reducible first | exact HI1.out | apply IsS2.alloc | apply IsS2.drewN | apply IsS2.drew | apply IsS2.set_0 | apply IsS2.far (hne := NB1_198.out)) | exact HI1.out)⟩, ⟨by repeat (first | (with_reducible first | exact HK.out | apply KeepBut.set_ | apply keep_drewN | apply keep_drew | apply keep_alloc | refine keep_far ?_ GW198.out _) | exact HK.out)⟩, ⟨by repeat (first | (with_reducible first | exact HB.out | apply below_alloc | apply pw_below_drewN | apply below_drew1 | refine below_set ?_ (IsS2.ge HI1.out) | refine below_set ?_ GE198.out) | exact HB.out)⟩⟩
   ·replace c11 := Bool.eq_false_iff.mpr c11
    subst c11
    have H1 : (impl_walk_impl_Area_1.j0 k true l2 l3 s1_0 a0_0 a0_1 l0_2) = some (r1, r2, r3, r4) := by rw [if_neg (show ¬ (false = true) by decide)] at H; exact H
    clear H
    have H := H1
    clear H1
    have H' := Aside0.mk H
    clear H
    have hnb15 := NB198_1.out
    have hnc15 := NB1_198.out
    have hcz16_0 : w6.cell? ⟨gb198, 0, none⟩ = some (.int .i64 a0_0) := (blk_cell BK198.out 0).trans rfl
    have hcz16_1 : w6.cell? ⟨gb198, 1, none⟩ = some (.int .i64 a0_1) := (blk_cell BK198.out 1).trans rfl
    have hcz16_2 : w6.cell? ⟨gb198, 2, none⟩ = some (.slice A0_2 l0_2.length c0_2) := (blk_cell BK198.out 2).trans rfl
    have hfz16_0 := blk_frozen BK198.out 0
    have hfz16_1 := blk_frozen BK198.out 1
    have hfz16_2 := blk_frozen BK198.out 2
    go_wp2_with (first | (go_at_call 26; (with_reducible refine (impl_in.calls a0_0 (-1000000) 1000000 false _ A10.out).mono ?_); rintro e w' ⟨rfl, ⟨nd, rfl⟩⟩; (try first | exact ⟨rfl, _, World.drewN_drewN _ _ _⟩ | exact ⟨rfl, _, Eq.trans (World.drewN_drewN _ _ _) (congrArg (World.drewN _) (Nat.add_assoc _ _ _))⟩)))
    repeat (go_quiet (first | (go_at_call 26; (with_reducible refine (impl_in.calls a0_0 (-1000000) 1000000 false _ A10.out).mono ?_); rintro e w' ⟨rfl, ⟨nd, rfl⟩⟩; (try first | exact ⟨rfl, _, World.drewN_drewN _ _ _⟩ | exact ⟨rfl, _, Eq.trans (World.drewN_drewN _ _ _) (congrArg (World.drewN _) (Nat.add_assoc _ _ _))⟩))); try go_wp2_with (first | (go_at_call 26; (with_reducible refine (impl_in.calls a0_0 (-1000000) 1000000 false _ A10.out).mono ?_); rintro e w' ⟨rfl, ⟨nd, rfl⟩⟩; (try first | exact ⟨rfl, _, World.drewN_drewN _ _ _⟩ | exact ⟨rfl, _, Eq.trans (World.drewN_drewN _ _ _) (congrArg (World.drewN _) (Nat.add_assoc _ _ _))⟩))))
    go_meet
    case rel => exact ⟨_, (true), (s1_0), (by first | rfl | (simp; done) | (simp [*]; done)), H', ⟨by first | omega | exact Nat.le_refl _⟩, ⟨by (with_reducible repeat (first | refine blk_drewN ?_ _ | refine blk_drew ?_ | refine blk_alloc ?_ _)); exact BK198.out⟩, ⟨by repeat (first | (with_reducible first | exact HI1.out | apply IsS2.alloc | apply IsS2.drewN | apply IsS2.drew | apply IsS2.set_0 | apply IsS2.far (hne := NB1_198.out)) | exact HI1.out)⟩, ⟨by repeat (first | (with_reducible first | exact HK.out | apply KeepBut.set_ | apply keep_drewN | apply keep_drew | apply keep_alloc | refine keep_far ?_ GW198.out _) | exact HK.out)⟩, ⟨by repeat (first | (with_reducible first | exact HB.out | apply below_alloc | apply pw_below_drewN | apply below_drew1 | refine below_set ?_ (IsS2.ge HI1.out) | refine below_set ?_ GE198.out) | exact HB.out)⟩⟩
 case rest =>
  clear HC5
  try clear c1
  try clear c2
  try clear p2
  try clear c3
  try clear c7
  try clear c7b0
  try clear c7b1
  try clear c8
  try clear c11
  try clear c13
  try clear c15
  try clear hcz14_0
  try clear hcz14_1
  try clear hcz14_2
  try clear hcz16_0
  try clear hcz16_1
  try clear hcz16_2
  try clear hcz9_0
  try clear hcz9_1
  try clear hcz9_2
  try clear hfz14_0
  try clear hfz14_1
  try clear hfz14_2
  try clear hfz16_0
  try clear hfz16_1
  try clear hfz16_2
  try clear hfz9_0
  try clear hfz9_1
  try clear hfz9_2
  obtain ⟨kq, x28_4, x2000_4, rfl, HA, HJ4, BK198, HI1, HK, HB⟩ := hcut
  cases kq with
  | zero => exact absurd HA.out (by simp [impl_walk_impl_Area_1.j0])
  | succ kj4 =>
   have H := HA.out
   clear HA
   simp only [impl_walk_impl_Area_1.j0] at H
   by_cases c17 : x28_4 = true
   ·subst c17
    have H1 : (some (0, 0, false, x2000_4)) = some (r1, r2, r3, r4) := by rw [if_pos rfl] at H; exact H
    clear H
    have H := H1
    clear H1
    simp only [Option.some.injEq, Prod.mk.injEq] at H
    obtain ⟨rfl, rfl, rfl, rfl⟩ := H
    go_wp2
    repeat (go_quiet (fail); try go_wp2)
    go_ret3
    exact ⟨by first | rfl | (simp [errW_none, errW_some] <;> rfl) | (simp [*, errW_none, errW_some] <;> rfl), by repeat (first | (with_reducible first | exact HI1.out | apply IsS2.alloc | apply IsS2.drewN | apply IsS2.drew | apply IsS2.set_0 | apply IsS2.far (hne := NB1_198.out)) | exact HI1.out), by repeat (first | (with_reducible first | exact HB.out | apply below_alloc | apply pw_below_drewN | apply below_drew1 | refine below_set ?_ (IsS2.ge HI1.out) | refine below_set ?_ GE198.out) | exact HB.out), by repeat (first | (with_reducible first | exact HK.out | apply KeepBut.set_ | apply keep_drewN | apply keep_drew | apply keep_alloc | refine keep_far ?_ GW198.out _) | exact HK.out)⟩
   ·replace c17 := Bool.eq_false_iff.mpr c17
    subst c17
    have H1 : (impl_walk_impl_Area_1.l0 kj4 l0_2 (l0_2.length : Int) 0 l2 l3 x2000_4 a0_0 a0_1 l0_2) = some (r1, r2, r3, r4) := by rw [if_neg (show ¬ (false = true) by decide)] at H; exact H
    clear H
    have H := H1
    clear H1
    have H' := Aside0.mk H
    clear H
    have hnb18 := NB198_1.out
    have hnc18 := NB1_198.out
    have hcz19_0 : wc.cell? ⟨gb198, 0, none⟩ = some (.int .i64 a0_0) := (blk_cell BK198.out 0).trans rfl
    have hcz19_1 : wc.cell? ⟨gb198, 1, none⟩ = some (.int .i64 a0_1) := (blk_cell BK198.out 1).trans rfl
    have hcz19_2 : wc.cell? ⟨gb198, 2, none⟩ = some (.slice A0_2 l0_2.length c0_2) := (blk_cell BK198.out 2).trans rfl
    have hfz19_0 := blk_frozen BK198.out 0
    have hfz19_1 := blk_frozen BK198.out 1
    have hfz19_2 := blk_frozen BK198.out 2
    go_wp2
    repeat (go_quiet (fail); try go_wp2)
    go_loopg [32] kj4 (fun kq v32 w' => ∃ (x32_2 : Int) (x2000_2 : Int), v32 = .int .i64 x32_2 ∧ Aside0 (impl_walk_impl_Area_1.l0 kq l0_2 (l0_2.length : Int) x32_2 l2 l3 x2000_2 a0_0 a0_1 l0_2 = some (r1, r2, r3, r4)) ∧ Aside0 (kq ≤ kj4) ∧ Aside0 (w'.heap[gb198]? = some (.cells #[.int .i64 a0_0, .int .i64 a0_1, (.slice A0_2 l0_2.length c0_2)] 27 (0, 0))) ∧ Aside0 (IsS2 w0 w' g x2000_2) ∧ Aside0 (KeepBut w w' g none) ∧ Aside0 (Below w0.heap.size w0 w'))
    case atStart => exact ⟨(0), (x2000_4), (by first | rfl | (simp; done) | (simp [*]; done)), H', ⟨Nat.le_refl _⟩, ⟨by (with_reducible repeat (first | refine blk_drewN ?_ _ | refine blk_drew ?_ | refine blk_alloc ?_ _)); exact BK198.out⟩, ⟨by repeat (first | (with_reducible first | exact HI1.out | apply IsS2.alloc | apply IsS2.drewN | apply IsS2.drew | apply IsS2.set_0 | apply IsS2.far (hne := NB1_198.out)) | exact HI1.out)⟩, ⟨by repeat (first | (with_reducible first | exact HK.out | apply KeepBut.set_ | apply keep_drewN | apply keep_drew | apply keep_alloc | refine keep_far ?_ GW198.out _) | exact HK.out)⟩, ⟨by repeat (first | (with_reducible first | exact HB.out | apply below_alloc | apply pw_below_drewN | apply below_drew1 | refine below_set ?_ (IsS2.ge HI1.out) | refine below_set ?_ GE198.out) | exact HB.out)⟩⟩
    case round =>
     clear H'
     try clear c1
     try clear c2
     try clear p2
     try clear c3
     try clear c7
     try clear c7b0
     try clear c7b1
     try clear c8
     try clear c11
     try clear c13
     try clear c15
     try clear c17
     try clear c18
     try clear hcz14_0
     try clear hcz14_1
     try clear hcz14_2
     try clear hcz16_0
     try clear hcz16_1
     try clear hcz16_2
     try clear hcz19_0
     try clear hcz19_1
     try clear hcz19_2
     try clear hcz9_0
     try clear hcz9_1
     try clear hcz9_2
     try clear hfz14_0
     try clear hfz14_1
     try clear hfz14_2
     try clear hfz16_0
     try clear hfz16_1
     try clear hfz16_2
     try clear hfz19_0
     try clear hfz19_1
     try clear hfz19_2
     try clear hfz9_0
     try clear hfz9_1
     try clear hfz9_2
     try clear p2
     obtain ⟨x32_2, x2000_2, rfl, HA, HK2, BK198, HI1, HK, HB⟩ := hrel
     cases gk with
     | zero => exact absurd HA.out (by simp [impl_walk_impl_Area_1.l0])
     | succ k2 =>
      have H := HA.out
      clear HA
      simp only [impl_walk_impl_Area_1.l0] at H
      by_cases c20 : x32_2 < (l0_2.length : Int)
      ·rw [if_pos c20] at H
       have c20b0 : decide (x32_2 < (l0_2.length : Int)) = true := decide_eq_true c20
       clear c20
       by_cases c21 : 0 ≤ x32_2
       ·rw [if_pos c21] at H
        have c21b0 : decide (0 ≤ x32_2) = true := decide_eq_true c21
        clear c21
        by_cases c22 : x32_2 < (l0_2.length : Int)
        ·rw [if_pos c22] at H
         have c22b0 : decide (x32_2 < (l0_2.length : Int)) = true := decide_eq_true c22
         clear c22
         replace H := Option.bind_eq_some_iff.mp H
         obtain ⟨t202, A230, H⟩ := H
         replace H : (if t202 = true then (impl_walk_impl_Area_1.l0 k2 l0_2 (l0_2.length : Int) (wrap64 (x32_2 + 1)) l2 l3 x2000_2 a0_0 a0_1 l0_2) else (some (0, 0, false, x2000_2))) = some (r1, r2, r3, r4) := H
         have A23 := Aside0.mk A230
         clear A230
         by_cases c24 : t202 = true
         ·subst c24
          have H1 : (impl_walk_impl_Area_1.l0 k2 l0_2 (l0_2.length : Int) (wrap64 (x32_2 + 1)) l2 l3 x2000_2 a0_0 a0_1 l0_2) = some (r1, r2, r3, r4) := by rw [if_pos rfl] at H; exact H
          clear H
          have H := H1
          clear H1
          have H' := Aside0.mk H
          clear H
          have p201 : 0 ≤ (x32_2 : Int) := of_decide_eq_true (by first | (with_reducible assumption) | assumption)
          have q201 : x32_2 < (l0_2.length : Int) := of_decide_eq_true (by first | (with_reducible assumption) | assumption)
          obtain ⟨ad201, e201, hx201_0⟩ := Kd.at_int HR0_2.out x32_2 p201 q201
          cases e201
          replace hx201_0 := keep_cell HK.out hx201_0 (by first | (rw [add_block]; exact hf0_2 _ rfl (by omega)) | exact hf0_2 _ rfl (by omega) | exact hf0_2 ad201 rfl (by omega))
          replace p201 := eq_true p201
          replace q201 := eq_true q201
          go_wp2_with (first | (go_at_call 26; (with_reducible refine (impl_in.calls (rd l0_2 x32_2) 0 3 true _ A23.out).mono ?_); rintro e w' ⟨rfl, ⟨nd, rfl⟩⟩; (try first | exact ⟨rfl, _, World.drewN_drewN _ _ _⟩ | exact ⟨rfl, _, Eq.trans (World.drewN_drewN _ _ _) (congrArg (World.drewN _) (Nat.add_assoc _ _ _))⟩)))
          repeat (go_quiet (first | (go_at_call 26; (with_reducible refine (impl_in.calls (rd l0_2 x32_2) 0 3 true _ A23.out).mono ?_); rintro e w' ⟨rfl, ⟨nd, rfl⟩⟩; (try first | exact ⟨rfl, _, World.drewN_drewN _ _ _⟩ | exact ⟨rfl, _, Eq.trans (World.drewN_drewN _ _ _) (congrArg (World.drewN _) (Nat.add_assoc _ _ _))⟩))); try go_wp2_with (first | (go_at_call 26; (with_reducible refine (impl_in.calls (rd l0_2 x32_2) 0 3 true _ A23.out).mono ?_); rintro e w' ⟨rfl, ⟨nd, rfl⟩⟩; (try first | exact ⟨rfl, _, World.drewN_drewN _ _ _⟩ | exact ⟨rfl, _, Eq.trans (World.drewN_drewN _ _ _) (congrArg (World.drewN _) (Nat.add_assoc _ _ _))⟩))))
          go_roundg k2
          case measure => have := HJ4.out; have := HK2.out; omega
          case rel => exact ⟨(wrap64 (x32_2 + 1)), (x2000_2), (by first | rfl | (simp; done) | (simp [*]; done)), H', ⟨by have := HJ4.out; have := HK2.out; omega⟩, ⟨by (with_reducible repeat (first | refine blk_drewN ?_ _ | refine blk_drew ?_ | refine blk_alloc ?_ _)); exact BK198.out⟩, ⟨by repeat (first | (with_reducible first | exact HI1.out | apply IsS2.alloc | apply IsS2.drewN | apply IsS2.drew | apply IsS2.set_0 | apply IsS2.far (hne := NB1_198.out)) | exact HI1.out)⟩, ⟨by repeat (first | (with_reducible first | exact HK.out | apply KeepBut.set_ | apply keep_drewN | apply keep_drew | apply keep_alloc | refine keep_far ?_ GW198.out _) | exact HK.out)⟩, ⟨by repeat (first | (with_reducible first | exact HB.out | apply below_alloc | apply pw_below_drewN | apply below_drew1 | refine below_set ?_ (IsS2.ge HI1.out) | refine below_set ?_ GE198.out) | exact HB.out)⟩⟩
         ·replace c24 := Bool.eq_false_iff.mpr c24
          subst c24
          have H1 : (some (0, 0, false, x2000_2)) = some (r1, r2, r3, r4) := by rw [if_neg (show ¬ (false = true) by decide)] at H; exact H
          clear H
          have H := H1
          clear H1
          simp only [Option.some.injEq, Prod.mk.injEq] at H
          obtain ⟨rfl, rfl, rfl, rfl⟩ := H
          have p201 : 0 ≤ (x32_2 : Int) := of_decide_eq_true (by first | (with_reducible assumption) | assumption)
          have q201 : x32_2 < (l0_2.length : Int) := of_decide_eq_true (by first | (with_reducible assumption) | assumption)
          obtain ⟨ad201, e201, hx201_0⟩ := Kd.at_int HR0_2.out x32_2 p201 q201
          cases e201
          replace hx201_0 := keep_cell HK.out hx201_0 (by first | (rw [add_block]; exact hf0_2 _ rfl (by omega)) | exact hf0_2 _ rfl (by omega) | exact hf0_2 ad201 rfl (by omega))
          replace p201 := eq_true p201
          replace q201 := eq_true q201
          go_wp2_with (first | (go_at_call 26; (with_reducible refine (impl_in.calls (rd l0_2 x32_2) 0 3 false _ A23.out).mono ?_); rintro e w' ⟨rfl, ⟨nd, rfl⟩⟩; (try first | exact ⟨rfl, _, World.drewN_drewN _ _ _⟩ | exact ⟨rfl, _, Eq.trans (World.drewN_drewN _ _ _) (congrArg (World.drewN _) (Nat.add_assoc _ _ _))⟩)))
          repeat (go_quiet (first | (go_at_call 26; (with_reducible refine (impl_in.calls (rd l0_2 x32_2) 0 3 false _ A23.out).mono ?_); rintro e w' ⟨rfl, ⟨nd, rfl⟩⟩; (try first | exact ⟨rfl, _, World.drewN_drewN _ _ _⟩ | exact ⟨rfl, _, Eq.trans (World.drewN_drewN _ _ _) (congrArg (World.drewN _) (Nat.add_assoc _ _ _))⟩))); try go_wp2_with (first | (go_at_call 26; (with_reducible refine (impl_in.calls (rd l0_2 x32_2) 0 3 false _ A23.out).mono ?_); rintro e w' ⟨rfl, ⟨nd, rfl⟩⟩; (try first | exact ⟨rfl, _, World.drewN_drewN _ _ _⟩ | exact ⟨rfl, _, Eq.trans (World.drewN_drewN _ _ _) (congrArg (World.drewN _) (Nat.add_assoc _ _ _))⟩))))
          go_ret3
          exact ⟨by first | rfl | (simp [errW_none, errW_some] <;> rfl) | (simp [*, errW_none, errW_some] <;> rfl), by repeat (first | (with_reducible first | exact HI1.out | apply IsS2.alloc | apply IsS2.drewN | apply IsS2.drew | apply IsS2.set_0 | apply IsS2.far (hne := NB1_198.out)) | exact HI1.out), by repeat (first | (with_reducible first | exact HB.out | apply below_alloc | apply pw_below_drewN | apply below_drew1 | refine below_set ?_ (IsS2.ge HI1.out) | refine below_set ?_ GE198.out) | exact HB.out), by repeat (first | (with_reducible first | exact HK.out | apply KeepBut.set_ | apply keep_drewN | apply keep_drew | apply keep_alloc | refine keep_far ?_ GW198.out _) | exact HK.out)⟩
        ·rw [if_neg c22] at H
         exact absurd H (by simp)
       ·rw [if_neg c21] at H
        exact absurd H (by simp)
      ·rw [if_neg c20] at H
       have c20b0 : decide (x32_2 < (l0_2.length : Int)) = false := decide_eq_false c20
       clear c20
       have H' := Aside0.mk H
       clear H
       have hnb25 := NB198_1.out
       have hnc25 := NB1_198.out
       have hcz26_0 : wr.cell? ⟨gb198, 0, none⟩ = some (.int .i64 a0_0) := (blk_cell BK198.out 0).trans rfl
       have hcz26_1 : wr.cell? ⟨gb198, 1, none⟩ = some (.int .i64 a0_1) := (blk_cell BK198.out 1).trans rfl
       have hcz26_2 : wr.cell? ⟨gb198, 2, none⟩ = some (.slice A0_2 l0_2.length c0_2) := (blk_cell BK198.out 2).trans rfl
       have hfz26_0 := blk_frozen BK198.out 0
       have hfz26_1 := blk_frozen BK198.out 1
       have hfz26_2 := blk_frozen BK198.out 2
       go_wp2
       repeat (go_quiet (fail); try go_wp2)
       go_loopg [9, 10, 47] k2 (fun kq v9 v10 v47 w' => ∃ (x9_3 : Int) (x10_3 : Int) (x47_3 : Int) (x2000_3 : Int), v9 = .int .i64 x9_3 ∧ v10 = .int .i64 x10_3 ∧ v47 = .int .i64 x47_3 ∧ Aside0 (impl_walk_impl_Area_1.l1 kq x9_3 x10_3 l0_2 (l0_2.length : Int) x47_3 l2 l3 x2000_3 = some (r1, r2, r3, r4)) ∧ Aside0 (kq ≤ k2) ∧ Aside0 (w'.heap[gb198]? = some (.cells #[.int .i64 a0_0, .int .i64 a0_1, (.slice A0_2 l0_2.length c0_2)] 27 (0, 0))) ∧ Aside0 (IsS2 w0 w' g x2000_3) ∧ Aside0 (KeepBut w w' g none) ∧ Aside0 (Below w0.heap.size w0 w'))
       case atStart => exact ⟨(a0_0), (a0_1), (0), (x2000_2), (by first | rfl | (simp; done) | (simp [*]; done)), (by first | rfl | (simp; done) | (simp [*]; done)), (by first | rfl | (simp; done) | (simp [*]; done)), H', ⟨Nat.le_refl _⟩, ⟨by (with_reducible repeat (first | refine blk_drewN ?_ _ | refine blk_drew ?_ | refine blk_alloc ?_ _)); exact BK198.out⟩, ⟨by repeat (first | (with_reducible first | exact HI1.out | apply IsS2.alloc | apply IsS2.drewN | apply IsS2.drew | apply IsS2.set_0 | apply IsS2.far (hne := NB1_198.out)) | exact HI1.out)⟩, ⟨by repeat (first | (with_reducible first | exact HK.out | apply KeepBut.set_ | apply keep_drewN | apply keep_drew | apply keep_alloc | refine keep_far ?_ GW198.out _) | exact HK.out)⟩, ⟨by repeat (first | (with_reducible first | exact HB.out | apply below_alloc | apply pw_below_drewN | apply below_drew1 | refine below_set ?_ (IsS2.ge HI1.out) | refine below_set ?_ GE198.out) | exact HB.out)⟩⟩
       case round =>
        clear H'
        try clear c1
        try clear c2
        try clear p2
        try clear q2
        try clear hx2
        try clear c3
        try clear p6
        try clear c7
        try clear c7b0
        try clear c7b1
        try clear c8
        try clear c11
        try clear c13
        try clear c15
        try clear c17
        try clear c18
        try clear c20
        try clear c20b0
        try clear p20
        try clear q20
        try clear hx20
        try clear c21
        try clear c21b0
        try clear c22
        try clear c22b0
        try clear c24
        try clear c25
        try clear hcz14_0
        try clear hcz14_1
        try clear hcz14_2
        try clear hcz16_0
        try clear hcz16_1
        try clear hcz16_2
        try clear hcz19_0
        try clear hcz19_1
        try clear hcz19_2
        try clear hcz26_0
        try clear hcz26_1
        try clear hcz26_2
        try clear hcz9_0
        try clear hcz9_1
        try clear hcz9_2
        try clear hfz14_0
        try clear hfz14_1
        try clear hfz14_2
        try clear hfz16_0
        try clear hfz16_1
        try clear hfz16_2
        try clear hfz19_0
        try clear hfz19_1
        try clear hfz19_2
        try clear hfz26_0
        try clear hfz26_1
        try clear hfz26_2
        try clear hfz9_0
        try clear hfz9_1
        try clear hfz9_2
        try clear hx201_0
        try clear p2
        try clear p201
        try clear q201
        obtain ⟨x9_3, x10_3, x47_3, x2000_3, rfl, rfl, rfl, HA, HK3, BK198, HI1, HK, HB⟩ := hrel
        cases gk with
        | zero => exact absurd HA.out (by simp [impl_walk_impl_Area_1.l1])
        | succ k3 =>
         have H := HA.out
         clear HA
         simp only [impl_walk_impl_Area_1.l1] at H
         by_cases c27 : x47_3 < (l0_2.length : Int)
         ·rw [if_pos c27] at H
          have c27b0 : decide (x47_3 < (l0_2.length : Int)) = true := decide_eq_true c27
          clear c27
          by_cases c28 : 0 ≤ x47_3
          ·rw [if_pos c28] at H
           have c28b0 : decide (0 ≤ x47_3) = true := decide_eq_true c28
           clear c28
           by_cases c29 : x47_3 < (l0_2.length : Int)
           ·rw [if_pos c29] at H
            have c29b0 : decide (x47_3 < (l0_2.length : Int)) = true := decide_eq_true c29
            clear c29
            replace H := Option.bind_eq_some_iff.mp H
            obtain ⟨t204, A300, H⟩ := H
            replace H : (if 0 ≤ (rd l0_2 x47_3) then (if (rd l0_2 x47_3) < 4 then (impl_walk_impl_Area_1.l1 k3 (wrap64 (x9_3 + (rd l2 (rd l0_2 x47_3)))) (wrap64 (x10_3 + (rd l3 (rd l0_2 x47_3)))) l0_2 (l0_2.length : Int) (wrap64 (x47_3 + 1)) l2 l3 t204) else (none)) else (none)) = some (r1, r2, r3, r4) := H
            have A30 := Aside0.mk A300
            clear A300
            by_cases c31 : 0 ≤ (rd l0_2 x47_3)
            ·rw [if_pos c31] at H
             have c31b0 : decide (0 ≤ (rd l0_2 x47_3)) = true := decide_eq_true c31
             clear c31
             by_cases c32 : (rd l0_2 x47_3) < 4
             ·rw [if_pos c32] at H
              have c32b0 : decide ((rd l0_2 x47_3) < 4) = true := decide_eq_true c32
              clear c32
              have H' := Aside0.mk H
              clear H
              have p203 : 0 ≤ (x47_3 : Int) := of_decide_eq_true (by first | (with_reducible assumption) | assumption)
              have q203 : x47_3 < (l0_2.length : Int) := of_decide_eq_true (by first | (with_reducible assumption) | assumption)
              obtain ⟨ad203, e203, hx203_0⟩ := Kd.at_int HR0_2.out x47_3 p203 q203
              cases e203
              replace hx203_0 := keep_cell HK.out hx203_0 (by first | (rw [add_block]; exact hf0_2 _ rfl (by omega)) | exact hf0_2 _ rfl (by omega) | exact hf0_2 ad203 rfl (by omega))
              replace p203 := eq_true p203
              replace q203 := eq_true q203
              go_wp2_with (first | (go_at_call 23; (with_reducible refine (impl_Area_1.calls x9_3 x10_3 (rd l0_2 x47_3) g x2000_3 t204 w0 _ ?side1 ?side2 A30.out).mono ?_); (case side1 => repeat (first | (with_reducible first | exact HI1.out | apply IsS2.alloc | apply IsS2.drewN | apply IsS2.drew | apply IsS2.set_0 | apply IsS2.far (hne := NB1_198.out)) | exact HI1.out)); (case side2 => repeat (first | (with_reducible first | exact HB.out | apply below_alloc | apply pw_below_drewN | apply below_drew1 | refine below_set ?_ (IsS2.ge HI1.out) | refine below_set ?_ GE198.out) | exact HB.out)); rintro e w33 ⟨rfl, hi, hb, hk⟩; have n0_ := Aside0.mk (KeepBut.blk hk (g' := gb198) (o := .cells #[.int .i64 a0_0, .int .i64 a0_1, .slice (some ad203) l0_2.length c0_2] 27 (0, 0)) (by (with_reducible repeat (first | refine blk_drewN ?_ _ | refine blk_drew ?_ | refine blk_alloc ?_ _)); exact BK198.out) NB198_1.out (by simp)); have n1_ := Aside0.mk (KeepBut.trans (by repeat (first | (with_reducible first | exact HK.out | apply KeepBut.set_ | apply keep_drewN | apply keep_drew | apply keep_alloc | refine keep_far ?_ GW198.out _) | exact HK.out)) hk (.inl rfl)); have n2_ := Aside0.mk (hb); have n3_ := Aside0.mk (hi); clear BK198; clear HK; clear HB; clear HI1; have BK198 := n0_; have HK := n1_; have HB := n2_; have HI1 := n3_; clear n0_ n1_ n2_ n3_; (try clear hb); (try clear hb2); (try clear hk); (try clear hi); have p205 : 0 ≤ ((rd l0_2 x47_3) : Int) := of_decide_eq_true (by first | (with_reducible assumption) | assumption); have q205 : (rd l0_2 x47_3) < (l2.length : Int) := (by have h_ : ((rd l0_2 x47_3) : Int) < (4 : Int) := of_decide_eq_true (by first | (with_reducible assumption) | assumption); have e_ := HN2.out; omega); have ql205 : (((rd l0_2 x47_3) : Int) < (4 : Int)) = True := eq_true (of_decide_eq_true (by first | (with_reducible assumption) | assumption)); obtain ⟨ad205, e205, hx205_0⟩ := Kd.at_int HR2.out (rd l0_2 x47_3) p205 q205; obtain rfl : (⟨0, 0, none⟩ : Addr) = ad205 := (by injection e205); (first | simp only [add_plain] at hx205_0 | simp only [add_at] at hx205_0 | simp only [Addr.add, Nat.zero_add] at hx205_0 | skip); replace hx205_0 := keep_cell HK.out hx205_0 (by first | (rw [add_block]; exact hf2 _ rfl (by omega)) | exact hf2 _ rfl (by omega) | exact hf2 ⟨0, 0, none⟩ rfl (by omega)); replace p205 := eq_true p205; replace q205 := eq_true q205; have p206 : 0 ≤ ((rd l0_2 x47_3) : Int) := of_decide_eq_true (by first | (with_reducible assumption) | assumption); have q206 : (rd l0_2 x47_3) < (l3.length : Int) := (by have h_ : ((rd l0_2 x47_3) : Int) < (4 : Int) := of_decide_eq_true (by first | (with_reducible assumption) | assumption); have e_ := HN3.out; omega); have ql206 : (((rd l0_2 x47_3) : Int) < (4 : Int)) = True := eq_true (of_decide_eq_true (by first | (with_reducible assumption) | assumption)); obtain ⟨ad206, e206, hx206_0⟩ := Kd.at_int HR3.out (rd l0_2 x47_3) p206 q206; obtain rfl : (⟨1, 0, none⟩ : Addr) = ad206 := (by injection e206); (first | simp only [add_plain] at hx206_0 | simp only [add_at] at hx206_0 | simp only [Addr.add, Nat.zero_add] at hx206_0 | skip); replace hx206_0 := keep_cell HK.out hx206_0 (by first | (rw [add_block]; exact hf3 _ rfl (by omega)) | exact hf3 _ rfl (by omega) | exact hf3 ⟨1, 0, none⟩ rfl (by omega)); replace p206 := eq_true p206; replace q206 := eq_true q206))
              repeat (go_quiet (first | (go_at_call 23; (with_reducible refine (impl_Area_1.calls x9_3 x10_3 (rd l0_2 x47_3) g x2000_3 t204 w0 _ ?side1 ?side2 A30.out).mono ?_); (case side1 => repeat (first | (with_reducible first | exact HI1.out | apply IsS2.alloc | apply IsS2.drewN | apply IsS2.drew | apply IsS2.set_0 | apply IsS2.far (hne := NB1_198.out)) | exact HI1.out)); (case side2 => repeat (first | (with_reducible first | exact HB.out | apply below_alloc | apply pw_below_drewN | apply below_drew1 | refine below_set ?_ (IsS2.ge HI1.out) | refine below_set ?_ GE198.out) | exact HB.out)); rintro e w33 ⟨rfl, hi, hb, hk⟩; have n0_ := Aside0.mk (KeepBut.blk hk (g' := gb198) (o := .cells #[.int .i64 a0_0, .int .i64 a0_1, .slice (some ad203) l0_2.length c0_2] 27 (0, 0)) (by (with_reducible repeat (first | refine blk_drewN ?_ _ | refine blk_drew ?_ | refine blk_alloc ?_ _)); exact BK198.out) NB198_1.out (by simp)); have n1_ := Aside0.mk (KeepBut.trans (by repeat (first | (with_reducible first | exact HK.out | apply KeepBut.set_ | apply keep_drewN | apply keep_drew | apply keep_alloc | refine keep_far ?_ GW198.out _) | exact HK.out)) hk (.inl rfl)); have n2_ := Aside0.mk (hb); have n3_ := Aside0.mk (hi); clear BK198; clear HK; clear HB; clear HI1; have BK198 := n0_; have HK := n1_; have HB := n2_; have HI1 := n3_; clear n0_ n1_ n2_ n3_; (try clear hb); (try clear hb2); (try clear hk); (try clear hi); have p205 : 0 ≤ ((rd l0_2 x47_3) : Int) := of_decide_eq_true (by first | (with_reducible assumption) | assumption); have q205 : (rd l0_2 x47_3) < (l2.length : Int) := (by have h_ : ((rd l0_2 x47_3) : Int) < (4 : Int) := of_decide_eq_true (by first | (with_reducible assumption) | assumption); have e_ := HN2.out; omega); have ql205 : (((rd l0_2 x47_3) : Int) < (4 : Int)) = True := eq_true (of_decide_eq_true (by first | (with_reducible assumption) | assumption)); obtain ⟨ad205, e205, hx205_0⟩ := Kd.at_int HR2.out (rd l0_2 x47_3) p205 q205; obtain rfl : (⟨0, 0, none⟩ : Addr) = ad205 := (by injection e205); (first | simp only [add_plain] at hx205_0 | simp only [add_at] at hx205_0 | simp only [Addr.add, Nat.zero_add] at hx205_0 | skip); replace hx205_0 := keep_cell HK.out hx205_0 (by first | (rw [add_block]; exact hf2 _ rfl (by omega)) | exact hf2 _ rfl (by omega) | exact hf2 ⟨0, 0, none⟩ rfl (by omega)); replace p205 := eq_true p205; replace q205 := eq_true q205; have p206 : 0 ≤ ((rd l0_2 x47_3) : Int) := of_decide_eq_true (by first | (with_reducible assumption) | assumption); have q206 : (rd l0_2 x47_3) < (l3.length : Int) := (by have h_ : ((rd l0_2 x47_3) : Int) < (4 : Int) := of_decide_eq_true (by first | (with_reducible assumption) | assumption); have e_ := HN3.out; omega); have ql206 : (((rd l0_2 x47_3) : Int) < (4 : Int)) = True := eq_true (of_decide_eq_true (by first | (with_reducible assumption) | assumption)); obtain ⟨ad206, e206, hx206_0⟩ := Kd.at_int HR3.out (rd l0_2 x47_3) p206 q206; obtain rfl : (⟨1, 0, none⟩ : Addr) = ad206 := (by injection e206); (first | simp only [add_plain] at hx206_0 | simp only [add_at] at hx206_0 | simp only [Addr.add, Nat.zero_add] at hx206_0 | skip); replace hx206_0 := keep_cell HK.out hx206_0 (by first | (rw [add_block]; exact hf3 _ rfl (by omega)) | exact hf3 _ rfl (by omega) | exact hf3 ⟨1, 0, none⟩ rfl (by omega)); replace p206 := eq_true p206; replace q206 := eq_true q206)); try go_wp2_with (first | (go_at_call 23; (with_reducible refine (impl_Area_1.calls x9_3 x10_3 (rd l0_2 x47_3) g x2000_3 t204 w0 _ ?side1 ?side2 A30.out).mono ?_); (case side1 => repeat (first | (with_reducible first | exact HI1.out | apply IsS2.alloc | apply IsS2.drewN | apply IsS2.drew | apply IsS2.set_0 | apply IsS2.far (hne := NB1_198.out)) | exact HI1.out)); (case side2 => repeat (first | (with_reducible first | exact HB.out | apply below_alloc | apply pw_below_drewN | apply below_drew1 | refine below_set ?_ (IsS2.ge HI1.out) | refine below_set ?_ GE198.out) | exact HB.out)); rintro e w33 ⟨rfl, hi, hb, hk⟩; have n0_ := Aside0.mk (KeepBut.blk hk (g' := gb198) (o := .cells #[.int .i64 a0_0, .int .i64 a0_1, .slice (some ad203) l0_2.length c0_2] 27 (0, 0)) (by (with_reducible repeat (first | refine blk_drewN ?_ _ | refine blk_drew ?_ | refine blk_alloc ?_ _)); exact BK198.out) NB198_1.out (by simp)); have n1_ := Aside0.mk (KeepBut.trans (by repeat (first | (with_reducible first | exact HK.out | apply KeepBut.set_ | apply keep_drewN | apply keep_drew | apply keep_alloc | refine keep_far ?_ GW198.out _) | exact HK.out)) hk (.inl rfl)); have n2_ := Aside0.mk (hb); have n3_ := Aside0.mk (hi); clear BK198; clear HK; clear HB; clear HI1; have BK198 := n0_; have HK := n1_; have HB := n2_; have HI1 := n3_; clear n0_ n1_ n2_ n3_; (try clear hb); (try clear hb2); (try clear hk); (try clear hi); have p205 : 0 ≤ ((rd l0_2 x47_3) : Int) := of_decide_eq_true (by first | (with_reducible assumption) | assumption); have q205 : (rd l0_2 x47_3) < (l2.length : Int) := (by have h_ : ((rd l0_2 x47_3) : Int) < (4 : Int) := of_decide_eq_true (by first | (with_reducible assumption) | assumption); have e_ := HN2.out; omega); have ql205 : (((rd l0_2 x47_3) : Int) < (4 : Int)) = True := eq_true (of_decide_eq_true (by first | (with_reducible assumption) | assumption)); obtain ⟨ad205, e205, hx205_0⟩ := Kd.at_int HR2.out (rd l0_2 x47_3) p205 q205; obtain rfl : (⟨0, 0, none⟩ : Addr) = ad205 := (by injection e205); (first | simp only [add_plain] at hx205_0 | simp only [add_at] at hx205_0 | simp only [Addr.add, Nat.zero_add] at hx205_0 | skip); replace hx205_0 := keep_cell HK.out hx205_0 (by first | (rw [add_block]; exact hf2 _ rfl (by omega)) | exact hf2 _ rfl (by omega) | exact hf2 ⟨0, 0, none⟩ rfl (by omega)); replace p205 := eq_true p205; replace q205 := eq_true q205; have p206 : 0 ≤ ((rd l0_2 x47_3) : Int) := of_decide_eq_true (by first | (with_reducible assumption) | assumption); have q206 : (rd l0_2 x47_3) < (l3.length : Int) := (by have h_ : ((rd l0_2 x47_3) : Int) < (4 : Int) := of_decide_eq_true (by first | (with_reducible assumption) | assumption); have e_ := HN3.out; omega); have ql206 : (((rd l0_2 x47_3) : Int) < (4 : Int)) = True := eq_true (of_decide_eq_true (by first | (with_reducible assumption) | assumption)); obtain ⟨ad206, e206, hx206_0⟩ := Kd.at_int HR3.out (rd l0_2 x47_3) p206 q206; obtain rfl : (⟨1, 0, none⟩ : Addr) = ad206 := (by injection e206); (first | simp only [add_plain] at hx206_0 | simp only [add_at] at hx206_0 | simp only [Addr.add, Nat.zero_add] at hx206_0 | skip); replace hx206_0 := keep_cell HK.out hx206_0 (by first | (rw [add_block]; exact hf3 _ rfl (by omega)) | exact hf3 _ rfl (by omega) | exact hf3 ⟨1, 0, none⟩ rfl (by omega)); replace p206 := eq_true p206; replace q206 := eq_true q206)))
              go_roundg k3
              case measure => have := HJ4.out; have := HK2.out; have := HK3.out; omega
              case rel => exact ⟨(wrap64 (x9_3 + (rd l2 (rd l0_2 x47_3)))), (wrap64 (x10_3 + (rd l3 (rd l0_2 x47_3)))), (wrap64 (x47_3 + 1)), (t204), (by first | rfl | (simp; done) | (simp [*]; done)), (by first | rfl | (simp; done) | (simp [*]; done)), (by first | rfl | (simp; done) | (simp [*]; done)), H', ⟨by have := HJ4.out; have := HK2.out; have := HK3.out; omega⟩, ⟨by (with_reducible repeat (first | refine blk_drewN ?_ _ | refine blk_drew ?_ | refine blk_alloc ?_ _)); exact BK198.out⟩, ⟨by repeat (first | (with_reducible first | exact HI1.out | apply IsS2.alloc | apply IsS2.drewN | apply IsS2.drew | apply IsS2.set_0 | apply IsS2.far (hne := NB1_198.out)) | exact HI1.out)⟩, ⟨by repeat (first | (with_reducible first | exact HK.out | apply KeepBut.set_ | apply keep_drewN | apply keep_drew | apply keep_alloc | refine keep_far ?_ GW198.out _) | exact HK.out)⟩, ⟨by repeat (first | (with_reducible first | exact HB.out | apply below_alloc | apply pw_below_drewN | apply below_drew1 | refine below_set ?_ (IsS2.ge HI1.out) | refine below_set ?_ GE198.out) | exact HB.out)⟩⟩
             ·rw [if_neg c32] at H
              exact absurd H (by simp)
            ·rw [if_neg c31] at H
             exact absurd H (by simp)
           ·rw [if_neg c29] at H
            exact absurd H (by simp)
          ·rw [if_neg c28] at H
           exact absurd H (by simp)
         ·rw [if_neg c27] at H
          have c27b0 : decide (x47_3 < (l0_2.length : Int)) = false := decide_eq_false c27
          clear c27
          simp only [Option.some.injEq, Prod.mk.injEq] at H
          obtain ⟨rfl, rfl, rfl, rfl⟩ := H
          go_wp2
          repeat (go_quiet (fail); try go_wp2)
          go_ret3
          exact ⟨by first | rfl | (simp [errW_none, errW_some] <;> rfl) | (simp [*, errW_none, errW_some] <;> rfl), by repeat (first | (with_reducible first | exact HI1.out | apply IsS2.alloc | apply IsS2.drewN | apply IsS2.drew | apply IsS2.set_0 | apply IsS2.far (hne := NB1_198.out)) | exact HI1.out), by repeat (first | (with_reducible first | exact HB.out | apply below_alloc | apply pw_below_drewN | apply below_drew1 | refine below_set ?_ (IsS2.ge HI1.out) | refine below_set ?_ GE198.out) | exact HB.out), by repeat (first | (with_reducible first | exact HK.out | apply KeepBut.set_ | apply keep_drewN | apply keep_drew | apply keep_alloc | refine keep_far ?_ GW198.out _) | exact HK.out)⟩

end Go.Proofs.YtmndffnjejgfoabDoor.Q
