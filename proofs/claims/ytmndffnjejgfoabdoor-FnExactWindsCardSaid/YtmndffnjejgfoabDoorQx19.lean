/- Plain Lean functions with the same answers as the Go functions of this seat, and a proof for each that the Go code comes to just these answers; no condition. Written by a program of this session (the kit's printer, turned). -/
import Derived.Test.YtmndffnjejgfoabDoorQx0
namespace Go.Proofs.YtmndffnjejgfoabDoor.Q
open Go.RowKit Go.Proofs.YtmndffnjejgfoabDoorW.PrintWords Go.Proofs.YtmndffnjejgfoabDoorW.PrintLast Go.Proofs.YtmndffnjejgfoabDoorW.PrintMore
attribute [local go_sem] max2_int min2_int max_two min_two max_three min_three max_four min_four   -- for this text's walks alone
set_option linter.unusedVariables false
set_option linter.unusedSimpArgs false

/-- A state of type 2 at block g of W; what its slices lead to came in by w0. -/
def IsS2 (w0 W : World) (g : Nat) (f0 : Int) : Prop := W.heap[g]? = some (.cells #[.int .i64 f0] 2 (0, 0)) ∧ w0.heap.size ≤ g
theorem IsS2.grown {w0 W : World} {g : Nat} {f0 : Int} {W1 : World} {row : Option Nat} (h : IsS2 w0 W g f0) (hw : W.grownBy W1 row) (hne : some g ≠ row) : IsS2 w0 W1 g f0 := by
 obtain ⟨hb, hg⟩ := h
 exact ⟨blk_grown hb hw hne, hg⟩
theorem IsS2.own_neN {w0 W : World} {g : Nat} {f0 : Int} {α : Type} {d : Kd α} {e : Nat} {base : Nat} {ok : Nat → Prop} {v : Value} {xs : List α} (h : IsS2 w0 W g f0) (ho : Kd.N d e W base ok v xs) (ht : e ≠ 2) : some g ≠ v.ownBlock := by
 obtain ⟨hb, hg⟩ := h
 exact Kd.N_ne ho hb ht
theorem IsS2.fresh {w0 W : World} {g : Nat} {f0 : Int} (h : IsS2 w0 W g f0) : ∀ k, W.heap.size ≤ k → k ≠ g := by
 obtain ⟨hb, hg⟩ := h
 exact Kd.freshB hb
theorem IsS2.kept {w0 W : World} {g : Nat} {f0 : Int} {W1 : World} {S : Nat → Prop} (h : IsS2 w0 W g f0) (hk : Kept W W1 S) (hne : ¬ S g) : IsS2 w0 W1 g f0 := by
 obtain ⟨hb, hg⟩ := h
 exact ⟨blk_kept hb hk hne, hg⟩
theorem IsS2.below {w0 W : World} {g : Nat} {f0 : Int} {W1 : World} (h : IsS2 w0 W g f0) (hw : Below W.heap.size W W1) : IsS2 w0 W1 g f0 := h.grown (grown_of_below hw none) (by simp)
theorem IsS2.alloc {w0 W : World} {g : Nat} {f0 : Int} (h : IsS2 w0 W g f0) (o : Obj) : IsS2 w0 (W.alloc o) g f0 := h.below (below_alloc (Below.refl _ _) o)
theorem IsS2.drewN {w0 W : World} {g : Nat} {f0 : Int} (h : IsS2 w0 W g f0) (m : Nat) : IsS2 w0 (W.drewN m) g f0 := h
theorem IsS2.drew {w0 W : World} {g : Nat} {f0 : Int} (h : IsS2 w0 W g f0) : IsS2 w0 W.drew g f0 := h
theorem IsS2.at_ {w0 W : World} {g : Nat} {f0 : Int} {w' : World} {m : Nat} (hq : W.drewN m = w') (h : IsS2 w0 W g f0) : IsS2 w0 w' g f0 := by subst hq; exact IsS2.drewN h m
theorem IsS2.apart {w0 W : World} {g : Nat} {f0 : Int} {α : Type} {d : Kd α} {e : Nat} {base : Nat} {ok : Nat → Prop} {v : Value} {xs : List α} (h : IsS2 w0 W g f0) (ho : d.R e W base ok v xs) (ht : ∀ q, q ∈ e :: d.E → q ≠ 2) : d.R e W base (fun k => ok k ∧ k ≠ g) v xs := by
 obtain ⟨hb, hg⟩ := h
 exact Kd.R_types ho hb ht
theorem IsS2.own_ne {w0 W : World} {g : Nat} {f0 : Int} {α : Type} {d : Kd α} {e : Nat} {base : Nat} {ok : Nat → Prop} {v : Value} {xs : List α} (h : IsS2 w0 W g f0) (ho : d.R e W base ok v xs) (ht : e ≠ 2) : some g ≠ v.ownBlock := by
 obtain ⟨hb, hg⟩ := h
 exact Kd.R_ne ho hb ht
theorem IsS2.apartQ {w0 W : World} {g : Nat} {f0 : Int} {α : Type} {d : Kd α} {e : Nat} {base : Nat} {ok : Nat → Prop} {v : Value} {xs : List α} (h : IsS2 w0 W g f0) (ho : d.Q e W base ok v xs) (ht : ∀ q, q ∈ e :: d.E → q ≠ 2) : d.Q e W base (fun k => ok k ∧ k ≠ g) v xs := by
 obtain ⟨hb, hg⟩ := h
 exact Kd.Q_types ho hb ht
theorem IsS2.own_neQ {w0 W : World} {g : Nat} {f0 : Int} {α : Type} {d : Kd α} {e : Nat} {base : Nat} {ok : Nat → Prop} {v : Value} {xs : List α} (h : IsS2 w0 W g f0) (ho : d.Q e W base ok v xs) (ht : e ≠ 2) : some g ≠ v.ownBlock := by
 obtain ⟨hb, hg⟩ := h
 exact Kd.Q_ne ho hb ht
theorem IsS2.apartS {w0 W : World} {g : Nat} {f0 : Int} {α : Type} {d : Kd α} {e : Nat} {base : Nat} {ok : Nat → Prop} {v : Value} {xs : List α} (h : IsS2 w0 W g f0) (ho : d.S e W base ok v xs) (ht : ∀ q, q ∈ e :: d.E → q ≠ 2) : d.S e W base (fun k => ok k ∧ k ≠ g) v xs := by
 obtain ⟨hb, hg⟩ := h
 exact Kd.S_types ho hb ht
theorem IsS2.own_neS {w0 W : World} {g : Nat} {f0 : Int} {α : Type} {d : Kd α} {e : Nat} {base : Nat} {ok : Nat → Prop} {v : Value} {xs : List α} (h : IsS2 w0 W g f0) (ho : d.S e W base ok v xs) (ht : e ≠ 2) : some g ≠ v.ownBlock := by
 obtain ⟨hb, hg⟩ := h
 exact Kd.S_ne ho hb ht
theorem IsS2.lt {w0 W : World} {g : Nat} {f0 : Int} (h : IsS2 w0 W g f0) : g < W.heap.size := by
 obtain ⟨hb, hg⟩ := h
 exact blk_lt hb
theorem IsS2.ge {w0 W : World} {g : Nat} {f0 : Int} (h : IsS2 w0 W g f0) : w0.heap.size ≤ g := by
 obtain ⟨hb, hg⟩ := h
 exact hg
theorem IsS2.ne_blk {w0 W : World} {g : Nat} {f0 : Int} {a : Nat} {cs : Array Value} {t : TypeId} {fr : Nat × Nat} (h : IsS2 w0 W g f0) (hb2 : W.heap[a]? = some (.cells cs t fr)) (ht : t ≠ 2) : g ≠ a := by
 obtain ⟨hb, hg⟩ := h
 rintro rfl
 rw [hb] at hb2
 injection hb2 with hb2
 injection hb2 with _ ht2
 exact ht ht2.symm
theorem IsS2.far {w0 W : World} {g : Nat} {f0 : Int} {p : Addr} (h : IsS2 w0 W g f0) (hne : g ≠ p.block) (u : Value) : IsS2 w0 (W.setCell p u) g f0 := by
 obtain ⟨hb, hg⟩ := h
 exact ⟨blk_far hb hne u, hg⟩
theorem cellS2_0 {W : World} {g : Nat} {f0 : Int} (h : W.heap[g]? = some (.cells #[.int .i64 f0] 2 (0, 0))) : W.cell? ⟨g, 0, none⟩ = some (.int .i64 f0) := (blk_cell h 0).trans rfl
theorem IsS2.set_0 {w0 W : World} {g : Nat} {f0 : Int} (h : IsS2 w0 W g f0) (x : Int) : IsS2 w0 (W.setCell ⟨g, 0, none⟩ (.int .i64 x)) g x := by
 obtain ⟨hb, hg⟩ := h
 exact ⟨by simpa using blk_set hb 0 (.int .i64 x), hg⟩
theorem IsS2.new (w0 W : World) (f0 : Int) (hB : Below w0.heap.size w0 W) : IsS2 w0 (W.alloc (.cells #[.int .i64 f0] 2)) W.heap.size f0 := ⟨by simpa using heap_alloc_new W _, hB.size⟩

/-! ### impl_Area_1: function 23 -/
def impl_Area_1.f (a0_0 : Int) (a0_1 : Int) (a0_2 : Int) (s1_0 : Int) : Option (Int) := if a0_2 = 1 then (some (wrap64 (s1_0 + a0_0))) else (if a0_2 = 3 then (some (wrap64 (s1_0 - a0_0))) else (some s1_0))
set_option maxHeartbeats 8000000 in
set_option maxRecDepth 100000 in
theorem impl_Area_1.calls (a0_0 : Int) (a0_1 : Int) (a0_2 : Int) (g : Nat) (s1_0 : Int) (r : Int) (w0 w : World) (hI : IsS2 w0 w g s1_0) (hB : Below w0.heap.size w0 w) (h : impl_Area_1.f a0_0 a0_1 a0_2 s1_0 = some r) :
  Calls Tryd.prog 23 #[.agg #[.int .i64 a0_0, .int .i64 a0_1, .int .i64 a0_2], .pointer (some ⟨g, 0, none⟩)] w fun e w' => e = .returned (.tuple #[]) ∧ IsS2 w0 w' g r ∧ Below w0.heap.size w0 w' ∧ KeepBut w w' g none := by
 have hu45 := Tryd.underlying45
 have HI1 := Aside0.mk hI
 have HK := Aside0.mk (KeepBut.refl w g none)
 have HL := Aside0.mk hB.size
 clear hI
 have HW0 := Aside0.mk hB.size
 have HB := Aside0.mk hB
 clear hB
 have H : (if a0_2 = 1 then (some (wrap64 (s1_0 + a0_0))) else (if a0_2 = 3 then (some (wrap64 (s1_0 - a0_0))) else (some s1_0))) = some r := h
 clear h
 by_cases c3 : a0_2 = 1
 ·rw [if_pos c3] at H
  have c3b0 : (a0_2 == 1) = true := beq_iff_eq.mpr c3
  have c3b1 : (a0_2 != 1) = false := bne_eq_false_iff_eq.mpr c3
  clear c3
  obtain rfl := Option.some.inj H
  go_enter Tryd.func23, Tryd.ntmps23
  go_wp2_with (first | ((with_reducible refine gate_dst (N := 2) rfl ?_); refine box_event ?hg (N := 2) ?hd (cs := #[.int .i64 a0_0, .int .i64 a0_1, .int .i64 a0_2]) (t := 45) ?hr ?_; (case hd => rfl); (case hg => rfl); (case hr => first | (go_simp; done) | (go_simp; rfl)); intro gb197 hg w4 hbox hb; have n0_ := Aside0.mk (IsS2.below (by repeat (first | (with_reducible first | exact HI1.out | apply IsS2.alloc | apply IsS2.drewN | apply IsS2.drew | apply IsS2.set_0) | exact HI1.out)) hb); have n1_ := Aside0.mk (KeepBut.trans (by repeat (first | (with_reducible first | exact HK.out | apply KeepBut.set_ | apply keep_drewN | apply keep_drew | apply keep_alloc) | exact HK.out)) (KeepBut.of_below hb g none) (.inl rfl)); have n2_ := Aside0.mk (below_step (by repeat (first | (with_reducible first | exact HB.out | apply below_alloc | apply pw_below_drewN | apply below_drew1 | refine below_set ?_ (IsS2.ge HI1.out)) | exact HB.out)) hb); have n3_ := Aside0.mk (hbox); have n4_ := Aside0.mk ((by rw [hg]; exact (keep_size (w := w) (g := g) (row := none) (by repeat (first | (with_reducible first | exact HK.out | apply KeepBut.set_ | apply keep_drewN | apply keep_drew | apply keep_alloc) | exact HK.out))) : w.heap.size ≤ gb197)); have n5_ := Aside0.mk ((Nat.le_trans HW0.out (by rw [hg]; exact (keep_size (w := w) (g := g) (row := none) (by repeat (first | (with_reducible first | exact HK.out | apply KeepBut.set_ | apply keep_drewN | apply keep_drew | apply keep_alloc) | exact HK.out))) : w.heap.size ≤ gb197) : w0.heap.size ≤ gb197)); have n6_ := Aside0.mk ((by rw [hg]; exact Nat.ne_of_lt (IsS2.lt (show IsS2 w0 _ g s1_0 from by repeat (first | (with_reducible first | exact HI1.out | apply IsS2.alloc | apply IsS2.drewN | apply IsS2.drew | apply IsS2.set_0) | exact HI1.out))) : g ≠ gb197)); have n7_ := Aside0.mk ((by rw [hg]; exact Nat.ne_of_gt (IsS2.lt (show IsS2 w0 _ g s1_0 from by repeat (first | (with_reducible first | exact HI1.out | apply IsS2.alloc | apply IsS2.drewN | apply IsS2.drew | apply IsS2.set_0) | exact HI1.out))) : gb197 ≠ g)); clear HI1; clear HK; clear HB; have HI1 := n0_; have HK := n1_; have HB := n2_; have BK197 := n3_; have GW197 := n4_; have GE197 := n5_; have NB1_197 := n6_; have NB197_1 := n7_; clear n0_ n1_ n2_ n3_ n4_ n5_ n6_ n7_; clear hb hbox hg; have hnb5 := NB197_1.out; have hnc5 := NB1_197.out; have hcz6_0 : w4.cell? ⟨gb197, 0, none⟩ = some (.int .i64 a0_0) := (blk_cell BK197.out 0).trans rfl; have hcz6_1 : w4.cell? ⟨gb197, 1, none⟩ = some (.int .i64 a0_1) := (blk_cell BK197.out 1).trans rfl; have hcz6_2 : w4.cell? ⟨gb197, 2, none⟩ = some (.int .i64 a0_2) := (blk_cell BK197.out 2).trans rfl; have hfz6_0 := blk_frozen BK197.out 0; have hfz6_1 := blk_frozen BK197.out 1; have hfz6_2 := blk_frozen BK197.out 2; obtain ⟨HGz7, hgz7⟩ := HI1.out; have hcz7_0 := cellS2_0 HGz7; have hfz7_0 := blk_frozen HGz7 0; clear HGz7 hgz7))
  first | go_end0 | ((try simp only [Exit.inBlock, Exit.then]); refine bodyPost_ret (results_none rfl _ _ _) rfl ?_)
  exact ⟨by first | rfl | (simp [errW_none, errW_some] <;> rfl) | (simp [*, errW_none, errW_some] <;> rfl), by repeat (first | (with_reducible first | exact HI1.out | apply IsS2.alloc | apply IsS2.drewN | apply IsS2.drew | apply IsS2.set_0 | apply IsS2.far (hne := NB1_197.out)) | exact HI1.out), by repeat (first | (with_reducible first | exact HB.out | apply below_alloc | apply pw_below_drewN | apply below_drew1 | refine below_set ?_ (IsS2.ge HI1.out) | refine below_set ?_ GE197.out) | exact HB.out), by repeat (first | (with_reducible first | exact HK.out | apply KeepBut.set_ | apply keep_drewN | apply keep_drew | apply keep_alloc | refine keep_far ?_ GW197.out _) | exact HK.out)⟩
 ·rw [if_neg c3] at H
  have c3b0 : (a0_2 == 1) = false := beq_eq_false_iff_ne.mpr c3
  have c3b1 : (a0_2 != 1) = true := bne_iff_ne.mpr c3
  by_cases c8 : a0_2 = 3
  ·rw [if_pos c8] at H
   have c8b0 : (a0_2 == 3) = true := beq_iff_eq.mpr c8
   have c8b1 : (a0_2 != 3) = false := bne_eq_false_iff_eq.mpr c8
   clear c8
   obtain rfl := Option.some.inj H
   go_enter Tryd.func23, Tryd.ntmps23
   go_wp2_with (first | ((with_reducible refine gate_dst (N := 2) rfl ?_); refine box_event ?hg (N := 2) ?hd (cs := #[.int .i64 a0_0, .int .i64 a0_1, .int .i64 a0_2]) (t := 45) ?hr ?_; (case hd => rfl); (case hg => rfl); (case hr => first | (go_simp; done) | (go_simp; rfl)); intro gb197 hg w9 hbox hb; have n0_ := Aside0.mk (IsS2.below (by repeat (first | (with_reducible first | exact HI1.out | apply IsS2.alloc | apply IsS2.drewN | apply IsS2.drew | apply IsS2.set_0) | exact HI1.out)) hb); have n1_ := Aside0.mk (KeepBut.trans (by repeat (first | (with_reducible first | exact HK.out | apply KeepBut.set_ | apply keep_drewN | apply keep_drew | apply keep_alloc) | exact HK.out)) (KeepBut.of_below hb g none) (.inl rfl)); have n2_ := Aside0.mk (below_step (by repeat (first | (with_reducible first | exact HB.out | apply below_alloc | apply pw_below_drewN | apply below_drew1 | refine below_set ?_ (IsS2.ge HI1.out)) | exact HB.out)) hb); have n3_ := Aside0.mk (hbox); have n4_ := Aside0.mk ((by rw [hg]; exact (keep_size (w := w) (g := g) (row := none) (by repeat (first | (with_reducible first | exact HK.out | apply KeepBut.set_ | apply keep_drewN | apply keep_drew | apply keep_alloc) | exact HK.out))) : w.heap.size ≤ gb197)); have n5_ := Aside0.mk ((Nat.le_trans HW0.out (by rw [hg]; exact (keep_size (w := w) (g := g) (row := none) (by repeat (first | (with_reducible first | exact HK.out | apply KeepBut.set_ | apply keep_drewN | apply keep_drew | apply keep_alloc) | exact HK.out))) : w.heap.size ≤ gb197) : w0.heap.size ≤ gb197)); have n6_ := Aside0.mk ((by rw [hg]; exact Nat.ne_of_lt (IsS2.lt (show IsS2 w0 _ g s1_0 from by repeat (first | (with_reducible first | exact HI1.out | apply IsS2.alloc | apply IsS2.drewN | apply IsS2.drew | apply IsS2.set_0) | exact HI1.out))) : g ≠ gb197)); have n7_ := Aside0.mk ((by rw [hg]; exact Nat.ne_of_gt (IsS2.lt (show IsS2 w0 _ g s1_0 from by repeat (first | (with_reducible first | exact HI1.out | apply IsS2.alloc | apply IsS2.drewN | apply IsS2.drew | apply IsS2.set_0) | exact HI1.out))) : gb197 ≠ g)); clear HI1; clear HK; clear HB; have HI1 := n0_; have HK := n1_; have HB := n2_; have BK197 := n3_; have GW197 := n4_; have GE197 := n5_; have NB1_197 := n6_; have NB197_1 := n7_; clear n0_ n1_ n2_ n3_ n4_ n5_ n6_ n7_; clear hb hbox hg; have hnb10 := NB197_1.out; have hnc10 := NB1_197.out; have hcz11_0 : w9.cell? ⟨gb197, 0, none⟩ = some (.int .i64 a0_0) := (blk_cell BK197.out 0).trans rfl; have hcz11_1 : w9.cell? ⟨gb197, 1, none⟩ = some (.int .i64 a0_1) := (blk_cell BK197.out 1).trans rfl; have hcz11_2 : w9.cell? ⟨gb197, 2, none⟩ = some (.int .i64 a0_2) := (blk_cell BK197.out 2).trans rfl; have hfz11_0 := blk_frozen BK197.out 0; have hfz11_1 := blk_frozen BK197.out 1; have hfz11_2 := blk_frozen BK197.out 2; obtain ⟨HGz12, hgz12⟩ := HI1.out; have hcz12_0 := cellS2_0 HGz12; have hfz12_0 := blk_frozen HGz12 0; clear HGz12 hgz12))
   first | go_end0 | ((try simp only [Exit.inBlock, Exit.then]); refine bodyPost_ret (results_none rfl _ _ _) rfl ?_)
   exact ⟨by first | rfl | (simp [errW_none, errW_some] <;> rfl) | (simp [*, errW_none, errW_some] <;> rfl), by repeat (first | (with_reducible first | exact HI1.out | apply IsS2.alloc | apply IsS2.drewN | apply IsS2.drew | apply IsS2.set_0 | apply IsS2.far (hne := NB1_197.out)) | exact HI1.out), by repeat (first | (with_reducible first | exact HB.out | apply below_alloc | apply pw_below_drewN | apply below_drew1 | refine below_set ?_ (IsS2.ge HI1.out) | refine below_set ?_ GE197.out) | exact HB.out), by repeat (first | (with_reducible first | exact HK.out | apply KeepBut.set_ | apply keep_drewN | apply keep_drew | apply keep_alloc | refine keep_far ?_ GW197.out _) | exact HK.out)⟩
  ·rw [if_neg c8] at H
   have c8b0 : (a0_2 == 3) = false := beq_eq_false_iff_ne.mpr c8
   have c8b1 : (a0_2 != 3) = true := bne_iff_ne.mpr c8
   obtain rfl := Option.some.inj H
   go_enter Tryd.func23, Tryd.ntmps23
   go_wp2_with (first | ((with_reducible refine gate_dst (N := 2) rfl ?_); refine box_event ?hg (N := 2) ?hd (cs := #[.int .i64 a0_0, .int .i64 a0_1, .int .i64 a0_2]) (t := 45) ?hr ?_; (case hd => rfl); (case hg => rfl); (case hr => first | (go_simp; done) | (go_simp; rfl)); intro gb197 hg w13 hbox hb; have n0_ := Aside0.mk (IsS2.below (by repeat (first | (with_reducible first | exact HI1.out | apply IsS2.alloc | apply IsS2.drewN | apply IsS2.drew | apply IsS2.set_0) | exact HI1.out)) hb); have n1_ := Aside0.mk (KeepBut.trans (by repeat (first | (with_reducible first | exact HK.out | apply KeepBut.set_ | apply keep_drewN | apply keep_drew | apply keep_alloc) | exact HK.out)) (KeepBut.of_below hb g none) (.inl rfl)); have n2_ := Aside0.mk (below_step (by repeat (first | (with_reducible first | exact HB.out | apply below_alloc | apply pw_below_drewN | apply below_drew1 | refine below_set ?_ (IsS2.ge HI1.out)) | exact HB.out)) hb); have n3_ := Aside0.mk (hbox); have n4_ := Aside0.mk ((by rw [hg]; exact (keep_size (w := w) (g := g) (row := none) (by repeat (first | (with_reducible first | exact HK.out | apply KeepBut.set_ | apply keep_drewN | apply keep_drew | apply keep_alloc) | exact HK.out))) : w.heap.size ≤ gb197)); have n5_ := Aside0.mk ((Nat.le_trans HW0.out (by rw [hg]; exact (keep_size (w := w) (g := g) (row := none) (by repeat (first | (with_reducible first | exact HK.out | apply KeepBut.set_ | apply keep_drewN | apply keep_drew | apply keep_alloc) | exact HK.out))) : w.heap.size ≤ gb197) : w0.heap.size ≤ gb197)); have n6_ := Aside0.mk ((by rw [hg]; exact Nat.ne_of_lt (IsS2.lt (show IsS2 w0 _ g s1_0 from by repeat (first | (with_reducible first | exact HI1.out | apply IsS2.alloc | apply IsS2.drewN | apply IsS2.drew | apply IsS2.set_0) | exact HI1.out))) : g ≠ gb197)); have n7_ := Aside0.mk ((by rw [hg]; exact Nat.ne_of_gt (IsS2.lt (show IsS2 w0 _ g s1_0 from by repeat (first | (with_reducible first | exact HI1.out | apply IsS2.alloc | apply IsS2.drewN | apply IsS2.drew | apply IsS2.set_0) | exact HI1.out))) : gb197 ≠ g)); clear HI1; clear HK; clear HB; have HI1 := n0_; have HK := n1_; have HB := n2_; have BK197 := n3_; have GW197 := n4_; have GE197 := n5_; have NB1_197 := n6_; have NB197_1 := n7_; clear n0_ n1_ n2_ n3_ n4_ n5_ n6_ n7_; clear hb hbox hg; have hnb14 := NB197_1.out; have hnc14 := NB1_197.out; have hcz15_0 : w13.cell? ⟨gb197, 0, none⟩ = some (.int .i64 a0_0) := (blk_cell BK197.out 0).trans rfl; have hcz15_1 : w13.cell? ⟨gb197, 1, none⟩ = some (.int .i64 a0_1) := (blk_cell BK197.out 1).trans rfl; have hcz15_2 : w13.cell? ⟨gb197, 2, none⟩ = some (.int .i64 a0_2) := (blk_cell BK197.out 2).trans rfl; have hfz15_0 := blk_frozen BK197.out 0; have hfz15_1 := blk_frozen BK197.out 1; have hfz15_2 := blk_frozen BK197.out 2))
   first | go_end0 | ((try simp only [Exit.inBlock, Exit.then]); refine bodyPost_ret (results_none rfl _ _ _) rfl ?_)
   exact ⟨by first | rfl | (simp [errW_none, errW_some] <;> rfl) | (simp [*, errW_none, errW_some] <;> rfl), by repeat (first | (with_reducible first | exact HI1.out | apply IsS2.alloc | apply IsS2.drewN | apply IsS2.drew | apply IsS2.set_0 | apply IsS2.far (hne := NB1_197.out)) | exact HI1.out), by repeat (first | (with_reducible first | exact HB.out | apply below_alloc | apply pw_below_drewN | apply below_drew1 | refine below_set ?_ (IsS2.ge HI1.out) | refine below_set ?_ GE197.out) | exact HB.out), by repeat (first | (with_reducible first | exact HK.out | apply KeepBut.set_ | apply keep_drewN | apply keep_drew | apply keep_alloc | refine keep_far ?_ GW197.out _) | exact HK.out)⟩

end Go.Proofs.YtmndffnjejgfoabDoor.Q
