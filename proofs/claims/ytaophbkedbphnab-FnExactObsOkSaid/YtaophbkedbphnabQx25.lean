/- Plain Lean functions with the same answers as the Go functions of this seat, and a proof for each that the Go code comes to just these answers; no condition. Written by a program of this session (the kit's printer, turned). -/
import Derived.Test.YtaophbkedbphnabQx0
import Derived.Test.YtaophbkedbphnabQx13
import Derived.Test.YtaophbkedbphnabQx14
import Derived.Test.YtaophbkedbphnabQx23
import Derived.Test.YtaophbkedbphnabQx24
namespace Go.Proofs.Ytaophbkedbphnab.Q
open Go.RowKit Go.Proofs.YtaophbkedbphnabW.PrintWords Go.Proofs.YtaophbkedbphnabW.PrintLast Go.Proofs.YtaophbkedbphnabW.PrintMore Go.Proofs.YtaophbkedbphnabW.PrintFlt
attribute [local go_sem] cmp_lss cmp_leq cmp_gtr cmp_geq cmp_eql cmp_neq flt_l flt_r fgt_l fgt_r feq_l feq_r fne_l fne_r ord_lt ord_gt ord_eq ord_ne conv_int conv_flt foi_fold run_store_flt
attribute [local go_sem] max2_int min2_int max_two min_two max_three min_three max_four min_four   -- for this text's walks alone
set_option linter.unusedVariables false
set_option linter.unusedSimpArgs false

/-! ### impl_ObsOk: function 39 -/
mutual
def impl_ObsOk.j0 : Nat → Bool → Int → Nat → Nat → Nat → Int → Nat → Nat → Nat → Int → Int → Option (Bool)
 | 0, _, _, _, _, _, _, _, _, _, _, _ => none
 | k + 1, x39, x162000, x162001, x162002, x162003, x162004, x162005, x162006, x162007, x162008, x162009 => if x39 = true then (some false) else (if x162004 = (-1) then ((impl_missing.f x162005).bind fun t167 => (if t167 = true then (impl_ObsOk.j1 k x162000 x162001 x162002 x162003 x162004 x162005 x162006 x162007 x162008 x162009) else (some false))) else ((impl_wholeOf.f k x162005 0 99).bind fun bt168 => (if bt168.2 = true then ((impl_in.f x162004 0 36).bind fun t170 => (if t170 = true then (if ((bt168.1 == 0) != (x162004 == 0)) = true then (some false) else (impl_ObsOk.j1 k x162000 x162001 x162002 x162003 x162004 x162005 x162006 x162007 x162008 x162009)) else (some false))) else (some false))))
def impl_ObsOk.j1 : Nat → Int → Nat → Nat → Nat → Int → Nat → Nat → Nat → Int → Int → Option (Bool)
 | 0, _, _, _, _, _, _, _, _, _, _ => none
 | k + 1, x162000, x162001, x162002, x162003, x162004, x162005, x162006, x162007, x162008, x162009 => (impl_wholeOf.f k x162006 0 99990).bind fun bt171 => ((impl_missing.f x162006).bind fun t173 => (if t173 = true then (impl_ObsOk.j2 k false x162000 x162001 x162002 x162003 x162004 x162005 x162006 x162007 x162008 x162009) else (if bt171.2 = true then (impl_ObsOk.j2 k ((Int.tmod bt171.1 10) != 0) x162000 x162001 x162002 x162003 x162004 x162005 x162006 x162007 x162008 x162009) else (impl_ObsOk.j2 k true x162000 x162001 x162002 x162003 x162004 x162005 x162006 x162007 x162008 x162009))))
def impl_ObsOk.j2 : Nat → Bool → Int → Nat → Nat → Nat → Int → Nat → Nat → Nat → Int → Int → Option (Bool)
 | 0, _, _, _, _, _, _, _, _, _, _, _ => none
 | k + 1, x87, x162000, x162001, x162002, x162003, x162004, x162005, x162006, x162007, x162008, x162009 => if x87 = true then (some false) else (if x162008 = (-1) then (if x162009 = (-1) then (some true) else ((impl_in.f x162008 0 99).bind fun t174 => (if t174 = true then ((impl_in.f x162009 0 8).bind fun t175 => (some t175)) else (some false)))) else ((impl_in.f x162008 0 99).bind fun t176 => (if t176 = true then ((impl_in.f x162009 0 8).bind fun t177 => (some t177)) else (some false))))
end
def impl_ObsOk.f (k : Nat) (a0_0 : Int) (a0_1 : Nat) (a0_2 : Nat) (a0_3 : Nat) (a0_4 : Int) (a0_5 : Nat) (a0_6 : Nat) (a0_7 : Nat) (a0_8 : Int) (a0_9 : Int) : Option (Bool) := (impl_in.f a0_0 1 99999).bind fun t162 => (if t162 = true then ((impl_ObsOk_1.f k a0_1 (-999) 999).bind fun t163 => (if t163 = true then ((impl_ObsOk_1.f k a0_2 (-999) 999).bind fun t164 => (if t164 = true then ((impl_ObsOk_1.f k a0_3 5000 14999).bind fun t165 => (if t165 = true then ((impl_ObsOk_1.f k a0_7 0 9999).bind fun t166 => (impl_ObsOk.j0 k (!t166) a0_0 a0_1 a0_2 a0_3 a0_4 a0_5 a0_6 a0_7 a0_8 a0_9)) else (impl_ObsOk.j0 k true a0_0 a0_1 a0_2 a0_3 a0_4 a0_5 a0_6 a0_7 a0_8 a0_9))) else (impl_ObsOk.j0 k true a0_0 a0_1 a0_2 a0_3 a0_4 a0_5 a0_6 a0_7 a0_8 a0_9))) else (impl_ObsOk.j0 k true a0_0 a0_1 a0_2 a0_3 a0_4 a0_5 a0_6 a0_7 a0_8 a0_9))) else (impl_ObsOk.j0 k true a0_0 a0_1 a0_2 a0_3 a0_4 a0_5 a0_6 a0_7 a0_8 a0_9))
theorem impl_ObsOk.mono_l : ∀ k, (∀ y0 y1 y2 y3 y4 y5 y6 y7 y8 y9 y10, LeO (impl_ObsOk.j0 k y0 y1 y2 y3 y4 y5 y6 y7 y8 y9 y10) (impl_ObsOk.j0 (k + 1) y0 y1 y2 y3 y4 y5 y6 y7 y8 y9 y10)) ∧ (∀ y0 y1 y2 y3 y4 y5 y6 y7 y8 y9, LeO (impl_ObsOk.j1 k y0 y1 y2 y3 y4 y5 y6 y7 y8 y9) (impl_ObsOk.j1 (k + 1) y0 y1 y2 y3 y4 y5 y6 y7 y8 y9)) ∧ (∀ y0 y1 y2 y3 y4 y5 y6 y7 y8 y9 y10, LeO (impl_ObsOk.j2 k y0 y1 y2 y3 y4 y5 y6 y7 y8 y9 y10) (impl_ObsOk.j2 (k + 1) y0 y1 y2 y3 y4 y5 y6 y7 y8 y9 y10))
 | 0 => ⟨fun _ _ _ _ _ _ _ _ _ _ _ r h => by simp [impl_ObsOk.j0] at h, fun _ _ _ _ _ _ _ _ _ _ r h => by simp [impl_ObsOk.j1] at h, fun _ _ _ _ _ _ _ _ _ _ _ r h => by simp [impl_ObsOk.j2] at h⟩
 | k + 1 => by
  obtain ⟨ih0, ih1, ih2⟩ := impl_ObsOk.mono_l k
  refine ⟨?_, ?_, ?_⟩
  ·intro y0 y1 y2 y3 y4 y5 y6 y7 y8 y9 y10
   unfold impl_ObsOk.j0
   repeat' first
   | (with_reducible exact ih0 _ _ _ _ _ _ _ _ _ _ _)
   | (with_reducible exact ih1 _ _ _ _ _ _ _ _ _ _)
   | (with_reducible exact ih2 _ _ _ _ _ _ _ _ _ _ _)
   | (with_reducible exact impl_ObsOk_1.mono _ _ _ _)
   | (with_reducible exact impl_wholeOf.mono _ _ _ _)
   | (with_reducible exact LeO.refl _)
   | (with_reducible exact LeO.none _)
   | (with_reducible refine LeO.ite ?_ ?_)
   | (with_reducible refine LeO.bind ?_ (fun _ => ?_))
   | exact ih0 _ _ _ _ _ _ _ _ _ _ _
   | exact ih1 _ _ _ _ _ _ _ _ _ _
   | exact ih2 _ _ _ _ _ _ _ _ _ _ _
   | exact impl_ObsOk_1.mono _ _ _ _
   | exact impl_wholeOf.mono _ _ _ _
   | exact LeO.none _
   | refine LeO.ite ?_ ?_
   | refine LeO.bind ?_ (fun _ => ?_)
  ·intro y0 y1 y2 y3 y4 y5 y6 y7 y8 y9
   unfold impl_ObsOk.j1
   repeat' first
   | (with_reducible exact ih0 _ _ _ _ _ _ _ _ _ _ _)
   | (with_reducible exact ih1 _ _ _ _ _ _ _ _ _ _)
   | (with_reducible exact ih2 _ _ _ _ _ _ _ _ _ _ _)
   | (with_reducible exact impl_ObsOk_1.mono _ _ _ _)
   | (with_reducible exact impl_wholeOf.mono _ _ _ _)
   | (with_reducible exact LeO.refl _)
   | (with_reducible exact LeO.none _)
   | (with_reducible refine LeO.ite ?_ ?_)
   | (with_reducible refine LeO.bind ?_ (fun _ => ?_))
   | exact ih0 _ _ _ _ _ _ _ _ _ _ _
   | exact ih1 _ _ _ _ _ _ _ _ _ _
   | exact ih2 _ _ _ _ _ _ _ _ _ _ _
   | exact impl_ObsOk_1.mono _ _ _ _
   | exact impl_wholeOf.mono _ _ _ _
   | exact LeO.none _
   | refine LeO.ite ?_ ?_
   | refine LeO.bind ?_ (fun _ => ?_)
  ·intro y0 y1 y2 y3 y4 y5 y6 y7 y8 y9 y10
   unfold impl_ObsOk.j2
   repeat' first
   | (with_reducible exact ih0 _ _ _ _ _ _ _ _ _ _ _)
   | (with_reducible exact ih1 _ _ _ _ _ _ _ _ _ _)
   | (with_reducible exact ih2 _ _ _ _ _ _ _ _ _ _ _)
   | (with_reducible exact impl_ObsOk_1.mono _ _ _ _)
   | (with_reducible exact impl_wholeOf.mono _ _ _ _)
   | (with_reducible exact LeO.refl _)
   | (with_reducible exact LeO.none _)
   | (with_reducible refine LeO.ite ?_ ?_)
   | (with_reducible refine LeO.bind ?_ (fun _ => ?_))
   | exact ih0 _ _ _ _ _ _ _ _ _ _ _
   | exact ih1 _ _ _ _ _ _ _ _ _ _
   | exact ih2 _ _ _ _ _ _ _ _ _ _ _
   | exact impl_ObsOk_1.mono _ _ _ _
   | exact impl_wholeOf.mono _ _ _ _
   | exact LeO.none _
   | refine LeO.ite ?_ ?_
   | refine LeO.bind ?_ (fun _ => ?_)
theorem impl_ObsOk.mono : ∀ a0 a1 a2 a3 a4 a5 a6 a7 a8 a9 k, LeO (impl_ObsOk.f k a0 a1 a2 a3 a4 a5 a6 a7 a8 a9) (impl_ObsOk.f (k + 1) a0 a1 a2 a3 a4 a5 a6 a7 a8 a9) := by
 intro a0 a1 a2 a3 a4 a5 a6 a7 a8 a9 k
 obtain ⟨ih0, ih1, ih2⟩ := impl_ObsOk.mono_l k
 unfold impl_ObsOk.f
 repeat' first
   | (with_reducible exact ih0 _ _ _ _ _ _ _ _ _ _ _)
   | (with_reducible exact ih1 _ _ _ _ _ _ _ _ _ _)
   | (with_reducible exact ih2 _ _ _ _ _ _ _ _ _ _ _)
   | (with_reducible exact impl_ObsOk_1.mono _ _ _ _)
   | (with_reducible exact impl_wholeOf.mono _ _ _ _)
   | (with_reducible exact LeO.refl _)
   | (with_reducible exact LeO.none _)
   | (with_reducible refine LeO.ite ?_ ?_)
   | (with_reducible refine LeO.bind ?_ (fun _ => ?_))
   | exact ih0 _ _ _ _ _ _ _ _ _ _ _
   | exact ih1 _ _ _ _ _ _ _ _ _ _
   | exact ih2 _ _ _ _ _ _ _ _ _ _ _
   | exact impl_ObsOk_1.mono _ _ _ _
   | exact impl_wholeOf.mono _ _ _ _
   | exact LeO.none _
   | refine LeO.ite ?_ ?_
   | refine LeO.bind ?_ (fun _ => ?_)
set_option maxHeartbeats 8000000 in
set_option maxRecDepth 100000 in
theorem impl_ObsOk.calls (k : Nat) (a0_0 : Int) (pa0_1 : Nat) (a0_1 : Nat) (pa0_2 : Nat) (a0_2 : Nat) (pa0_3 : Nat) (a0_3 : Nat) (a0_4 : Int) (pa0_5 : Nat) (a0_5 : Nat) (pa0_6 : Nat) (a0_6 : Nat) (pa0_7 : Nat) (a0_7 : Nat) (a0_8 : Int) (a0_9 : Int) (r : Bool) (w : World) (h : impl_ObsOk.f k a0_0 a0_1 a0_2 a0_3 a0_4 a0_5 a0_6 a0_7 a0_8 a0_9 = some r) :
  Calls Try.prog 39 #[.agg #[.int .i64 a0_0, .float .f64 (un pa0_1 a0_1), .float .f64 (un pa0_2 a0_2), .float .f64 (un pa0_3 a0_3), .int .i64 a0_4, .float .f64 (un pa0_5 a0_5), .float .f64 (un pa0_6 a0_6), .float .f64 (un pa0_7 a0_7), .int .i64 a0_8, .int .i64 a0_9]] w fun e w' => e = .returned (.bool r) ∧ Below w.heap.size w w' := by
 have hu60 := Try.underlying60
 have HB := Aside0.mk (Below.refl w.heap.size w)
 have H : ((impl_in.f a0_0 1 99999).bind fun t162 => (if t162 = true then ((impl_ObsOk_1.f k a0_1 (-999) 999).bind fun t163 => (if t163 = true then ((impl_ObsOk_1.f k a0_2 (-999) 999).bind fun t164 => (if t164 = true then ((impl_ObsOk_1.f k a0_3 5000 14999).bind fun t165 => (if t165 = true then ((impl_ObsOk_1.f k a0_7 0 9999).bind fun t166 => (impl_ObsOk.j0 k (!t166) a0_0 a0_1 a0_2 a0_3 a0_4 a0_5 a0_6 a0_7 a0_8 a0_9)) else (impl_ObsOk.j0 k true a0_0 a0_1 a0_2 a0_3 a0_4 a0_5 a0_6 a0_7 a0_8 a0_9))) else (impl_ObsOk.j0 k true a0_0 a0_1 a0_2 a0_3 a0_4 a0_5 a0_6 a0_7 a0_8 a0_9))) else (impl_ObsOk.j0 k true a0_0 a0_1 a0_2 a0_3 a0_4 a0_5 a0_6 a0_7 a0_8 a0_9))) else (impl_ObsOk.j0 k true a0_0 a0_1 a0_2 a0_3 a0_4 a0_5 a0_6 a0_7 a0_8 a0_9))) = some r := h
 clear h
 have HC2 := Aside0.mk H
 clear H
 go_enter Try.func39, Try.ntmps39
 go_upto_region 2 with (first | ((with_reducible refine gate_dst (N := 1) rfl ?_); refine box_event ?hg (N := 1) ?hd (cs := #[.int .i64 a0_0, .float .f64 (un pa0_1 a0_1), .float .f64 (un pa0_2 a0_2), .float .f64 (un pa0_3 a0_3), .int .i64 a0_4, .float .f64 (un pa0_5 a0_5), .float .f64 (un pa0_6 a0_6), .float .f64 (un pa0_7 a0_7), .int .i64 a0_8, .int .i64 a0_9]) (t := 60) ?hr ?_; (case hd => rfl); (case hg => rfl); (case hr => first | (go_simp; done) | (go_simp; rfl)); intro gb161 hg w3 hbox hb; have n0_ := Aside0.mk (below_step (by repeat (first | (with_reducible first | exact HB.out | apply below_alloc | apply pw_below_drewN | apply below_drew1) | exact HB.out)) hb); have n1_ := Aside0.mk (hbox); have n2_ := Aside0.mk ((by rw [hg]; exact (below_size (by repeat (first | (with_reducible first | exact HB.out | apply below_alloc | apply pw_below_drewN | apply below_drew1) | exact HB.out))) : w.heap.size ≤ gb161)); have n3_ := Aside0.mk ((by rw [hg]; exact (below_size (by repeat (first | (with_reducible first | exact HB.out | apply below_alloc | apply pw_below_drewN | apply below_drew1) | exact HB.out))) : w.heap.size ≤ gb161)); clear HB; have HB := n0_; have BK161 := n1_; have GW161 := n2_; have GE161 := n3_; clear n0_ n1_ n2_ n3_; clear hb hbox hg))
 (try simp only [Act.put, sqA, sqZ, sqS])
 go_cut [39] (fun v39 wc => ∃ (kq : Nat) (x39_1 : Bool), v39 = .bool x39_1 ∧ Aside0 (impl_ObsOk.j0 kq x39_1 a0_0 a0_1 a0_2 a0_3 a0_4 a0_5 a0_6 a0_7 a0_8 a0_9 = some r) ∧ Aside0 (kq ≤ k) ∧ Aside0 (wc.heap[gb161]? = some (.cells #[.int .i64 a0_0, .float .f64 (un pa0_1 a0_1), .float .f64 (un pa0_2 a0_2), .float .f64 (un pa0_3 a0_3), .int .i64 a0_4, .float .f64 (un pa0_5 a0_5), .float .f64 (un pa0_6 a0_6), .float .f64 (un pa0_7 a0_7), .int .i64 a0_8, .int .i64 a0_9] 60 (0, 0))) ∧ Aside0 (Below w.heap.size w wc))
 case first =>
  have H := HC2.out
  clear HC2
  replace H := Option.bind_eq_some_iff.mp H
  obtain ⟨t162, A40, H⟩ := H
  replace H : (if t162 = true then ((impl_ObsOk_1.f k a0_1 (-999) 999).bind fun t163 => (if t163 = true then ((impl_ObsOk_1.f k a0_2 (-999) 999).bind fun t164 => (if t164 = true then ((impl_ObsOk_1.f k a0_3 5000 14999).bind fun t165 => (if t165 = true then ((impl_ObsOk_1.f k a0_7 0 9999).bind fun t166 => (impl_ObsOk.j0 k (!t166) a0_0 a0_1 a0_2 a0_3 a0_4 a0_5 a0_6 a0_7 a0_8 a0_9)) else (impl_ObsOk.j0 k true a0_0 a0_1 a0_2 a0_3 a0_4 a0_5 a0_6 a0_7 a0_8 a0_9))) else (impl_ObsOk.j0 k true a0_0 a0_1 a0_2 a0_3 a0_4 a0_5 a0_6 a0_7 a0_8 a0_9))) else (impl_ObsOk.j0 k true a0_0 a0_1 a0_2 a0_3 a0_4 a0_5 a0_6 a0_7 a0_8 a0_9))) else (impl_ObsOk.j0 k true a0_0 a0_1 a0_2 a0_3 a0_4 a0_5 a0_6 a0_7 a0_8 a0_9)) = some r := H
  have A4 := Aside0.mk A40
  clear A40
  by_cases c5 : t162 = true
  ·subst c5
   have H1 : ((impl_ObsOk_1.f k a0_1 (-999) 999).bind fun t163 => (if t163 = true then ((impl_ObsOk_1.f k a0_2 (-999) 999).bind fun t164 => (if t164 = true then ((impl_ObsOk_1.f k a0_3 5000 14999).bind fun t165 => (if t165 = true then ((impl_ObsOk_1.f k a0_7 0 9999).bind fun t166 => (impl_ObsOk.j0 k (!t166) a0_0 a0_1 a0_2 a0_3 a0_4 a0_5 a0_6 a0_7 a0_8 a0_9)) else (impl_ObsOk.j0 k true a0_0 a0_1 a0_2 a0_3 a0_4 a0_5 a0_6 a0_7 a0_8 a0_9))) else (impl_ObsOk.j0 k true a0_0 a0_1 a0_2 a0_3 a0_4 a0_5 a0_6 a0_7 a0_8 a0_9))) else (impl_ObsOk.j0 k true a0_0 a0_1 a0_2 a0_3 a0_4 a0_5 a0_6 a0_7 a0_8 a0_9))) = some r := by rw [if_pos rfl] at H; exact H
   clear H
   have H := H1
   clear H1
   replace H := Option.bind_eq_some_iff.mp H
   obtain ⟨t163, A60, H⟩ := H
   replace H : (if t163 = true then ((impl_ObsOk_1.f k a0_2 (-999) 999).bind fun t164 => (if t164 = true then ((impl_ObsOk_1.f k a0_3 5000 14999).bind fun t165 => (if t165 = true then ((impl_ObsOk_1.f k a0_7 0 9999).bind fun t166 => (impl_ObsOk.j0 k (!t166) a0_0 a0_1 a0_2 a0_3 a0_4 a0_5 a0_6 a0_7 a0_8 a0_9)) else (impl_ObsOk.j0 k true a0_0 a0_1 a0_2 a0_3 a0_4 a0_5 a0_6 a0_7 a0_8 a0_9))) else (impl_ObsOk.j0 k true a0_0 a0_1 a0_2 a0_3 a0_4 a0_5 a0_6 a0_7 a0_8 a0_9))) else (impl_ObsOk.j0 k true a0_0 a0_1 a0_2 a0_3 a0_4 a0_5 a0_6 a0_7 a0_8 a0_9)) = some r := H
   have A6 := Aside0.mk A60
   clear A60
   by_cases c7 : t163 = true
   ·subst c7
    have H1 : ((impl_ObsOk_1.f k a0_2 (-999) 999).bind fun t164 => (if t164 = true then ((impl_ObsOk_1.f k a0_3 5000 14999).bind fun t165 => (if t165 = true then ((impl_ObsOk_1.f k a0_7 0 9999).bind fun t166 => (impl_ObsOk.j0 k (!t166) a0_0 a0_1 a0_2 a0_3 a0_4 a0_5 a0_6 a0_7 a0_8 a0_9)) else (impl_ObsOk.j0 k true a0_0 a0_1 a0_2 a0_3 a0_4 a0_5 a0_6 a0_7 a0_8 a0_9))) else (impl_ObsOk.j0 k true a0_0 a0_1 a0_2 a0_3 a0_4 a0_5 a0_6 a0_7 a0_8 a0_9))) = some r := by rw [if_pos rfl] at H; exact H
    clear H
    have H := H1
    clear H1
    replace H := Option.bind_eq_some_iff.mp H
    obtain ⟨t164, A80, H⟩ := H
    replace H : (if t164 = true then ((impl_ObsOk_1.f k a0_3 5000 14999).bind fun t165 => (if t165 = true then ((impl_ObsOk_1.f k a0_7 0 9999).bind fun t166 => (impl_ObsOk.j0 k (!t166) a0_0 a0_1 a0_2 a0_3 a0_4 a0_5 a0_6 a0_7 a0_8 a0_9)) else (impl_ObsOk.j0 k true a0_0 a0_1 a0_2 a0_3 a0_4 a0_5 a0_6 a0_7 a0_8 a0_9))) else (impl_ObsOk.j0 k true a0_0 a0_1 a0_2 a0_3 a0_4 a0_5 a0_6 a0_7 a0_8 a0_9)) = some r := H
    have A8 := Aside0.mk A80
    clear A80
    by_cases c9 : t164 = true
    ·subst c9
     have H1 : ((impl_ObsOk_1.f k a0_3 5000 14999).bind fun t165 => (if t165 = true then ((impl_ObsOk_1.f k a0_7 0 9999).bind fun t166 => (impl_ObsOk.j0 k (!t166) a0_0 a0_1 a0_2 a0_3 a0_4 a0_5 a0_6 a0_7 a0_8 a0_9)) else (impl_ObsOk.j0 k true a0_0 a0_1 a0_2 a0_3 a0_4 a0_5 a0_6 a0_7 a0_8 a0_9))) = some r := by rw [if_pos rfl] at H; exact H
     clear H
     have H := H1
     clear H1
     replace H := Option.bind_eq_some_iff.mp H
     obtain ⟨t165, A100, H⟩ := H
     replace H : (if t165 = true then ((impl_ObsOk_1.f k a0_7 0 9999).bind fun t166 => (impl_ObsOk.j0 k (!t166) a0_0 a0_1 a0_2 a0_3 a0_4 a0_5 a0_6 a0_7 a0_8 a0_9)) else (impl_ObsOk.j0 k true a0_0 a0_1 a0_2 a0_3 a0_4 a0_5 a0_6 a0_7 a0_8 a0_9)) = some r := H
     have A10 := Aside0.mk A100
     clear A100
     by_cases c11 : t165 = true
     ·subst c11
      have H1 : ((impl_ObsOk_1.f k a0_7 0 9999).bind fun t166 => (impl_ObsOk.j0 k (!t166) a0_0 a0_1 a0_2 a0_3 a0_4 a0_5 a0_6 a0_7 a0_8 a0_9)) = some r := by rw [if_pos rfl] at H; exact H
      clear H
      have H := H1
      clear H1
      replace H := Option.bind_eq_some_iff.mp H
      obtain ⟨t166, A120, H⟩ := H
      replace H : (impl_ObsOk.j0 k (!t166) a0_0 a0_1 a0_2 a0_3 a0_4 a0_5 a0_6 a0_7 a0_8 a0_9) = some r := H
      have A12 := Aside0.mk A120
      clear A120
      have H' := Aside0.mk H
      clear H
      have hcz13_0 : w3.cell? ⟨gb161, 0, none⟩ = some (.int .i64 a0_0) := (blk_cell BK161.out 0).trans rfl
      have hcz13_1 : w3.cell? ⟨gb161, 1, none⟩ = some (.float .f64 (un pa0_1 a0_1)) := (blk_cell BK161.out 1).trans rfl
      have hcz13_2 : w3.cell? ⟨gb161, 2, none⟩ = some (.float .f64 (un pa0_2 a0_2)) := (blk_cell BK161.out 2).trans rfl
      have hcz13_3 : w3.cell? ⟨gb161, 3, none⟩ = some (.float .f64 (un pa0_3 a0_3)) := (blk_cell BK161.out 3).trans rfl
      have hcz13_4 : w3.cell? ⟨gb161, 4, none⟩ = some (.int .i64 a0_4) := (blk_cell BK161.out 4).trans rfl
      have hcz13_5 : w3.cell? ⟨gb161, 5, none⟩ = some (.float .f64 (un pa0_5 a0_5)) := (blk_cell BK161.out 5).trans rfl
      have hcz13_6 : w3.cell? ⟨gb161, 6, none⟩ = some (.float .f64 (un pa0_6 a0_6)) := (blk_cell BK161.out 6).trans rfl
      have hcz13_7 : w3.cell? ⟨gb161, 7, none⟩ = some (.float .f64 (un pa0_7 a0_7)) := (blk_cell BK161.out 7).trans rfl
      have hcz13_8 : w3.cell? ⟨gb161, 8, none⟩ = some (.int .i64 a0_8) := (blk_cell BK161.out 8).trans rfl
      have hcz13_9 : w3.cell? ⟨gb161, 9, none⟩ = some (.int .i64 a0_9) := (blk_cell BK161.out 9).trans rfl
      have hfz13_0 := blk_frozen BK161.out 0
      have hfz13_1 := blk_frozen BK161.out 1
      have hfz13_2 := blk_frozen BK161.out 2
      have hfz13_3 := blk_frozen BK161.out 3
      have hfz13_4 := blk_frozen BK161.out 4
      have hfz13_5 := blk_frozen BK161.out 5
      have hfz13_6 := blk_frozen BK161.out 6
      have hfz13_7 := blk_frozen BK161.out 7
      have hfz13_8 := blk_frozen BK161.out 8
      have hfz13_9 := blk_frozen BK161.out 9
      go_wp2_with (first | ((with_reducible refine gate_callee (f := 46) rfl ?_); refine goesL_ (some 10) rfl rfl Try.func46 (by kernel_rfl) rfl #[.int .i64 a0_0, .int .i64 1, .int .i64 99999] rfl (by (try simp only [List.map_toArray, List.map_cons, List.map_nil]); first | done | rfl | (simp only [List.length_drop, List.length_take]; rfl)) ?_; (with_reducible refine (impl_in.calls a0_0 1 99999 true _ A4.out).mono ?_); rintro e w' ⟨rfl, ⟨nd, rfl⟩⟩; refine ⟨_, rfl, ?_⟩) | (go_at_call 66; (with_reducible refine (impl_ObsOk_1.calls k pa0_1 a0_1 (-999) 999 true _ A6.out).mono ?_); rintro e w' ⟨rfl, ⟨nd, rfl⟩⟩) | (go_at_call 66; (with_reducible refine (impl_ObsOk_1.calls k pa0_2 a0_2 (-999) 999 true _ A8.out).mono ?_); rintro e w' ⟨rfl, ⟨nd, rfl⟩⟩) | (go_at_call 66; (with_reducible refine (impl_ObsOk_1.calls k pa0_3 a0_3 5000 14999 true _ A10.out).mono ?_); rintro e w' ⟨rfl, ⟨nd, rfl⟩⟩) | (go_at_call 66; (with_reducible refine (impl_ObsOk_1.calls k pa0_7 a0_7 0 9999 t166 _ A12.out).mono ?_); rintro e w' ⟨rfl, ⟨nd, rfl⟩⟩))
      go_meet
      case rel => exact ⟨_, (!t166), (by first | rfl | (simp; done) | (simp [*]; done)), H', ⟨by first | omega | exact Nat.le_refl _⟩, ⟨by (with_reducible repeat (first | refine blk_drewN ?_ _ | refine blk_drew ?_ | refine blk_alloc ?_ _)); exact BK161.out⟩, ⟨by repeat (first | (with_reducible first | exact HB.out | apply below_alloc | apply pw_below_drewN | apply below_drew1 | refine below_set ?_ GE161.out) | exact HB.out)⟩⟩
     ·replace c11 := Bool.eq_false_iff.mpr c11
      subst c11
      have H1 : (impl_ObsOk.j0 k true a0_0 a0_1 a0_2 a0_3 a0_4 a0_5 a0_6 a0_7 a0_8 a0_9) = some r := by rw [if_neg (show ¬ (false = true) by decide)] at H; exact H
      clear H
      have H := H1
      clear H1
      have H' := Aside0.mk H
      clear H
      have hcz14_0 : w3.cell? ⟨gb161, 0, none⟩ = some (.int .i64 a0_0) := (blk_cell BK161.out 0).trans rfl
      have hcz14_1 : w3.cell? ⟨gb161, 1, none⟩ = some (.float .f64 (un pa0_1 a0_1)) := (blk_cell BK161.out 1).trans rfl
      have hcz14_2 : w3.cell? ⟨gb161, 2, none⟩ = some (.float .f64 (un pa0_2 a0_2)) := (blk_cell BK161.out 2).trans rfl
      have hcz14_3 : w3.cell? ⟨gb161, 3, none⟩ = some (.float .f64 (un pa0_3 a0_3)) := (blk_cell BK161.out 3).trans rfl
      have hcz14_4 : w3.cell? ⟨gb161, 4, none⟩ = some (.int .i64 a0_4) := (blk_cell BK161.out 4).trans rfl
      have hcz14_5 : w3.cell? ⟨gb161, 5, none⟩ = some (.float .f64 (un pa0_5 a0_5)) := (blk_cell BK161.out 5).trans rfl
      have hcz14_6 : w3.cell? ⟨gb161, 6, none⟩ = some (.float .f64 (un pa0_6 a0_6)) := (blk_cell BK161.out 6).trans rfl
      have hcz14_7 : w3.cell? ⟨gb161, 7, none⟩ = some (.float .f64 (un pa0_7 a0_7)) := (blk_cell BK161.out 7).trans rfl
      have hcz14_8 : w3.cell? ⟨gb161, 8, none⟩ = some (.int .i64 a0_8) := (blk_cell BK161.out 8).trans rfl
      have hcz14_9 : w3.cell? ⟨gb161, 9, none⟩ = some (.int .i64 a0_9) := (blk_cell BK161.out 9).trans rfl
      have hfz14_0 := blk_frozen BK161.out 0
      have hfz14_1 := blk_frozen BK161.out 1
      have hfz14_2 := blk_frozen BK161.out 2
      have hfz14_3 := blk_frozen BK161.out 3
      have hfz14_4 := blk_frozen BK161.out 4
      have hfz14_5 := blk_frozen BK161.out 5
      have hfz14_6 := blk_frozen BK161.out 6
      have hfz14_7 := blk_frozen BK161.out 7
      have hfz14_8 := blk_frozen BK161.out 8
      have hfz14_9 := blk_frozen BK161.out 9
      go_wp2_with (first | ((with_reducible refine gate_callee (f := 46) rfl ?_); refine goesL_ (some 10) rfl rfl Try.func46 (by kernel_rfl) rfl #[.int .i64 a0_0, .int .i64 1, .int .i64 99999] rfl (by (try simp only [List.map_toArray, List.map_cons, List.map_nil]); first | done | rfl | (simp only [List.length_drop, List.length_take]; rfl)) ?_; (with_reducible refine (impl_in.calls a0_0 1 99999 true _ A4.out).mono ?_); rintro e w' ⟨rfl, ⟨nd, rfl⟩⟩; refine ⟨_, rfl, ?_⟩) | (go_at_call 66; (with_reducible refine (impl_ObsOk_1.calls k pa0_1 a0_1 (-999) 999 true _ A6.out).mono ?_); rintro e w' ⟨rfl, ⟨nd, rfl⟩⟩) | (go_at_call 66; (with_reducible refine (impl_ObsOk_1.calls k pa0_2 a0_2 (-999) 999 true _ A8.out).mono ?_); rintro e w' ⟨rfl, ⟨nd, rfl⟩⟩) | (go_at_call 66; (with_reducible refine (impl_ObsOk_1.calls k pa0_3 a0_3 5000 14999 false _ A10.out).mono ?_); rintro e w' ⟨rfl, ⟨nd, rfl⟩⟩))
      go_meet
      case rel => exact ⟨_, (true), (by first | rfl | (simp; done) | (simp [*]; done)), H', ⟨by first | omega | exact Nat.le_refl _⟩, ⟨by (with_reducible repeat (first | refine blk_drewN ?_ _ | refine blk_drew ?_ | refine blk_alloc ?_ _)); exact BK161.out⟩, ⟨by repeat (first | (with_reducible first | exact HB.out | apply below_alloc | apply pw_below_drewN | apply below_drew1 | refine below_set ?_ GE161.out) | exact HB.out)⟩⟩
    ·replace c9 := Bool.eq_false_iff.mpr c9
     subst c9
     have H1 : (impl_ObsOk.j0 k true a0_0 a0_1 a0_2 a0_3 a0_4 a0_5 a0_6 a0_7 a0_8 a0_9) = some r := by rw [if_neg (show ¬ (false = true) by decide)] at H; exact H
     clear H
     have H := H1
     clear H1
     have H' := Aside0.mk H
     clear H
     have hcz15_0 : w3.cell? ⟨gb161, 0, none⟩ = some (.int .i64 a0_0) := (blk_cell BK161.out 0).trans rfl
     have hcz15_1 : w3.cell? ⟨gb161, 1, none⟩ = some (.float .f64 (un pa0_1 a0_1)) := (blk_cell BK161.out 1).trans rfl
     have hcz15_2 : w3.cell? ⟨gb161, 2, none⟩ = some (.float .f64 (un pa0_2 a0_2)) := (blk_cell BK161.out 2).trans rfl
     have hcz15_3 : w3.cell? ⟨gb161, 3, none⟩ = some (.float .f64 (un pa0_3 a0_3)) := (blk_cell BK161.out 3).trans rfl
     have hcz15_4 : w3.cell? ⟨gb161, 4, none⟩ = some (.int .i64 a0_4) := (blk_cell BK161.out 4).trans rfl
     have hcz15_5 : w3.cell? ⟨gb161, 5, none⟩ = some (.float .f64 (un pa0_5 a0_5)) := (blk_cell BK161.out 5).trans rfl
     have hcz15_6 : w3.cell? ⟨gb161, 6, none⟩ = some (.float .f64 (un pa0_6 a0_6)) := (blk_cell BK161.out 6).trans rfl
     have hcz15_7 : w3.cell? ⟨gb161, 7, none⟩ = some (.float .f64 (un pa0_7 a0_7)) := (blk_cell BK161.out 7).trans rfl
     have hcz15_8 : w3.cell? ⟨gb161, 8, none⟩ = some (.int .i64 a0_8) := (blk_cell BK161.out 8).trans rfl
     have hcz15_9 : w3.cell? ⟨gb161, 9, none⟩ = some (.int .i64 a0_9) := (blk_cell BK161.out 9).trans rfl
     have hfz15_0 := blk_frozen BK161.out 0
     have hfz15_1 := blk_frozen BK161.out 1
     have hfz15_2 := blk_frozen BK161.out 2
     have hfz15_3 := blk_frozen BK161.out 3
     have hfz15_4 := blk_frozen BK161.out 4
     have hfz15_5 := blk_frozen BK161.out 5
     have hfz15_6 := blk_frozen BK161.out 6
     have hfz15_7 := blk_frozen BK161.out 7
     have hfz15_8 := blk_frozen BK161.out 8
     have hfz15_9 := blk_frozen BK161.out 9
     go_wp2_with (first | ((with_reducible refine gate_callee (f := 46) rfl ?_); refine goesL_ (some 10) rfl rfl Try.func46 (by kernel_rfl) rfl #[.int .i64 a0_0, .int .i64 1, .int .i64 99999] rfl (by (try simp only [List.map_toArray, List.map_cons, List.map_nil]); first | done | rfl | (simp only [List.length_drop, List.length_take]; rfl)) ?_; (with_reducible refine (impl_in.calls a0_0 1 99999 true _ A4.out).mono ?_); rintro e w' ⟨rfl, ⟨nd, rfl⟩⟩; refine ⟨_, rfl, ?_⟩) | (go_at_call 66; (with_reducible refine (impl_ObsOk_1.calls k pa0_1 a0_1 (-999) 999 true _ A6.out).mono ?_); rintro e w' ⟨rfl, ⟨nd, rfl⟩⟩) | (go_at_call 66; (with_reducible refine (impl_ObsOk_1.calls k pa0_2 a0_2 (-999) 999 false _ A8.out).mono ?_); rintro e w' ⟨rfl, ⟨nd, rfl⟩⟩))
     go_meet
     case rel => exact ⟨_, (true), (by first | rfl | (simp; done) | (simp [*]; done)), H', ⟨by first | omega | exact Nat.le_refl _⟩, ⟨by (with_reducible repeat (first | refine blk_drewN ?_ _ | refine blk_drew ?_ | refine blk_alloc ?_ _)); exact BK161.out⟩, ⟨by repeat (first | (with_reducible first | exact HB.out | apply below_alloc | apply pw_below_drewN | apply below_drew1 | refine below_set ?_ GE161.out) | exact HB.out)⟩⟩
   ·replace c7 := Bool.eq_false_iff.mpr c7
    subst c7
    have H1 : (impl_ObsOk.j0 k true a0_0 a0_1 a0_2 a0_3 a0_4 a0_5 a0_6 a0_7 a0_8 a0_9) = some r := by rw [if_neg (show ¬ (false = true) by decide)] at H; exact H
    clear H
    have H := H1
    clear H1
    have H' := Aside0.mk H
    clear H
    have hcz16_0 : w3.cell? ⟨gb161, 0, none⟩ = some (.int .i64 a0_0) := (blk_cell BK161.out 0).trans rfl
    have hcz16_1 : w3.cell? ⟨gb161, 1, none⟩ = some (.float .f64 (un pa0_1 a0_1)) := (blk_cell BK161.out 1).trans rfl
    have hcz16_2 : w3.cell? ⟨gb161, 2, none⟩ = some (.float .f64 (un pa0_2 a0_2)) := (blk_cell BK161.out 2).trans rfl
    have hcz16_3 : w3.cell? ⟨gb161, 3, none⟩ = some (.float .f64 (un pa0_3 a0_3)) := (blk_cell BK161.out 3).trans rfl
    have hcz16_4 : w3.cell? ⟨gb161, 4, none⟩ = some (.int .i64 a0_4) := (blk_cell BK161.out 4).trans rfl
    have hcz16_5 : w3.cell? ⟨gb161, 5, none⟩ = some (.float .f64 (un pa0_5 a0_5)) := (blk_cell BK161.out 5).trans rfl
    have hcz16_6 : w3.cell? ⟨gb161, 6, none⟩ = some (.float .f64 (un pa0_6 a0_6)) := (blk_cell BK161.out 6).trans rfl
    have hcz16_7 : w3.cell? ⟨gb161, 7, none⟩ = some (.float .f64 (un pa0_7 a0_7)) := (blk_cell BK161.out 7).trans rfl
    have hcz16_8 : w3.cell? ⟨gb161, 8, none⟩ = some (.int .i64 a0_8) := (blk_cell BK161.out 8).trans rfl
    have hcz16_9 : w3.cell? ⟨gb161, 9, none⟩ = some (.int .i64 a0_9) := (blk_cell BK161.out 9).trans rfl
    have hfz16_0 := blk_frozen BK161.out 0
    have hfz16_1 := blk_frozen BK161.out 1
    have hfz16_2 := blk_frozen BK161.out 2
    have hfz16_3 := blk_frozen BK161.out 3
    have hfz16_4 := blk_frozen BK161.out 4
    have hfz16_5 := blk_frozen BK161.out 5
    have hfz16_6 := blk_frozen BK161.out 6
    have hfz16_7 := blk_frozen BK161.out 7
    have hfz16_8 := blk_frozen BK161.out 8
    have hfz16_9 := blk_frozen BK161.out 9
    go_wp2_with (first | ((with_reducible refine gate_callee (f := 46) rfl ?_); refine goesL_ (some 10) rfl rfl Try.func46 (by kernel_rfl) rfl #[.int .i64 a0_0, .int .i64 1, .int .i64 99999] rfl (by (try simp only [List.map_toArray, List.map_cons, List.map_nil]); first | done | rfl | (simp only [List.length_drop, List.length_take]; rfl)) ?_; (with_reducible refine (impl_in.calls a0_0 1 99999 true _ A4.out).mono ?_); rintro e w' ⟨rfl, ⟨nd, rfl⟩⟩; refine ⟨_, rfl, ?_⟩) | (go_at_call 66; (with_reducible refine (impl_ObsOk_1.calls k pa0_1 a0_1 (-999) 999 false _ A6.out).mono ?_); rintro e w' ⟨rfl, ⟨nd, rfl⟩⟩))
    go_meet
    case rel => exact ⟨_, (true), (by first | rfl | (simp; done) | (simp [*]; done)), H', ⟨by first | omega | exact Nat.le_refl _⟩, ⟨by (with_reducible repeat (first | refine blk_drewN ?_ _ | refine blk_drew ?_ | refine blk_alloc ?_ _)); exact BK161.out⟩, ⟨by repeat (first | (with_reducible first | exact HB.out | apply below_alloc | apply pw_below_drewN | apply below_drew1 | refine below_set ?_ GE161.out) | exact HB.out)⟩⟩
  ·replace c5 := Bool.eq_false_iff.mpr c5
   subst c5
   have H1 : (impl_ObsOk.j0 k true a0_0 a0_1 a0_2 a0_3 a0_4 a0_5 a0_6 a0_7 a0_8 a0_9) = some r := by rw [if_neg (show ¬ (false = true) by decide)] at H; exact H
   clear H
   have H := H1
   clear H1
   have H' := Aside0.mk H
   clear H
   have hcz17_0 : w3.cell? ⟨gb161, 0, none⟩ = some (.int .i64 a0_0) := (blk_cell BK161.out 0).trans rfl
   have hcz17_1 : w3.cell? ⟨gb161, 1, none⟩ = some (.float .f64 (un pa0_1 a0_1)) := (blk_cell BK161.out 1).trans rfl
   have hcz17_2 : w3.cell? ⟨gb161, 2, none⟩ = some (.float .f64 (un pa0_2 a0_2)) := (blk_cell BK161.out 2).trans rfl
   have hcz17_3 : w3.cell? ⟨gb161, 3, none⟩ = some (.float .f64 (un pa0_3 a0_3)) := (blk_cell BK161.out 3).trans rfl
   have hcz17_4 : w3.cell? ⟨gb161, 4, none⟩ = some (.int .i64 a0_4) := (blk_cell BK161.out 4).trans rfl
   have hcz17_5 : w3.cell? ⟨gb161, 5, none⟩ = some (.float .f64 (un pa0_5 a0_5)) := (blk_cell BK161.out 5).trans rfl
   have hcz17_6 : w3.cell? ⟨gb161, 6, none⟩ = some (.float .f64 (un pa0_6 a0_6)) := (blk_cell BK161.out 6).trans rfl
   have hcz17_7 : w3.cell? ⟨gb161, 7, none⟩ = some (.float .f64 (un pa0_7 a0_7)) := (blk_cell BK161.out 7).trans rfl
   have hcz17_8 : w3.cell? ⟨gb161, 8, none⟩ = some (.int .i64 a0_8) := (blk_cell BK161.out 8).trans rfl
   have hcz17_9 : w3.cell? ⟨gb161, 9, none⟩ = some (.int .i64 a0_9) := (blk_cell BK161.out 9).trans rfl
   have hfz17_0 := blk_frozen BK161.out 0
   have hfz17_1 := blk_frozen BK161.out 1
   have hfz17_2 := blk_frozen BK161.out 2
   have hfz17_3 := blk_frozen BK161.out 3
   have hfz17_4 := blk_frozen BK161.out 4
   have hfz17_5 := blk_frozen BK161.out 5
   have hfz17_6 := blk_frozen BK161.out 6
   have hfz17_7 := blk_frozen BK161.out 7
   have hfz17_8 := blk_frozen BK161.out 8
   have hfz17_9 := blk_frozen BK161.out 9
   go_wp2_with (first | ((with_reducible refine gate_callee (f := 46) rfl ?_); refine goesL_ (some 10) rfl rfl Try.func46 (by kernel_rfl) rfl #[.int .i64 a0_0, .int .i64 1, .int .i64 99999] rfl (by (try simp only [List.map_toArray, List.map_cons, List.map_nil]); first | done | rfl | (simp only [List.length_drop, List.length_take]; rfl)) ?_; (with_reducible refine (impl_in.calls a0_0 1 99999 false _ A4.out).mono ?_); rintro e w' ⟨rfl, ⟨nd, rfl⟩⟩; refine ⟨_, rfl, ?_⟩))
   go_meet
   case rel => exact ⟨_, (true), (by first | rfl | (simp; done) | (simp [*]; done)), H', ⟨by first | omega | exact Nat.le_refl _⟩, ⟨by (with_reducible repeat (first | refine blk_drewN ?_ _ | refine blk_drew ?_ | refine blk_alloc ?_ _)); exact BK161.out⟩, ⟨by repeat (first | (with_reducible first | exact HB.out | apply below_alloc | apply pw_below_drewN | apply below_drew1 | refine below_set ?_ GE161.out) | exact HB.out)⟩⟩
 case rest =>
  clear HC2
  try clear c1
  try clear p2
  try clear c3
  try clear c4
  try clear c5
  try clear c7
  try clear c9
  try clear c11
  try clear hcz13_0
  try clear hcz13_1
  try clear hcz13_2
  try clear hcz13_3
  try clear hcz13_4
  try clear hcz13_5
  try clear hcz13_6
  try clear hcz13_7
  try clear hcz13_8
  try clear hcz13_9
  try clear hcz14_0
  try clear hcz14_1
  try clear hcz14_2
  try clear hcz14_3
  try clear hcz14_4
  try clear hcz14_5
  try clear hcz14_6
  try clear hcz14_7
  try clear hcz14_8
  try clear hcz14_9
  try clear hcz15_0
  try clear hcz15_1
  try clear hcz15_2
  try clear hcz15_3
  try clear hcz15_4
  try clear hcz15_5
  try clear hcz15_6
  try clear hcz15_7
  try clear hcz15_8
  try clear hcz15_9
  try clear hcz16_0
  try clear hcz16_1
  try clear hcz16_2
  try clear hcz16_3
  try clear hcz16_4
  try clear hcz16_5
  try clear hcz16_6
  try clear hcz16_7
  try clear hcz16_8
  try clear hcz16_9
  try clear hcz17_0
  try clear hcz17_1
  try clear hcz17_2
  try clear hcz17_3
  try clear hcz17_4
  try clear hcz17_5
  try clear hcz17_6
  try clear hcz17_7
  try clear hcz17_8
  try clear hcz17_9
  try clear hfz13_0
  try clear hfz13_1
  try clear hfz13_2
  try clear hfz13_3
  try clear hfz13_4
  try clear hfz13_5
  try clear hfz13_6
  try clear hfz13_7
  try clear hfz13_8
  try clear hfz13_9
  try clear hfz14_0
  try clear hfz14_1
  try clear hfz14_2
  try clear hfz14_3
  try clear hfz14_4
  try clear hfz14_5
  try clear hfz14_6
  try clear hfz14_7
  try clear hfz14_8
  try clear hfz14_9
  try clear hfz15_0
  try clear hfz15_1
  try clear hfz15_2
  try clear hfz15_3
  try clear hfz15_4
  try clear hfz15_5
  try clear hfz15_6
  try clear hfz15_7
  try clear hfz15_8
  try clear hfz15_9
  try clear hfz16_0
  try clear hfz16_1
  try clear hfz16_2
  try clear hfz16_3
  try clear hfz16_4
  try clear hfz16_5
  try clear hfz16_6
  try clear hfz16_7
  try clear hfz16_8
  try clear hfz16_9
  try clear hfz17_0
  try clear hfz17_1
  try clear hfz17_2
  try clear hfz17_3
  try clear hfz17_4
  try clear hfz17_5
  try clear hfz17_6
  try clear hfz17_7
  try clear hfz17_8
  try clear hfz17_9
  obtain ⟨kq, x39_1, rfl, HA, HJ1, BK161, HB⟩ := hcut
  cases kq with
  | zero => exact absurd HA.out (by simp [impl_ObsOk.j0])
  | succ kj1 =>
   have H := HA.out
   clear HA
   simp only [impl_ObsOk.j0] at H
   by_cases c18 : x39_1 = true
   ·subst c18
    have H1 : (some false) = some r := by rw [if_pos rfl] at H; exact H
    clear H
    have H := H1
    clear H1
    obtain rfl := Option.some.inj H
    go_wp2
    go_ret
    exact ⟨by first | rfl | (simp [errW_none, errW_some] <;> rfl) | (simp [*, errW_none, errW_some] <;> rfl), by repeat (first | (with_reducible first | exact HB.out | apply below_alloc | apply pw_below_drewN | apply below_drew1 | refine below_set ?_ GE161.out) | exact HB.out)⟩
   ·replace c18 := Bool.eq_false_iff.mpr c18
    subst c18
    have H1 : (if a0_4 = (-1) then ((impl_missing.f a0_5).bind fun t167 => (if t167 = true then (impl_ObsOk.j1 kj1 a0_0 a0_1 a0_2 a0_3 a0_4 a0_5 a0_6 a0_7 a0_8 a0_9) else (some false))) else ((impl_wholeOf.f kj1 a0_5 0 99).bind fun bt168 => (if bt168.2 = true then ((impl_in.f a0_4 0 36).bind fun t170 => (if t170 = true then (if ((bt168.1 == 0) != (a0_4 == 0)) = true then (some false) else (impl_ObsOk.j1 kj1 a0_0 a0_1 a0_2 a0_3 a0_4 a0_5 a0_6 a0_7 a0_8 a0_9)) else (some false))) else (some false)))) = some r := by rw [if_neg (show ¬ (false = true) by decide)] at H; exact H
    clear H
    have H := H1
    clear H1
    have HC19 := Aside0.mk H
    clear H
    have hcz20_0 : wc.cell? ⟨gb161, 0, none⟩ = some (.int .i64 a0_0) := (blk_cell BK161.out 0).trans rfl
    have hcz20_1 : wc.cell? ⟨gb161, 1, none⟩ = some (.float .f64 (un pa0_1 a0_1)) := (blk_cell BK161.out 1).trans rfl
    have hcz20_2 : wc.cell? ⟨gb161, 2, none⟩ = some (.float .f64 (un pa0_2 a0_2)) := (blk_cell BK161.out 2).trans rfl
    have hcz20_3 : wc.cell? ⟨gb161, 3, none⟩ = some (.float .f64 (un pa0_3 a0_3)) := (blk_cell BK161.out 3).trans rfl
    have hcz20_4 : wc.cell? ⟨gb161, 4, none⟩ = some (.int .i64 a0_4) := (blk_cell BK161.out 4).trans rfl
    have hcz20_5 : wc.cell? ⟨gb161, 5, none⟩ = some (.float .f64 (un pa0_5 a0_5)) := (blk_cell BK161.out 5).trans rfl
    have hcz20_6 : wc.cell? ⟨gb161, 6, none⟩ = some (.float .f64 (un pa0_6 a0_6)) := (blk_cell BK161.out 6).trans rfl
    have hcz20_7 : wc.cell? ⟨gb161, 7, none⟩ = some (.float .f64 (un pa0_7 a0_7)) := (blk_cell BK161.out 7).trans rfl
    have hcz20_8 : wc.cell? ⟨gb161, 8, none⟩ = some (.int .i64 a0_8) := (blk_cell BK161.out 8).trans rfl
    have hcz20_9 : wc.cell? ⟨gb161, 9, none⟩ = some (.int .i64 a0_9) := (blk_cell BK161.out 9).trans rfl
    have hfz20_0 := blk_frozen BK161.out 0
    have hfz20_1 := blk_frozen BK161.out 1
    have hfz20_2 := blk_frozen BK161.out 2
    have hfz20_3 := blk_frozen BK161.out 3
    have hfz20_4 := blk_frozen BK161.out 4
    have hfz20_5 := blk_frozen BK161.out 5
    have hfz20_6 := blk_frozen BK161.out 6
    have hfz20_7 := blk_frozen BK161.out 7
    have hfz20_8 := blk_frozen BK161.out 8
    have hfz20_9 := blk_frozen BK161.out 9
    go_upto_if 42 with (fail)
    go_cut [] (fun wc => ∃ (kq : Nat), Aside0 (impl_ObsOk.j1 kq a0_0 a0_1 a0_2 a0_3 a0_4 a0_5 a0_6 a0_7 a0_8 a0_9 = some r) ∧ Aside0 (kq ≤ kj1) ∧ Aside0 (wc.heap[gb161]? = some (.cells #[.int .i64 a0_0, .float .f64 (un pa0_1 a0_1), .float .f64 (un pa0_2 a0_2), .float .f64 (un pa0_3 a0_3), .int .i64 a0_4, .float .f64 (un pa0_5 a0_5), .float .f64 (un pa0_6 a0_6), .float .f64 (un pa0_7 a0_7), .int .i64 a0_8, .int .i64 a0_9] 60 (0, 0))) ∧ Aside0 (Below w.heap.size w wc))
    case first =>
     have H := HC19.out
     clear HC19
     by_cases c21 : a0_4 = (-1)
     ·rw [if_pos c21] at H
      have c21b0 : (a0_4 == (-1)) = true := beq_iff_eq.mpr c21
      have c21b1 : (a0_4 != (-1)) = false := bne_eq_false_iff_eq.mpr c21
      clear c21
      (first | rw [c21b0] | (simp only [i64_w, i32_w]; rw [c21b0]) | skip)
      replace H := Option.bind_eq_some_iff.mp H
      obtain ⟨t167, A220, H⟩ := H
      replace H : (if t167 = true then (impl_ObsOk.j1 kj1 a0_0 a0_1 a0_2 a0_3 a0_4 a0_5 a0_6 a0_7 a0_8 a0_9) else (some false)) = some r := H
      have A22 := Aside0.mk A220
      clear A220
      by_cases c23 : t167 = true
      ·subst c23
       have H1 : (impl_ObsOk.j1 kj1 a0_0 a0_1 a0_2 a0_3 a0_4 a0_5 a0_6 a0_7 a0_8 a0_9) = some r := by rw [if_pos rfl] at H; exact H
       clear H
       have H := H1
       clear H1
       have H' := Aside0.mk H
       clear H
       have hcz24_0 : wc.cell? ⟨gb161, 0, none⟩ = some (.int .i64 a0_0) := (blk_cell BK161.out 0).trans rfl
       have hcz24_1 : wc.cell? ⟨gb161, 1, none⟩ = some (.float .f64 (un pa0_1 a0_1)) := (blk_cell BK161.out 1).trans rfl
       have hcz24_2 : wc.cell? ⟨gb161, 2, none⟩ = some (.float .f64 (un pa0_2 a0_2)) := (blk_cell BK161.out 2).trans rfl
       have hcz24_3 : wc.cell? ⟨gb161, 3, none⟩ = some (.float .f64 (un pa0_3 a0_3)) := (blk_cell BK161.out 3).trans rfl
       have hcz24_4 : wc.cell? ⟨gb161, 4, none⟩ = some (.int .i64 a0_4) := (blk_cell BK161.out 4).trans rfl
       have hcz24_5 : wc.cell? ⟨gb161, 5, none⟩ = some (.float .f64 (un pa0_5 a0_5)) := (blk_cell BK161.out 5).trans rfl
       have hcz24_6 : wc.cell? ⟨gb161, 6, none⟩ = some (.float .f64 (un pa0_6 a0_6)) := (blk_cell BK161.out 6).trans rfl
       have hcz24_7 : wc.cell? ⟨gb161, 7, none⟩ = some (.float .f64 (un pa0_7 a0_7)) := (blk_cell BK161.out 7).trans rfl
       have hcz24_8 : wc.cell? ⟨gb161, 8, none⟩ = some (.int .i64 a0_8) := (blk_cell BK161.out 8).trans rfl
       have hcz24_9 : wc.cell? ⟨gb161, 9, none⟩ = some (.int .i64 a0_9) := (blk_cell BK161.out 9).trans rfl
       have hfz24_0 := blk_frozen BK161.out 0
       have hfz24_1 := blk_frozen BK161.out 1
       have hfz24_2 := blk_frozen BK161.out 2
       have hfz24_3 := blk_frozen BK161.out 3
       have hfz24_4 := blk_frozen BK161.out 4
       have hfz24_5 := blk_frozen BK161.out 5
       have hfz24_6 := blk_frozen BK161.out 6
       have hfz24_7 := blk_frozen BK161.out 7
       have hfz24_8 := blk_frozen BK161.out 8
       have hfz24_9 := blk_frozen BK161.out 9
       go_wp2_with (first | ((with_reducible refine gate_callee (f := 44) rfl ?_); refine goesL_ (some 45) rfl rfl Try.func44 (by kernel_rfl) rfl #[.float .f64 (un pa0_5 a0_5)] rfl (by (try simp only [List.map_toArray, List.map_cons, List.map_nil]); first | done | rfl | (simp only [List.length_drop, List.length_take]; rfl)) ?_; (with_reducible refine (impl_missing.calls pa0_5 a0_5 true _ A22.out).mono ?_); rintro e w' ⟨rfl, ⟨nd, rfl⟩⟩; refine ⟨_, rfl, ?_⟩))
       go_meet
       case rel => exact ⟨_, H', ⟨by have := HJ1.out; first | omega | exact Nat.le_refl _⟩, ⟨by (with_reducible repeat (first | refine blk_drewN ?_ _ | refine blk_drew ?_ | refine blk_alloc ?_ _)); exact BK161.out⟩, ⟨by repeat (first | (with_reducible first | exact HB.out | apply below_alloc | apply pw_below_drewN | apply below_drew1 | refine below_set ?_ GE161.out) | exact HB.out)⟩⟩
      ·replace c23 := Bool.eq_false_iff.mpr c23
       subst c23
       have H1 : (some false) = some r := by rw [if_neg (show ¬ (false = true) by decide)] at H; exact H
       clear H
       have H := H1
       clear H1
       obtain rfl := Option.some.inj H
       have hcz25_0 : wc.cell? ⟨gb161, 0, none⟩ = some (.int .i64 a0_0) := (blk_cell BK161.out 0).trans rfl
       have hcz25_1 : wc.cell? ⟨gb161, 1, none⟩ = some (.float .f64 (un pa0_1 a0_1)) := (blk_cell BK161.out 1).trans rfl
       have hcz25_2 : wc.cell? ⟨gb161, 2, none⟩ = some (.float .f64 (un pa0_2 a0_2)) := (blk_cell BK161.out 2).trans rfl
       have hcz25_3 : wc.cell? ⟨gb161, 3, none⟩ = some (.float .f64 (un pa0_3 a0_3)) := (blk_cell BK161.out 3).trans rfl
       have hcz25_4 : wc.cell? ⟨gb161, 4, none⟩ = some (.int .i64 a0_4) := (blk_cell BK161.out 4).trans rfl
       have hcz25_5 : wc.cell? ⟨gb161, 5, none⟩ = some (.float .f64 (un pa0_5 a0_5)) := (blk_cell BK161.out 5).trans rfl
       have hcz25_6 : wc.cell? ⟨gb161, 6, none⟩ = some (.float .f64 (un pa0_6 a0_6)) := (blk_cell BK161.out 6).trans rfl
       have hcz25_7 : wc.cell? ⟨gb161, 7, none⟩ = some (.float .f64 (un pa0_7 a0_7)) := (blk_cell BK161.out 7).trans rfl
       have hcz25_8 : wc.cell? ⟨gb161, 8, none⟩ = some (.int .i64 a0_8) := (blk_cell BK161.out 8).trans rfl
       have hcz25_9 : wc.cell? ⟨gb161, 9, none⟩ = some (.int .i64 a0_9) := (blk_cell BK161.out 9).trans rfl
       have hfz25_0 := blk_frozen BK161.out 0
       have hfz25_1 := blk_frozen BK161.out 1
       have hfz25_2 := blk_frozen BK161.out 2
       have hfz25_3 := blk_frozen BK161.out 3
       have hfz25_4 := blk_frozen BK161.out 4
       have hfz25_5 := blk_frozen BK161.out 5
       have hfz25_6 := blk_frozen BK161.out 6
       have hfz25_7 := blk_frozen BK161.out 7
       have hfz25_8 := blk_frozen BK161.out 8
       have hfz25_9 := blk_frozen BK161.out 9
       go_wp2_with (first | ((with_reducible refine gate_callee (f := 44) rfl ?_); refine goesL_ (some 45) rfl rfl Try.func44 (by kernel_rfl) rfl #[.float .f64 (un pa0_5 a0_5)] rfl (by (try simp only [List.map_toArray, List.map_cons, List.map_nil]); first | done | rfl | (simp only [List.length_drop, List.length_take]; rfl)) ?_; (with_reducible refine (impl_missing.calls pa0_5 a0_5 false _ A22.out).mono ?_); rintro e w' ⟨rfl, ⟨nd, rfl⟩⟩; refine ⟨_, rfl, ?_⟩))
       go_ret
       exact ⟨by first | rfl | (simp [errW_none, errW_some] <;> rfl) | (simp [*, errW_none, errW_some] <;> rfl), by repeat (first | (with_reducible first | exact HB.out | apply below_alloc | apply pw_below_drewN | apply below_drew1 | refine below_set ?_ GE161.out) | exact HB.out)⟩
     ·rw [if_neg c21] at H
      have c21b0 : (a0_4 == (-1)) = false := beq_eq_false_iff_ne.mpr c21
      have c21b1 : (a0_4 != (-1)) = true := bne_iff_ne.mpr c21
      (first | rw [c21b0] | (simp only [i64_w, i32_w]; rw [c21b0]) | skip)
      replace H := Option.bind_eq_some_iff.mp H
      obtain ⟨⟨t168, t169⟩, A260, H⟩ := H
      replace H : (if t169 = true then ((impl_in.f a0_4 0 36).bind fun t170 => (if t170 = true then (if ((t168 == 0) != (a0_4 == 0)) = true then (some false) else (impl_ObsOk.j1 kj1 a0_0 a0_1 a0_2 a0_3 a0_4 a0_5 a0_6 a0_7 a0_8 a0_9)) else (some false))) else (some false)) = some r := H
      have A26 := Aside0.mk A260
      clear A260
      by_cases c27 : t169 = true
      ·subst c27
       have H1 : ((impl_in.f a0_4 0 36).bind fun t170 => (if t170 = true then (if ((t168 == 0) != (a0_4 == 0)) = true then (some false) else (impl_ObsOk.j1 kj1 a0_0 a0_1 a0_2 a0_3 a0_4 a0_5 a0_6 a0_7 a0_8 a0_9)) else (some false))) = some r := by rw [if_pos rfl] at H; exact H
       clear H
       have H := H1
       clear H1
       replace H := Option.bind_eq_some_iff.mp H
       obtain ⟨t170, A280, H⟩ := H
       replace H : (if t170 = true then (if ((t168 == 0) != (a0_4 == 0)) = true then (some false) else (impl_ObsOk.j1 kj1 a0_0 a0_1 a0_2 a0_3 a0_4 a0_5 a0_6 a0_7 a0_8 a0_9)) else (some false)) = some r := H
       have A28 := Aside0.mk A280
       clear A280
       by_cases c29 : t170 = true
       ·subst c29
        have H1 : (if ((t168 == 0) != (a0_4 == 0)) = true then (some false) else (impl_ObsOk.j1 kj1 a0_0 a0_1 a0_2 a0_3 a0_4 a0_5 a0_6 a0_7 a0_8 a0_9)) = some r := by rw [if_pos rfl] at H; exact H
        clear H
        have H := H1
        clear H1
        by_cases c30 : ((t168 == 0) != (a0_4 == 0)) = true
        ·rw [if_pos c30] at H
         have c30b0 : ((t168 == 0) != (a0_4 == 0)) = true := c30
         (try (have c30b1 : decide ((t168 == 0) = (a0_4 == 0)) = false := by simpa using c30))
         (try (have c30b2 : ((t168 == 0) == (a0_4 == 0)) = false := by simpa using c30))
         (try (have c30b3 : ¬ ((t168 == 0) = (a0_4 == 0)) := by simpa using c30))
         clear c30
         obtain rfl := Option.some.inj H
         have hcz31_0 : wc.cell? ⟨gb161, 0, none⟩ = some (.int .i64 a0_0) := (blk_cell BK161.out 0).trans rfl
         have hcz31_1 : wc.cell? ⟨gb161, 1, none⟩ = some (.float .f64 (un pa0_1 a0_1)) := (blk_cell BK161.out 1).trans rfl
         have hcz31_2 : wc.cell? ⟨gb161, 2, none⟩ = some (.float .f64 (un pa0_2 a0_2)) := (blk_cell BK161.out 2).trans rfl
         have hcz31_3 : wc.cell? ⟨gb161, 3, none⟩ = some (.float .f64 (un pa0_3 a0_3)) := (blk_cell BK161.out 3).trans rfl
         have hcz31_4 : wc.cell? ⟨gb161, 4, none⟩ = some (.int .i64 a0_4) := (blk_cell BK161.out 4).trans rfl
         have hcz31_5 : wc.cell? ⟨gb161, 5, none⟩ = some (.float .f64 (un pa0_5 a0_5)) := (blk_cell BK161.out 5).trans rfl
         have hcz31_6 : wc.cell? ⟨gb161, 6, none⟩ = some (.float .f64 (un pa0_6 a0_6)) := (blk_cell BK161.out 6).trans rfl
         have hcz31_7 : wc.cell? ⟨gb161, 7, none⟩ = some (.float .f64 (un pa0_7 a0_7)) := (blk_cell BK161.out 7).trans rfl
         have hcz31_8 : wc.cell? ⟨gb161, 8, none⟩ = some (.int .i64 a0_8) := (blk_cell BK161.out 8).trans rfl
         have hcz31_9 : wc.cell? ⟨gb161, 9, none⟩ = some (.int .i64 a0_9) := (blk_cell BK161.out 9).trans rfl
         have hfz31_0 := blk_frozen BK161.out 0
         have hfz31_1 := blk_frozen BK161.out 1
         have hfz31_2 := blk_frozen BK161.out 2
         have hfz31_3 := blk_frozen BK161.out 3
         have hfz31_4 := blk_frozen BK161.out 4
         have hfz31_5 := blk_frozen BK161.out 5
         have hfz31_6 := blk_frozen BK161.out 6
         have hfz31_7 := blk_frozen BK161.out 7
         have hfz31_8 := blk_frozen BK161.out 8
         have hfz31_9 := blk_frozen BK161.out 9
         go_wp2_with (first | ((with_reducible refine gate_callee (f := 68) rfl ?_); refine goesL_ (some 50) rfl rfl Try.func68 (by kernel_rfl) rfl #[.float .f64 (un pa0_5 a0_5), .int .i64 0, .int .i64 99] rfl (by (try simp only [List.map_toArray, List.map_cons, List.map_nil]); first | done | rfl | (simp only [List.length_drop, List.length_take]; rfl)) ?_; (with_reducible refine (impl_wholeOf.calls kj1 pa0_5 a0_5 0 99 t168 true _ A26.out).mono ?_); rintro e w' ⟨rfl, ⟨nd, rfl⟩⟩; refine ⟨_, rfl, ?_⟩) | (go_at_call 46; (with_reducible refine (impl_in.calls a0_4 0 36 true _ A28.out).mono ?_); rintro e w' ⟨rfl, ⟨nd, rfl⟩⟩))
         go_ret
         exact ⟨by first | rfl | (simp [errW_none, errW_some] <;> rfl) | (simp [*, errW_none, errW_some] <;> rfl), by repeat (first | (with_reducible first | exact HB.out | apply below_alloc | apply pw_below_drewN | apply below_drew1 | refine below_set ?_ GE161.out) | exact HB.out)⟩
        ·rw [if_neg c30] at H
         have c30b0 : ((t168 == 0) != (a0_4 == 0)) = false := by simpa using c30
         (try (have c30b1 : decide ((t168 == 0) = (a0_4 == 0)) = true := by simpa using c30))
         (try (have c30b2 : ((t168 == 0) == (a0_4 == 0)) = true := by simpa using c30))
         clear c30
         have H' := Aside0.mk H
         clear H
         have hcz32_0 : wc.cell? ⟨gb161, 0, none⟩ = some (.int .i64 a0_0) := (blk_cell BK161.out 0).trans rfl
         have hcz32_1 : wc.cell? ⟨gb161, 1, none⟩ = some (.float .f64 (un pa0_1 a0_1)) := (blk_cell BK161.out 1).trans rfl
         have hcz32_2 : wc.cell? ⟨gb161, 2, none⟩ = some (.float .f64 (un pa0_2 a0_2)) := (blk_cell BK161.out 2).trans rfl
         have hcz32_3 : wc.cell? ⟨gb161, 3, none⟩ = some (.float .f64 (un pa0_3 a0_3)) := (blk_cell BK161.out 3).trans rfl
         have hcz32_4 : wc.cell? ⟨gb161, 4, none⟩ = some (.int .i64 a0_4) := (blk_cell BK161.out 4).trans rfl
         have hcz32_5 : wc.cell? ⟨gb161, 5, none⟩ = some (.float .f64 (un pa0_5 a0_5)) := (blk_cell BK161.out 5).trans rfl
         have hcz32_6 : wc.cell? ⟨gb161, 6, none⟩ = some (.float .f64 (un pa0_6 a0_6)) := (blk_cell BK161.out 6).trans rfl
         have hcz32_7 : wc.cell? ⟨gb161, 7, none⟩ = some (.float .f64 (un pa0_7 a0_7)) := (blk_cell BK161.out 7).trans rfl
         have hcz32_8 : wc.cell? ⟨gb161, 8, none⟩ = some (.int .i64 a0_8) := (blk_cell BK161.out 8).trans rfl
         have hcz32_9 : wc.cell? ⟨gb161, 9, none⟩ = some (.int .i64 a0_9) := (blk_cell BK161.out 9).trans rfl
         have hfz32_0 := blk_frozen BK161.out 0
         have hfz32_1 := blk_frozen BK161.out 1
         have hfz32_2 := blk_frozen BK161.out 2
         have hfz32_3 := blk_frozen BK161.out 3
         have hfz32_4 := blk_frozen BK161.out 4
         have hfz32_5 := blk_frozen BK161.out 5
         have hfz32_6 := blk_frozen BK161.out 6
         have hfz32_7 := blk_frozen BK161.out 7
         have hfz32_8 := blk_frozen BK161.out 8
         have hfz32_9 := blk_frozen BK161.out 9
         go_wp2_with (first | ((with_reducible refine gate_callee (f := 68) rfl ?_); refine goesL_ (some 50) rfl rfl Try.func68 (by kernel_rfl) rfl #[.float .f64 (un pa0_5 a0_5), .int .i64 0, .int .i64 99] rfl (by (try simp only [List.map_toArray, List.map_cons, List.map_nil]); first | done | rfl | (simp only [List.length_drop, List.length_take]; rfl)) ?_; (with_reducible refine (impl_wholeOf.calls kj1 pa0_5 a0_5 0 99 t168 true _ A26.out).mono ?_); rintro e w' ⟨rfl, ⟨nd, rfl⟩⟩; refine ⟨_, rfl, ?_⟩) | (go_at_call 46; (with_reducible refine (impl_in.calls a0_4 0 36 true _ A28.out).mono ?_); rintro e w' ⟨rfl, ⟨nd, rfl⟩⟩))
         go_meet
         case rel => exact ⟨_, H', ⟨by have := HJ1.out; first | omega | exact Nat.le_refl _⟩, ⟨by (with_reducible repeat (first | refine blk_drewN ?_ _ | refine blk_drew ?_ | refine blk_alloc ?_ _)); exact BK161.out⟩, ⟨by repeat (first | (with_reducible first | exact HB.out | apply below_alloc | apply pw_below_drewN | apply below_drew1 | refine below_set ?_ GE161.out) | exact HB.out)⟩⟩
       ·replace c29 := Bool.eq_false_iff.mpr c29
        subst c29
        have H1 : (some false) = some r := by rw [if_neg (show ¬ (false = true) by decide)] at H; exact H
        clear H
        have H := H1
        clear H1
        obtain rfl := Option.some.inj H
        have hcz33_0 : wc.cell? ⟨gb161, 0, none⟩ = some (.int .i64 a0_0) := (blk_cell BK161.out 0).trans rfl
        have hcz33_1 : wc.cell? ⟨gb161, 1, none⟩ = some (.float .f64 (un pa0_1 a0_1)) := (blk_cell BK161.out 1).trans rfl
        have hcz33_2 : wc.cell? ⟨gb161, 2, none⟩ = some (.float .f64 (un pa0_2 a0_2)) := (blk_cell BK161.out 2).trans rfl
        have hcz33_3 : wc.cell? ⟨gb161, 3, none⟩ = some (.float .f64 (un pa0_3 a0_3)) := (blk_cell BK161.out 3).trans rfl
        have hcz33_4 : wc.cell? ⟨gb161, 4, none⟩ = some (.int .i64 a0_4) := (blk_cell BK161.out 4).trans rfl
        have hcz33_5 : wc.cell? ⟨gb161, 5, none⟩ = some (.float .f64 (un pa0_5 a0_5)) := (blk_cell BK161.out 5).trans rfl
        have hcz33_6 : wc.cell? ⟨gb161, 6, none⟩ = some (.float .f64 (un pa0_6 a0_6)) := (blk_cell BK161.out 6).trans rfl
        have hcz33_7 : wc.cell? ⟨gb161, 7, none⟩ = some (.float .f64 (un pa0_7 a0_7)) := (blk_cell BK161.out 7).trans rfl
        have hcz33_8 : wc.cell? ⟨gb161, 8, none⟩ = some (.int .i64 a0_8) := (blk_cell BK161.out 8).trans rfl
        have hcz33_9 : wc.cell? ⟨gb161, 9, none⟩ = some (.int .i64 a0_9) := (blk_cell BK161.out 9).trans rfl
        have hfz33_0 := blk_frozen BK161.out 0
        have hfz33_1 := blk_frozen BK161.out 1
        have hfz33_2 := blk_frozen BK161.out 2
        have hfz33_3 := blk_frozen BK161.out 3
        have hfz33_4 := blk_frozen BK161.out 4
        have hfz33_5 := blk_frozen BK161.out 5
        have hfz33_6 := blk_frozen BK161.out 6
        have hfz33_7 := blk_frozen BK161.out 7
        have hfz33_8 := blk_frozen BK161.out 8
        have hfz33_9 := blk_frozen BK161.out 9
        go_wp2_with (first | ((with_reducible refine gate_callee (f := 68) rfl ?_); refine goesL_ (some 50) rfl rfl Try.func68 (by kernel_rfl) rfl #[.float .f64 (un pa0_5 a0_5), .int .i64 0, .int .i64 99] rfl (by (try simp only [List.map_toArray, List.map_cons, List.map_nil]); first | done | rfl | (simp only [List.length_drop, List.length_take]; rfl)) ?_; (with_reducible refine (impl_wholeOf.calls kj1 pa0_5 a0_5 0 99 t168 true _ A26.out).mono ?_); rintro e w' ⟨rfl, ⟨nd, rfl⟩⟩; refine ⟨_, rfl, ?_⟩) | (go_at_call 46; (with_reducible refine (impl_in.calls a0_4 0 36 false _ A28.out).mono ?_); rintro e w' ⟨rfl, ⟨nd, rfl⟩⟩))
        go_ret
        exact ⟨by first | rfl | (simp [errW_none, errW_some] <;> rfl) | (simp [*, errW_none, errW_some] <;> rfl), by repeat (first | (with_reducible first | exact HB.out | apply below_alloc | apply pw_below_drewN | apply below_drew1 | refine below_set ?_ GE161.out) | exact HB.out)⟩
      ·replace c27 := Bool.eq_false_iff.mpr c27
       subst c27
       have H1 : (some false) = some r := by rw [if_neg (show ¬ (false = true) by decide)] at H; exact H
       clear H
       have H := H1
       clear H1
       obtain rfl := Option.some.inj H
       have hcz34_0 : wc.cell? ⟨gb161, 0, none⟩ = some (.int .i64 a0_0) := (blk_cell BK161.out 0).trans rfl
       have hcz34_1 : wc.cell? ⟨gb161, 1, none⟩ = some (.float .f64 (un pa0_1 a0_1)) := (blk_cell BK161.out 1).trans rfl
       have hcz34_2 : wc.cell? ⟨gb161, 2, none⟩ = some (.float .f64 (un pa0_2 a0_2)) := (blk_cell BK161.out 2).trans rfl
       have hcz34_3 : wc.cell? ⟨gb161, 3, none⟩ = some (.float .f64 (un pa0_3 a0_3)) := (blk_cell BK161.out 3).trans rfl
       have hcz34_4 : wc.cell? ⟨gb161, 4, none⟩ = some (.int .i64 a0_4) := (blk_cell BK161.out 4).trans rfl
       have hcz34_5 : wc.cell? ⟨gb161, 5, none⟩ = some (.float .f64 (un pa0_5 a0_5)) := (blk_cell BK161.out 5).trans rfl
       have hcz34_6 : wc.cell? ⟨gb161, 6, none⟩ = some (.float .f64 (un pa0_6 a0_6)) := (blk_cell BK161.out 6).trans rfl
       have hcz34_7 : wc.cell? ⟨gb161, 7, none⟩ = some (.float .f64 (un pa0_7 a0_7)) := (blk_cell BK161.out 7).trans rfl
       have hcz34_8 : wc.cell? ⟨gb161, 8, none⟩ = some (.int .i64 a0_8) := (blk_cell BK161.out 8).trans rfl
       have hcz34_9 : wc.cell? ⟨gb161, 9, none⟩ = some (.int .i64 a0_9) := (blk_cell BK161.out 9).trans rfl
       have hfz34_0 := blk_frozen BK161.out 0
       have hfz34_1 := blk_frozen BK161.out 1
       have hfz34_2 := blk_frozen BK161.out 2
       have hfz34_3 := blk_frozen BK161.out 3
       have hfz34_4 := blk_frozen BK161.out 4
       have hfz34_5 := blk_frozen BK161.out 5
       have hfz34_6 := blk_frozen BK161.out 6
       have hfz34_7 := blk_frozen BK161.out 7
       have hfz34_8 := blk_frozen BK161.out 8
       have hfz34_9 := blk_frozen BK161.out 9
       go_wp2_with (first | ((with_reducible refine gate_callee (f := 68) rfl ?_); refine goesL_ (some 50) rfl rfl Try.func68 (by kernel_rfl) rfl #[.float .f64 (un pa0_5 a0_5), .int .i64 0, .int .i64 99] rfl (by (try simp only [List.map_toArray, List.map_cons, List.map_nil]); first | done | rfl | (simp only [List.length_drop, List.length_take]; rfl)) ?_; (with_reducible refine (impl_wholeOf.calls kj1 pa0_5 a0_5 0 99 t168 false _ A26.out).mono ?_); rintro e w' ⟨rfl, ⟨nd, rfl⟩⟩; refine ⟨_, rfl, ?_⟩))
       go_ret
       exact ⟨by first | rfl | (simp [errW_none, errW_some] <;> rfl) | (simp [*, errW_none, errW_some] <;> rfl), by repeat (first | (with_reducible first | exact HB.out | apply below_alloc | apply pw_below_drewN | apply below_drew1 | refine below_set ?_ GE161.out) | exact HB.out)⟩
    case rest =>
     clear HC19
     try clear c1
     try clear c2
     try clear p2
     try clear c3
     try clear c4
     try clear c5
     try clear c6
     try clear c7
     try clear c9
     try clear c11
     try clear c18
     try clear c21
     try clear c21b0
     try clear c21b1
     try clear c23
     try clear c27
     try clear c29
     try clear c30
     try clear c30b0
     try clear c30b1
     try clear c30b2
     try clear hcz13_0
     try clear hcz13_1
     try clear hcz13_2
     try clear hcz13_3
     try clear hcz13_4
     try clear hcz13_5
     try clear hcz13_6
     try clear hcz13_7
     try clear hcz13_8
     try clear hcz13_9
     try clear hcz14_0
     try clear hcz14_1
     try clear hcz14_2
     try clear hcz14_3
     try clear hcz14_4
     try clear hcz14_5
     try clear hcz14_6
     try clear hcz14_7
     try clear hcz14_8
     try clear hcz14_9
     try clear hcz15_0
     try clear hcz15_1
     try clear hcz15_2
     try clear hcz15_3
     try clear hcz15_4
     try clear hcz15_5
     try clear hcz15_6
     try clear hcz15_7
     try clear hcz15_8
     try clear hcz15_9
     try clear hcz16_0
     try clear hcz16_1
     try clear hcz16_2
     try clear hcz16_3
     try clear hcz16_4
     try clear hcz16_5
     try clear hcz16_6
     try clear hcz16_7
     try clear hcz16_8
     try clear hcz16_9
     try clear hcz17_0
     try clear hcz17_1
     try clear hcz17_2
     try clear hcz17_3
     try clear hcz17_4
     try clear hcz17_5
     try clear hcz17_6
     try clear hcz17_7
     try clear hcz17_8
     try clear hcz17_9
     try clear hcz20_0
     try clear hcz20_1
     try clear hcz20_2
     try clear hcz20_3
     try clear hcz20_4
     try clear hcz20_5
     try clear hcz20_6
     try clear hcz20_7
     try clear hcz20_8
     try clear hcz20_9
     try clear hcz24_0
     try clear hcz24_1
     try clear hcz24_2
     try clear hcz24_3
     try clear hcz24_4
     try clear hcz24_5
     try clear hcz24_6
     try clear hcz24_7
     try clear hcz24_8
     try clear hcz24_9
     try clear hcz25_0
     try clear hcz25_1
     try clear hcz25_2
     try clear hcz25_3
     try clear hcz25_4
     try clear hcz25_5
     try clear hcz25_6
     try clear hcz25_7
     try clear hcz25_8
     try clear hcz25_9
     try clear hcz31_0
     try clear hcz31_1
     try clear hcz31_2
     try clear hcz31_3
     try clear hcz31_4
     try clear hcz31_5
     try clear hcz31_6
     try clear hcz31_7
     try clear hcz31_8
     try clear hcz31_9
     try clear hcz32_0
     try clear hcz32_1
     try clear hcz32_2
     try clear hcz32_3
     try clear hcz32_4
     try clear hcz32_5
     try clear hcz32_6
     try clear hcz32_7
     try clear hcz32_8
     try clear hcz32_9
     try clear hcz33_0
     try clear hcz33_1
     try clear hcz33_2
     try clear hcz33_3
     try clear hcz33_4
     try clear hcz33_5
     try clear hcz33_6
     try clear hcz33_7
     try clear hcz33_8
     try clear hcz33_9
     try clear hcz34_0
     try clear hcz34_1
     try clear hcz34_2
     try clear hcz34_3
     try clear hcz34_4
     try clear hcz34_5
     try clear hcz34_6
     try clear hcz34_7
     try clear hcz34_8
     try clear hcz34_9
     try clear hfz13_0
     try clear hfz13_1
     try clear hfz13_2
     try clear hfz13_3
     try clear hfz13_4
     try clear hfz13_5
     try clear hfz13_6
     try clear hfz13_7
     try clear hfz13_8
     try clear hfz13_9
     try clear hfz14_0
     try clear hfz14_1
     try clear hfz14_2
     try clear hfz14_3
     try clear hfz14_4
     try clear hfz14_5
     try clear hfz14_6
     try clear hfz14_7
     try clear hfz14_8
     try clear hfz14_9
     try clear hfz15_0
     try clear hfz15_1
     try clear hfz15_2
     try clear hfz15_3
     try clear hfz15_4
     try clear hfz15_5
     try clear hfz15_6
     try clear hfz15_7
     try clear hfz15_8
     try clear hfz15_9
     try clear hfz16_0
     try clear hfz16_1
     try clear hfz16_2
     try clear hfz16_3
     try clear hfz16_4
     try clear hfz16_5
     try clear hfz16_6
     try clear hfz16_7
     try clear hfz16_8
     try clear hfz16_9
     try clear hfz17_0
     try clear hfz17_1
     try clear hfz17_2
     try clear hfz17_3
     try clear hfz17_4
     try clear hfz17_5
     try clear hfz17_6
     try clear hfz17_7
     try clear hfz17_8
     try clear hfz17_9
     try clear hfz20_0
     try clear hfz20_1
     try clear hfz20_2
     try clear hfz20_3
     try clear hfz20_4
     try clear hfz20_5
     try clear hfz20_6
     try clear hfz20_7
     try clear hfz20_8
     try clear hfz20_9
     try clear hfz24_0
     try clear hfz24_1
     try clear hfz24_2
     try clear hfz24_3
     try clear hfz24_4
     try clear hfz24_5
     try clear hfz24_6
     try clear hfz24_7
     try clear hfz24_8
     try clear hfz24_9
     try clear hfz25_0
     try clear hfz25_1
     try clear hfz25_2
     try clear hfz25_3
     try clear hfz25_4
     try clear hfz25_5
     try clear hfz25_6
     try clear hfz25_7
     try clear hfz25_8
     try clear hfz25_9
     try clear hfz31_0
     try clear hfz31_1
     try clear hfz31_2
     try clear hfz31_3
     try clear hfz31_4
     try clear hfz31_5
     try clear hfz31_6
     try clear hfz31_7
     try clear hfz31_8
     try clear hfz31_9
     try clear hfz32_0
     try clear hfz32_1
     try clear hfz32_2
     try clear hfz32_3
     try clear hfz32_4
     try clear hfz32_5
     try clear hfz32_6
     try clear hfz32_7
     try clear hfz32_8
     try clear hfz32_9
     try clear hfz33_0
     try clear hfz33_1
     try clear hfz33_2
     try clear hfz33_3
     try clear hfz33_4
     try clear hfz33_5
     try clear hfz33_6
     try clear hfz33_7
     try clear hfz33_8
     try clear hfz33_9
     try clear hfz34_0
     try clear hfz34_1
     try clear hfz34_2
     try clear hfz34_3
     try clear hfz34_4
     try clear hfz34_5
     try clear hfz34_6
     try clear hfz34_7
     try clear hfz34_8
     try clear hfz34_9
     try clear p2
     obtain ⟨kq, HA, HJ18, BK161, HB⟩ := hcut
     cases kq with
     | zero => exact absurd HA.out (by simp [impl_ObsOk.j1])
     | succ kj18 =>
      have H := HA.out
      clear HA
      simp only [impl_ObsOk.j1] at H
      replace H := Option.bind_eq_some_iff.mp H
      obtain ⟨⟨t171, t172⟩, A350, H⟩ := H
      replace H : ((impl_missing.f a0_6).bind fun t173 => (if t173 = true then (impl_ObsOk.j2 kj18 false a0_0 a0_1 a0_2 a0_3 a0_4 a0_5 a0_6 a0_7 a0_8 a0_9) else (if t172 = true then (impl_ObsOk.j2 kj18 ((Int.tmod t171 10) != 0) a0_0 a0_1 a0_2 a0_3 a0_4 a0_5 a0_6 a0_7 a0_8 a0_9) else (impl_ObsOk.j2 kj18 true a0_0 a0_1 a0_2 a0_3 a0_4 a0_5 a0_6 a0_7 a0_8 a0_9)))) = some r := H
      have A35 := Aside0.mk A350
      clear A350
      have HC36 := Aside0.mk H
      clear H
      have hcz37_0 : wc.cell? ⟨gb161, 0, none⟩ = some (.int .i64 a0_0) := (blk_cell BK161.out 0).trans rfl
      have hcz37_1 : wc.cell? ⟨gb161, 1, none⟩ = some (.float .f64 (un pa0_1 a0_1)) := (blk_cell BK161.out 1).trans rfl
      have hcz37_2 : wc.cell? ⟨gb161, 2, none⟩ = some (.float .f64 (un pa0_2 a0_2)) := (blk_cell BK161.out 2).trans rfl
      have hcz37_3 : wc.cell? ⟨gb161, 3, none⟩ = some (.float .f64 (un pa0_3 a0_3)) := (blk_cell BK161.out 3).trans rfl
      have hcz37_4 : wc.cell? ⟨gb161, 4, none⟩ = some (.int .i64 a0_4) := (blk_cell BK161.out 4).trans rfl
      have hcz37_5 : wc.cell? ⟨gb161, 5, none⟩ = some (.float .f64 (un pa0_5 a0_5)) := (blk_cell BK161.out 5).trans rfl
      have hcz37_6 : wc.cell? ⟨gb161, 6, none⟩ = some (.float .f64 (un pa0_6 a0_6)) := (blk_cell BK161.out 6).trans rfl
      have hcz37_7 : wc.cell? ⟨gb161, 7, none⟩ = some (.float .f64 (un pa0_7 a0_7)) := (blk_cell BK161.out 7).trans rfl
      have hcz37_8 : wc.cell? ⟨gb161, 8, none⟩ = some (.int .i64 a0_8) := (blk_cell BK161.out 8).trans rfl
      have hcz37_9 : wc.cell? ⟨gb161, 9, none⟩ = some (.int .i64 a0_9) := (blk_cell BK161.out 9).trans rfl
      have hfz37_0 := blk_frozen BK161.out 0
      have hfz37_1 := blk_frozen BK161.out 1
      have hfz37_2 := blk_frozen BK161.out 2
      have hfz37_3 := blk_frozen BK161.out 3
      have hfz37_4 := blk_frozen BK161.out 4
      have hfz37_5 := blk_frozen BK161.out 5
      have hfz37_6 := blk_frozen BK161.out 6
      have hfz37_7 := blk_frozen BK161.out 7
      have hfz37_8 := blk_frozen BK161.out 8
      have hfz37_9 := blk_frozen BK161.out 9
      go_upto_region 11 with (first | ((with_reducible refine gate_callee (f := 68) rfl ?_); refine goesL_ (some 72) rfl rfl Try.func68 (by kernel_rfl) rfl #[.float .f64 (un pa0_6 a0_6), .int .i64 0, .int .i64 99990] rfl (by (try simp only [List.map_toArray, List.map_cons, List.map_nil]); first | done | rfl | (simp only [List.length_drop, List.length_take]; rfl)) ?_; (with_reducible refine (impl_wholeOf.calls kj18 pa0_6 a0_6 0 99990 t171 t172 _ A35.out).mono ?_); rintro e w' ⟨rfl, ⟨nd, rfl⟩⟩; refine ⟨_, rfl, ?_⟩))
      (try simp only [Act.put, sqA, sqZ, sqS])
      go_cut [87] (fun v87 wc => ∃ (kq : Nat) (x87_35 : Bool), v87 = .bool x87_35 ∧ Aside0 (impl_ObsOk.j2 kq x87_35 a0_0 a0_1 a0_2 a0_3 a0_4 a0_5 a0_6 a0_7 a0_8 a0_9 = some r) ∧ Aside0 (kq ≤ kj18) ∧ Aside0 (wc.heap[gb161]? = some (.cells #[.int .i64 a0_0, .float .f64 (un pa0_1 a0_1), .float .f64 (un pa0_2 a0_2), .float .f64 (un pa0_3 a0_3), .int .i64 a0_4, .float .f64 (un pa0_5 a0_5), .float .f64 (un pa0_6 a0_6), .float .f64 (un pa0_7 a0_7), .int .i64 a0_8, .int .i64 a0_9] 60 (0, 0))) ∧ Aside0 (Below w.heap.size w wc))
      case first =>
       have H := HC36.out
       clear HC36
       replace H := Option.bind_eq_some_iff.mp H
       obtain ⟨t173, A380, H⟩ := H
       replace H : (if t173 = true then (impl_ObsOk.j2 kj18 false a0_0 a0_1 a0_2 a0_3 a0_4 a0_5 a0_6 a0_7 a0_8 a0_9) else (if t172 = true then (impl_ObsOk.j2 kj18 ((Int.tmod t171 10) != 0) a0_0 a0_1 a0_2 a0_3 a0_4 a0_5 a0_6 a0_7 a0_8 a0_9) else (impl_ObsOk.j2 kj18 true a0_0 a0_1 a0_2 a0_3 a0_4 a0_5 a0_6 a0_7 a0_8 a0_9))) = some r := H
       have A38 := Aside0.mk A380
       clear A380
       by_cases c39 : t173 = true
       ·subst c39
        have H1 : (impl_ObsOk.j2 kj18 false a0_0 a0_1 a0_2 a0_3 a0_4 a0_5 a0_6 a0_7 a0_8 a0_9) = some r := by rw [if_pos rfl] at H; exact H
        clear H
        have H := H1
        clear H1
        have H' := Aside0.mk H
        clear H
        have hcz40_0 : wc.cell? ⟨gb161, 0, none⟩ = some (.int .i64 a0_0) := (blk_cell BK161.out 0).trans rfl
        have hcz40_1 : wc.cell? ⟨gb161, 1, none⟩ = some (.float .f64 (un pa0_1 a0_1)) := (blk_cell BK161.out 1).trans rfl
        have hcz40_2 : wc.cell? ⟨gb161, 2, none⟩ = some (.float .f64 (un pa0_2 a0_2)) := (blk_cell BK161.out 2).trans rfl
        have hcz40_3 : wc.cell? ⟨gb161, 3, none⟩ = some (.float .f64 (un pa0_3 a0_3)) := (blk_cell BK161.out 3).trans rfl
        have hcz40_4 : wc.cell? ⟨gb161, 4, none⟩ = some (.int .i64 a0_4) := (blk_cell BK161.out 4).trans rfl
        have hcz40_5 : wc.cell? ⟨gb161, 5, none⟩ = some (.float .f64 (un pa0_5 a0_5)) := (blk_cell BK161.out 5).trans rfl
        have hcz40_6 : wc.cell? ⟨gb161, 6, none⟩ = some (.float .f64 (un pa0_6 a0_6)) := (blk_cell BK161.out 6).trans rfl
        have hcz40_7 : wc.cell? ⟨gb161, 7, none⟩ = some (.float .f64 (un pa0_7 a0_7)) := (blk_cell BK161.out 7).trans rfl
        have hcz40_8 : wc.cell? ⟨gb161, 8, none⟩ = some (.int .i64 a0_8) := (blk_cell BK161.out 8).trans rfl
        have hcz40_9 : wc.cell? ⟨gb161, 9, none⟩ = some (.int .i64 a0_9) := (blk_cell BK161.out 9).trans rfl
        have hfz40_0 := blk_frozen BK161.out 0
        have hfz40_1 := blk_frozen BK161.out 1
        have hfz40_2 := blk_frozen BK161.out 2
        have hfz40_3 := blk_frozen BK161.out 3
        have hfz40_4 := blk_frozen BK161.out 4
        have hfz40_5 := blk_frozen BK161.out 5
        have hfz40_6 := blk_frozen BK161.out 6
        have hfz40_7 := blk_frozen BK161.out 7
        have hfz40_8 := blk_frozen BK161.out 8
        have hfz40_9 := blk_frozen BK161.out 9
        go_wp2_with (first | ((with_reducible refine gate_callee (f := 44) rfl ?_); refine goesL_ (some 77) rfl rfl Try.func44 (by kernel_rfl) rfl #[.float .f64 (un pa0_6 a0_6)] rfl (by (try simp only [List.map_toArray, List.map_cons, List.map_nil]); first | done | rfl | (simp only [List.length_drop, List.length_take]; rfl)) ?_; (with_reducible refine (impl_missing.calls pa0_6 a0_6 true _ A38.out).mono ?_); rintro e w' ⟨rfl, ⟨nd, rfl⟩⟩; refine ⟨_, rfl, ?_⟩))
        go_meet
        case rel => exact ⟨_, (false), (by first | rfl | (simp; done) | (simp [*]; done)), H', ⟨by have := HJ1.out; have := HJ18.out; first | omega | exact Nat.le_refl _⟩, ⟨by (with_reducible repeat (first | refine blk_drewN ?_ _ | refine blk_drew ?_ | refine blk_alloc ?_ _)); exact BK161.out⟩, ⟨by repeat (first | (with_reducible first | exact HB.out | apply below_alloc | apply pw_below_drewN | apply below_drew1 | refine below_set ?_ GE161.out) | exact HB.out)⟩⟩
       ·replace c39 := Bool.eq_false_iff.mpr c39
        subst c39
        have H1 : (if t172 = true then (impl_ObsOk.j2 kj18 ((Int.tmod t171 10) != 0) a0_0 a0_1 a0_2 a0_3 a0_4 a0_5 a0_6 a0_7 a0_8 a0_9) else (impl_ObsOk.j2 kj18 true a0_0 a0_1 a0_2 a0_3 a0_4 a0_5 a0_6 a0_7 a0_8 a0_9)) = some r := by rw [if_neg (show ¬ (false = true) by decide)] at H; exact H
        clear H
        have H := H1
        clear H1
        by_cases c41 : t172 = true
        ·subst c41
         have H1 : (impl_ObsOk.j2 kj18 ((Int.tmod t171 10) != 0) a0_0 a0_1 a0_2 a0_3 a0_4 a0_5 a0_6 a0_7 a0_8 a0_9) = some r := by rw [if_pos rfl] at H; exact H
         clear H
         have H := H1
         clear H1
         have H' := Aside0.mk H
         clear H
         have hcz42_0 : wc.cell? ⟨gb161, 0, none⟩ = some (.int .i64 a0_0) := (blk_cell BK161.out 0).trans rfl
         have hcz42_1 : wc.cell? ⟨gb161, 1, none⟩ = some (.float .f64 (un pa0_1 a0_1)) := (blk_cell BK161.out 1).trans rfl
         have hcz42_2 : wc.cell? ⟨gb161, 2, none⟩ = some (.float .f64 (un pa0_2 a0_2)) := (blk_cell BK161.out 2).trans rfl
         have hcz42_3 : wc.cell? ⟨gb161, 3, none⟩ = some (.float .f64 (un pa0_3 a0_3)) := (blk_cell BK161.out 3).trans rfl
         have hcz42_4 : wc.cell? ⟨gb161, 4, none⟩ = some (.int .i64 a0_4) := (blk_cell BK161.out 4).trans rfl
         have hcz42_5 : wc.cell? ⟨gb161, 5, none⟩ = some (.float .f64 (un pa0_5 a0_5)) := (blk_cell BK161.out 5).trans rfl
         have hcz42_6 : wc.cell? ⟨gb161, 6, none⟩ = some (.float .f64 (un pa0_6 a0_6)) := (blk_cell BK161.out 6).trans rfl
         have hcz42_7 : wc.cell? ⟨gb161, 7, none⟩ = some (.float .f64 (un pa0_7 a0_7)) := (blk_cell BK161.out 7).trans rfl
         have hcz42_8 : wc.cell? ⟨gb161, 8, none⟩ = some (.int .i64 a0_8) := (blk_cell BK161.out 8).trans rfl
         have hcz42_9 : wc.cell? ⟨gb161, 9, none⟩ = some (.int .i64 a0_9) := (blk_cell BK161.out 9).trans rfl
         have hfz42_0 := blk_frozen BK161.out 0
         have hfz42_1 := blk_frozen BK161.out 1
         have hfz42_2 := blk_frozen BK161.out 2
         have hfz42_3 := blk_frozen BK161.out 3
         have hfz42_4 := blk_frozen BK161.out 4
         have hfz42_5 := blk_frozen BK161.out 5
         have hfz42_6 := blk_frozen BK161.out 6
         have hfz42_7 := blk_frozen BK161.out 7
         have hfz42_8 := blk_frozen BK161.out 8
         have hfz42_9 := blk_frozen BK161.out 9
         go_wp2_with (first | ((with_reducible refine gate_callee (f := 44) rfl ?_); refine goesL_ (some 77) rfl rfl Try.func44 (by kernel_rfl) rfl #[.float .f64 (un pa0_6 a0_6)] rfl (by (try simp only [List.map_toArray, List.map_cons, List.map_nil]); first | done | rfl | (simp only [List.length_drop, List.length_take]; rfl)) ?_; (with_reducible refine (impl_missing.calls pa0_6 a0_6 false _ A38.out).mono ?_); rintro e w' ⟨rfl, ⟨nd, rfl⟩⟩; refine ⟨_, rfl, ?_⟩))
         go_meet
         case rel => exact ⟨_, (((Int.tmod t171 10) != 0)), (by first | rfl | (simp; done) | (simp [*]; done)), H', ⟨by have := HJ1.out; have := HJ18.out; first | omega | exact Nat.le_refl _⟩, ⟨by (with_reducible repeat (first | refine blk_drewN ?_ _ | refine blk_drew ?_ | refine blk_alloc ?_ _)); exact BK161.out⟩, ⟨by repeat (first | (with_reducible first | exact HB.out | apply below_alloc | apply pw_below_drewN | apply below_drew1 | refine below_set ?_ GE161.out) | exact HB.out)⟩⟩
        ·replace c41 := Bool.eq_false_iff.mpr c41
         subst c41
         have H1 : (impl_ObsOk.j2 kj18 true a0_0 a0_1 a0_2 a0_3 a0_4 a0_5 a0_6 a0_7 a0_8 a0_9) = some r := by rw [if_neg (show ¬ (false = true) by decide)] at H; exact H
         clear H
         have H := H1
         clear H1
         have H' := Aside0.mk H
         clear H
         have hcz43_0 : wc.cell? ⟨gb161, 0, none⟩ = some (.int .i64 a0_0) := (blk_cell BK161.out 0).trans rfl
         have hcz43_1 : wc.cell? ⟨gb161, 1, none⟩ = some (.float .f64 (un pa0_1 a0_1)) := (blk_cell BK161.out 1).trans rfl
         have hcz43_2 : wc.cell? ⟨gb161, 2, none⟩ = some (.float .f64 (un pa0_2 a0_2)) := (blk_cell BK161.out 2).trans rfl
         have hcz43_3 : wc.cell? ⟨gb161, 3, none⟩ = some (.float .f64 (un pa0_3 a0_3)) := (blk_cell BK161.out 3).trans rfl
         have hcz43_4 : wc.cell? ⟨gb161, 4, none⟩ = some (.int .i64 a0_4) := (blk_cell BK161.out 4).trans rfl
         have hcz43_5 : wc.cell? ⟨gb161, 5, none⟩ = some (.float .f64 (un pa0_5 a0_5)) := (blk_cell BK161.out 5).trans rfl
         have hcz43_6 : wc.cell? ⟨gb161, 6, none⟩ = some (.float .f64 (un pa0_6 a0_6)) := (blk_cell BK161.out 6).trans rfl
         have hcz43_7 : wc.cell? ⟨gb161, 7, none⟩ = some (.float .f64 (un pa0_7 a0_7)) := (blk_cell BK161.out 7).trans rfl
         have hcz43_8 : wc.cell? ⟨gb161, 8, none⟩ = some (.int .i64 a0_8) := (blk_cell BK161.out 8).trans rfl
         have hcz43_9 : wc.cell? ⟨gb161, 9, none⟩ = some (.int .i64 a0_9) := (blk_cell BK161.out 9).trans rfl
         have hfz43_0 := blk_frozen BK161.out 0
         have hfz43_1 := blk_frozen BK161.out 1
         have hfz43_2 := blk_frozen BK161.out 2
         have hfz43_3 := blk_frozen BK161.out 3
         have hfz43_4 := blk_frozen BK161.out 4
         have hfz43_5 := blk_frozen BK161.out 5
         have hfz43_6 := blk_frozen BK161.out 6
         have hfz43_7 := blk_frozen BK161.out 7
         have hfz43_8 := blk_frozen BK161.out 8
         have hfz43_9 := blk_frozen BK161.out 9
         go_wp2_with (first | ((with_reducible refine gate_callee (f := 44) rfl ?_); refine goesL_ (some 77) rfl rfl Try.func44 (by kernel_rfl) rfl #[.float .f64 (un pa0_6 a0_6)] rfl (by (try simp only [List.map_toArray, List.map_cons, List.map_nil]); first | done | rfl | (simp only [List.length_drop, List.length_take]; rfl)) ?_; (with_reducible refine (impl_missing.calls pa0_6 a0_6 false _ A38.out).mono ?_); rintro e w' ⟨rfl, ⟨nd, rfl⟩⟩; refine ⟨_, rfl, ?_⟩))
         go_meet
         case rel => exact ⟨_, (true), (by first | rfl | (simp; done) | (simp [*]; done)), H', ⟨by have := HJ1.out; have := HJ18.out; first | omega | exact Nat.le_refl _⟩, ⟨by (with_reducible repeat (first | refine blk_drewN ?_ _ | refine blk_drew ?_ | refine blk_alloc ?_ _)); exact BK161.out⟩, ⟨by repeat (first | (with_reducible first | exact HB.out | apply below_alloc | apply pw_below_drewN | apply below_drew1 | refine below_set ?_ GE161.out) | exact HB.out)⟩⟩
      case rest =>
       clear HC36
       try clear c1
       try clear c2
       try clear p2
       try clear c3
       try clear c4
       try clear c5
       try clear c6
       try clear c7
       try clear c9
       try clear c11
       try clear c18
       try clear c21
       try clear c21b0
       try clear c21b1
       try clear c23
       try clear c27
       try clear c29
       try clear c30
       try clear c30b0
       try clear c30b1
       try clear c30b2
       try clear c39
       try clear c41
       try clear hcz13_0
       try clear hcz13_1
       try clear hcz13_2
       try clear hcz13_3
       try clear hcz13_4
       try clear hcz13_5
       try clear hcz13_6
       try clear hcz13_7
       try clear hcz13_8
       try clear hcz13_9
       try clear hcz14_0
       try clear hcz14_1
       try clear hcz14_2
       try clear hcz14_3
       try clear hcz14_4
       try clear hcz14_5
       try clear hcz14_6
       try clear hcz14_7
       try clear hcz14_8
       try clear hcz14_9
       try clear hcz15_0
       try clear hcz15_1
       try clear hcz15_2
       try clear hcz15_3
       try clear hcz15_4
       try clear hcz15_5
       try clear hcz15_6
       try clear hcz15_7
       try clear hcz15_8
       try clear hcz15_9
       try clear hcz16_0
       try clear hcz16_1
       try clear hcz16_2
       try clear hcz16_3
       try clear hcz16_4
       try clear hcz16_5
       try clear hcz16_6
       try clear hcz16_7
       try clear hcz16_8
       try clear hcz16_9
       try clear hcz17_0
       try clear hcz17_1
       try clear hcz17_2
       try clear hcz17_3
       try clear hcz17_4
       try clear hcz17_5
       try clear hcz17_6
       try clear hcz17_7
       try clear hcz17_8
       try clear hcz17_9
       try clear hcz20_0
       try clear hcz20_1
       try clear hcz20_2
       try clear hcz20_3
       try clear hcz20_4
       try clear hcz20_5
       try clear hcz20_6
       try clear hcz20_7
       try clear hcz20_8
       try clear hcz20_9
       try clear hcz24_0
       try clear hcz24_1
       try clear hcz24_2
       try clear hcz24_3
       try clear hcz24_4
       try clear hcz24_5
       try clear hcz24_6
       try clear hcz24_7
       try clear hcz24_8
       try clear hcz24_9
       try clear hcz25_0
       try clear hcz25_1
       try clear hcz25_2
       try clear hcz25_3
       try clear hcz25_4
       try clear hcz25_5
       try clear hcz25_6
       try clear hcz25_7
       try clear hcz25_8
       try clear hcz25_9
       try clear hcz31_0
       try clear hcz31_1
       try clear hcz31_2
       try clear hcz31_3
       try clear hcz31_4
       try clear hcz31_5
       try clear hcz31_6
       try clear hcz31_7
       try clear hcz31_8
       try clear hcz31_9
       try clear hcz32_0
       try clear hcz32_1
       try clear hcz32_2
       try clear hcz32_3
       try clear hcz32_4
       try clear hcz32_5
       try clear hcz32_6
       try clear hcz32_7
       try clear hcz32_8
       try clear hcz32_9
       try clear hcz33_0
       try clear hcz33_1
       try clear hcz33_2
       try clear hcz33_3
       try clear hcz33_4
       try clear hcz33_5
       try clear hcz33_6
       try clear hcz33_7
       try clear hcz33_8
       try clear hcz33_9
       try clear hcz34_0
       try clear hcz34_1
       try clear hcz34_2
       try clear hcz34_3
       try clear hcz34_4
       try clear hcz34_5
       try clear hcz34_6
       try clear hcz34_7
       try clear hcz34_8
       try clear hcz34_9
       try clear hcz37_0
       try clear hcz37_1
       try clear hcz37_2
       try clear hcz37_3
       try clear hcz37_4
       try clear hcz37_5
       try clear hcz37_6
       try clear hcz37_7
       try clear hcz37_8
       try clear hcz37_9
       try clear hcz40_0
       try clear hcz40_1
       try clear hcz40_2
       try clear hcz40_3
       try clear hcz40_4
       try clear hcz40_5
       try clear hcz40_6
       try clear hcz40_7
       try clear hcz40_8
       try clear hcz40_9
       try clear hcz42_0
       try clear hcz42_1
       try clear hcz42_2
       try clear hcz42_3
       try clear hcz42_4
       try clear hcz42_5
       try clear hcz42_6
       try clear hcz42_7
       try clear hcz42_8
       try clear hcz42_9
       try clear hcz43_0
       try clear hcz43_1
       try clear hcz43_2
       try clear hcz43_3
       try clear hcz43_4
       try clear hcz43_5
       try clear hcz43_6
       try clear hcz43_7
       try clear hcz43_8
       try clear hcz43_9
       try clear hfz13_0
       try clear hfz13_1
       try clear hfz13_2
       try clear hfz13_3
       try clear hfz13_4
       try clear hfz13_5
       try clear hfz13_6
       try clear hfz13_7
       try clear hfz13_8
       try clear hfz13_9
       try clear hfz14_0
       try clear hfz14_1
       try clear hfz14_2
       try clear hfz14_3
       try clear hfz14_4
       try clear hfz14_5
       try clear hfz14_6
       try clear hfz14_7
       try clear hfz14_8
       try clear hfz14_9
       try clear hfz15_0
       try clear hfz15_1
       try clear hfz15_2
       try clear hfz15_3
       try clear hfz15_4
       try clear hfz15_5
       try clear hfz15_6
       try clear hfz15_7
       try clear hfz15_8
       try clear hfz15_9
       try clear hfz16_0
       try clear hfz16_1
       try clear hfz16_2
       try clear hfz16_3
       try clear hfz16_4
       try clear hfz16_5
       try clear hfz16_6
       try clear hfz16_7
       try clear hfz16_8
       try clear hfz16_9
       try clear hfz17_0
       try clear hfz17_1
       try clear hfz17_2
       try clear hfz17_3
       try clear hfz17_4
       try clear hfz17_5
       try clear hfz17_6
       try clear hfz17_7
       try clear hfz17_8
       try clear hfz17_9
       try clear hfz20_0
       try clear hfz20_1
       try clear hfz20_2
       try clear hfz20_3
       try clear hfz20_4
       try clear hfz20_5
       try clear hfz20_6
       try clear hfz20_7
       try clear hfz20_8
       try clear hfz20_9
       try clear hfz24_0
       try clear hfz24_1
       try clear hfz24_2
       try clear hfz24_3
       try clear hfz24_4
       try clear hfz24_5
       try clear hfz24_6
       try clear hfz24_7
       try clear hfz24_8
       try clear hfz24_9
       try clear hfz25_0
       try clear hfz25_1
       try clear hfz25_2
       try clear hfz25_3
       try clear hfz25_4
       try clear hfz25_5
       try clear hfz25_6
       try clear hfz25_7
       try clear hfz25_8
       try clear hfz25_9
       try clear hfz31_0
       try clear hfz31_1
       try clear hfz31_2
       try clear hfz31_3
       try clear hfz31_4
       try clear hfz31_5
       try clear hfz31_6
       try clear hfz31_7
       try clear hfz31_8
       try clear hfz31_9
       try clear hfz32_0
       try clear hfz32_1
       try clear hfz32_2
       try clear hfz32_3
       try clear hfz32_4
       try clear hfz32_5
       try clear hfz32_6
       try clear hfz32_7
       try clear hfz32_8
       try clear hfz32_9
       try clear hfz33_0
       try clear hfz33_1
       try clear hfz33_2
       try clear hfz33_3
       try clear hfz33_4
       try clear hfz33_5
       try clear hfz33_6
       try clear hfz33_7
       try clear hfz33_8
       try clear hfz33_9
       try clear hfz34_0
       try clear hfz34_1
       try clear hfz34_2
       try clear hfz34_3
       try clear hfz34_4
       try clear hfz34_5
       try clear hfz34_6
       try clear hfz34_7
       try clear hfz34_8
       try clear hfz34_9
       try clear hfz37_0
       try clear hfz37_1
       try clear hfz37_2
       try clear hfz37_3
       try clear hfz37_4
       try clear hfz37_5
       try clear hfz37_6
       try clear hfz37_7
       try clear hfz37_8
       try clear hfz37_9
       try clear hfz40_0
       try clear hfz40_1
       try clear hfz40_2
       try clear hfz40_3
       try clear hfz40_4
       try clear hfz40_5
       try clear hfz40_6
       try clear hfz40_7
       try clear hfz40_8
       try clear hfz40_9
       try clear hfz42_0
       try clear hfz42_1
       try clear hfz42_2
       try clear hfz42_3
       try clear hfz42_4
       try clear hfz42_5
       try clear hfz42_6
       try clear hfz42_7
       try clear hfz42_8
       try clear hfz42_9
       try clear hfz43_0
       try clear hfz43_1
       try clear hfz43_2
       try clear hfz43_3
       try clear hfz43_4
       try clear hfz43_5
       try clear hfz43_6
       try clear hfz43_7
       try clear hfz43_8
       try clear hfz43_9
       try clear p2
       obtain ⟨kq, x87_35, rfl, HA, HJ35, BK161, HB⟩ := hcut
       cases kq with
       | zero => exact absurd HA.out (by simp [impl_ObsOk.j2])
       | succ kj35 =>
        have H := HA.out
        clear HA
        simp only [impl_ObsOk.j2] at H
        by_cases c44 : x87_35 = true
        ·subst c44
         have H1 : (some false) = some r := by rw [if_pos rfl] at H; exact H
         clear H
         have H := H1
         clear H1
         obtain rfl := Option.some.inj H
         go_wp2
         go_ret
         exact ⟨by first | rfl | (simp [errW_none, errW_some] <;> rfl) | (simp [*, errW_none, errW_some] <;> rfl), by repeat (first | (with_reducible first | exact HB.out | apply below_alloc | apply pw_below_drewN | apply below_drew1 | refine below_set ?_ GE161.out) | exact HB.out)⟩
        ·replace c44 := Bool.eq_false_iff.mpr c44
         subst c44
         have H1 : (if a0_8 = (-1) then (if a0_9 = (-1) then (some true) else ((impl_in.f a0_8 0 99).bind fun t174 => (if t174 = true then ((impl_in.f a0_9 0 8).bind fun t175 => (some t175)) else (some false)))) else ((impl_in.f a0_8 0 99).bind fun t176 => (if t176 = true then ((impl_in.f a0_9 0 8).bind fun t177 => (some t177)) else (some false)))) = some r := by rw [if_neg (show ¬ (false = true) by decide)] at H; exact H
         clear H
         have H := H1
         clear H1
         by_cases c45 : a0_8 = (-1)
         ·rw [if_pos c45] at H
          have c45b0 : (a0_8 == (-1)) = true := beq_iff_eq.mpr c45
          have c45b1 : (a0_8 != (-1)) = false := bne_eq_false_iff_eq.mpr c45
          clear c45
          by_cases c46 : a0_9 = (-1)
          ·rw [if_pos c46] at H
           have c46b0 : (a0_9 == (-1)) = true := beq_iff_eq.mpr c46
           have c46b1 : (a0_9 != (-1)) = false := bne_eq_false_iff_eq.mpr c46
           clear c46
           obtain rfl := Option.some.inj H
           have hcz47_0 : wc.cell? ⟨gb161, 0, none⟩ = some (.int .i64 a0_0) := (blk_cell BK161.out 0).trans rfl
           have hcz47_1 : wc.cell? ⟨gb161, 1, none⟩ = some (.float .f64 (un pa0_1 a0_1)) := (blk_cell BK161.out 1).trans rfl
           have hcz47_2 : wc.cell? ⟨gb161, 2, none⟩ = some (.float .f64 (un pa0_2 a0_2)) := (blk_cell BK161.out 2).trans rfl
           have hcz47_3 : wc.cell? ⟨gb161, 3, none⟩ = some (.float .f64 (un pa0_3 a0_3)) := (blk_cell BK161.out 3).trans rfl
           have hcz47_4 : wc.cell? ⟨gb161, 4, none⟩ = some (.int .i64 a0_4) := (blk_cell BK161.out 4).trans rfl
           have hcz47_5 : wc.cell? ⟨gb161, 5, none⟩ = some (.float .f64 (un pa0_5 a0_5)) := (blk_cell BK161.out 5).trans rfl
           have hcz47_6 : wc.cell? ⟨gb161, 6, none⟩ = some (.float .f64 (un pa0_6 a0_6)) := (blk_cell BK161.out 6).trans rfl
           have hcz47_7 : wc.cell? ⟨gb161, 7, none⟩ = some (.float .f64 (un pa0_7 a0_7)) := (blk_cell BK161.out 7).trans rfl
           have hcz47_8 : wc.cell? ⟨gb161, 8, none⟩ = some (.int .i64 a0_8) := (blk_cell BK161.out 8).trans rfl
           have hcz47_9 : wc.cell? ⟨gb161, 9, none⟩ = some (.int .i64 a0_9) := (blk_cell BK161.out 9).trans rfl
           have hfz47_0 := blk_frozen BK161.out 0
           have hfz47_1 := blk_frozen BK161.out 1
           have hfz47_2 := blk_frozen BK161.out 2
           have hfz47_3 := blk_frozen BK161.out 3
           have hfz47_4 := blk_frozen BK161.out 4
           have hfz47_5 := blk_frozen BK161.out 5
           have hfz47_6 := blk_frozen BK161.out 6
           have hfz47_7 := blk_frozen BK161.out 7
           have hfz47_8 := blk_frozen BK161.out 8
           have hfz47_9 := blk_frozen BK161.out 9
           go_wp2
           go_ret
           exact ⟨by first | rfl | (simp [errW_none, errW_some] <;> rfl) | (simp [*, errW_none, errW_some] <;> rfl), by repeat (first | (with_reducible first | exact HB.out | apply below_alloc | apply pw_below_drewN | apply below_drew1 | refine below_set ?_ GE161.out) | exact HB.out)⟩
          ·rw [if_neg c46] at H
           have c46b0 : (a0_9 == (-1)) = false := beq_eq_false_iff_ne.mpr c46
           have c46b1 : (a0_9 != (-1)) = true := bne_iff_ne.mpr c46
           replace H := Option.bind_eq_some_iff.mp H
           obtain ⟨t174, A480, H⟩ := H
           replace H : (if t174 = true then ((impl_in.f a0_9 0 8).bind fun t175 => (some t175)) else (some false)) = some r := H
           have A48 := Aside0.mk A480
           clear A480
           by_cases c49 : t174 = true
           ·subst c49
            have H1 : ((impl_in.f a0_9 0 8).bind fun t175 => (some t175)) = some r := by rw [if_pos rfl] at H; exact H
            clear H
            have H := H1
            clear H1
            replace H := Option.bind_eq_some_iff.mp H
            obtain ⟨t175, A500, H⟩ := H
            replace H : (some t175) = some r := H
            have A50 := Aside0.mk A500
            clear A500
            obtain rfl := Option.some.inj H
            have hcz51_0 : wc.cell? ⟨gb161, 0, none⟩ = some (.int .i64 a0_0) := (blk_cell BK161.out 0).trans rfl
            have hcz51_1 : wc.cell? ⟨gb161, 1, none⟩ = some (.float .f64 (un pa0_1 a0_1)) := (blk_cell BK161.out 1).trans rfl
            have hcz51_2 : wc.cell? ⟨gb161, 2, none⟩ = some (.float .f64 (un pa0_2 a0_2)) := (blk_cell BK161.out 2).trans rfl
            have hcz51_3 : wc.cell? ⟨gb161, 3, none⟩ = some (.float .f64 (un pa0_3 a0_3)) := (blk_cell BK161.out 3).trans rfl
            have hcz51_4 : wc.cell? ⟨gb161, 4, none⟩ = some (.int .i64 a0_4) := (blk_cell BK161.out 4).trans rfl
            have hcz51_5 : wc.cell? ⟨gb161, 5, none⟩ = some (.float .f64 (un pa0_5 a0_5)) := (blk_cell BK161.out 5).trans rfl
            have hcz51_6 : wc.cell? ⟨gb161, 6, none⟩ = some (.float .f64 (un pa0_6 a0_6)) := (blk_cell BK161.out 6).trans rfl
            have hcz51_7 : wc.cell? ⟨gb161, 7, none⟩ = some (.float .f64 (un pa0_7 a0_7)) := (blk_cell BK161.out 7).trans rfl
            have hcz51_8 : wc.cell? ⟨gb161, 8, none⟩ = some (.int .i64 a0_8) := (blk_cell BK161.out 8).trans rfl
            have hcz51_9 : wc.cell? ⟨gb161, 9, none⟩ = some (.int .i64 a0_9) := (blk_cell BK161.out 9).trans rfl
            have hfz51_0 := blk_frozen BK161.out 0
            have hfz51_1 := blk_frozen BK161.out 1
            have hfz51_2 := blk_frozen BK161.out 2
            have hfz51_3 := blk_frozen BK161.out 3
            have hfz51_4 := blk_frozen BK161.out 4
            have hfz51_5 := blk_frozen BK161.out 5
            have hfz51_6 := blk_frozen BK161.out 6
            have hfz51_7 := blk_frozen BK161.out 7
            have hfz51_8 := blk_frozen BK161.out 8
            have hfz51_9 := blk_frozen BK161.out 9
            go_wp2_with (first | (go_at_call 46; (with_reducible refine (impl_in.calls a0_8 0 99 true _ A48.out).mono ?_); rintro e w' ⟨rfl, ⟨nd, rfl⟩⟩) | (go_at_call 46; (with_reducible refine (impl_in.calls a0_9 0 8 t175 _ A50.out).mono ?_); rintro e w' ⟨rfl, ⟨nd, rfl⟩⟩))
            go_ret
            exact ⟨by first | rfl | (simp [errW_none, errW_some] <;> rfl) | (simp [*, errW_none, errW_some] <;> rfl), by repeat (first | (with_reducible first | exact HB.out | apply below_alloc | apply pw_below_drewN | apply below_drew1 | refine below_set ?_ GE161.out) | exact HB.out)⟩
           ·replace c49 := Bool.eq_false_iff.mpr c49
            subst c49
            have H1 : (some false) = some r := by rw [if_neg (show ¬ (false = true) by decide)] at H; exact H
            clear H
            have H := H1
            clear H1
            obtain rfl := Option.some.inj H
            have hcz52_0 : wc.cell? ⟨gb161, 0, none⟩ = some (.int .i64 a0_0) := (blk_cell BK161.out 0).trans rfl
            have hcz52_1 : wc.cell? ⟨gb161, 1, none⟩ = some (.float .f64 (un pa0_1 a0_1)) := (blk_cell BK161.out 1).trans rfl
            have hcz52_2 : wc.cell? ⟨gb161, 2, none⟩ = some (.float .f64 (un pa0_2 a0_2)) := (blk_cell BK161.out 2).trans rfl
            have hcz52_3 : wc.cell? ⟨gb161, 3, none⟩ = some (.float .f64 (un pa0_3 a0_3)) := (blk_cell BK161.out 3).trans rfl
            have hcz52_4 : wc.cell? ⟨gb161, 4, none⟩ = some (.int .i64 a0_4) := (blk_cell BK161.out 4).trans rfl
            have hcz52_5 : wc.cell? ⟨gb161, 5, none⟩ = some (.float .f64 (un pa0_5 a0_5)) := (blk_cell BK161.out 5).trans rfl
            have hcz52_6 : wc.cell? ⟨gb161, 6, none⟩ = some (.float .f64 (un pa0_6 a0_6)) := (blk_cell BK161.out 6).trans rfl
            have hcz52_7 : wc.cell? ⟨gb161, 7, none⟩ = some (.float .f64 (un pa0_7 a0_7)) := (blk_cell BK161.out 7).trans rfl
            have hcz52_8 : wc.cell? ⟨gb161, 8, none⟩ = some (.int .i64 a0_8) := (blk_cell BK161.out 8).trans rfl
            have hcz52_9 : wc.cell? ⟨gb161, 9, none⟩ = some (.int .i64 a0_9) := (blk_cell BK161.out 9).trans rfl
            have hfz52_0 := blk_frozen BK161.out 0
            have hfz52_1 := blk_frozen BK161.out 1
            have hfz52_2 := blk_frozen BK161.out 2
            have hfz52_3 := blk_frozen BK161.out 3
            have hfz52_4 := blk_frozen BK161.out 4
            have hfz52_5 := blk_frozen BK161.out 5
            have hfz52_6 := blk_frozen BK161.out 6
            have hfz52_7 := blk_frozen BK161.out 7
            have hfz52_8 := blk_frozen BK161.out 8
            have hfz52_9 := blk_frozen BK161.out 9
            go_wp2_with (first | (go_at_call 46; (with_reducible refine (impl_in.calls a0_8 0 99 false _ A48.out).mono ?_); rintro e w' ⟨rfl, ⟨nd, rfl⟩⟩))
            go_ret
            exact ⟨by first | rfl | (simp [errW_none, errW_some] <;> rfl) | (simp [*, errW_none, errW_some] <;> rfl), by repeat (first | (with_reducible first | exact HB.out | apply below_alloc | apply pw_below_drewN | apply below_drew1 | refine below_set ?_ GE161.out) | exact HB.out)⟩
         ·rw [if_neg c45] at H
          have c45b0 : (a0_8 == (-1)) = false := beq_eq_false_iff_ne.mpr c45
          have c45b1 : (a0_8 != (-1)) = true := bne_iff_ne.mpr c45
          replace H := Option.bind_eq_some_iff.mp H
          obtain ⟨t176, A530, H⟩ := H
          replace H : (if t176 = true then ((impl_in.f a0_9 0 8).bind fun t177 => (some t177)) else (some false)) = some r := H
          have A53 := Aside0.mk A530
          clear A530
          by_cases c54 : t176 = true
          ·subst c54
           have H1 : ((impl_in.f a0_9 0 8).bind fun t177 => (some t177)) = some r := by rw [if_pos rfl] at H; exact H
           clear H
           have H := H1
           clear H1
           replace H := Option.bind_eq_some_iff.mp H
           obtain ⟨t177, A550, H⟩ := H
           replace H : (some t177) = some r := H
           have A55 := Aside0.mk A550
           clear A550
           obtain rfl := Option.some.inj H
           have hcz56_0 : wc.cell? ⟨gb161, 0, none⟩ = some (.int .i64 a0_0) := (blk_cell BK161.out 0).trans rfl
           have hcz56_1 : wc.cell? ⟨gb161, 1, none⟩ = some (.float .f64 (un pa0_1 a0_1)) := (blk_cell BK161.out 1).trans rfl
           have hcz56_2 : wc.cell? ⟨gb161, 2, none⟩ = some (.float .f64 (un pa0_2 a0_2)) := (blk_cell BK161.out 2).trans rfl
           have hcz56_3 : wc.cell? ⟨gb161, 3, none⟩ = some (.float .f64 (un pa0_3 a0_3)) := (blk_cell BK161.out 3).trans rfl
           have hcz56_4 : wc.cell? ⟨gb161, 4, none⟩ = some (.int .i64 a0_4) := (blk_cell BK161.out 4).trans rfl
           have hcz56_5 : wc.cell? ⟨gb161, 5, none⟩ = some (.float .f64 (un pa0_5 a0_5)) := (blk_cell BK161.out 5).trans rfl
           have hcz56_6 : wc.cell? ⟨gb161, 6, none⟩ = some (.float .f64 (un pa0_6 a0_6)) := (blk_cell BK161.out 6).trans rfl
           have hcz56_7 : wc.cell? ⟨gb161, 7, none⟩ = some (.float .f64 (un pa0_7 a0_7)) := (blk_cell BK161.out 7).trans rfl
           have hcz56_8 : wc.cell? ⟨gb161, 8, none⟩ = some (.int .i64 a0_8) := (blk_cell BK161.out 8).trans rfl
           have hcz56_9 : wc.cell? ⟨gb161, 9, none⟩ = some (.int .i64 a0_9) := (blk_cell BK161.out 9).trans rfl
           have hfz56_0 := blk_frozen BK161.out 0
           have hfz56_1 := blk_frozen BK161.out 1
           have hfz56_2 := blk_frozen BK161.out 2
           have hfz56_3 := blk_frozen BK161.out 3
           have hfz56_4 := blk_frozen BK161.out 4
           have hfz56_5 := blk_frozen BK161.out 5
           have hfz56_6 := blk_frozen BK161.out 6
           have hfz56_7 := blk_frozen BK161.out 7
           have hfz56_8 := blk_frozen BK161.out 8
           have hfz56_9 := blk_frozen BK161.out 9
           go_wp2_with (first | (go_at_call 46; (with_reducible refine (impl_in.calls a0_8 0 99 true _ A53.out).mono ?_); rintro e w' ⟨rfl, ⟨nd, rfl⟩⟩) | (go_at_call 46; (with_reducible refine (impl_in.calls a0_9 0 8 t177 _ A55.out).mono ?_); rintro e w' ⟨rfl, ⟨nd, rfl⟩⟩))
           go_ret
           exact ⟨by first | rfl | (simp [errW_none, errW_some] <;> rfl) | (simp [*, errW_none, errW_some] <;> rfl), by repeat (first | (with_reducible first | exact HB.out | apply below_alloc | apply pw_below_drewN | apply below_drew1 | refine below_set ?_ GE161.out) | exact HB.out)⟩
          ·replace c54 := Bool.eq_false_iff.mpr c54
           subst c54
           have H1 : (some false) = some r := by rw [if_neg (show ¬ (false = true) by decide)] at H; exact H
           clear H
           have H := H1
           clear H1
           obtain rfl := Option.some.inj H
           have hcz57_0 : wc.cell? ⟨gb161, 0, none⟩ = some (.int .i64 a0_0) := (blk_cell BK161.out 0).trans rfl
           have hcz57_1 : wc.cell? ⟨gb161, 1, none⟩ = some (.float .f64 (un pa0_1 a0_1)) := (blk_cell BK161.out 1).trans rfl
           have hcz57_2 : wc.cell? ⟨gb161, 2, none⟩ = some (.float .f64 (un pa0_2 a0_2)) := (blk_cell BK161.out 2).trans rfl
           have hcz57_3 : wc.cell? ⟨gb161, 3, none⟩ = some (.float .f64 (un pa0_3 a0_3)) := (blk_cell BK161.out 3).trans rfl
           have hcz57_4 : wc.cell? ⟨gb161, 4, none⟩ = some (.int .i64 a0_4) := (blk_cell BK161.out 4).trans rfl
           have hcz57_5 : wc.cell? ⟨gb161, 5, none⟩ = some (.float .f64 (un pa0_5 a0_5)) := (blk_cell BK161.out 5).trans rfl
           have hcz57_6 : wc.cell? ⟨gb161, 6, none⟩ = some (.float .f64 (un pa0_6 a0_6)) := (blk_cell BK161.out 6).trans rfl
           have hcz57_7 : wc.cell? ⟨gb161, 7, none⟩ = some (.float .f64 (un pa0_7 a0_7)) := (blk_cell BK161.out 7).trans rfl
           have hcz57_8 : wc.cell? ⟨gb161, 8, none⟩ = some (.int .i64 a0_8) := (blk_cell BK161.out 8).trans rfl
           have hcz57_9 : wc.cell? ⟨gb161, 9, none⟩ = some (.int .i64 a0_9) := (blk_cell BK161.out 9).trans rfl
           have hfz57_0 := blk_frozen BK161.out 0
           have hfz57_1 := blk_frozen BK161.out 1
           have hfz57_2 := blk_frozen BK161.out 2
           have hfz57_3 := blk_frozen BK161.out 3
           have hfz57_4 := blk_frozen BK161.out 4
           have hfz57_5 := blk_frozen BK161.out 5
           have hfz57_6 := blk_frozen BK161.out 6
           have hfz57_7 := blk_frozen BK161.out 7
           have hfz57_8 := blk_frozen BK161.out 8
           have hfz57_9 := blk_frozen BK161.out 9
           go_wp2_with (first | (go_at_call 46; (with_reducible refine (impl_in.calls a0_8 0 99 false _ A53.out).mono ?_); rintro e w' ⟨rfl, ⟨nd, rfl⟩⟩))
           go_ret
           exact ⟨by first | rfl | (simp [errW_none, errW_some] <;> rfl) | (simp [*, errW_none, errW_some] <;> rfl), by repeat (first | (with_reducible first | exact HB.out | apply below_alloc | apply pw_below_drewN | apply below_drew1 | refine below_set ?_ GE161.out) | exact HB.out)⟩

end Go.Proofs.Ytaophbkedbphnab.Q
