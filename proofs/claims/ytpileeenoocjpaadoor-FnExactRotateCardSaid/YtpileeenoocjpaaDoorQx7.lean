/- Plain Lean functions with the same answers as the Go functions of this seat, and a proof for each that the Go code comes to just these answers; no condition. Written by a program of this session (the kit's printer, turned). -/
import Derived.Test.YtpileeenoocjpaaDoorQx0
namespace Go.Proofs.YtpileeenoocjpaaDoor.Q
open Go.RowKit Go.Proofs.YtpileeenoocjpaaDoorW.PrintWords Go.Proofs.YtpileeenoocjpaaDoorW.PrintLast Go.Proofs.YtpileeenoocjpaaDoorW.PrintMore Go.Proofs.YtpileeenoocjpaaDoorW.PrintFlt
attribute [local go_sem] cmp_lss cmp_leq cmp_gtr cmp_geq cmp_eql cmp_neq flt_l flt_r fgt_l fgt_r feq_l feq_r fne_l fne_r ord_lt ord_gt ord_eq ord_ne conv_int foi_fold run_store_flt
attribute [local go_sem] max2_int min2_int max_two min_two max_three min_three max_four min_four   -- for this text's walks alone
set_option linter.unusedVariables false
set_option linter.unusedSimpArgs false

/-! ### impl_MulPair: function 50 -/
def impl_MulPair.f (a0_0 : Nat) (a0_1 : Nat) (a1_0 : Nat) (a1_1 : Nat) : Option (Nat × Nat) := some (fsub (fmul a0_0 a1_0) (fmul a0_1 a1_1), fadd (fmul a0_0 a1_1) (fmul a0_1 a1_0))
def impl_MulPair.T1 : Bool × List (List Nat × List Nat) := (true, [([], []), ([0], [0]), ([], []), ([2], [2]), ([1, 3], [1, 3]), ([], []), ([5], [5]), ([], []), ([7], [7]), ([6, 8], [6, 8]), ([], []), ([10], [10]), ([], []), ([12], [12]), ([11, 13], [11, 13]), ([], []), ([15], [15]), ([], []), ([17], [17]), ([16, 18], [16, 18]), ([4, 0, 1, 2, 3, 4], [4]), ([9, 20, 0, 1, 2, 3, 4, 5, 6, 7, 8, 9, 20], [9]), ([14, 21, 0, 1, 2, 3, 4, 5, 6, 7, 8, 9, 10, 11, 12, 13, 14, 20, 21], [14]), ([19, 22, 0, 1, 2, 3, 4, 5, 6, 7, 8, 9, 10, 11, 12, 13, 14, 15, 16, 17, 18, 19, 20, 21, 22], [19])])
def impl_MulPair.B1 : List Nat := [0, 1, 0, 4, 15, 0, 32, 0, 128, 480, 0, 1024, 0, 4096, 15360, 0, 32768, 0, 131072, 491520, 31, 1049599, 3178495, 8388607]
theorem impl_MulPair.tab1 : rtab .any (opsOf Tryd.f50 1) = impl_MulPair.T1 := by kernel_rfl
theorem impl_MulPair.bits1 : waitsOk impl_MulPair.T1.2 impl_MulPair.B1 = true := by kernel_rfl
set_option maxHeartbeats 8000000 in
set_option maxRecDepth 100000 in
theorem impl_MulPair.calls (pa0_0 : Nat) (a0_0 : Nat) (pa0_1 : Nat) (a0_1 : Nat) (pa1_0 : Nat) (a1_0 : Nat) (pa1_1 : Nat) (a1_1 : Nat) (r1 : Nat) (r2 : Nat) (w : World) (h : impl_MulPair.f a0_0 a0_1 a1_0 a1_1 = some (r1, r2)) :
  Calls Tryd.prog 50 #[.agg #[.float .f64 (un pa0_0 a0_0), .float .f64 (un pa0_1 a0_1)], .agg #[.float .f64 (un pa1_0 a1_0), .float .f64 (un pa1_1 a1_1)]] w fun e w' => ∃ q0_ q1_ : Nat, e = .returned (.agg #[.float .f64 (un q0_ r1), .float .f64 (un q1_ r2)]) ∧ Below w.heap.size w w' := by
 have hu42 := Tryd.underlying42
 have HB := Aside0.mk (Below.refl w.heap.size w)
 have H : (some (fsub (fmul a0_0 a1_0) (fmul a0_1 a1_1), fadd (fmul a0_0 a1_1) (fmul a0_1 a1_0))) = some (r1, r2) := h
 clear h
 simp only [Option.some.injEq, Prod.mk.injEq] at H
 obtain ⟨rfl, rfl⟩ := H
 go_enter Tryd.func50, Tryd.ntmps50
 try go_wp2_with (first | ((with_reducible refine gate_dst (N := 2) rfl ?_); refine box_event ?hg (N := 2) ?hd (cs := #[.float .f64 (un pa0_0 a0_0), .float .f64 (un pa0_1 a0_1)]) (t := 42) ?hr ?_; (case hd => rfl); (case hg => rfl); (case hr => first | (go_simp; done) | (go_simp; rfl)); intro gb182 hg w3 hbox hb; have n0_ := Aside0.mk (below_step (by repeat (first | (with_reducible first | exact HB.out | apply below_alloc | apply pw_below_drewN | apply below_drew1) | exact HB.out)) hb); have n1_ := Aside0.mk (hbox); have n2_ := Aside0.mk ((by rw [hg]; exact (below_size (by repeat (first | (with_reducible first | exact HB.out | apply below_alloc | apply pw_below_drewN | apply below_drew1) | exact HB.out))) : w.heap.size ≤ gb182)); have n3_ := Aside0.mk ((by rw [hg]; exact (below_size (by repeat (first | (with_reducible first | exact HB.out | apply below_alloc | apply pw_below_drewN | apply below_drew1) | exact HB.out))) : w.heap.size ≤ gb182)); clear HB; have HB := n0_; have BK182 := n1_; have GW182 := n2_; have GE182 := n3_; clear n0_ n1_ n2_ n3_; clear hb hbox hg) | ((with_reducible refine gate_dst (N := 3) rfl ?_); refine box_event ?hg (N := 3) ?hd (cs := #[.float .f64 (un pa1_0 a1_0), .float .f64 (un pa1_1 a1_1)]) (t := 42) ?hr ?_; (case hd => rfl); (case hg => rfl); (case hr => first | (go_simp; done) | (go_simp; rfl)); intro gb183 hg w4 hbox hb; have n0_ := Aside0.mk (blk_below (g := gb182) (o := .cells #[.float .f64 (un pa0_0 a0_0), .float .f64 (un pa0_1 a0_1)] 42 (0, 0)) (by (with_reducible repeat (first | refine blk_drewN ?_ _ | refine blk_drew ?_ | refine blk_alloc ?_ _)); exact BK182.out) hb); have n1_ := Aside0.mk (below_step (by repeat (first | (with_reducible first | exact HB.out | apply below_alloc | apply pw_below_drewN | apply below_drew1 | refine below_set ?_ GE182.out) | exact HB.out)) hb); have n2_ := Aside0.mk (hbox); have n3_ := Aside0.mk ((by rw [hg]; exact (below_size (by repeat (first | (with_reducible first | exact HB.out | apply below_alloc | apply pw_below_drewN | apply below_drew1 | refine below_set ?_ GE182.out) | exact HB.out))) : w.heap.size ≤ gb183)); have n4_ := Aside0.mk ((by rw [hg]; exact (below_size (by repeat (first | (with_reducible first | exact HB.out | apply below_alloc | apply pw_below_drewN | apply below_drew1 | refine below_set ?_ GE182.out) | exact HB.out))) : w.heap.size ≤ gb183)); have n5_ := Aside0.mk ((by rw [hg]; exact Nat.ne_of_lt (blk_lt (g := gb182) (o := .cells #[.float .f64 (un pa0_0 a0_0), .float .f64 (un pa0_1 a0_1)] 42 (0, 0)) (by (with_reducible repeat (first | refine blk_drewN ?_ _ | refine blk_drew ?_ | refine blk_alloc ?_ _)); exact BK182.out)) : gb182 ≠ gb183)); have n6_ := Aside0.mk ((by rw [hg]; exact Nat.ne_of_gt (blk_lt (g := gb182) (o := .cells #[.float .f64 (un pa0_0 a0_0), .float .f64 (un pa0_1 a0_1)] 42 (0, 0)) (by (with_reducible repeat (first | refine blk_drewN ?_ _ | refine blk_drew ?_ | refine blk_alloc ?_ _)); exact BK182.out)) : gb183 ≠ gb182)); clear BK182; clear HB; have BK182 := n0_; have HB := n1_; have BK183 := n2_; have GW183 := n3_; have GE183 := n4_; have NB182_183 := n5_; have NB183_182 := n6_; clear n0_ n1_ n2_ n3_ n4_ n5_ n6_; clear hb hbox hg) | ((with_reducible refine gate_dst (N := 4) rfl ?_); refine box_event ?hg (N := 4) ?hd (cs := #[.float .f64 0, .float .f64 0]) (t := 42) ?hr ?_; (case hd => rfl); (case hg => rfl); (case hr => first | (go_simp; done) | (go_simp; rfl)); intro gb184 hg w5 hbox hb; have n0_ := Aside0.mk (blk_below (g := gb182) (o := .cells #[.float .f64 (un pa0_0 a0_0), .float .f64 (un pa0_1 a0_1)] 42 (0, 0)) (by (with_reducible repeat (first | refine blk_drewN ?_ _ | refine blk_drew ?_ | refine blk_alloc ?_ _)); exact BK182.out) hb); have n1_ := Aside0.mk (blk_below (g := gb183) (o := .cells #[.float .f64 (un pa1_0 a1_0), .float .f64 (un pa1_1 a1_1)] 42 (0, 0)) (by (with_reducible repeat (first | refine blk_drewN ?_ _ | refine blk_drew ?_ | refine blk_alloc ?_ _)); exact BK183.out) hb); have n2_ := Aside0.mk (below_step (by repeat (first | (with_reducible first | exact HB.out | apply below_alloc | apply pw_below_drewN | apply below_drew1 | refine below_set ?_ GE182.out | refine below_set ?_ GE183.out) | exact HB.out)) hb); have n3_ := Aside0.mk (hbox); have n4_ := Aside0.mk ((by rw [hg]; exact (below_size (by repeat (first | (with_reducible first | exact HB.out | apply below_alloc | apply pw_below_drewN | apply below_drew1 | refine below_set ?_ GE182.out | refine below_set ?_ GE183.out) | exact HB.out))) : w.heap.size ≤ gb184)); have n5_ := Aside0.mk ((by rw [hg]; exact (below_size (by repeat (first | (with_reducible first | exact HB.out | apply below_alloc | apply pw_below_drewN | apply below_drew1 | refine below_set ?_ GE182.out | refine below_set ?_ GE183.out) | exact HB.out))) : w.heap.size ≤ gb184)); have n6_ := Aside0.mk ((by rw [hg]; exact Nat.ne_of_lt (blk_lt (g := gb182) (o := .cells #[.float .f64 (un pa0_0 a0_0), .float .f64 (un pa0_1 a0_1)] 42 (0, 0)) (by (with_reducible repeat (first | refine blk_drewN ?_ _ | refine blk_drew ?_ | refine blk_alloc ?_ _)); exact BK182.out)) : gb182 ≠ gb184)); have n7_ := Aside0.mk ((by rw [hg]; exact Nat.ne_of_gt (blk_lt (g := gb182) (o := .cells #[.float .f64 (un pa0_0 a0_0), .float .f64 (un pa0_1 a0_1)] 42 (0, 0)) (by (with_reducible repeat (first | refine blk_drewN ?_ _ | refine blk_drew ?_ | refine blk_alloc ?_ _)); exact BK182.out)) : gb184 ≠ gb182)); have n8_ := Aside0.mk ((by rw [hg]; exact Nat.ne_of_lt (blk_lt (g := gb183) (o := .cells #[.float .f64 (un pa1_0 a1_0), .float .f64 (un pa1_1 a1_1)] 42 (0, 0)) (by (with_reducible repeat (first | refine blk_drewN ?_ _ | refine blk_drew ?_ | refine blk_alloc ?_ _)); exact BK183.out)) : gb183 ≠ gb184)); have n9_ := Aside0.mk ((by rw [hg]; exact Nat.ne_of_gt (blk_lt (g := gb183) (o := .cells #[.float .f64 (un pa1_0 a1_0), .float .f64 (un pa1_1 a1_1)] 42 (0, 0)) (by (with_reducible repeat (first | refine blk_drewN ?_ _ | refine blk_drew ?_ | refine blk_alloc ?_ _)); exact BK183.out)) : gb184 ≠ gb183)); clear BK182; clear BK183; clear HB; have BK182 := n0_; have BK183 := n1_; have HB := n2_; have BK184 := n3_; have GW184 := n4_; have GE184 := n5_; have NB182_184 := n6_; have NB184_182 := n7_; have NB183_184 := n8_; have NB184_183 := n9_; clear n0_ n1_ n2_ n3_ n4_ n5_ n6_ n7_ n8_ n9_; clear hb hbox hg))
 have n0_ := Aside0.mk (blk_drew BK182.out)
 have n1_ := Aside0.mk (blk_drew BK183.out)
 have n2_ := Aside0.mk (blk_drew BK184.out)
 have n3_ := Aside0.mk (below_drew1 HB.out)
 clear BK182
 clear BK183
 clear BK184
 clear HB
 have BK182 := n0_
 have BK183 := n1_
 have BK184 := n2_
 have HB := n3_
 clear n0_ n1_ n2_ n3_
 refine start_ (n := 24) (S := fun w' => True) (ds := []) #[false, false, false, false, false, false, false, false, false, false, false, false, false, false, false, false, false, false, false, false, false, false, false, false] (by kernel_rfl) rfl rfl trivial (fun hHeld => ?_); refine with_tabW impl_MulPair.tab1 impl_MulPair.bits1 (fun HT_ HW_ => ?_)
 generalize w5.drew = w6 at BK182 BK183 BK184 HB hHeld ⊢
 refine pure_ (i := 0) (N := some 9) (v := ?_) (a' := ?_) #[true, false, false, false, false, false, false, false, false, false, false, false, false, false, false, false, false, false, false, false, false, false, false, false] rfl rfl (any_of HT_.out (by kernel_rfl)) (fun _ _ _ h => h) (Or.inl ⟨by rfl, ?_⟩) ?_ ?_
 rotate_left
 ·intro w'
  go_simp
  with_reducible rfl
 rotate_left
 ·simp only [Act.put, sqA, sqZ, sqS, i64_w, i32_w]
  rfl
 refine pure_ (i := 2) (N := some 11) (v := ?_) (a' := ?_) #[true, false, true, false, false, false, false, false, false, false, false, false, false, false, false, false, false, false, false, false, false, false, false, false] rfl rfl (any_of HT_.out (by kernel_rfl)) (fun _ _ _ h => h) (Or.inl ⟨by rfl, ?_⟩) ?_ ?_
 rotate_left
 ·intro w'
  go_simp
  with_reducible rfl
 rotate_left
 ·simp only [Act.put, sqA, sqZ, sqS, i64_w, i32_w]
  rfl
 refine pure_ (i := 5) (N := some 14) (v := ?_) (a' := ?_) #[true, false, true, false, false, true, false, false, false, false, false, false, false, false, false, false, false, false, false, false, false, false, false, false] rfl rfl (any_of HT_.out (by kernel_rfl)) (fun _ _ _ h => h) (Or.inl ⟨by rfl, ?_⟩) ?_ ?_
 rotate_left
 ·intro w'
  go_simp
  with_reducible rfl
 rotate_left
 ·simp only [Act.put, sqA, sqZ, sqS, i64_w, i32_w]
  rfl
 refine pure_ (i := 7) (N := some 16) (v := ?_) (a' := ?_) #[true, false, true, false, false, true, false, true, false, false, false, false, false, false, false, false, false, false, false, false, false, false, false, false] rfl rfl (any_of HT_.out (by kernel_rfl)) (fun _ _ _ h => h) (Or.inl ⟨by rfl, ?_⟩) ?_ ?_
 rotate_left
 ·intro w'
  go_simp
  with_reducible rfl
 rotate_left
 ·simp only [Act.put, sqA, sqZ, sqS, i64_w, i32_w]
  rfl
 refine pure_ (i := 10) (N := some 19) (v := ?_) (a' := ?_) #[true, false, true, false, false, true, false, true, false, false, true, false, false, false, false, false, false, false, false, false, false, false, false, false] rfl rfl (any_of HT_.out (by kernel_rfl)) (fun _ _ _ h => h) (Or.inl ⟨by rfl, ?_⟩) ?_ ?_
 rotate_left
 ·intro w'
  go_simp
  with_reducible rfl
 rotate_left
 ·simp only [Act.put, sqA, sqZ, sqS, i64_w, i32_w]
  rfl
 refine pure_ (i := 12) (N := some 21) (v := ?_) (a' := ?_) #[true, false, true, false, false, true, false, true, false, false, true, false, true, false, false, false, false, false, false, false, false, false, false, false] rfl rfl (any_of HT_.out (by kernel_rfl)) (fun _ _ _ h => h) (Or.inl ⟨by rfl, ?_⟩) ?_ ?_
 rotate_left
 ·intro w'
  go_simp
  with_reducible rfl
 rotate_left
 ·simp only [Act.put, sqA, sqZ, sqS, i64_w, i32_w]
  rfl
 refine pure_ (i := 15) (N := some 24) (v := ?_) (a' := ?_) #[true, false, true, false, false, true, false, true, false, false, true, false, true, false, false, true, false, false, false, false, false, false, false, false] rfl rfl (any_of HT_.out (by kernel_rfl)) (fun _ _ _ h => h) (Or.inl ⟨by rfl, ?_⟩) ?_ ?_
 rotate_left
 ·intro w'
  go_simp
  with_reducible rfl
 rotate_left
 ·simp only [Act.put, sqA, sqZ, sqS, i64_w, i32_w]
  rfl
 refine pure_ (i := 17) (N := some 26) (v := ?_) (a' := ?_) #[true, false, true, false, false, true, false, true, false, false, true, false, true, false, false, true, false, true, false, false, false, false, false, false] rfl rfl (any_of HT_.out (by kernel_rfl)) (fun _ _ _ h => h) (Or.inl ⟨by rfl, ?_⟩) ?_ ?_
 rotate_left
 ·intro w'
  go_simp
  with_reducible rfl
 rotate_left
 ·simp only [Act.put, sqA, sqZ, sqS, i64_w, i32_w]
  rfl
 refine inv_at [1, 3, 4, 6, 8, 9, 11, 13, 14, 16, 18, 19, 20, 21, 22, 23] (fun a0_ b a w' => ∃ (pb185 : Nat) (pb186 : Nat) (pb187 : Nat) (pb188 : Nat) (m4_ : Value) (m9_ : Value) (m14_ : Value) (m19_ : Value) (m20_ : Value) (m21_ : Value) (m22_ : Value) (m23_ : Value), a = putSel a0_ b [(1, 10, .float .f64 (un pa0_0 a0_0)), (3, 12, .float .f64 (un pa1_0 a1_0)), (4, 13, m4_), (6, 15, .float .f64 (un pa0_1 a0_1)), (8, 17, .float .f64 (un pa1_1 a1_1)), (9, 18, m9_), (11, 20, .float .f64 (un pa0_0 a0_0)), (13, 22, .float .f64 (un pa1_1 a1_1)), (14, 23, m14_), (16, 25, .float .f64 (un pa0_1 a0_1)), (18, 27, .float .f64 (un pa1_0 a1_0)), (19, 28, m19_), (20, 5, m20_), (21, 6, m21_), (22, 7, m22_), (23, 8, m23_)] ∧ (w'.heap[gb182]? = some (.cells #[.float .f64 (un pa0_0 a0_0), .float .f64 (un pa0_1 a0_1)] 42 (0, 0))) ∧ (w'.heap[gb183]? = some (.cells #[.float .f64 (un pa1_0 a1_0), .float .f64 (un pa1_1 a1_1)] 42 (0, 0))) ∧ (w'.heap[gb184]? = some (.cells #[.float .f64 0, .float .f64 0] 42 (0, 0))) ∧ (Below w.heap.size w w') ∧ (b 4 = true → (m4_ : Value) = .float .f64 (un pb185 (fmul a0_0 a1_0))) ∧ (b 9 = true → (m9_ : Value) = .float .f64 (un pb186 (fmul a0_1 a1_1))) ∧ (b 14 = true → (m14_ : Value) = .float .f64 (un pb187 (fmul a0_0 a1_1))) ∧ (b 19 = true → (m19_ : Value) = .float .f64 (un pb188 (fmul a0_1 a1_0))) ∧ (b 20 = true → (m20_ : Value) = .float .f64 (un pb185 (fmul a0_0 a1_0))) ∧ (b 21 = true → (m21_ : Value) = .float .f64 (un pb186 (fmul a0_1 a1_1))) ∧ (b 22 = true → (m22_ : Value) = .float .f64 (un pb187 (fmul a0_0 a1_1))) ∧ (b 23 = true → (m23_ : Value) = .float .f64 (un pb188 (fmul a0_1 a1_0)))) HT_.out HW_.out (by kernel_rfl) (by kernel_rfl) ?_ ?_ ?_
 ·exact ⟨0, 0, 0, 0, .bool false, .bool false, .bool false, .bool false, .bool false, .bool false, .bool false, .bool false, by simp only [putSel, Bool.false_eq_true, if_false], BK182.out, BK183.out, BK184.out, HB.out, fun h_ => absurd h_ (by decide), fun h_ => absurd h_ (by decide), fun h_ => absurd h_ (by decide), fun h_ => absurd h_ (by decide), fun h_ => absurd h_ (by decide), fun h_ => absurd h_ (by decide), fun h_ => absurd h_ (by decide), fun h_ => absurd h_ (by decide)⟩
 ·skip
  clear BK182 BK183 BK184 HB
  refine steps_cons ?_ ?_
  ·rintro b a w' ⟨pb185, pb186, pb187, pb188, m4_, m9_, m14_, m19_, m20_, m21_, m22_, m23_, ha, Q_BK182, Q_BK183, Q_BK184, Q_HB, Q_X4_, Q_X9_, Q_X14_, Q_X19_, Q_X20_, Q_X21_, Q_X22_, Q_X23_⟩ hb_ hon hoff
   refine ⟨_, rfl, fun K hK => ?_⟩
   have e9 : a.tmps[9]? = some (.pointer (some ⟨gb182, 0, none⟩)) := by rw [ha]; exact (putSel_off rfl).trans rfl
   replace ha := Aside0.mk ha
   have BK182 := Aside0.mk Q_BK182
   have BK183 := Aside0.mk Q_BK183
   have BK184 := Aside0.mk Q_BK184
   have HB := Aside0.mk Q_HB
   have hc0_ : w'.cell? ⟨gb182, 0, none⟩ = some (.float .f64 (un pa0_0 a0_0)) := (blk_cell BK182.out 0).trans rfl
   have hc1_ : w'.cell? ⟨gb182, 1, none⟩ = some (.float .f64 (un pa0_1 a0_1)) := (blk_cell BK182.out 1).trans rfl
   refine value_ (w1 := w') (v := .float .f64 (un pa0_0 a0_0)) (by rfl) rfl ?_ ?_
   ·go_simp
    (try simp only [i64_w])
    try rfl
   refine hK.out _ _ ⟨pb185, pb186, pb187, pb188, m4_, m9_, m14_, m19_, m20_, m21_, m22_, m23_, (by rw [ha.out]; exact putSel_upk 0 hb_ rfl rfl rfl), Q_BK182, Q_BK183, Q_BK184, Q_HB, fun h0_ => absurd ((hoff 4 (by kernel_rfl)).symm.trans h0_) (by decide), Q_X9_, Q_X14_, Q_X19_, fun h0_ => absurd ((hoff 20 (by kernel_rfl)).symm.trans h0_) (by decide), fun h0_ => absurd ((hoff 21 (by kernel_rfl)).symm.trans h0_) (by decide), fun h0_ => absurd ((hoff 22 (by kernel_rfl)).symm.trans h0_) (by decide), fun h0_ => absurd ((hoff 23 (by kernel_rfl)).symm.trans h0_) (by decide)⟩
  refine steps_cons ?_ ?_
  ·rintro b a w' ⟨pb185, pb186, pb187, pb188, m4_, m9_, m14_, m19_, m20_, m21_, m22_, m23_, ha, Q_BK182, Q_BK183, Q_BK184, Q_HB, Q_X4_, Q_X9_, Q_X14_, Q_X19_, Q_X20_, Q_X21_, Q_X22_, Q_X23_⟩ hb_ hon hoff
   refine ⟨_, rfl, fun K hK => ?_⟩
   have e11 : a.tmps[11]? = some (.pointer (some ⟨gb183, 0, none⟩)) := by rw [ha]; exact (putSel_off rfl).trans rfl
   replace ha := Aside0.mk ha
   have BK182 := Aside0.mk Q_BK182
   have BK183 := Aside0.mk Q_BK183
   have BK184 := Aside0.mk Q_BK184
   have HB := Aside0.mk Q_HB
   have hc0_ : w'.cell? ⟨gb183, 0, none⟩ = some (.float .f64 (un pa1_0 a1_0)) := (blk_cell BK183.out 0).trans rfl
   have hc1_ : w'.cell? ⟨gb183, 1, none⟩ = some (.float .f64 (un pa1_1 a1_1)) := (blk_cell BK183.out 1).trans rfl
   refine value_ (w1 := w') (v := .float .f64 (un pa1_0 a1_0)) (by rfl) rfl ?_ ?_
   ·go_simp
    (try simp only [i64_w])
    try rfl
   refine hK.out _ _ ⟨pb185, pb186, pb187, pb188, m4_, m9_, m14_, m19_, m20_, m21_, m22_, m23_, (by rw [ha.out]; exact putSel_upk 1 hb_ rfl rfl rfl), Q_BK182, Q_BK183, Q_BK184, Q_HB, fun h0_ => absurd ((hoff 4 (by kernel_rfl)).symm.trans h0_) (by decide), Q_X9_, Q_X14_, Q_X19_, fun h0_ => absurd ((hoff 20 (by kernel_rfl)).symm.trans h0_) (by decide), fun h0_ => absurd ((hoff 21 (by kernel_rfl)).symm.trans h0_) (by decide), fun h0_ => absurd ((hoff 22 (by kernel_rfl)).symm.trans h0_) (by decide), fun h0_ => absurd ((hoff 23 (by kernel_rfl)).symm.trans h0_) (by decide)⟩
  refine steps_cons ?_ ?_
  ·rintro b a w' ⟨pb185, pb186, pb187, pb188, m4_, m9_, m14_, m19_, m20_, m21_, m22_, m23_, ha, Q_BK182, Q_BK183, Q_BK184, Q_HB, Q_X4_, Q_X9_, Q_X14_, Q_X19_, Q_X20_, Q_X21_, Q_X22_, Q_X23_⟩ hb_ hon hoff
   refine ⟨_, rfl, fun K hK => ?_⟩
   have e10 : a.tmps[10]? = some (.float .f64 (un pa0_0 a0_0)) := by rw [ha]; exact putSel_on (e := (1, 10, .float .f64 (un pa0_0 a0_0))) 0 rfl rfl (hon 1 (by kernel_rfl)) rfl
   have e12 : a.tmps[12]? = some (.float .f64 (un pa1_0 a1_0)) := by rw [ha]; exact putSel_on (e := (3, 12, .float .f64 (un pa1_0 a1_0))) 1 rfl rfl (hon 3 (by kernel_rfl)) rfl
   replace ha := Aside0.mk ha
   have BK182 := Aside0.mk Q_BK182
   have BK183 := Aside0.mk Q_BK183
   have BK184 := Aside0.mk Q_BK184
   have HB := Aside0.mk Q_HB
   refine fop_stepB (by rfl) (N := 13) rfl (op := .mul) rfl rfl pa0_0 a0_0 pa1_0 a1_0 (by first | (simp only [Act.eval, Array.getD_eq_getD_getElem?, Option.getD_some, e10, e12]; rfl) | (simp only [Act.eval, Array.getD_eq_getD_getElem?, Option.getD_some, e10, e12]; done) | rfl) (by first | (simp only [Act.eval, Array.getD_eq_getD_getElem?, Option.getD_some, e10, e12]; rfl) | (simp only [Act.eval, Array.getD_eq_getD_getElem?, Option.getD_some, e10, e12]; done) | rfl) ?hA ?hB fmul rfl ?_; (case hA => first | rfl | exact (un_zero _).symm); (case hB => first | rfl | exact (un_zero _).symm)
   intro pb185 w7 hb
   have n0_ := Aside0.mk (blk_below (g := gb182) (o := .cells #[.float .f64 (un pa0_0 a0_0), .float .f64 (un pa0_1 a0_1)] 42 (0, 0)) (by (with_reducible repeat (first | refine blk_drewN ?_ _ | refine blk_drew ?_ | refine blk_alloc ?_ _)); exact BK182.out) hb)
   have n1_ := Aside0.mk (blk_below (g := gb183) (o := .cells #[.float .f64 (un pa1_0 a1_0), .float .f64 (un pa1_1 a1_1)] 42 (0, 0)) (by (with_reducible repeat (first | refine blk_drewN ?_ _ | refine blk_drew ?_ | refine blk_alloc ?_ _)); exact BK183.out) hb)
   have n2_ := Aside0.mk (blk_below (g := gb184) (o := .cells #[.float .f64 0, .float .f64 0] 42 (0, 0)) (by (with_reducible repeat (first | refine blk_drewN ?_ _ | refine blk_drew ?_ | refine blk_alloc ?_ _)); exact BK184.out) hb)
   have n3_ := Aside0.mk (below_step (by repeat (first | (with_reducible first | exact HB.out | apply below_alloc | apply pw_below_drewN | apply below_drew1 | refine below_set ?_ GE182.out | refine below_set ?_ GE183.out | refine below_set ?_ GE184.out) | exact HB.out)) hb)
   clear BK182
   clear BK183
   clear BK184
   clear HB
   have BK182 := n0_
   have BK183 := n1_
   have BK184 := n2_
   have HB := n3_
   clear n0_ n1_ n2_ n3_
   (try clear hb)
   refine hK.out _ _ ⟨pb185, pb186, pb187, pb188, (.float .f64 (un pb185 (fmul a0_0 a1_0))), m9_, m14_, m19_, m20_, m21_, m22_, m23_, (by rw [ha.out]; exact putSel_upk 2 hb_ rfl rfl rfl), (by (with_reducible repeat (first | refine blk_drewN ?_ _ | refine blk_drew ?_ | refine blk_alloc ?_ _)); exact BK182.out), (by (with_reducible repeat (first | refine blk_drewN ?_ _ | refine blk_drew ?_ | refine blk_alloc ?_ _)); exact BK183.out), (by (with_reducible repeat (first | refine blk_drewN ?_ _ | refine blk_drew ?_ | refine blk_alloc ?_ _)); exact BK184.out), (by repeat (first | (with_reducible first | exact HB.out | apply below_alloc | apply pw_below_drewN | apply below_drew1 | refine below_set ?_ GE182.out | refine below_set ?_ GE183.out | refine below_set ?_ GE184.out) | exact HB.out)), fun _ => rfl, Q_X9_, Q_X14_, Q_X19_, fun h0_ => absurd ((hoff 20 (by kernel_rfl)).symm.trans h0_) (by decide), fun h0_ => absurd ((hoff 21 (by kernel_rfl)).symm.trans h0_) (by decide), fun h0_ => absurd ((hoff 22 (by kernel_rfl)).symm.trans h0_) (by decide), fun h0_ => absurd ((hoff 23 (by kernel_rfl)).symm.trans h0_) (by decide)⟩
  refine steps_cons ?_ ?_
  ·rintro b a w' ⟨pb185, pb186, pb187, pb188, m4_, m9_, m14_, m19_, m20_, m21_, m22_, m23_, ha, Q_BK182, Q_BK183, Q_BK184, Q_HB, Q_X4_, Q_X9_, Q_X14_, Q_X19_, Q_X20_, Q_X21_, Q_X22_, Q_X23_⟩ hb_ hon hoff
   refine ⟨_, rfl, fun K hK => ?_⟩
   have e14 : a.tmps[14]? = some (.pointer (some ⟨gb182, 1, none⟩)) := by rw [ha]; exact (putSel_off rfl).trans rfl
   replace ha := Aside0.mk ha
   have BK182 := Aside0.mk Q_BK182
   have BK183 := Aside0.mk Q_BK183
   have BK184 := Aside0.mk Q_BK184
   have HB := Aside0.mk Q_HB
   have hc0_ : w'.cell? ⟨gb182, 0, none⟩ = some (.float .f64 (un pa0_0 a0_0)) := (blk_cell BK182.out 0).trans rfl
   have hc1_ : w'.cell? ⟨gb182, 1, none⟩ = some (.float .f64 (un pa0_1 a0_1)) := (blk_cell BK182.out 1).trans rfl
   refine value_ (w1 := w') (v := .float .f64 (un pa0_1 a0_1)) (by rfl) rfl ?_ ?_
   ·go_simp
    (try simp only [i64_w])
    try rfl
   refine hK.out _ _ ⟨pb185, pb186, pb187, pb188, m4_, m9_, m14_, m19_, m20_, m21_, m22_, m23_, (by rw [ha.out]; exact putSel_upk 3 hb_ rfl rfl rfl), Q_BK182, Q_BK183, Q_BK184, Q_HB, Q_X4_, fun h0_ => absurd ((hoff 9 (by kernel_rfl)).symm.trans h0_) (by decide), Q_X14_, Q_X19_, Q_X20_, fun h0_ => absurd ((hoff 21 (by kernel_rfl)).symm.trans h0_) (by decide), fun h0_ => absurd ((hoff 22 (by kernel_rfl)).symm.trans h0_) (by decide), fun h0_ => absurd ((hoff 23 (by kernel_rfl)).symm.trans h0_) (by decide)⟩
  refine steps_cons ?_ ?_
  ·rintro b a w' ⟨pb185, pb186, pb187, pb188, m4_, m9_, m14_, m19_, m20_, m21_, m22_, m23_, ha, Q_BK182, Q_BK183, Q_BK184, Q_HB, Q_X4_, Q_X9_, Q_X14_, Q_X19_, Q_X20_, Q_X21_, Q_X22_, Q_X23_⟩ hb_ hon hoff
   refine ⟨_, rfl, fun K hK => ?_⟩
   have e16 : a.tmps[16]? = some (.pointer (some ⟨gb183, 1, none⟩)) := by rw [ha]; exact (putSel_off rfl).trans rfl
   replace ha := Aside0.mk ha
   have BK182 := Aside0.mk Q_BK182
   have BK183 := Aside0.mk Q_BK183
   have BK184 := Aside0.mk Q_BK184
   have HB := Aside0.mk Q_HB
   have hc0_ : w'.cell? ⟨gb183, 0, none⟩ = some (.float .f64 (un pa1_0 a1_0)) := (blk_cell BK183.out 0).trans rfl
   have hc1_ : w'.cell? ⟨gb183, 1, none⟩ = some (.float .f64 (un pa1_1 a1_1)) := (blk_cell BK183.out 1).trans rfl
   refine value_ (w1 := w') (v := .float .f64 (un pa1_1 a1_1)) (by rfl) rfl ?_ ?_
   ·go_simp
    (try simp only [i64_w])
    try rfl
   refine hK.out _ _ ⟨pb185, pb186, pb187, pb188, m4_, m9_, m14_, m19_, m20_, m21_, m22_, m23_, (by rw [ha.out]; exact putSel_upk 4 hb_ rfl rfl rfl), Q_BK182, Q_BK183, Q_BK184, Q_HB, Q_X4_, fun h0_ => absurd ((hoff 9 (by kernel_rfl)).symm.trans h0_) (by decide), Q_X14_, Q_X19_, Q_X20_, fun h0_ => absurd ((hoff 21 (by kernel_rfl)).symm.trans h0_) (by decide), fun h0_ => absurd ((hoff 22 (by kernel_rfl)).symm.trans h0_) (by decide), fun h0_ => absurd ((hoff 23 (by kernel_rfl)).symm.trans h0_) (by decide)⟩
  refine steps_cons ?_ ?_
  ·rintro b a w' ⟨pb185, pb186, pb187, pb188, m4_, m9_, m14_, m19_, m20_, m21_, m22_, m23_, ha, Q_BK182, Q_BK183, Q_BK184, Q_HB, Q_X4_, Q_X9_, Q_X14_, Q_X19_, Q_X20_, Q_X21_, Q_X22_, Q_X23_⟩ hb_ hon hoff
   refine ⟨_, rfl, fun K hK => ?_⟩
   have e15 : a.tmps[15]? = some (.float .f64 (un pa0_1 a0_1)) := by rw [ha]; exact putSel_on (e := (6, 15, .float .f64 (un pa0_1 a0_1))) 3 rfl rfl (hon 6 (by kernel_rfl)) rfl
   have e17 : a.tmps[17]? = some (.float .f64 (un pa1_1 a1_1)) := by rw [ha]; exact putSel_on (e := (8, 17, .float .f64 (un pa1_1 a1_1))) 4 rfl rfl (hon 8 (by kernel_rfl)) rfl
   replace ha := Aside0.mk ha
   have BK182 := Aside0.mk Q_BK182
   have BK183 := Aside0.mk Q_BK183
   have BK184 := Aside0.mk Q_BK184
   have HB := Aside0.mk Q_HB
   refine fop_stepB (by rfl) (N := 18) rfl (op := .mul) rfl rfl pa0_1 a0_1 pa1_1 a1_1 (by first | (simp only [Act.eval, Array.getD_eq_getD_getElem?, Option.getD_some, e15, e17]; rfl) | (simp only [Act.eval, Array.getD_eq_getD_getElem?, Option.getD_some, e15, e17]; done) | rfl) (by first | (simp only [Act.eval, Array.getD_eq_getD_getElem?, Option.getD_some, e15, e17]; rfl) | (simp only [Act.eval, Array.getD_eq_getD_getElem?, Option.getD_some, e15, e17]; done) | rfl) ?hA ?hB fmul rfl ?_; (case hA => first | rfl | exact (un_zero _).symm); (case hB => first | rfl | exact (un_zero _).symm)
   intro pb186 w7 hb
   have n0_ := Aside0.mk (blk_below (g := gb182) (o := .cells #[.float .f64 (un pa0_0 a0_0), .float .f64 (un pa0_1 a0_1)] 42 (0, 0)) (by (with_reducible repeat (first | refine blk_drewN ?_ _ | refine blk_drew ?_ | refine blk_alloc ?_ _)); exact BK182.out) hb)
   have n1_ := Aside0.mk (blk_below (g := gb183) (o := .cells #[.float .f64 (un pa1_0 a1_0), .float .f64 (un pa1_1 a1_1)] 42 (0, 0)) (by (with_reducible repeat (first | refine blk_drewN ?_ _ | refine blk_drew ?_ | refine blk_alloc ?_ _)); exact BK183.out) hb)
   have n2_ := Aside0.mk (blk_below (g := gb184) (o := .cells #[.float .f64 0, .float .f64 0] 42 (0, 0)) (by (with_reducible repeat (first | refine blk_drewN ?_ _ | refine blk_drew ?_ | refine blk_alloc ?_ _)); exact BK184.out) hb)
   have n3_ := Aside0.mk (below_step (by repeat (first | (with_reducible first | exact HB.out | apply below_alloc | apply pw_below_drewN | apply below_drew1 | refine below_set ?_ GE182.out | refine below_set ?_ GE183.out | refine below_set ?_ GE184.out) | exact HB.out)) hb)
   clear BK182
   clear BK183
   clear BK184
   clear HB
   have BK182 := n0_
   have BK183 := n1_
   have BK184 := n2_
   have HB := n3_
   clear n0_ n1_ n2_ n3_
   (try clear hb)
   refine hK.out _ _ ⟨pb185, pb186, pb187, pb188, m4_, (.float .f64 (un pb186 (fmul a0_1 a1_1))), m14_, m19_, m20_, m21_, m22_, m23_, (by rw [ha.out]; exact putSel_upk 5 hb_ rfl rfl rfl), (by (with_reducible repeat (first | refine blk_drewN ?_ _ | refine blk_drew ?_ | refine blk_alloc ?_ _)); exact BK182.out), (by (with_reducible repeat (first | refine blk_drewN ?_ _ | refine blk_drew ?_ | refine blk_alloc ?_ _)); exact BK183.out), (by (with_reducible repeat (first | refine blk_drewN ?_ _ | refine blk_drew ?_ | refine blk_alloc ?_ _)); exact BK184.out), (by repeat (first | (with_reducible first | exact HB.out | apply below_alloc | apply pw_below_drewN | apply below_drew1 | refine below_set ?_ GE182.out | refine below_set ?_ GE183.out | refine below_set ?_ GE184.out) | exact HB.out)), Q_X4_, fun _ => rfl, Q_X14_, Q_X19_, Q_X20_, fun h0_ => absurd ((hoff 21 (by kernel_rfl)).symm.trans h0_) (by decide), fun h0_ => absurd ((hoff 22 (by kernel_rfl)).symm.trans h0_) (by decide), fun h0_ => absurd ((hoff 23 (by kernel_rfl)).symm.trans h0_) (by decide)⟩
  refine steps_cons ?_ ?_
  ·rintro b a w' ⟨pb185, pb186, pb187, pb188, m4_, m9_, m14_, m19_, m20_, m21_, m22_, m23_, ha, Q_BK182, Q_BK183, Q_BK184, Q_HB, Q_X4_, Q_X9_, Q_X14_, Q_X19_, Q_X20_, Q_X21_, Q_X22_, Q_X23_⟩ hb_ hon hoff
   refine ⟨_, rfl, fun K hK => ?_⟩
   have e19 : a.tmps[19]? = some (.pointer (some ⟨gb182, 0, none⟩)) := by rw [ha]; exact (putSel_off rfl).trans rfl
   replace ha := Aside0.mk ha
   have BK182 := Aside0.mk Q_BK182
   have BK183 := Aside0.mk Q_BK183
   have BK184 := Aside0.mk Q_BK184
   have HB := Aside0.mk Q_HB
   have hc0_ : w'.cell? ⟨gb182, 0, none⟩ = some (.float .f64 (un pa0_0 a0_0)) := (blk_cell BK182.out 0).trans rfl
   have hc1_ : w'.cell? ⟨gb182, 1, none⟩ = some (.float .f64 (un pa0_1 a0_1)) := (blk_cell BK182.out 1).trans rfl
   refine value_ (w1 := w') (v := .float .f64 (un pa0_0 a0_0)) (by rfl) rfl ?_ ?_
   ·go_simp
    (try simp only [i64_w])
    try rfl
   refine hK.out _ _ ⟨pb185, pb186, pb187, pb188, m4_, m9_, m14_, m19_, m20_, m21_, m22_, m23_, (by rw [ha.out]; exact putSel_upk 6 hb_ rfl rfl rfl), Q_BK182, Q_BK183, Q_BK184, Q_HB, Q_X4_, Q_X9_, fun h0_ => absurd ((hoff 14 (by kernel_rfl)).symm.trans h0_) (by decide), Q_X19_, Q_X20_, Q_X21_, fun h0_ => absurd ((hoff 22 (by kernel_rfl)).symm.trans h0_) (by decide), fun h0_ => absurd ((hoff 23 (by kernel_rfl)).symm.trans h0_) (by decide)⟩
  refine steps_cons ?_ ?_
  ·rintro b a w' ⟨pb185, pb186, pb187, pb188, m4_, m9_, m14_, m19_, m20_, m21_, m22_, m23_, ha, Q_BK182, Q_BK183, Q_BK184, Q_HB, Q_X4_, Q_X9_, Q_X14_, Q_X19_, Q_X20_, Q_X21_, Q_X22_, Q_X23_⟩ hb_ hon hoff
   refine ⟨_, rfl, fun K hK => ?_⟩
   have e21 : a.tmps[21]? = some (.pointer (some ⟨gb183, 1, none⟩)) := by rw [ha]; exact (putSel_off rfl).trans rfl
   replace ha := Aside0.mk ha
   have BK182 := Aside0.mk Q_BK182
   have BK183 := Aside0.mk Q_BK183
   have BK184 := Aside0.mk Q_BK184
   have HB := Aside0.mk Q_HB
   have hc0_ : w'.cell? ⟨gb183, 0, none⟩ = some (.float .f64 (un pa1_0 a1_0)) := (blk_cell BK183.out 0).trans rfl
   have hc1_ : w'.cell? ⟨gb183, 1, none⟩ = some (.float .f64 (un pa1_1 a1_1)) := (blk_cell BK183.out 1).trans rfl
   refine value_ (w1 := w') (v := .float .f64 (un pa1_1 a1_1)) (by rfl) rfl ?_ ?_
   ·go_simp
    (try simp only [i64_w])
    try rfl
   refine hK.out _ _ ⟨pb185, pb186, pb187, pb188, m4_, m9_, m14_, m19_, m20_, m21_, m22_, m23_, (by rw [ha.out]; exact putSel_upk 7 hb_ rfl rfl rfl), Q_BK182, Q_BK183, Q_BK184, Q_HB, Q_X4_, Q_X9_, fun h0_ => absurd ((hoff 14 (by kernel_rfl)).symm.trans h0_) (by decide), Q_X19_, Q_X20_, Q_X21_, fun h0_ => absurd ((hoff 22 (by kernel_rfl)).symm.trans h0_) (by decide), fun h0_ => absurd ((hoff 23 (by kernel_rfl)).symm.trans h0_) (by decide)⟩
  refine steps_cons ?_ ?_
  ·rintro b a w' ⟨pb185, pb186, pb187, pb188, m4_, m9_, m14_, m19_, m20_, m21_, m22_, m23_, ha, Q_BK182, Q_BK183, Q_BK184, Q_HB, Q_X4_, Q_X9_, Q_X14_, Q_X19_, Q_X20_, Q_X21_, Q_X22_, Q_X23_⟩ hb_ hon hoff
   refine ⟨_, rfl, fun K hK => ?_⟩
   have e20 : a.tmps[20]? = some (.float .f64 (un pa0_0 a0_0)) := by rw [ha]; exact putSel_on (e := (11, 20, .float .f64 (un pa0_0 a0_0))) 6 rfl rfl (hon 11 (by kernel_rfl)) rfl
   have e22 : a.tmps[22]? = some (.float .f64 (un pa1_1 a1_1)) := by rw [ha]; exact putSel_on (e := (13, 22, .float .f64 (un pa1_1 a1_1))) 7 rfl rfl (hon 13 (by kernel_rfl)) rfl
   replace ha := Aside0.mk ha
   have BK182 := Aside0.mk Q_BK182
   have BK183 := Aside0.mk Q_BK183
   have BK184 := Aside0.mk Q_BK184
   have HB := Aside0.mk Q_HB
   refine fop_stepB (by rfl) (N := 23) rfl (op := .mul) rfl rfl pa0_0 a0_0 pa1_1 a1_1 (by first | (simp only [Act.eval, Array.getD_eq_getD_getElem?, Option.getD_some, e20, e22]; rfl) | (simp only [Act.eval, Array.getD_eq_getD_getElem?, Option.getD_some, e20, e22]; done) | rfl) (by first | (simp only [Act.eval, Array.getD_eq_getD_getElem?, Option.getD_some, e20, e22]; rfl) | (simp only [Act.eval, Array.getD_eq_getD_getElem?, Option.getD_some, e20, e22]; done) | rfl) ?hA ?hB fmul rfl ?_; (case hA => first | rfl | exact (un_zero _).symm); (case hB => first | rfl | exact (un_zero _).symm)
   intro pb187 w7 hb
   have n0_ := Aside0.mk (blk_below (g := gb182) (o := .cells #[.float .f64 (un pa0_0 a0_0), .float .f64 (un pa0_1 a0_1)] 42 (0, 0)) (by (with_reducible repeat (first | refine blk_drewN ?_ _ | refine blk_drew ?_ | refine blk_alloc ?_ _)); exact BK182.out) hb)
   have n1_ := Aside0.mk (blk_below (g := gb183) (o := .cells #[.float .f64 (un pa1_0 a1_0), .float .f64 (un pa1_1 a1_1)] 42 (0, 0)) (by (with_reducible repeat (first | refine blk_drewN ?_ _ | refine blk_drew ?_ | refine blk_alloc ?_ _)); exact BK183.out) hb)
   have n2_ := Aside0.mk (blk_below (g := gb184) (o := .cells #[.float .f64 0, .float .f64 0] 42 (0, 0)) (by (with_reducible repeat (first | refine blk_drewN ?_ _ | refine blk_drew ?_ | refine blk_alloc ?_ _)); exact BK184.out) hb)
   have n3_ := Aside0.mk (below_step (by repeat (first | (with_reducible first | exact HB.out | apply below_alloc | apply pw_below_drewN | apply below_drew1 | refine below_set ?_ GE182.out | refine below_set ?_ GE183.out | refine below_set ?_ GE184.out) | exact HB.out)) hb)
   clear BK182
   clear BK183
   clear BK184
   clear HB
   have BK182 := n0_
   have BK183 := n1_
   have BK184 := n2_
   have HB := n3_
   clear n0_ n1_ n2_ n3_
   (try clear hb)
   refine hK.out _ _ ⟨pb185, pb186, pb187, pb188, m4_, m9_, (.float .f64 (un pb187 (fmul a0_0 a1_1))), m19_, m20_, m21_, m22_, m23_, (by rw [ha.out]; exact putSel_upk 8 hb_ rfl rfl rfl), (by (with_reducible repeat (first | refine blk_drewN ?_ _ | refine blk_drew ?_ | refine blk_alloc ?_ _)); exact BK182.out), (by (with_reducible repeat (first | refine blk_drewN ?_ _ | refine blk_drew ?_ | refine blk_alloc ?_ _)); exact BK183.out), (by (with_reducible repeat (first | refine blk_drewN ?_ _ | refine blk_drew ?_ | refine blk_alloc ?_ _)); exact BK184.out), (by repeat (first | (with_reducible first | exact HB.out | apply below_alloc | apply pw_below_drewN | apply below_drew1 | refine below_set ?_ GE182.out | refine below_set ?_ GE183.out | refine below_set ?_ GE184.out) | exact HB.out)), Q_X4_, Q_X9_, fun _ => rfl, Q_X19_, Q_X20_, Q_X21_, fun h0_ => absurd ((hoff 22 (by kernel_rfl)).symm.trans h0_) (by decide), fun h0_ => absurd ((hoff 23 (by kernel_rfl)).symm.trans h0_) (by decide)⟩
  refine steps_cons ?_ ?_
  ·rintro b a w' ⟨pb185, pb186, pb187, pb188, m4_, m9_, m14_, m19_, m20_, m21_, m22_, m23_, ha, Q_BK182, Q_BK183, Q_BK184, Q_HB, Q_X4_, Q_X9_, Q_X14_, Q_X19_, Q_X20_, Q_X21_, Q_X22_, Q_X23_⟩ hb_ hon hoff
   refine ⟨_, rfl, fun K hK => ?_⟩
   have e24 : a.tmps[24]? = some (.pointer (some ⟨gb182, 1, none⟩)) := by rw [ha]; exact (putSel_off rfl).trans rfl
   replace ha := Aside0.mk ha
   have BK182 := Aside0.mk Q_BK182
   have BK183 := Aside0.mk Q_BK183
   have BK184 := Aside0.mk Q_BK184
   have HB := Aside0.mk Q_HB
   have hc0_ : w'.cell? ⟨gb182, 0, none⟩ = some (.float .f64 (un pa0_0 a0_0)) := (blk_cell BK182.out 0).trans rfl
   have hc1_ : w'.cell? ⟨gb182, 1, none⟩ = some (.float .f64 (un pa0_1 a0_1)) := (blk_cell BK182.out 1).trans rfl
   refine value_ (w1 := w') (v := .float .f64 (un pa0_1 a0_1)) (by rfl) rfl ?_ ?_
   ·go_simp
    (try simp only [i64_w])
    try rfl
   refine hK.out _ _ ⟨pb185, pb186, pb187, pb188, m4_, m9_, m14_, m19_, m20_, m21_, m22_, m23_, (by rw [ha.out]; exact putSel_upk 9 hb_ rfl rfl rfl), Q_BK182, Q_BK183, Q_BK184, Q_HB, Q_X4_, Q_X9_, Q_X14_, fun h0_ => absurd ((hoff 19 (by kernel_rfl)).symm.trans h0_) (by decide), Q_X20_, Q_X21_, Q_X22_, fun h0_ => absurd ((hoff 23 (by kernel_rfl)).symm.trans h0_) (by decide)⟩
  refine steps_cons ?_ ?_
  ·rintro b a w' ⟨pb185, pb186, pb187, pb188, m4_, m9_, m14_, m19_, m20_, m21_, m22_, m23_, ha, Q_BK182, Q_BK183, Q_BK184, Q_HB, Q_X4_, Q_X9_, Q_X14_, Q_X19_, Q_X20_, Q_X21_, Q_X22_, Q_X23_⟩ hb_ hon hoff
   refine ⟨_, rfl, fun K hK => ?_⟩
   have e26 : a.tmps[26]? = some (.pointer (some ⟨gb183, 0, none⟩)) := by rw [ha]; exact (putSel_off rfl).trans rfl
   replace ha := Aside0.mk ha
   have BK182 := Aside0.mk Q_BK182
   have BK183 := Aside0.mk Q_BK183
   have BK184 := Aside0.mk Q_BK184
   have HB := Aside0.mk Q_HB
   have hc0_ : w'.cell? ⟨gb183, 0, none⟩ = some (.float .f64 (un pa1_0 a1_0)) := (blk_cell BK183.out 0).trans rfl
   have hc1_ : w'.cell? ⟨gb183, 1, none⟩ = some (.float .f64 (un pa1_1 a1_1)) := (blk_cell BK183.out 1).trans rfl
   refine value_ (w1 := w') (v := .float .f64 (un pa1_0 a1_0)) (by rfl) rfl ?_ ?_
   ·go_simp
    (try simp only [i64_w])
    try rfl
   refine hK.out _ _ ⟨pb185, pb186, pb187, pb188, m4_, m9_, m14_, m19_, m20_, m21_, m22_, m23_, (by rw [ha.out]; exact putSel_upk 10 hb_ rfl rfl rfl), Q_BK182, Q_BK183, Q_BK184, Q_HB, Q_X4_, Q_X9_, Q_X14_, fun h0_ => absurd ((hoff 19 (by kernel_rfl)).symm.trans h0_) (by decide), Q_X20_, Q_X21_, Q_X22_, fun h0_ => absurd ((hoff 23 (by kernel_rfl)).symm.trans h0_) (by decide)⟩
  refine steps_cons ?_ ?_
  ·rintro b a w' ⟨pb185, pb186, pb187, pb188, m4_, m9_, m14_, m19_, m20_, m21_, m22_, m23_, ha, Q_BK182, Q_BK183, Q_BK184, Q_HB, Q_X4_, Q_X9_, Q_X14_, Q_X19_, Q_X20_, Q_X21_, Q_X22_, Q_X23_⟩ hb_ hon hoff
   refine ⟨_, rfl, fun K hK => ?_⟩
   have e25 : a.tmps[25]? = some (.float .f64 (un pa0_1 a0_1)) := by rw [ha]; exact putSel_on (e := (16, 25, .float .f64 (un pa0_1 a0_1))) 9 rfl rfl (hon 16 (by kernel_rfl)) rfl
   have e27 : a.tmps[27]? = some (.float .f64 (un pa1_0 a1_0)) := by rw [ha]; exact putSel_on (e := (18, 27, .float .f64 (un pa1_0 a1_0))) 10 rfl rfl (hon 18 (by kernel_rfl)) rfl
   replace ha := Aside0.mk ha
   have BK182 := Aside0.mk Q_BK182
   have BK183 := Aside0.mk Q_BK183
   have BK184 := Aside0.mk Q_BK184
   have HB := Aside0.mk Q_HB
   refine fop_stepB (by rfl) (N := 28) rfl (op := .mul) rfl rfl pa0_1 a0_1 pa1_0 a1_0 (by first | (simp only [Act.eval, Array.getD_eq_getD_getElem?, Option.getD_some, e25, e27]; rfl) | (simp only [Act.eval, Array.getD_eq_getD_getElem?, Option.getD_some, e25, e27]; done) | rfl) (by first | (simp only [Act.eval, Array.getD_eq_getD_getElem?, Option.getD_some, e25, e27]; rfl) | (simp only [Act.eval, Array.getD_eq_getD_getElem?, Option.getD_some, e25, e27]; done) | rfl) ?hA ?hB fmul rfl ?_; (case hA => first | rfl | exact (un_zero _).symm); (case hB => first | rfl | exact (un_zero _).symm)
   intro pb188 w7 hb
   have n0_ := Aside0.mk (blk_below (g := gb182) (o := .cells #[.float .f64 (un pa0_0 a0_0), .float .f64 (un pa0_1 a0_1)] 42 (0, 0)) (by (with_reducible repeat (first | refine blk_drewN ?_ _ | refine blk_drew ?_ | refine blk_alloc ?_ _)); exact BK182.out) hb)
   have n1_ := Aside0.mk (blk_below (g := gb183) (o := .cells #[.float .f64 (un pa1_0 a1_0), .float .f64 (un pa1_1 a1_1)] 42 (0, 0)) (by (with_reducible repeat (first | refine blk_drewN ?_ _ | refine blk_drew ?_ | refine blk_alloc ?_ _)); exact BK183.out) hb)
   have n2_ := Aside0.mk (blk_below (g := gb184) (o := .cells #[.float .f64 0, .float .f64 0] 42 (0, 0)) (by (with_reducible repeat (first | refine blk_drewN ?_ _ | refine blk_drew ?_ | refine blk_alloc ?_ _)); exact BK184.out) hb)
   have n3_ := Aside0.mk (below_step (by repeat (first | (with_reducible first | exact HB.out | apply below_alloc | apply pw_below_drewN | apply below_drew1 | refine below_set ?_ GE182.out | refine below_set ?_ GE183.out | refine below_set ?_ GE184.out) | exact HB.out)) hb)
   clear BK182
   clear BK183
   clear BK184
   clear HB
   have BK182 := n0_
   have BK183 := n1_
   have BK184 := n2_
   have HB := n3_
   clear n0_ n1_ n2_ n3_
   (try clear hb)
   refine hK.out _ _ ⟨pb185, pb186, pb187, pb188, m4_, m9_, m14_, (.float .f64 (un pb188 (fmul a0_1 a1_0))), m20_, m21_, m22_, m23_, (by rw [ha.out]; exact putSel_upk 11 hb_ rfl rfl rfl), (by (with_reducible repeat (first | refine blk_drewN ?_ _ | refine blk_drew ?_ | refine blk_alloc ?_ _)); exact BK182.out), (by (with_reducible repeat (first | refine blk_drewN ?_ _ | refine blk_drew ?_ | refine blk_alloc ?_ _)); exact BK183.out), (by (with_reducible repeat (first | refine blk_drewN ?_ _ | refine blk_drew ?_ | refine blk_alloc ?_ _)); exact BK184.out), (by repeat (first | (with_reducible first | exact HB.out | apply below_alloc | apply pw_below_drewN | apply below_drew1 | refine below_set ?_ GE182.out | refine below_set ?_ GE183.out | refine below_set ?_ GE184.out) | exact HB.out)), Q_X4_, Q_X9_, Q_X14_, fun _ => rfl, Q_X20_, Q_X21_, Q_X22_, fun h0_ => absurd ((hoff 23 (by kernel_rfl)).symm.trans h0_) (by decide)⟩
  refine steps_cons ?_ ?_
  ·rintro b a w' ⟨pb185, pb186, pb187, pb188, m4_, m9_, m14_, m19_, m20_, m21_, m22_, m23_, ha, Q_BK182, Q_BK183, Q_BK184, Q_HB, Q_X4_, Q_X9_, Q_X14_, Q_X19_, Q_X20_, Q_X21_, Q_X22_, Q_X23_⟩ hb_ hon hoff
   refine ⟨_, rfl, fun K hK => ?_⟩
   have e13 : a.tmps[13]? = some (m4_) := by rw [ha]; exact putSel_on (e := (4, 13, m4_)) 2 rfl rfl (hon 4 (by kernel_rfl)) rfl
   rw [Q_X4_ (hon 4 (by kernel_rfl))] at e13
   replace ha := Aside0.mk ha
   have BK182 := Aside0.mk Q_BK182
   have BK183 := Aside0.mk Q_BK183
   have BK184 := Aside0.mk Q_BK184
   have HB := Aside0.mk Q_HB
   refine value_ (w1 := w') (v := .float .f64 (un pb185 (fmul a0_0 a1_0))) (by rfl) rfl ?_ ?_
   ·go_simp
    (try simp only [i64_w])
    try rfl
   refine hK.out _ _ ⟨pb185, pb186, pb187, pb188, m4_, m9_, m14_, m19_, (.float .f64 (un pb185 (fmul a0_0 a1_0))), m21_, m22_, m23_, (by rw [ha.out]; exact putSel_upk 12 hb_ rfl rfl rfl), Q_BK182, Q_BK183, Q_BK184, Q_HB, Q_X4_, Q_X9_, Q_X14_, Q_X19_, fun _ => rfl, fun h0_ => absurd ((hoff 21 (by kernel_rfl)).symm.trans h0_) (by decide), fun h0_ => absurd ((hoff 22 (by kernel_rfl)).symm.trans h0_) (by decide), fun h0_ => absurd ((hoff 23 (by kernel_rfl)).symm.trans h0_) (by decide)⟩
  refine steps_cons ?_ ?_
  ·rintro b a w' ⟨pb185, pb186, pb187, pb188, m4_, m9_, m14_, m19_, m20_, m21_, m22_, m23_, ha, Q_BK182, Q_BK183, Q_BK184, Q_HB, Q_X4_, Q_X9_, Q_X14_, Q_X19_, Q_X20_, Q_X21_, Q_X22_, Q_X23_⟩ hb_ hon hoff
   refine ⟨_, rfl, fun K hK => ?_⟩
   have e18 : a.tmps[18]? = some (m9_) := by rw [ha]; exact putSel_on (e := (9, 18, m9_)) 5 rfl rfl (hon 9 (by kernel_rfl)) rfl
   rw [Q_X9_ (hon 9 (by kernel_rfl))] at e18
   replace ha := Aside0.mk ha
   have BK182 := Aside0.mk Q_BK182
   have BK183 := Aside0.mk Q_BK183
   have BK184 := Aside0.mk Q_BK184
   have HB := Aside0.mk Q_HB
   refine value_ (w1 := w') (v := .float .f64 (un pb186 (fmul a0_1 a1_1))) (by rfl) rfl ?_ ?_
   ·go_simp
    (try simp only [i64_w])
    try rfl
   refine hK.out _ _ ⟨pb185, pb186, pb187, pb188, m4_, m9_, m14_, m19_, m20_, (.float .f64 (un pb186 (fmul a0_1 a1_1))), m22_, m23_, (by rw [ha.out]; exact putSel_upk 13 hb_ rfl rfl rfl), Q_BK182, Q_BK183, Q_BK184, Q_HB, Q_X4_, Q_X9_, Q_X14_, Q_X19_, Q_X20_, fun _ => rfl, fun h0_ => absurd ((hoff 22 (by kernel_rfl)).symm.trans h0_) (by decide), fun h0_ => absurd ((hoff 23 (by kernel_rfl)).symm.trans h0_) (by decide)⟩
  refine steps_cons ?_ ?_
  ·rintro b a w' ⟨pb185, pb186, pb187, pb188, m4_, m9_, m14_, m19_, m20_, m21_, m22_, m23_, ha, Q_BK182, Q_BK183, Q_BK184, Q_HB, Q_X4_, Q_X9_, Q_X14_, Q_X19_, Q_X20_, Q_X21_, Q_X22_, Q_X23_⟩ hb_ hon hoff
   refine ⟨_, rfl, fun K hK => ?_⟩
   have e23 : a.tmps[23]? = some (m14_) := by rw [ha]; exact putSel_on (e := (14, 23, m14_)) 8 rfl rfl (hon 14 (by kernel_rfl)) rfl
   rw [Q_X14_ (hon 14 (by kernel_rfl))] at e23
   replace ha := Aside0.mk ha
   have BK182 := Aside0.mk Q_BK182
   have BK183 := Aside0.mk Q_BK183
   have BK184 := Aside0.mk Q_BK184
   have HB := Aside0.mk Q_HB
   refine value_ (w1 := w') (v := .float .f64 (un pb187 (fmul a0_0 a1_1))) (by rfl) rfl ?_ ?_
   ·go_simp
    (try simp only [i64_w])
    try rfl
   refine hK.out _ _ ⟨pb185, pb186, pb187, pb188, m4_, m9_, m14_, m19_, m20_, m21_, (.float .f64 (un pb187 (fmul a0_0 a1_1))), m23_, (by rw [ha.out]; exact putSel_upk 14 hb_ rfl rfl rfl), Q_BK182, Q_BK183, Q_BK184, Q_HB, Q_X4_, Q_X9_, Q_X14_, Q_X19_, Q_X20_, Q_X21_, fun _ => rfl, fun h0_ => absurd ((hoff 23 (by kernel_rfl)).symm.trans h0_) (by decide)⟩
  refine steps_cons ?_ ?_
  ·rintro b a w' ⟨pb185, pb186, pb187, pb188, m4_, m9_, m14_, m19_, m20_, m21_, m22_, m23_, ha, Q_BK182, Q_BK183, Q_BK184, Q_HB, Q_X4_, Q_X9_, Q_X14_, Q_X19_, Q_X20_, Q_X21_, Q_X22_, Q_X23_⟩ hb_ hon hoff
   refine ⟨_, rfl, fun K hK => ?_⟩
   have e28 : a.tmps[28]? = some (m19_) := by rw [ha]; exact putSel_on (e := (19, 28, m19_)) 11 rfl rfl (hon 19 (by kernel_rfl)) rfl
   rw [Q_X19_ (hon 19 (by kernel_rfl))] at e28
   replace ha := Aside0.mk ha
   have BK182 := Aside0.mk Q_BK182
   have BK183 := Aside0.mk Q_BK183
   have BK184 := Aside0.mk Q_BK184
   have HB := Aside0.mk Q_HB
   refine value_ (w1 := w') (v := .float .f64 (un pb188 (fmul a0_1 a1_0))) (by rfl) rfl ?_ ?_
   ·go_simp
    (try simp only [i64_w])
    try rfl
   refine hK.out _ _ ⟨pb185, pb186, pb187, pb188, m4_, m9_, m14_, m19_, m20_, m21_, m22_, (.float .f64 (un pb188 (fmul a0_1 a1_0))), (by rw [ha.out]; exact putSel_upk 15 hb_ rfl rfl rfl), Q_BK182, Q_BK183, Q_BK184, Q_HB, Q_X4_, Q_X9_, Q_X14_, Q_X19_, Q_X20_, Q_X21_, Q_X22_, fun _ => rfl⟩
  exact steps_nil
 rintro b a w11 hall ⟨pb185, pb186, pb187, pb188, m4_, m9_, m14_, m19_, m20_, m21_, m22_, m23_, ha, Q_BK182, Q_BK183, Q_BK184, Q_HB, Q_X4_, Q_X9_, Q_X14_, Q_X19_, Q_X20_, Q_X21_, Q_X22_, Q_X23_⟩
 clear BK182 BK183 BK184 HB
 have hb1_ := hall 1 (by kernel_rfl)
 have hb3_ := hall 3 (by kernel_rfl)
 have hb4_ := hall 4 (by kernel_rfl)
 have hb6_ := hall 6 (by kernel_rfl)
 have hb8_ := hall 8 (by kernel_rfl)
 have hb9_ := hall 9 (by kernel_rfl)
 have hb11_ := hall 11 (by kernel_rfl)
 have hb13_ := hall 13 (by kernel_rfl)
 have hb14_ := hall 14 (by kernel_rfl)
 have hb16_ := hall 16 (by kernel_rfl)
 have hb18_ := hall 18 (by kernel_rfl)
 have hb19_ := hall 19 (by kernel_rfl)
 have hb20_ := hall 20 (by kernel_rfl)
 have hb21_ := hall 21 (by kernel_rfl)
 have hb22_ := hall 22 (by kernel_rfl)
 have hb23_ := hall 23 (by kernel_rfl)
 subst ha
 obtain rfl := Q_X4_ hb4_
 obtain rfl := Q_X9_ hb9_
 obtain rfl := Q_X14_ hb14_
 obtain rfl := Q_X19_ hb19_
 obtain rfl := Q_X20_ hb20_
 obtain rfl := Q_X21_ hb21_
 obtain rfl := Q_X22_ hb22_
 obtain rfl := Q_X23_ hb23_
 simp only [putSel, hb1_, hb3_, hb4_, hb6_, hb8_, hb9_, hb11_, hb13_, hb14_, hb16_, hb18_, hb19_, hb20_, hb21_, hb22_, hb23_, if_true, Act.put, sqA, sqZ, sqS]
 have BK182 := Aside0.mk Q_BK182
 clear Q_BK182
 have BK183 := Aside0.mk Q_BK183
 clear Q_BK183
 have BK184 := Aside0.mk Q_BK184
 clear Q_BK184
 have HB := Aside0.mk Q_HB
 clear Q_HB
 clear hall hb1_ hb3_ hb4_ hb6_ hb8_ hb9_ hb11_ hb13_ hb14_ hb16_ hb18_ hb19_ hb20_ hb21_ hb22_ hb23_
 try go_wp2_with (first | ((with_reducible refine gate_dst (N := 31) rfl ?_); refine fop_eventB rfl (N := 31) rfl (op := .sub) rfl rfl pb185 (fmul a0_0 a1_0) pb186 (fmul a0_1 a1_1) rfl rfl ?hA ?hB fsub rfl ?_; (case hA => first | rfl | exact (un_zero _).symm); (case hB => first | rfl | exact (un_zero _).symm); intro pb189 w12 hb; have n0_ := Aside0.mk (blk_below (g := gb182) (o := .cells #[.float .f64 (un pa0_0 a0_0), .float .f64 (un pa0_1 a0_1)] 42 (0, 0)) (by (with_reducible repeat (first | refine blk_drewN ?_ _ | refine blk_drew ?_ | refine blk_alloc ?_ _)); exact BK182.out) hb); have n1_ := Aside0.mk (blk_below (g := gb183) (o := .cells #[.float .f64 (un pa1_0 a1_0), .float .f64 (un pa1_1 a1_1)] 42 (0, 0)) (by (with_reducible repeat (first | refine blk_drewN ?_ _ | refine blk_drew ?_ | refine blk_alloc ?_ _)); exact BK183.out) hb); have n2_ := Aside0.mk (blk_below (g := gb184) (o := .cells #[.float .f64 0, .float .f64 0] 42 (0, 0)) (by (with_reducible repeat (first | refine blk_drewN ?_ _ | refine blk_drew ?_ | refine blk_alloc ?_ _)); exact BK184.out) hb); have n3_ := Aside0.mk (below_step (by repeat (first | (with_reducible first | exact HB.out | apply below_alloc | apply pw_below_drewN | apply below_drew1 | refine below_set ?_ GE182.out | refine below_set ?_ GE183.out | refine below_set ?_ GE184.out) | exact HB.out)) hb); clear BK182; clear BK183; clear BK184; clear HB; have BK182 := n0_; have BK183 := n1_; have BK184 := n2_; have HB := n3_; clear n0_ n1_ n2_ n3_; (try clear hb)) | ((with_reducible refine gate_dst (N := 34) rfl ?_); refine fop_eventB rfl (N := 34) rfl (op := .add) rfl rfl pb187 (fmul a0_0 a1_1) pb188 (fmul a0_1 a1_0) rfl rfl ?hA ?hB fadd rfl ?_; (case hA => first | rfl | exact (un_zero _).symm); (case hB => first | rfl | exact (un_zero _).symm); intro pb190 w13 hb; have n0_ := Aside0.mk (blk_below (g := gb182) (o := .cells #[.float .f64 (un pa0_0 a0_0), .float .f64 (un pa0_1 a0_1)] 42 (0, 0)) (by (with_reducible repeat (first | refine blk_drewN ?_ _ | refine blk_drew ?_ | refine blk_alloc ?_ _)); exact BK182.out) hb); have n1_ := Aside0.mk (blk_below (g := gb183) (o := .cells #[.float .f64 (un pa1_0 a1_0), .float .f64 (un pa1_1 a1_1)] 42 (0, 0)) (by (with_reducible repeat (first | refine blk_drewN ?_ _ | refine blk_drew ?_ | refine blk_alloc ?_ _)); exact BK183.out) hb); have n2_ := Aside0.mk (blk_below (g := gb184) (o := .cells #[.float .f64 0, .float .f64 0] 42 (0, 0)) (by (with_reducible repeat (first | refine blk_drewN ?_ _ | refine blk_drew ?_ | refine blk_alloc ?_ _)); exact BK184.out) hb); have n3_ := Aside0.mk (below_step (by repeat (first | (with_reducible first | exact HB.out | apply below_alloc | apply pw_below_drewN | apply below_drew1 | refine below_set ?_ GE182.out | refine below_set ?_ GE183.out | refine below_set ?_ GE184.out) | exact HB.out)) hb); clear BK182; clear BK183; clear BK184; clear HB; have BK182 := n0_; have BK183 := n1_; have BK184 := n2_; have HB := n3_; clear n0_ n1_ n2_ n3_; (try clear hb); have hnb14 := NB184_182.out; have hnc14 := NB182_184.out; have hnb15 := NB184_183.out; have hnc15 := NB183_184.out; have hcz16_0 : w13.cell? ⟨gb184, 0, none⟩ = some (.float .f64 0) := (blk_cell BK184.out 0).trans rfl; have hcz16_1 : w13.cell? ⟨gb184, 1, none⟩ = some (.float .f64 0) := (blk_cell BK184.out 1).trans rfl; have hfz16_0 := blk_frozen BK184.out 0; have hfz16_1 := blk_frozen BK184.out 1))
 refine bodyPost_ret (results_cell_row rfl _ _ gb184 42 #[.float .f64 (un pb189 (fsub (fmul a0_0 a1_0) (fmul a0_1 a1_1))), .float .f64 (un pb190 (fadd (fmul a0_0 a1_1) (fmul a0_1 a1_0)))] (0, 0) _ rfl (by (with_reducible repeat (first | refine blk_drewN ?_ _ | refine blk_drew ?_ | refine blk_alloc ?_ _)); refine blk_put (cs := #[.float .f64 (un pb189 (fsub (fmul a0_0 a1_0) (fmul a0_1 a1_1))), .float .f64 0]) ?_ 1 _ rfl; (with_reducible repeat (first | refine blk_drewN ?_ _ | refine blk_drew ?_ | refine blk_alloc ?_ _)); refine blk_put (cs := #[.float .f64 0, .float .f64 0]) ?_ 0 _ rfl; (with_reducible repeat (first | refine blk_drewN ?_ _ | refine blk_drew ?_ | refine blk_alloc ?_ _)); exact BK184.out) Tryd.underlying42 rfl (by kernel_rfl)) rfl ?_
 first | (exact ⟨pb189, pb190, by first | rfl | (simp [errW_none, errW_some] <;> rfl) | (simp [*, errW_none, errW_some] <;> rfl), by repeat (first | (with_reducible first | exact HB.out | apply below_alloc | apply pw_below_drewN | apply below_drew1 | refine below_set ?_ GE182.out | refine below_set ?_ GE183.out | refine below_set ?_ GE184.out) | exact HB.out)⟩) | (exact ⟨⟨pb189, pb190, by first | rfl | (simp [errW_none, errW_some] <;> rfl) | (simp [*, errW_none, errW_some] <;> rfl)⟩, by repeat (first | (with_reducible first | exact HB.out | apply below_alloc | apply pw_below_drewN | apply below_drew1 | refine below_set ?_ GE182.out | refine below_set ?_ GE183.out | refine below_set ?_ GE184.out) | exact HB.out)⟩)

end Go.Proofs.YtpileeenoocjpaaDoor.Q
