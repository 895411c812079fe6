/- Plain Lean functions with the same answers as the Go functions of this seat, and a proof for each that the Go code comes to just these answers; no condition. Written by a program of this session (the kit's printer, turned). -/
import Derived.Test.YtcdghhihfjojaabQx0
import Derived.Lib.SliceRun
namespace Go.Proofs.Ytcdghhihfjojaab.Q
open Go.RowKit Go.Proofs.YtcdghhihfjojaabW.PrintWords Go.Proofs.YtcdghhihfjojaabW.PrintLast Go.Proofs.YtcdghhihfjojaabW.PrintMore Go.Proofs.YtcdghhihfjojaabW.PrintFlt
attribute [local go_sem] cmp_lss cmp_leq cmp_gtr cmp_geq cmp_eql cmp_neq flt_l flt_r fgt_l fgt_r feq_l feq_r fne_l fne_r ord_lt ord_gt ord_eq ord_ne conv_int conv_flt foi_fold run_store_flt
attribute [local go_sem] max2_int min2_int max_two min_two max_three min_three max_four min_four   -- for this text's walks alone
set_option linter.unusedVariables false
set_option linter.unusedSimpArgs false

/-! ### slices_Delete_int64_int64: function 42 -/
def slices_Delete_int64_int64.f (l0 : List Int) (a1 : Int) (a2 : Int) : Option (List Int) := if a2 = wrap64 (a1 + 1) then (if l0.length < 1000000 then (if 0 ≤ a1 then (if a1 ≤ (l0.length : Int) then (if 0 ≤ (wrap64 (a1 + 1)) then (if (wrap64 (a1 + 1)) ≤ (l0.length : Int) then (some (l0.eraseIdx (a1 : Int).toNat)) else (none)) else (none)) else (none)) else (none)) else none) else none
def slices_Delete_int64_int64.T5 : Bool × List (List Nat × List Nat) := (true, [([], []), ([], []), ([0, 1], [0, 1]), ([], []), ([], []), ([3, 4], [3, 4]), ([2, 5], [2, 5]), ([6, 6, 0, 1, 2, 3, 4, 5, 6], [0, 3, 6])])
def slices_Delete_int64_int64.B5 : List Nat := [0, 0, 3, 0, 0, 24, 63, 127]
theorem slices_Delete_int64_int64.tab5 : rtab .any (opsOf Try.f42 5) = slices_Delete_int64_int64.T5 := by kernel_rfl
theorem slices_Delete_int64_int64.bits5 : waitsOk slices_Delete_int64_int64.T5.2 slices_Delete_int64_int64.B5 = true := by kernel_rfl
theorem cut3_ (t e : TypeId) {i : TypeInfo} (ht : Try.prog.underlying t = some (.slice e)) (hi : Try.prog.info? e = some i) (A : Option Addr) (n c : Nat) (lo hi' mx : Int) (h0 : 0 ≤ lo) (h1 : lo ≤ hi') (h2 : hi' ≤ mx) (h3 : mx ≤ c) : ∃ v, ∀ W : World, (Instr.slice t (.slice A n c) (some (.int .i64 lo)) (some (.int .i64 hi')) (some (.int .i64 mx))).run Try.prog W = .ok v W := by
  have hel : Try.prog.elem t = e := by simp [Program.elem, ht]
  have hu : Try.prog.underlying t = some (.slice (Try.prog.elem t)) := by rw [hel]; exact ht
  have e1 : (lo.toNat : Int) = lo := Int.toNat_of_nonneg h0
  have e2 : (hi'.toNat : Int) = hi' := Int.toNat_of_nonneg (by omega)
  have e3 : (mx.toNat : Int) = mx := Int.toNat_of_nonneg (by omega)
  have b : ∀ W : World, (Instr.sliceBounds true n c (some (.int .i64 lo)) (some (.int .i64 hi')) (some (.int .i64 mx))).run Try.prog W = .ok (lo.toNat, hi'.toNat, mx.toNat) W := by
    intro W
    simp [Instr.sliceBounds, run_sliceBound, *, (by omega : 0 ≤ hi'), (by omega : 0 ≤ mx), (by omega : hi'.toNat ≤ mx.toNat), (by omega : lo.toNat ≤ hi'.toNat), (by omega : lo ≤ mx), (by omega : lo ≤ c), (by omega : hi' ≤ c)]
  refine ⟨sliced A lo.toNat hi'.toNat mx.toNat i.size, fun W => ?_⟩
  rw [run_slice_any W t A n c hu, b W]
  simp [sizeOf, typeInfo, hi, hel, Result.andThen]
/-- The one cell behind the row: it can be cleared. -/
theorem behind_ {W : World} {base g n c : Nat} {ok : Nat → Prop} {xs : List Int} (h : (Kd.int .i64).R 2 W base ok (.slice (some ⟨g, 0, none⟩) n c) xs) (hn : n < c) : (W.cell? ⟨g, n, none⟩).isSome = true ∧ W.frozen? ⟨g, n, none⟩ = false := by
  obtain ⟨inner, ho⟩ := Kd.R_own h
  rcases ho.2 with ⟨hv, _⟩ | ⟨g', cap', cur, hv, hb, hh, _, hcm, hcs, htake⟩
  · cases hv
  injection hv with ha _ hc
  injection ha with ha
  injection ha with hg
  subst hg
  subst hc
  refine ⟨?_, blk_frozen hh n⟩
  have hlt : n < cur.size := by
    have e : (Kd.int .i64).sz = 1 := rfl
    first | omega | (rw [e] at hcs; omega)
  rw [blk_cell hh n, Array.getElem?_eq_getElem hlt]
  rfl
set_option maxHeartbeats 8000000 in
set_option maxRecDepth 100000 in
theorem slices_Delete_int64_int64.calls (P0_ : Nat → Prop) (u9000_ : Value) (l0 : List Int) (a1 : Int) (a2 : Int) (r : List Int) (w0 w : World) (hB : Below w0.heap.size w0 w) (ho0 : Kd.R (Kd.int .i64) 2 w w0.heap.size P0_ u9000_ l0) (h : slices_Delete_int64_int64.f l0 a1 a2 = some r) :
  Calls Try.prog 42 #[u9000_, .int .i64 a1, .int .i64 a2] w fun e w' => ∃ v0_ : Value, e = .returned (v0_) ∧ Kd.R (Kd.int .i64) 2 w' w0.heap.size (fun k_ => (P0_ k_ ∨ w.heap.size ≤ k_)) v0_ r ∧ Below w0.heap.size w0 w' ∧ Kept w w' (fun k_ => P0_ k_) := by
 have HO0 := A0 (show Kd.R (Kd.int .i64) 2 w w0.heap.size (fun k_ => (P0_ k_ ∨ w.heap.size ≤ k_)) u9000_ l0 from Kd.R_mono ho0 (fun k_ hk => (.inl hk)))
 have HK := A0 (Kept.refl w (fun k_ => P0_ k_))
 have HW0 := Aside0.mk hB.size
 have HB := Aside0.mk hB
 clear hB
 by_cases c0_ : a2 = wrap64 (a1 + 1)
 rotate_left
 · unfold slices_Delete_int64_int64.f at h
   rw [if_neg c0_] at h
   cases h
 subst c0_
 unfold slices_Delete_int64_int64.f at h
 rw [if_pos rfl] at h
 by_cases c1_ : l0.length < 1000000
 rotate_left
 · rw [if_neg c1_] at h
   cases h
 rw [if_pos c1_] at h
 have C1 := Aside0.mk c1_
 clear c1_
 have H : (if 0 ≤ a1 then (if a1 ≤ (l0.length : Int) then (if 0 ≤ (wrap64 (a1 + 1)) then (if (wrap64 (a1 + 1)) ≤ (l0.length : Int) then (some (l0.eraseIdx (a1 : Int).toNat)) else (none)) else (none)) else (none)) else (none)) = some r := h
 clear h
 by_cases c4 : 0 ≤ a1
 ·rw [if_pos c4] at H
  have c4b0 := eq_true c4
  have c4b1 : decide (0 ≤ a1) = true := decide_eq_true c4
  clear c4
  by_cases c5 : a1 ≤ (l0.length : Int)
  ·rw [if_pos c5] at H
   have c5b0 := eq_true c5
   have c5b1 : decide (a1 ≤ (l0.length : Int)) = true := decide_eq_true c5
   clear c5
   obtain ⟨y174, hy174⟩ : ∃ y_ : List Int, y_ = (l0.take (a1 : Int).toNat) := ⟨_, rfl⟩
   replace H : (if 0 ≤ (wrap64 (a1 + 1)) then (if (wrap64 (a1 + 1)) ≤ (l0.length : Int) then (some (l0.eraseIdx (a1 : Int).toNat)) else (none)) else (none)) = some r := by first | (rw [hy174]; with_reducible exact H) | (have H2_ := (Option.bind_some _ _).symm.trans H; rw [hy174]; with_reducible exact H2_) | (have H2_ := (Option.bind_some _ _).symm.trans H; with_reducible exact H2_) | with_reducible exact H | (rw [hy174]; exact H) | exact H
   have Ny174 := Aside0.mk hy174
   clear hy174
   obtain ⟨ji6, hji6⟩ : ∃ j_ : Int, (wrap64 (a1 + 1)) = j_ := ⟨_, rfl⟩
   replace H : (if 0 ≤ (ji6) then (if (ji6) ≤ (l0.length : Int) then (some (l0.eraseIdx (a1 : Int).toNat)) else (none)) else (none)) = some r := by first | (rw [hji6] at H; exact H) | (simp only [hji6] at H ⊢; exact H)
   have hji6w : (IntKind.i64.wrap (a1 + 1)) = ji6 := (i64_w _).trans hji6
   rw [hji6]
   by_cases c7 : 0 ≤ (ji6)
   ·rw [if_pos c7] at H
    have c7b0 := eq_true c7
    have c7b1 : decide (0 ≤ (ji6)) = true := decide_eq_true c7
    clear c7
    by_cases c8 : (ji6) ≤ (l0.length : Int)
    ·rw [if_pos c8] at H
     have c8b0 := eq_true c8
     have c8b1 : decide ((ji6) ≤ (l0.length : Int)) = true := decide_eq_true c8
     clear c8
     obtain ⟨y178, hy178⟩ : ∃ y_ : List Int, y_ = (l0.drop ((ji6) : Int).toNat) := ⟨_, rfl⟩
     replace H : (some (l0.eraseIdx (a1 : Int).toNat)) = some r := by first | (rw [hy178]; with_reducible exact H) | (have H2_ := (Option.bind_some _ _).symm.trans H; rw [hy178]; with_reducible exact H2_) | (have H2_ := (Option.bind_some _ _).symm.trans H; with_reducible exact H2_) | with_reducible exact H | (rw [hy178]; exact H) | exact H
     have Ny178 := Aside0.mk hy178
     clear hy178
     obtain ⟨y182, hy182⟩ : ∃ y_ : List Int, y_ = (l0.eraseIdx (a1 : Int).toNat) := ⟨_, rfl⟩
     replace H : (some y182) = some r := by first | (rw [hy182]; with_reducible exact H) | (have H2_ := (Option.bind_some _ _).symm.trans H; rw [hy182]; with_reducible exact H2_) | (have H2_ := (Option.bind_some _ _).symm.trans H; with_reducible exact H2_) | with_reducible exact H | (rw [hy182]; exact H) | exact H
     have Ny182 := Aside0.mk hy182
     clear hy182
     obtain rfl := Option.some.inj H
     obtain ⟨Ax_, cx_, ex_⟩ := Kd.R_slice HO0.out
     subst ex_
     have hroom_ : l0.length ≤ cx_ := (Kd.R_reads' HO0.out).2.1
     have b1_ : 0 ≤ a1 := of_decide_eq_true (by assumption)
     have b2_ : ji6 ≤ (l0.length : Int) := of_decide_eq_true (by assumption)
     have b3_ : ji6 = a1 + 1 ∧ a1 < (l0.length : Int) := by have hh_ : (a1 : Int) ≤ (l0.length : Int) := of_decide_eq_true (by assumption); have hl_ := b2_; rw [← hji6] at hl_ ⊢; have hl2_ : (0 : Int) ≤ ji6 := of_decide_eq_true (by assumption); rw [← hji6] at hl2_; have := C1.out; unfold wrap64 at hl_ hl2_ ⊢; omega
     obtain ⟨i0_, hi0_, _, hs0_, _⟩ := info_parts info2
     obtain ⟨v3_, hcut3_⟩ := cut3_ 22 2 Try.underlying22 hi0_ Ax_ l0.length cx_ a1 ji6 (l0.length : Int) b1_ (by omega) b2_ (by omega)
     have hne_ : (a1 == ji6) = false := beq_eq_false_iff_ne.mpr (by omega)
     have B3 := Aside0.mk (And.intro b1_ b3_)
     have B4 := Aside0.mk (And.intro hi0_ hs0_)
     have B5 := Aside0.mk hroom_
     clear b1_ b2_ b3_ hi0_ hs0_ hroom_
     go_enter Try.func42, Try.ntmps42
     try go_wp2
     have n0_ := A0 (Kd.R_drew HO0.out)
     have n1_ := A0 (Kept.drew HK.out)
     have n2_ := A0 (below_drew1 HB.out)
     clear HO0
     clear HK
     clear HB
     have HO0 := n0_
     have HK := n1_
     have HB := n2_
     clear n0_ n1_ n2_
     obtain ⟨Ao11, co11, eo11⟩ := Kd.R_slice HO0.out
     (first | subst eo11 | (injection eo11 with f1_ f2_ f3_; have f4_ := f1_.symm; have f5_ := f3_.symm; clear f1_ f2_ f3_; subst f4_; subst f5_))
     have q10 : (a1 : Int) ≤ ((l0.length : Int) : Int) := of_decide_eq_true (by first | (with_reducible assumption) | assumption)
     obtain ⟨i010, hi010, _, hsz10, _⟩ := info_parts info2
     have hroom10 : l0.length ≤ co11 := (Kd.R_reads' HO0.out).2.1
     have hC10 : Kd.C (Kd.int .i64) _ Ao11 l0.length l0 := (Kd.R_reads' HO0.out).2.2
     have hcut10 := cut_to (P := Try.prog) 22 2 .i64 Try.underlying22 hi010 Ao11 l0.length co11 a1 (of_decide_eq_true (by first | (with_reducible assumption) | assumption)) q10 hroom10
     have hr10 := Kd.C_take (m := (a1 : Int).toNat) hC10 (by omega)
     have hy10 : y174.length = (a1 : Int).toNat := (by rw [Ny174.out, List.length_take]; omega)
     rw [← Ny174.out] at hr10
     rw [← hy10] at hcut10
     have HR177 := Aside0.mk hr10
     have HC177 := A0 (show y174.length ≤ co11 from by omega)
     clear hr10 hC10 hroom10 hi010 hsz10
     have KY10 := Aside0.mk hy10
     clear hy10
     have KL10 := A0 (show (a1 : Int).toNat ≤ l0.length from by omega)
     replace q10 := eq_true q10
     have q12 : ((ji6) : Int) ≤ ((l0.length : Int) : Int) := of_decide_eq_true (by first | (with_reducible assumption) | assumption)
     obtain ⟨i012, hi012, _, hsz12, _⟩ := info_parts info2
     have hroom12 : l0.length ≤ co11 := (Kd.R_reads' HO0.out).2.1
     have hC12 : Kd.C (Kd.int .i64) _ Ao11 l0.length l0 := (Kd.R_reads' HO0.out).2.2
     have q012 : (0 : Int) ≤ ((ji6) : Int) := of_decide_eq_true (by first | (with_reducible assumption) | assumption)
     have hcut12 := cut_from (P := Try.prog) 22 2 .i64 Try.underlying22 hi012 1 hsz12 Ao11 l0.length co11 (ji6) q012 q12
     have hr12 := Kd.C_drop (m := ((ji6) : Int).toNat) (c := co11) hC12 (by omega) hroom12
     obtain ⟨A12, hA12⟩ : ∃ A1, A1 = (if co11 = ((ji6) : Int).toNat then Ao11 else (Ao11 : Option Addr).map (·.add (((ji6) : Int).toNat * 1))) := ⟨_, rfl⟩
     obtain ⟨c12, hc12⟩ : ∃ c1, c1 = co11 - ((ji6) : Int).toNat := ⟨_, rfl⟩
     have hy12 : y178.length = l0.length - ((ji6) : Int).toNat := (by rw [Ny178.out, List.length_drop] <;> omega)
     rw [show (l0).drop ((ji6) : Int).toNat = y178 from Ny178.out.symm] at hr12
     replace hr12 : Kd.C (Kd.int .i64) _ A12 y178.length y178 := (by rw [hA12]; exact hr12)
     rw [← hy12, ← hA12, ← hc12] at hcut12
     have HR181 := Aside0.mk hr12
     have HC181 := A0 (show y178.length ≤ c12 from by rw [hy12, hc12]; exact Nat.sub_le_sub_right hroom12 _)
     clear hr12 hC12 hroom12 hi012 hsz12 hc12
     have KY12 := Aside0.mk hy12
     have KA12 := Aside0.mk hA12
     clear hy12 hA12
     have KL12 := A0 (show ((ji6) : Int).toNat ≤ l0.length from by omega)
     replace q12 := eq_true q12
     (try replace q012 := eq_true q012)
     obtain ⟨go14, co14, eo14, gb14, gl14, cl14, HG14⟩ := Kd.R_form HO0.out (by have hj_ : 0 ≤ (a1 : Int) := of_decide_eq_true (by first | (with_reducible assumption) | assumption); have hl_ : (ji6 : Int) ≤ (l0.length : Int) := of_decide_eq_true (by first | (with_reducible assumption) | assumption); have hh_ : (a1 : Int) ≤ (l0.length : Int) := of_decide_eq_true (by first | (with_reducible assumption) | assumption); rw [← hji6] at hl_; unfold wrap64 at hl_; omega)
     (first | cases eo14 | (injection eo14 with ea_ en_ ec_; (first | subst ea_ | (injection ea_ with ea_; subst ea_)); subst ec_; clear en_))
     have GB14 := Aside0.mk gb14
     have GG14 := Aside0.mk HG14
     clear gb14 gl14 HG14
     have HMgo14 := A0 (show (P0_ go14 ∨ w.heap.size ≤ go14) from (HO0.out.1 _ rfl))
     refine start_ (n := 8) (S := fun w' => True) (ds := []) #[false, false, false, false, false, false, false, false] (by kernel_rfl) rfl rfl trivial (fun hHeld => ?_); refine with_tabW slices_Delete_int64_int64.tab5 slices_Delete_int64_int64.bits5 (fun HT_ HW_ => ?_)
     generalize w.drew = w9 at HO0 HK HB GG14 HR177 HR181 hHeld ⊢
     refine pure_ (i := 0) (N := some 20) (v := ?_) (a' := ?_) #[true, false, false, false, false, false, false, false] rfl rfl (any_of HT_.out (by kernel_rfl)) (fun _ _ _ h => h) (Or.inl ⟨by rfl, ?_⟩) ?_ ?_
     rotate_left
     ·intro w'
      go_simp
      with_reducible rfl
     rotate_left
     ·simp only [Act.put, sqA, sqZ, sqS, i64_w, i32_w]
      rfl
     refine pure_ (i := 1) (N := some 21) (v := ?_) (a' := ?_) #[true, true, false, false, false, false, false, false] rfl rfl (any_of HT_.out (by kernel_rfl)) (fun _ _ _ h => h) (Or.inl ⟨by rfl, ?_⟩) ?_ ?_
     rotate_left
     ·intro w'
      go_simp
      with_reducible rfl
     rotate_left
     ·simp only [Act.put, sqA, sqZ, sqS, i64_w, i32_w]
      rfl
     refine pure_ (i := 2) (N := some 22) (v := ?_) (a' := ?_) #[true, true, true, false, false, false, false, false] rfl rfl (any_of HT_.out (by kernel_rfl)) (fun _ _ _ h => h) (Or.inl ⟨by rfl, ?_⟩) ?_ ?_
     rotate_left
     ·intro w'
      go_simp
      with_reducible rfl
     rotate_left
     ·simp only [Act.put, sqA, sqZ, sqS, i64_w, i32_w]
      rfl
     refine pure_ (i := 3) (N := some 23) (v := ?_) (a' := ?_) #[true, true, true, true, false, false, false, false] rfl rfl (any_of HT_.out (by kernel_rfl)) (fun _ _ _ h => h) (Or.inl ⟨by rfl, ?_⟩) ?_ ?_
     rotate_left
     ·intro w'
      go_simp
      with_reducible rfl
     rotate_left
     ·simp only [Act.put, sqA, sqZ, sqS, i64_w, i32_w]
      rfl
     refine pure_ (i := 4) (N := some 24) (v := ?_) (a' := ?_) #[true, true, true, true, true, false, false, false] rfl rfl (any_of HT_.out (by kernel_rfl)) (fun _ _ _ h => h) (Or.inl ⟨by rfl, ?_⟩) ?_ ?_
     rotate_left
     ·intro w'
      go_simp
      with_reducible rfl
     rotate_left
     ·simp only [Act.put, sqA, sqZ, sqS, i64_w, i32_w]
      rfl
     refine pure_ (i := 5) (N := some 25) (v := ?_) (a' := ?_) #[true, true, true, true, true, true, false, false] rfl rfl (any_of HT_.out (by kernel_rfl)) (fun _ _ _ h => h) (Or.inl ⟨by rfl, ?_⟩) ?_ ?_
     rotate_left
     ·intro w'
      go_simp
      with_reducible rfl
     rotate_left
     ·simp only [Act.put, sqA, sqZ, sqS, i64_w, i32_w]
      rfl
     refine one_ (i := 6) (N := some 26) #[true, true, true, true, true, true, true, false] rfl rfl (one_of HT_.out (by kernel_rfl)) (by decide) (fun K hK => ?_)
     have hj_ : 0 ≤ (a1 : Int) := of_decide_eq_true (by first | (with_reducible assumption) | assumption)
     have hl_ : (ji6 : Int) ≤ (l0.length : Int) := of_decide_eq_true (by first | (with_reducible assumption) | assumption)
     have hh_ : (a1 : Int) ≤ (l0.length : Int) := of_decide_eq_true (by first | (with_reducible assumption) | assumption)
     have hb_ := (Kd.R_reads' HO0.out).2.2.2.1
     have h0_ : (0 : Int) ≤ (ji6 : Int) := of_decide_eq_true (by first | (with_reducible assumption) | assumption)
     have hy1_ := KY10.out
     have hk_ : (ji6 : Int).toNat = y174.length + 1 := (by have hw_ : (ji6 : Int) = a1 + 1 := (by have h00_ := h0_; rw [← hji6] at h00_ ⊢; unfold wrap64 at h00_ ⊢; omega); rw [hw_]; omega)
     refine Kd.R_delete_step (Kd.int .i64) (w0 := w0) w0.heap.size (by rfl) (.tmp 22) (.tmp 25) 22 2 rfl Try.underlying22 (by kernel_rfl) (g := go14) (n := l0.length) (c := co11) (k := y174.length) rfl rfl ?hA ?hm (by (with_reducible repeat (first | apply Kd.R_alloc | apply Kd.R_drewN | apply Kd.R_drew)); exact HO0.out) ?hk (by repeat (first | (with_reducible first | exact HB.out | apply wA | apply wN | apply wD) | exact HB.out)) (below_size (by repeat (first | (with_reducible first | exact HB.out | apply wA | apply wN | apply wD) | exact HB.out))) ?_
     (case hA => have ha_ := KA12.out; rw [hk_] at ha_; exact ha_)
     (case hm => have ha_ := KY12.out; omega)
     (case hk => omega)
     intro w13 ho hb hg
     clear hj_ hl_ hh_ hb_ hk_ h0_
     rw [hy1_, ← Ny182.out] at ho
     clear hy1_
     have hn_ : l0.length - 1 = y182.length := (by have := (Kd.R_reads' ho).1; omega)
     rw [hn_] at ho ⊢
     clear hn_
     have n0_ := A0 (ho)
     have n1_ := A0 (hb)
     have n2_ := A0 (Kept.of_grown (S := (fun k_ => P0_ k_)) hg (by repeat (first | (with_reducible first | exact HK.out | apply Kept.alloc | apply Kept.drewN | apply Kept.drew) | exact HK.out)) (fun k_ e_ => (HO0.out.1 k_ e_)))
     clear HO0
     clear HB
     clear HK
     have HO0 := n0_
     have HB := n1_
     have HK := n2_
     clear n0_ n1_ n2_
     clear ho hb hg
     refine hK.out _ _ trivial (fun hHeld => ?_)
     clear hK K
     refine norm_ (a' := ?_) ?_ ?_
     rotate_left
     ·show Act.put _ (some 26) _ = _
      simp only [Act.put, sqA, sqZ, sqS, i64_w, i32_w]
      rfl
     refine pure_ (i := 7) (N := some 0) (v := ?_) (a' := ?_) #[true, true, true, true, true, true, true, true] rfl rfl (any_of HT_.out (by kernel_rfl)) (fun _ _ _ h => h) (Or.inl ⟨by rfl, ?_⟩) ?_ ?_
     rotate_left
     ·intro w'
      go_simp
      with_reducible rfl
     rotate_left
     ·simp only [Act.put, sqA, sqZ, sqS, i64_w, i32_w]
      rfl
     refine done_ (done_of HT_.out (by kernel_rfl)) ?_
     have yl_ : y182.length + 1 = l0.length ∧ l0.length ≤ co11 := by have := B3.out; have := B5.out; rw [Ny182.out, List.length_eraseIdx]; split <;> omega
     have hcut31_ : ∀ W : World, (Instr.slice 22 (.slice (some ⟨go14, 0, none⟩) y182.length co11) (some (.int .i64 (y182.length : Int))) (some (.int .i64 (l0.length : Int))) none).run Try.prog W = .ok (.slice (some ⟨go14, y182.length, none⟩) 1 (co11 - y182.length)) W := by
       intro W
       have hel : Try.prog.elem 22 = 2 := by simp [Program.elem, Try.underlying22]
       have hu : Try.prog.underlying 22 = some (.slice (Try.prog.elem 22)) := by rw [hel]; exact Try.underlying22
       rw [run_slice_lh W 22 _ _ _ hu .i64 .i64 _ _ (by omega) (by omega) (by omega), hel]
       simp only [sizeOf, typeInfo, Sem.run_bind, B4.out.1, sliced, Result.andThen, Int.toNat_natCast]
       have e1 : ¬ co11 = y182.length := by omega
       have e2 : l0.length - y182.length = 1 := by omega
       simp [B4.out.1, B4.out.2, e1, e2, Result.andThen, Addr.add]
       intro h_
       rw [h_]
       rfl
     obtain ⟨z1_, z2_⟩ := behind_ HO0.out (by omega)
     go_wp2
     rw [Go.Lib.run_clear_slice _ 22 2 0 (.int .i64 0) Try.underlying22 (fun _ => by kernel_rfl) rfl rfl go14 y182.length 1 _ (by decide) (fun j hj => by obtain rfl : j = 0 := (by omega); exact z1_) (fun j hj => by obtain rfl : j = 0 := (by omega); exact z2_)]
     rw [show ∀ W : World, W.setCells go14 y182.length (List.replicate 1 (.int .i64 0)) = W.setCell ⟨go14, y182.length, none⟩ (.int .i64 0) from fun _ => rfl]
     simp only [Result.andThen]
     rw [Oper.upon_value]
     go_wp2
     go_ret
     have HF_ := Kd.R_putn HO0.out (y182.length : Int) 0
     rw [Int.toNat_natCast, List.set_eq_of_length_le (Nat.le_refl _)] at HF_
     exact ⟨_, rfl, HF_, HB.out.setCell GB14.out _, HK.out.setCell HMgo14.out _⟩
    ·rw [if_neg c8] at H
     exact absurd H (by simp)
   ·rw [if_neg c7] at H
    exact absurd H (by simp)
  ·rw [if_neg c5] at H
   exact absurd H (by simp)
 ·rw [if_neg c4] at H
  exact absurd H (by simp)

end Go.Proofs.Ytcdghhihfjojaab.Q
