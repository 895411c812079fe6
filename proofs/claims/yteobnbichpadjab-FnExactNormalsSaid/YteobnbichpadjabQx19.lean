/- Plain Lean functions with the same answers as the Go functions of this seat, and a proof for each that the Go code comes to just these answers; no condition. Written by a program of this session (the kit's printer, turned). -/
import Derived.Test.YteobnbichpadjabQx0
import Derived.Test.YteobnbichpadjabQx2
namespace Go.Proofs.Yteobnbichpadjab.Q
open Go.RowKit Go.Proofs.YteobnbichpadjabW.PrintWords Go.Proofs.YteobnbichpadjabW.PrintLast Go.Proofs.YteobnbichpadjabW.PrintMore Go.Proofs.YteobnbichpadjabW.PrintFlt
attribute [local go_sem] cmp_lss cmp_leq cmp_gtr cmp_geq cmp_eql cmp_neq flt_l flt_r fgt_l fgt_r feq_l feq_r fne_l fne_r ord_lt ord_gt ord_eq ord_ne conv_int foi_fold run_store_flt
attribute [local go_sem] max2_int min2_int max_two min_two max_three min_three max_four min_four   -- for this text's walks alone
set_option linter.unusedVariables false
set_option linter.unusedSimpArgs false

/-! ### laws_markInt64SS: function 36 -/
def laws_markInt64SS.l0 : Nat → List (List Int) → Int → Int → Option (Int × List (List Int))
 | 0, _, _, _ => none
 | k + 1, x0, x1, x5 => if x5 < (x0.length : Int) then (if 0 ≤ x5 then ((laws_markInt64S.f k (rd_L1 x0 x5) x1).bind fun bt => (laws_markInt64SS.l0 k (x0.set (x5 : Int).toNat bt.2) bt.1 (wrap64 (x5 + 1)))) else (none)) else (some (x1, x0))
def laws_markInt64SS.f (k : Nat) (l0 : List (List Int)) (a1 : Int) : Option (Int × List (List Int)) := laws_markInt64SS.l0 k l0 a1 0
theorem laws_markInt64SS.mono_l : ∀ k, (∀ y0 y1 y2, LeO (laws_markInt64SS.l0 k y0 y1 y2) (laws_markInt64SS.l0 (k + 1) y0 y1 y2))
 | 0 => fun _ _ _ r h => by simp [laws_markInt64SS.l0] at h
 | k + 1 => by
  have ih0 := laws_markInt64SS.mono_l k
  intro y0 y1 y2
  unfold laws_markInt64SS.l0
  repeat first
   | exact LeO.refl _
   | exact laws_markInt64S.mono _ _ k
   | exact ih0 _ _ _
   | exact LeO.none _
   | refine LeO.ite ?_ ?_
   | refine LeO.bind ?_ (fun _ => ?_)
theorem laws_markInt64SS.mono : ∀ a0 a1 k, LeO (laws_markInt64SS.f k a0 a1) (laws_markInt64SS.f (k + 1) a0 a1) := fun a0 a1 k => laws_markInt64SS.mono_l k _ _ _
set_option maxHeartbeats 8000000 in
set_option maxRecDepth 100000 in
theorem laws_markInt64SS.calls (k : Nat) (P0_ : Nat → Prop) (u9000_ : Value) (l0 : List (List Int)) (a1 : Int) (r1 : Int) (r2 : List (List Int)) (w0 w : World) (hB : Below w0.heap.size w0 w) (ho0 : Kd.S (Kd.slice 2 (Kd.int .i64)) 27 w w0.heap.size P0_ u9000_ l0) (h : laws_markInt64SS.f k l0 a1 = some (r1, r2)) :
 Calls Try.prog 36 #[u9000_, .int .i64 a1] w fun e w' => e = .returned (.int .i64 r1) ∧ Kd.S (Kd.slice 2 (Kd.int .i64)) 27 w' w0.heap.size (fun k_ => (P0_ k_ ∨ w.heap.size ≤ k_)) u9000_ r2 ∧ Below w0.heap.size w0 w' ∧ Kept w w' (fun k_ => P0_ k_) := by
 have HO0 := Aside0.mk (show Kd.S (Kd.slice 2 (Kd.int .i64)) 27 w w0.heap.size (fun k_ => (P0_ k_ ∨ w.heap.size ≤ k_)) u9000_ l0 from Kd.S_mono ho0 (fun k_ hk => (.inl hk)))
 have HK := Aside0.mk (Kept.refl w (fun k_ => P0_ k_))
 have HB := Aside0.mk hB
 clear hB ho0
 have H' := Aside0.mk (show laws_markInt64SS.l0 k l0 a1 0 = some (r1, r2) from h)
 clear h
 go_enter Try.func36, Try.ntmps36
 go_wp2
 go_loopg [1, 5] k (fun kq v1 v5 w' => ∃ (x0_1 : List (List Int)) (x1_1 : Int) (x5_1 : Int), v1 = .int .i64 x1_1 ∧ v5 = .int .i64 x5_1 ∧ Aside0 (laws_markInt64SS.l0 kq x0_1 x1_1 x5_1 = some (r1, r2)) ∧ Aside0 (kq ≤ k) ∧ Aside0 (Kd.S (Kd.slice 2 (Kd.int .i64)) 27 w' w0.heap.size (fun k_ => (P0_ k_ ∨ w.heap.size ≤ k_)) u9000_ x0_1) ∧ Aside0 (Kept w w' (fun k_ => P0_ k_)) ∧ Aside0 (Below w0.heap.size w0 w'))
 case atStart => exact ⟨(l0), (a1), (0), rfl, rfl, H', ⟨Nat.le_refl _⟩, HO0, HK, HB⟩
 case round =>
  clear H'
  obtain ⟨x0_1, x1_1, x5_1, rfl, rfl, HA, HK1, HO_0, HK, HB⟩ := hrel
  cases gk with
  | zero => exact absurd HA.out (by simp [laws_markInt64SS.l0])
  | succ k1 =>
   have H := HA.out
   clear HA
   simp only [laws_markInt64SS.l0] at H
   obtain ⟨Ao6, co6, eo6⟩ := Kd.S_slice HO_0.out
   subst eo6
   by_cases c3 : x5_1 < (x0_1.length : Int)
   ·rw [if_pos c3] at H
    have c3b0 : decide (x5_1 < (x0_1.length : Int)) = true := decide_eq_true c3
    by_cases c4 : 0 ≤ x5_1
    ·rw [if_pos c4] at H
     obtain ⟨⟨t1, t2⟩, A0, H⟩ := Option.bind_eq_some_iff.mp H
     obtain ⟨y, hy⟩ : ∃ y : List Int, x0_1.getD x5_1.toNat ([] : List Int) = y := ⟨_, rfl⟩
     replace A0 : laws_markInt64S.f k1 (x0_1.getD x5_1.toNat ([] : List Int)) x1_1 = some (t1, t2) := A0
     rw [hy] at A0
     replace A0 := Aside0.mk A0
     have H' := Aside0.mk H
     clear H
     have hS := HO_0.out
     obtain ⟨g, cap, hv, hg1, hg2, _⟩ := Kd.S_form hS (by omega)
     injection hv with e1 e2 e3
     subst e1
     subst e3
     obtain ⟨oki, c, hcl, hM, hcc, hoki, hH⟩ := Kd.S_lend hS ([] : List Int) x5_1 c4 c3
     rw [hy] at hM
     clear hy
     obtain ⟨v, rfl, hR⟩ := hM
     obtain ⟨Ai, ci, ei⟩ := Kd.R_slice hR
     subst ei
     have hcell : wr.cell? ⟨g, x5_1.toNat, none⟩ = some (.slice Ai y.length ci) := by
      have h_ := hcc 0 _ rfl
      rw [show x5_1.toNat * (Kd.slice 2 (Kd.int .i64)).sz + 0 = x5_1.toNat from Nat.mul_one _] at h_
      exact h_
     have p6 := eq_true c4
     have q6 := eq_true c3
     have HR := Aside0.mk hR
     have HH := Aside0.mk hH
     have HI := Aside0.mk hoki
     clear hR hH hoki hS hcc hcl
     go_wp2_with (first | (go_at_call 27; refine (laws_markInt64S.calls k1 oki (.slice Ai y.length ci) y x1_1 t1 t2 w0 wr HB.out HR.out A0.out).mono ?_; rintro e w' ⟨rfl, hr2, hb2, hk2⟩))
     go_roundg k1
     case measure => have := HK1.out; omega
     case rel =>
      refine ⟨(x0_1.set x5_1.toNat t2), t1, wrap64 (x5_1 + 1), rfl, rfl, H', ⟨by have := HK1.out; omega⟩, ⟨?_⟩, ⟨HK.out.then_ hk2 (fun k hk => (HI.out k hk).1)⟩, ⟨hb2⟩⟩
      exact Kd.H_back (Kd.H_step (Kd.H_widen HH.out) (fun k hk hn hlt => hk2.2 k hlt (fun h_ => hn (.inl h_)))) ⟨_, rfl, hr2⟩ (fun k hk => hk.elim .inl (fun h_ => .inr ⟨.inr (Nat.le_trans HK.out.1 h_), h_⟩))
    ·rw [if_neg c4] at H
     exact absurd H (by simp)
   ·rw [if_neg c3] at H
    have c3b0 : decide (x5_1 < (x0_1.length : Int)) = false := decide_eq_false c3
    obtain ⟨rfl, rfl⟩ : x1_1 = r1 ∧ x0_1 = r2 := by simpa using H
    clear H
    go_wp2
    go_ret
    exact ⟨rfl, HO_0.out, HB.out, HK.out⟩

end Go.Proofs.Yteobnbichpadjab.Q
