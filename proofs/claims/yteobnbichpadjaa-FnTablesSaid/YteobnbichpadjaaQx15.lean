/- Plain Lean functions with the same answers as the Go functions of this seat, and a proof for each that the Go code comes to just these answers; no condition. Written by a program of this session (the kit's printer, turned). -/
import Derived.Test.YteobnbichpadjaaQx0
import Derived.Test.YteobnbichpadjaaQx14
namespace Go.Proofs.Yteobnbichpadjaa.Q
open Go.RowKit Go.Proofs.YteobnbichpadjaaW.PrintWords Go.Proofs.YteobnbichpadjaaW.PrintLast Go.Proofs.YteobnbichpadjaaW.PrintMore Go.Proofs.YteobnbichpadjaaW.PrintFlt
attribute [local go_sem] cmp_lss cmp_leq cmp_gtr cmp_geq cmp_eql cmp_neq flt_l flt_r fgt_l fgt_r feq_l feq_r fne_l fne_r ord_lt ord_gt ord_eq ord_ne conv_int foi_fold run_store_flt
attribute [local go_sem] max2_int min2_int max_two min_two max_three min_three max_four min_four   -- for this text's walks alone
set_option linter.unusedVariables false
set_option linter.unusedSimpArgs false

/-! ### spec_Reliable: function 12 -/
mutual
def spec_Reliable.l0 : Nat → List (S34) → List (S36) → Int → Option ((List (S36)))
 | 0, _, _, _ => none
 | k + 1, x0, x3, x4 => if x4 ≤ 10 then (spec_Reliable.l1 k x0 x3 x4 0 0 0) else (some x3)
def spec_Reliable.l1 : Nat → List (S34) → List (S36) → Int → Int → Int → Int → Option ((List (S36)))
 | 0, _, _, _, _, _, _ => none
 | k + 1, x0, x3, x4, x6, x174000, x174001 => if x6 < (x0.length : Int) then (if 0 ≤ x6 then (if (wrap64 (Int.tdiv ((rd_T34 x0 x6).f0) 10)) = x4 then (if (rd_T34 x0 x6).f1 = true then (spec_Reliable.l1 k x0 x3 x4 (wrap64 (x6 + 1)) (wrap64 (x174000 + 1)) (wrap64 (x174001 + 1))) else (spec_Reliable.l1 k x0 x3 x4 (wrap64 (x6 + 1)) (wrap64 (x174000 + 1)) x174001)) else (spec_Reliable.l1 k x0 x3 x4 (wrap64 (x6 + 1)) x174000 x174001)) else (none)) else (if x3.length < 8796093022208 then (spec_Reliable.l0 k x0 (x3 ++ [(⟨x174000, x174001⟩ : S36)]) (wrap64 (x4 + 1))) else (none))
end
def spec_Reliable.f (k : Nat) (l0 : List (S34)) : Option ((List (S36))) := (some (([] : List (S36)) : List (S36))).bind fun y169 => ((spec_l18ToldOk.f k l0).bind fun t172 => (if t172 = true then (spec_Reliable.l0 k l0 y169 0) else (some y169)))
theorem spec_Reliable.mono_l : ∀ k, (∀ y0 y1 y2, LeO (spec_Reliable.l0 k y0 y1 y2) (spec_Reliable.l0 (k + 1) y0 y1 y2)) ∧ (∀ y0 y1 y2 y3 y4 y5, LeO (spec_Reliable.l1 k y0 y1 y2 y3 y4 y5) (spec_Reliable.l1 (k + 1) y0 y1 y2 y3 y4 y5))
 | 0 => ⟨fun _ _ _ r h => by simp [spec_Reliable.l0] at h, fun _ _ _ _ _ _ r h => by simp [spec_Reliable.l1] at h⟩
 | k + 1 => by
  obtain ⟨ih0, ih1⟩ := spec_Reliable.mono_l k
  refine ⟨?_, ?_⟩
  ·intro y0 y1 y2
   unfold spec_Reliable.l0
   repeat' first
   | (with_reducible exact ih0 _ _ _)
   | (with_reducible exact ih1 _ _ _ _ _ _)
   | (with_reducible exact spec_l18ToldOk.mono _ _)
   | (with_reducible exact LeO.refl _)
   | (with_reducible exact LeO.none _)
   | (with_reducible refine LeO.ite ?_ ?_)
   | (with_reducible refine LeO.bind ?_ (fun _ => ?_))
   | exact ih0 _ _ _
   | exact ih1 _ _ _ _ _ _
   | exact spec_l18ToldOk.mono _ _
   | exact LeO.none _
   | refine LeO.ite ?_ ?_
   | refine LeO.bind ?_ (fun _ => ?_)
  ·intro y0 y1 y2 y3 y4 y5
   unfold spec_Reliable.l1
   repeat' first
   | (with_reducible exact ih0 _ _ _)
   | (with_reducible exact ih1 _ _ _ _ _ _)
   | (with_reducible exact spec_l18ToldOk.mono _ _)
   | (with_reducible exact LeO.refl _)
   | (with_reducible exact LeO.none _)
   | (with_reducible refine LeO.ite ?_ ?_)
   | (with_reducible refine LeO.bind ?_ (fun _ => ?_))
   | exact ih0 _ _ _
   | exact ih1 _ _ _ _ _ _
   | exact spec_l18ToldOk.mono _ _
   | exact LeO.none _
   | refine LeO.ite ?_ ?_
   | refine LeO.bind ?_ (fun _ => ?_)
theorem spec_Reliable.mono : ∀ a0 k, LeO (spec_Reliable.f k a0) (spec_Reliable.f (k + 1) a0) := by
 intro a0 k
 obtain ⟨ih0, ih1⟩ := spec_Reliable.mono_l k
 unfold spec_Reliable.f
 repeat' first
   | (with_reducible exact ih0 _ _ _)
   | (with_reducible exact ih1 _ _ _ _ _ _)
   | (with_reducible exact spec_l18ToldOk.mono _ _)
   | (with_reducible exact LeO.refl _)
   | (with_reducible exact LeO.none _)
   | (with_reducible refine LeO.ite ?_ ?_)
   | (with_reducible refine LeO.bind ?_ (fun _ => ?_))
   | exact ih0 _ _ _
   | exact ih1 _ _ _ _ _ _
   | exact spec_l18ToldOk.mono _ _
   | exact LeO.none _
   | refine LeO.ite ?_ ?_
   | refine LeO.bind ?_ (fun _ => ?_)
set_option maxHeartbeats 8000000 in
set_option maxRecDepth 100000 in
theorem spec_Reliable.calls (k : Nat) (A0 : Option Addr) (c0 : Nat) (l0 : List (S34)) (r : List (S36)) (w : World) (hr0 : Kd.C k34 w A0 l0.length l0) (hc0 : l0.length ≤ c0) (h : spec_Reliable.f k l0 = some r) :
  Calls Try.prog 12 #[.slice A0 l0.length c0] w fun e w' => ∃ v0_ : Value, e = .returned (v0_) ∧ Kd.R k36 36 w' w.heap.size (fun _ => True) v0_ r ∧ Below w.heap.size w w' := by
 have hu36 := Try.underlying36
 have HR0 := Aside0.mk hr0
 have HC0 := Aside0.mk hc0
 clear hr0 hc0
 have HB := Aside0.mk (Below.refl w.heap.size w)
 have H : ((some (([] : List (S36)) : List (S36))).bind fun y169 => ((spec_l18ToldOk.f k l0).bind fun t172 => (if t172 = true then (spec_Reliable.l0 k l0 y169 0) else (some y169)))) = some r := h
 clear h
 obtain ⟨y169, hy169⟩ : ∃ y_ : List (S36), y_ = (([] : List (S36))) := ⟨_, rfl⟩
 replace H : ((spec_l18ToldOk.f k l0).bind fun t172 => (if t172 = true then (spec_Reliable.l0 k l0 y169 0) else (some y169))) = some r := by first | (rw [hy169]; with_reducible exact H) | (have H2_ := (Option.bind_some _ _).symm.trans H; rw [hy169]; with_reducible exact H2_) | (have H2_ := (Option.bind_some _ _).symm.trans H; with_reducible exact H2_) | with_reducible exact H | (rw [hy169]; exact H) | exact H
 have Ny169 := Aside0.mk hy169
 clear hy169
 replace H := Option.bind_eq_some_iff.mp H
 obtain ⟨t172, A20, H⟩ := H
 replace H : (if t172 = true then (spec_Reliable.l0 k l0 y169 0) else (some y169)) = some r := H
 have A2 := Aside0.mk A20
 clear A20
 by_cases c3 : t172 = true
 ·subst c3
  have H1 : (spec_Reliable.l0 k l0 y169 0) = some r := by rw [if_pos rfl] at H; exact H
  clear H
  have H := H1
  clear H1
  have H' := Aside0.mk H
  clear H
  go_enter Try.func12, Try.ntmps12
  go_wp2_with (first | ((with_reducible refine gate_dst (N := 7) rfl ?_); refine Kd.R_lit k36 _ 36 ?hg (N := 7) ?hd (xs := ([] : List (S36))) (inner := []) (ok := fun _ => True) (okp := fun _ => True) ?hr ?hp (fun _ hk => hk) trivial (Below.refl _ _) (Nat.le_refl _) (by simp) ?_; (case hd => rfl); (case hg => rfl); (case hr => first | (go_simp; done) | (go_simp; rfl)); (case hp => exact (Reps.none _ _)); intro v170 w4 ho5 hb hg_ hnew_; clear hg_ hnew_; (first | rw [← Ny169.out] at ho5 | (simp only [Int.reduceToNat] at ho5; rw [← Ny169.out] at ho5)); have n0_ := Aside0.mk (Kd.R_lower ho5 (below_size (by repeat (first | (with_reducible first | exact HB.out | apply below_alloc | apply pw_below_drewN | apply below_drew1) | exact HB.out)))); have n1_ := Aside0.mk (below_step (by repeat (first | (with_reducible first | exact HB.out | apply below_alloc | apply pw_below_drewN | apply below_drew1) | exact HB.out)) hb); clear HB; have HO171 := n0_; have HB := n1_; clear n0_ n1_; clear hb ho5) | ((with_reducible refine gate_callee (f := 43) rfl ?_); refine goesL_ (some 9) rfl rfl Try.func43 (by kernel_rfl) rfl #[.slice A0 l0.length c0] rfl (by (try simp only [List.map_toArray, List.map_cons, List.map_nil]); first | done | rfl | (simp only [List.length_drop, List.length_take]; rfl)) ?_; (with_reducible refine (spec_l18ToldOk.calls k _ _ l0 true _ ?side1 ?side2 A2.out).mono ?_); (case side1 => repeat (first | exact (Kd.C_below HR0.out HB.out) | (with_reducible refine Kd.C_alloc ?_ _) | (with_reducible refine Kd.C_drewN ?_ _) | (with_reducible refine Kd.C_drew ?_))); (case side2 => exact HC0.out); rintro e w' ⟨rfl, ⟨nd, rfl⟩⟩; refine ⟨_, rfl, ?_⟩))
  go_loopg [3, 4] k (fun kq v3 v4 w' => ∃ (x3_1 : List (S36)) (x4_1 : Int), v4 = .int .i64 x4_1 ∧ Aside0 (spec_Reliable.l0 kq l0 x3_1 x4_1 = some r) ∧ Aside0 (kq ≤ k) ∧ Aside0 (Kd.R k36 36 w' w.heap.size (fun _ => True) v3 x3_1) ∧ Aside0 (Below w.heap.size w w'))
  case atStart => exact ⟨(y169), (0), (by first | rfl | (simp; done) | (simp [*]; done)), H', ⟨Nat.le_refl _⟩, ⟨by (with_reducible repeat (first | apply Kd.R_alloc | apply Kd.R_drewN | apply Kd.R_drew)); exact HO171.out⟩, ⟨by repeat (first | (with_reducible first | exact HB.out | apply below_alloc | apply pw_below_drewN | apply below_drew1) | exact HB.out)⟩⟩
  case round =>
   clear H'
   try clear c1
   try clear p2
   try clear c3
   try clear c4
   obtain ⟨x3_1, x4_1, rfl, HA, HK1, HO_3, HB⟩ := hrel
   cases gk with
   | zero => exact absurd HA.out (by simp [spec_Reliable.l0])
   | succ k1 =>
    have H := HA.out
    clear HA
    simp only [spec_Reliable.l0] at H
    by_cases c6 : x4_1 ≤ 10
    ·rw [if_pos c6] at H
     have c6b0 : decide (x4_1 ≤ 10) = true := decide_eq_true c6
     clear c6
     have H' := Aside0.mk H
     clear H
     go_wp2_with (first | ((with_reducible refine gate_dst (N := 5) rfl ?_); refine box_event ?hg (N := 5) ?hd (cs := #[.int .i64 0, .int .i64 0]) (t := 36) ?hr ?_; (case hd => rfl); (case hg => rfl); (case hr => first | (go_simp; done) | (go_simp; rfl)); intro gb173 hg w7 hbox hb; have n0_ := Aside0.mk (Kd.R_below (Kd.R_elderB (by (with_reducible repeat (first | apply Kd.R_alloc | apply Kd.R_drewN | apply Kd.R_drew)); exact HO_3.out) gb173 (Nat.le_of_eq hg.symm)) hb); have n1_ := Aside0.mk (below_step (by repeat (first | (with_reducible first | exact HB.out | apply below_alloc | apply pw_below_drewN | apply below_drew1) | exact HB.out)) hb); have n2_ := Aside0.mk (hbox); have n3_ := Aside0.mk ((by rw [hg]; exact (below_size (by repeat (first | (with_reducible first | exact HB.out | apply below_alloc | apply pw_below_drewN | apply below_drew1) | exact HB.out))) : w.heap.size ≤ gb173)); have n4_ := Aside0.mk ((by rw [hg]; exact (below_size (by repeat (first | (with_reducible first | exact HB.out | apply below_alloc | apply pw_below_drewN | apply below_drew1) | exact HB.out))) : w.heap.size ≤ gb173)); clear HO_3; clear HB; have HO_3 := n0_; have HB := n1_; have BK173 := n2_; have GW173 := n3_; have GE173 := n4_; clear n0_ n1_ n2_ n3_ n4_; clear hb hbox hg; have hcz8_0 : w7.cell? ⟨gb173, 0, none⟩ = some (.int .i64 0) := (blk_cell BK173.out 0).trans rfl; have hcz8_1 : w7.cell? ⟨gb173, 1, none⟩ = some (.int .i64 0) := (blk_cell BK173.out 1).trans rfl; have hfz8_0 := blk_frozen BK173.out 0; have hfz8_1 := blk_frozen BK173.out 1))
     go_loopg [6] k1 (fun kq v6 w' => ∃ (x6_2 : Int) (x174000_2 : Int) (x174001_2 : Int), v6 = .int .i64 x6_2 ∧ Aside0 (spec_Reliable.l1 kq l0 x3_1 x4_1 x6_2 x174000_2 x174001_2 = some r) ∧ Aside0 (kq ≤ k1) ∧ Aside0 (Kd.R k36 36 w' w.heap.size (fun k_ => k_ ≠ gb173) u3 x3_1) ∧ Aside0 (w'.heap[gb173]? = some (.cells #[.int .i64 x174000_2, .int .i64 x174001_2] 36 (0, 0))) ∧ Aside0 (Below w.heap.size w w'))
     case atStart => exact ⟨(0), (0), (0), (by first | rfl | (simp; done) | (simp [*]; done)), H', ⟨Nat.le_refl _⟩, ⟨by (with_reducible repeat (first | apply Kd.R_alloc | apply Kd.R_drewN | apply Kd.R_drew)); exact Kd.R_mono (Kd.R_far (p := ⟨gb173, 1, none⟩) (Kd.R_far (p := ⟨gb173, 0, none⟩) (Kd.R_mono HO_3.out (fun k_ hk => (⟨hk, hk.2⟩ : _ ∧ k_ ≠ gb173))) (fun _ hk => hk.2) (.int .i64 0)) (fun _ hk => hk.2) (.int .i64 0)) (fun _ hk => hk.1.2)⟩, ⟨by (with_reducible repeat (first | refine blk_drewN ?_ _ | refine blk_drew ?_ | refine blk_alloc ?_ _)); refine blk_put (cs := #[.int .i64 0, .int .i64 0]) ?_ 1 _ rfl; (with_reducible repeat (first | refine blk_drewN ?_ _ | refine blk_drew ?_ | refine blk_alloc ?_ _)); refine blk_put (cs := #[.int .i64 0, .int .i64 0]) ?_ 0 _ rfl; (with_reducible repeat (first | refine blk_drewN ?_ _ | refine blk_drew ?_ | refine blk_alloc ?_ _)); exact BK173.out⟩, ⟨by repeat (first | (with_reducible first | exact HB.out | apply below_alloc | apply pw_below_drewN | apply below_drew1 | refine below_set ?_ GE173.out) | exact HB.out)⟩⟩
     case round =>
      clear H'
      try clear c1
      try clear p2
      try clear c3
      try clear c4
      try clear c6
      try clear c6b0
      try clear hcz8_0
      try clear hcz8_1
      try clear hfz8_0
      try clear hfz8_1
      try clear p2
      obtain ⟨x6_2, x174000_2, x174001_2, rfl, HA, HK2, HO_3, BK173, HB⟩ := hrel
      cases gk with
      | zero => exact absurd HA.out (by simp [spec_Reliable.l1])
      | succ k2 =>
       have H := HA.out
       clear HA
       simp only [spec_Reliable.l1] at H
       by_cases c9 : x6_2 < (l0.length : Int)
       ·rw [if_pos c9] at H
        have c9b0 : decide (x6_2 < (l0.length : Int)) = true := decide_eq_true c9
        clear c9
        by_cases c10 : 0 ≤ x6_2
        ·rw [if_pos c10] at H
         have c10b0 : decide (0 ≤ x6_2) = true := decide_eq_true c10
         clear c10
         by_cases c11 : (wrap64 (Int.tdiv ((rd_T34 l0 x6_2).f0) 10)) = x4_1
         ·rw [if_pos c11] at H
          have c11b0 : ((wrap64 (Int.tdiv ((rd_T34 l0 x6_2).f0) 10)) == x4_1) = true := beq_iff_eq.mpr c11
          have c11b1 : ((wrap64 (Int.tdiv ((rd_T34 l0 x6_2).f0) 10)) != x4_1) = false := bne_eq_false_iff_eq.mpr c11
          clear c11
          obtain ⟨bq12, hbq12⟩ : ∃ b_ : Bool, b_ = ((rd_T34 l0 x6_2).f1) := ⟨_, rfl⟩
          replace H : (if bq12 = true then (spec_Reliable.l1 k2 l0 x3_1 x4_1 (wrap64 (x6_2 + 1)) (wrap64 (x174000_2 + 1)) (wrap64 (x174001_2 + 1))) else (spec_Reliable.l1 k2 l0 x3_1 x4_1 (wrap64 (x6_2 + 1)) (wrap64 (x174000_2 + 1)) x174001_2)) = some r := by rw [← hbq12] at H; exact H
          have Nbq12 := Aside0.mk hbq12
          clear hbq12
          by_cases c13 : bq12 = true
          ·subst c13
           have H1 : (spec_Reliable.l1 k2 l0 x3_1 x4_1 (wrap64 (x6_2 + 1)) (wrap64 (x174000_2 + 1)) (wrap64 (x174001_2 + 1))) = some r := by rw [if_pos rfl] at H; exact H
           clear H
           have H := H1
           clear H1
           have H' := Aside0.mk H
           clear H
           have p177 : 0 ≤ (x6_2 : Int) := of_decide_eq_true (by first | (with_reducible assumption) | assumption)
           have q177 : x6_2 < (l0.length : Int) := of_decide_eq_true (by first | (with_reducible assumption) | assumption)
           obtain ⟨ad177, e177, hx177_0, hx177_1⟩ := at_T34 HR0.out x6_2 p177 q177
           (try rw [← Nbq12.out] at hx177_1)
           cases e177
           replace hx177_0 := (HB.out.cell (World.block_lt_of_cell? w _ hx177_0)).trans hx177_0
           replace hx177_1 := (HB.out.cell (World.block_lt_of_cell? w _ hx177_1)).trans hx177_1
           replace p177 := eq_true p177
           replace q177 := eq_true q177
           have hcz14_0 : wr.cell? ⟨gb173, 0, none⟩ = some (.int .i64 x174000_2) := (blk_cell BK173.out 0).trans rfl
           have hcz14_1 : wr.cell? ⟨gb173, 1, none⟩ = some (.int .i64 x174001_2) := (blk_cell BK173.out 1).trans rfl
           have hfz14_0 := blk_frozen BK173.out 0
           have hfz14_1 := blk_frozen BK173.out 1
           have p178 : 0 ≤ (x6_2 : Int) := of_decide_eq_true (by first | (with_reducible assumption) | assumption)
           have q178 : x6_2 < (l0.length : Int) := of_decide_eq_true (by first | (with_reducible assumption) | assumption)
           obtain ⟨ad178, e178, hx178_0, hx178_1⟩ := at_T34 HR0.out x6_2 p178 q178
           (try rw [← Nbq12.out] at hx178_1)
           obtain rfl : ad177 = ad178 := (by injection e178)
           have hn178_0 : ad177.block ≠ gb173 := Nat.ne_of_lt (Nat.lt_of_lt_of_le (by have := World.block_lt_of_cell? _ _ hx178_0; first | rwa [add_block] at this | exact this) GW173.out)
           replace hx178_0 := (HB.out.cell (World.block_lt_of_cell? w _ hx178_0)).trans hx178_0
           replace hx178_1 := (HB.out.cell (World.block_lt_of_cell? w _ hx178_1)).trans hx178_1
           replace hx178_0 := (cell_far (p := ⟨gb173, 0, none⟩) (by first | (rw [add_block]; exact hn178_0) | (show (Addr.add _ _).block ≠ _; rw [add_block]; exact hn178_0) | exact hn178_0) (.int .i64 (wrap64 (x174000_2 + 1)))).trans hx178_0
           replace hx178_1 := (cell_far (p := ⟨gb173, 0, none⟩) (by first | (rw [add_block]; exact hn178_0) | (show (Addr.add _ _).block ≠ _; rw [add_block]; exact hn178_0) | exact hn178_0) (.int .i64 (wrap64 (x174000_2 + 1)))).trans hx178_1
           clear hn178_0
           replace p178 := eq_true p178
           replace q178 := eq_true q178
           go_wp2
           go_roundg k2
           case measure => have := HK1.out; have := HK2.out; omega
           case rel => exact ⟨(wrap64 (x6_2 + 1)), (wrap64 (x174000_2 + 1)), (wrap64 (x174001_2 + 1)), (by first | rfl | (simp; done) | (simp [*]; done)), H', ⟨by have := HK1.out; have := HK2.out; omega⟩, ⟨by (with_reducible repeat (first | apply Kd.R_alloc | apply Kd.R_drewN | apply Kd.R_drew)); exact Kd.R_mono (Kd.R_far (p := ⟨gb173, 1, none⟩) (Kd.R_far (p := ⟨gb173, 0, none⟩) (Kd.R_mono HO_3.out (fun k_ hk => (⟨hk, hk⟩ : _ ∧ k_ ≠ gb173))) (fun _ hk => hk.2) (.int .i64 (wrap64 (x174000_2 + 1)))) (fun _ hk => hk.2) (.int .i64 (wrap64 (x174001_2 + 1)))) (fun _ hk => hk.1)⟩, ⟨by (with_reducible repeat (first | refine blk_drewN ?_ _ | refine blk_drew ?_ | refine blk_alloc ?_ _)); refine blk_put (cs := #[.int .i64 (wrap64 (x174000_2 + 1)), .int .i64 x174001_2]) ?_ 1 _ rfl; (with_reducible repeat (first | refine blk_drewN ?_ _ | refine blk_drew ?_ | refine blk_alloc ?_ _)); refine blk_put (cs := #[.int .i64 x174000_2, .int .i64 x174001_2]) ?_ 0 _ rfl; (with_reducible repeat (first | refine blk_drewN ?_ _ | refine blk_drew ?_ | refine blk_alloc ?_ _)); exact BK173.out⟩, ⟨by repeat (first | (with_reducible first | exact HB.out | apply below_alloc | apply pw_below_drewN | apply below_drew1 | refine below_set ?_ GE173.out) | exact HB.out)⟩⟩
          ·replace c13 := Bool.eq_false_iff.mpr c13
           subst c13
           have H1 : (spec_Reliable.l1 k2 l0 x3_1 x4_1 (wrap64 (x6_2 + 1)) (wrap64 (x174000_2 + 1)) x174001_2) = some r := by rw [if_neg (show ¬ (false = true) by decide)] at H; exact H
           clear H
           have H := H1
           clear H1
           have H' := Aside0.mk H
           clear H
           have p177 : 0 ≤ (x6_2 : Int) := of_decide_eq_true (by first | (with_reducible assumption) | assumption)
           have q177 : x6_2 < (l0.length : Int) := of_decide_eq_true (by first | (with_reducible assumption) | assumption)
           obtain ⟨ad177, e177, hx177_0, hx177_1⟩ := at_T34 HR0.out x6_2 p177 q177
           (try rw [← Nbq12.out] at hx177_1)
           cases e177
           replace hx177_0 := (HB.out.cell (World.block_lt_of_cell? w _ hx177_0)).trans hx177_0
           replace hx177_1 := (HB.out.cell (World.block_lt_of_cell? w _ hx177_1)).trans hx177_1
           replace p177 := eq_true p177
           replace q177 := eq_true q177
           have hcz15_0 : wr.cell? ⟨gb173, 0, none⟩ = some (.int .i64 x174000_2) := (blk_cell BK173.out 0).trans rfl
           have hcz15_1 : wr.cell? ⟨gb173, 1, none⟩ = some (.int .i64 x174001_2) := (blk_cell BK173.out 1).trans rfl
           have hfz15_0 := blk_frozen BK173.out 0
           have hfz15_1 := blk_frozen BK173.out 1
           have p178 : 0 ≤ (x6_2 : Int) := of_decide_eq_true (by first | (with_reducible assumption) | assumption)
           have q178 : x6_2 < (l0.length : Int) := of_decide_eq_true (by first | (with_reducible assumption) | assumption)
           obtain ⟨ad178, e178, hx178_0, hx178_1⟩ := at_T34 HR0.out x6_2 p178 q178
           (try rw [← Nbq12.out] at hx178_1)
           obtain rfl : ad177 = ad178 := (by injection e178)
           have hn178_0 : ad177.block ≠ gb173 := Nat.ne_of_lt (Nat.lt_of_lt_of_le (by have := World.block_lt_of_cell? _ _ hx178_0; first | rwa [add_block] at this | exact this) GW173.out)
           replace hx178_0 := (HB.out.cell (World.block_lt_of_cell? w _ hx178_0)).trans hx178_0
           replace hx178_1 := (HB.out.cell (World.block_lt_of_cell? w _ hx178_1)).trans hx178_1
           replace hx178_0 := (cell_far (p := ⟨gb173, 0, none⟩) (by first | (rw [add_block]; exact hn178_0) | (show (Addr.add _ _).block ≠ _; rw [add_block]; exact hn178_0) | exact hn178_0) (.int .i64 (wrap64 (x174000_2 + 1)))).trans hx178_0
           replace hx178_1 := (cell_far (p := ⟨gb173, 0, none⟩) (by first | (rw [add_block]; exact hn178_0) | (show (Addr.add _ _).block ≠ _; rw [add_block]; exact hn178_0) | exact hn178_0) (.int .i64 (wrap64 (x174000_2 + 1)))).trans hx178_1
           clear hn178_0
           replace p178 := eq_true p178
           replace q178 := eq_true q178
           go_wp2
           go_roundg k2
           case measure => have := HK1.out; have := HK2.out; omega
           case rel => exact ⟨(wrap64 (x6_2 + 1)), (wrap64 (x174000_2 + 1)), (x174001_2), (by first | rfl | (simp; done) | (simp [*]; done)), H', ⟨by have := HK1.out; have := HK2.out; omega⟩, ⟨by (with_reducible repeat (first | apply Kd.R_alloc | apply Kd.R_drewN | apply Kd.R_drew)); exact Kd.R_mono (Kd.R_far (p := ⟨gb173, 0, none⟩) (Kd.R_mono HO_3.out (fun k_ hk => (⟨hk, hk⟩ : _ ∧ k_ ≠ gb173))) (fun _ hk => hk.2) (.int .i64 (wrap64 (x174000_2 + 1)))) (fun _ hk => hk.1)⟩, ⟨by (with_reducible repeat (first | refine blk_drewN ?_ _ | refine blk_drew ?_ | refine blk_alloc ?_ _)); refine blk_put (cs := #[.int .i64 x174000_2, .int .i64 x174001_2]) ?_ 0 _ rfl; (with_reducible repeat (first | refine blk_drewN ?_ _ | refine blk_drew ?_ | refine blk_alloc ?_ _)); exact BK173.out⟩, ⟨by repeat (first | (with_reducible first | exact HB.out | apply below_alloc | apply pw_below_drewN | apply below_drew1 | refine below_set ?_ GE173.out) | exact HB.out)⟩⟩
         ·rw [if_neg c11] at H
          have c11b0 : ((wrap64 (Int.tdiv ((rd_T34 l0 x6_2).f0) 10)) == x4_1) = false := beq_eq_false_iff_ne.mpr c11
          have c11b1 : ((wrap64 (Int.tdiv ((rd_T34 l0 x6_2).f0) 10)) != x4_1) = true := bne_iff_ne.mpr c11
          have H' := Aside0.mk H
          clear H
          have p177 : 0 ≤ (x6_2 : Int) := of_decide_eq_true (by first | (with_reducible assumption) | assumption)
          have q177 : x6_2 < (l0.length : Int) := of_decide_eq_true (by first | (with_reducible assumption) | assumption)
          obtain ⟨ad177, e177, hx177_0, hx177_1⟩ := at_T34 HR0.out x6_2 p177 q177
          cases e177
          replace hx177_0 := (HB.out.cell (World.block_lt_of_cell? w _ hx177_0)).trans hx177_0
          replace hx177_1 := (HB.out.cell (World.block_lt_of_cell? w _ hx177_1)).trans hx177_1
          replace p177 := eq_true p177
          replace q177 := eq_true q177
          go_wp2
          go_roundg k2
          case measure => have := HK1.out; have := HK2.out; omega
          case rel => exact ⟨(wrap64 (x6_2 + 1)), (x174000_2), (x174001_2), (by first | rfl | (simp; done) | (simp [*]; done)), H', ⟨by have := HK1.out; have := HK2.out; omega⟩, ⟨by (with_reducible repeat (first | apply Kd.R_alloc | apply Kd.R_drewN | apply Kd.R_drew)); exact HO_3.out⟩, ⟨by (with_reducible repeat (first | refine blk_drewN ?_ _ | refine blk_drew ?_ | refine blk_alloc ?_ _)); exact BK173.out⟩, ⟨by repeat (first | (with_reducible first | exact HB.out | apply below_alloc | apply pw_below_drewN | apply below_drew1 | refine below_set ?_ GE173.out) | exact HB.out)⟩⟩
        ·rw [if_neg c10] at H
         exact absurd H (by simp)
       ·rw [if_neg c9] at H
        have c9b0 : decide (x6_2 < (l0.length : Int)) = false := decide_eq_false c9
        clear c9
        by_cases c16 : x3_1.length < 8796093022208
        ·rw [if_pos c16] at H
         have LMc16 := Aside0.mk c16
         clear c16
         obtain ⟨y174, hy174⟩ : ∃ y_ : List (S36), y_ = (x3_1 ++ [(⟨x174000_2, x174001_2⟩ : S36)]) := ⟨_, rfl⟩
         replace H : (spec_Reliable.l0 k2 l0 y174 (wrap64 (x4_1 + 1))) = some r := by first | (rw [hy174]; with_reducible exact H) | (have H2_ := (Option.bind_some _ _).symm.trans H; rw [hy174]; with_reducible exact H2_) | (have H2_ := (Option.bind_some _ _).symm.trans H; with_reducible exact H2_) | with_reducible exact H | (rw [hy174]; exact H) | exact H
         have Ny174 := Aside0.mk hy174
         clear hy174
         have H' := Aside0.mk H
         clear H
         have hcz17_0 : wr.cell? ⟨gb173, 0, none⟩ = some (.int .i64 x174000_2) := (blk_cell BK173.out 0).trans rfl
         have hcz17_1 : wr.cell? ⟨gb173, 1, none⟩ = some (.int .i64 x174001_2) := (blk_cell BK173.out 1).trans rfl
         have hfz17_0 := blk_frozen BK173.out 0
         have hfz17_1 := blk_frozen BK173.out 1
         go_wp2_with (first | ((with_reducible refine gate_builtin (b := .append) (xs := #[.tmp 44, .tmp 46]) rfl ?_); at_builtin; refine Kd.R_append k36 (w0 := w) w.heap.size rfl (.tmp 44) (.tmp 46) 27 36 (.agg #[(.int .i64 0), (.int .i64 0)]) 16 rfl Try.underlying27 info36 rfl (by decide) (by omega) u3 x3_1 (⟨x174000_2, x174001_2⟩ : S36) [.int .i64 x174000_2, .int .i64 x174001_2] (fun k_ => k_ ≠ gb173) (fun _ => False) rfl rfl ?aP (fun _ hk => hk.elim) ?aF ?aO ?aB ?aS ?aL ?_; (case aP => exact k36_mkM _ _ _ (⟨x174000_2, x174001_2⟩ : S36)); (case aB => exact (by repeat (first | (with_reducible first | exact HB.out | apply below_alloc | apply pw_below_drewN | apply below_drew1 | refine below_set ?_ GE173.out) | exact HB.out))); (case aF => exact (fun k_ hk => Kd.freshB (g := gb173) (o := .cells #[.int .i64 x174000_2, .int .i64 x174001_2] 36 (0, 0)) (by (with_reducible repeat (first | refine blk_drewN ?_ _ | refine blk_drew ?_ | refine blk_alloc ?_ _)); exact BK173.out) k_ hk)); (case aO => exact (by (with_reducible repeat (first | apply Kd.R_alloc | apply Kd.R_drewN | apply Kd.R_drew)); exact HO_3.out)); (case aS => exact (below_size (by repeat (first | (with_reducible first | exact HB.out | apply below_alloc | apply pw_below_drewN | apply below_drew1 | refine below_set ?_ GE173.out) | exact HB.out)))); (case aL => have := LMc16.out; omega); intro v175 w18 ho hb hg hat; rw [← Ny174.out] at ho; have n0_ := Aside0.mk (blk_grown (g := gb173) (o := .cells #[.int .i64 x174000_2, .int .i64 x174001_2] 36 (0, 0)) (by (with_reducible repeat (first | refine blk_drewN ?_ _ | refine blk_drew ?_ | refine blk_alloc ?_ _)); exact BK173.out) hg (Kd.R_away HO_3.out (fun _ hk => hk))); have n1_ := Aside0.mk (hb); have n2_ := Aside0.mk (ho); clear BK173; clear HB; clear HO_3; have BK173 := n0_; have HB := n1_; have HO176 := n2_; clear n0_ n1_ n2_; clear ho hb hg hat))
         go_roundg k2
         case measure => have := HK1.out; have := HK2.out; omega
         case rel => exact ⟨(y174), (wrap64 (x4_1 + 1)), (by first | rfl | (simp; done) | (simp [*]; done)), H', ⟨by have := HK1.out; have := HK2.out; omega⟩, ⟨by (with_reducible repeat (first | apply Kd.R_alloc | apply Kd.R_drewN | apply Kd.R_drew)); exact Kd.R_mono HO176.out (fun _ hk => trivial)⟩, ⟨by repeat (first | (with_reducible first | exact HB.out | apply below_alloc | apply pw_below_drewN | apply below_drew1 | refine below_set ?_ GE173.out) | exact HB.out)⟩⟩
        ·rw [if_neg c16] at H
         exact absurd H (by simp)
    ·rw [if_neg c6] at H
     have c6b0 : decide (x4_1 ≤ 10) = false := decide_eq_false c6
     clear c6
     obtain rfl := Option.some.inj H
     go_wp2
     go_ret
     exact ⟨_, by first | rfl | (simp [errW_none, errW_some] <;> rfl) | (simp [*, errW_none, errW_some] <;> rfl), by (with_reducible repeat (first | apply Kd.R_alloc | apply Kd.R_drewN | apply Kd.R_drew)); exact HO_3.out, by repeat (first | (with_reducible first | exact HB.out | apply below_alloc | apply pw_below_drewN | apply below_drew1) | exact HB.out)⟩
 ·replace c3 := Bool.eq_false_iff.mpr c3
  subst c3
  have H1 : (some y169) = some r := by rw [if_neg (show ¬ (false = true) by decide)] at H; exact H
  clear H
  have H := H1
  clear H1
  obtain rfl := Option.some.inj H
  go_enter Try.func12, Try.ntmps12
  go_wp2_with (first | ((with_reducible refine gate_dst (N := 7) rfl ?_); refine Kd.R_lit k36 _ 36 ?hg (N := 7) ?hd (xs := ([] : List (S36))) (inner := []) (ok := fun _ => True) (okp := fun _ => True) ?hr ?hp (fun _ hk => hk) trivial (Below.refl _ _) (Nat.le_refl _) (by simp) ?_; (case hd => rfl); (case hg => rfl); (case hr => first | (go_simp; done) | (go_simp; rfl)); (case hp => exact (Reps.none _ _)); intro v170 w19 ho20 hb hg_ hnew_; clear hg_ hnew_; (first | rw [← Ny169.out] at ho20 | (simp only [Int.reduceToNat] at ho20; rw [← Ny169.out] at ho20)); have n0_ := Aside0.mk (Kd.R_lower ho20 (below_size (by repeat (first | (with_reducible first | exact HB.out | apply below_alloc | apply pw_below_drewN | apply below_drew1) | exact HB.out)))); have n1_ := Aside0.mk (below_step (by repeat (first | (with_reducible first | exact HB.out | apply below_alloc | apply pw_below_drewN | apply below_drew1) | exact HB.out)) hb); clear HB; have HO171 := n0_; have HB := n1_; clear n0_ n1_; clear hb ho20) | ((with_reducible refine gate_callee (f := 43) rfl ?_); refine goesL_ (some 9) rfl rfl Try.func43 (by kernel_rfl) rfl #[.slice A0 l0.length c0] rfl (by (try simp only [List.map_toArray, List.map_cons, List.map_nil]); first | done | rfl | (simp only [List.length_drop, List.length_take]; rfl)) ?_; (with_reducible refine (spec_l18ToldOk.calls k _ _ l0 false _ ?side1 ?side2 A2.out).mono ?_); (case side1 => repeat (first | exact (Kd.C_below HR0.out HB.out) | (with_reducible refine Kd.C_alloc ?_ _) | (with_reducible refine Kd.C_drewN ?_ _) | (with_reducible refine Kd.C_drew ?_))); (case side2 => exact HC0.out); rintro e w' ⟨rfl, ⟨nd, rfl⟩⟩; refine ⟨_, rfl, ?_⟩))
  go_ret
  exact ⟨_, by first | rfl | (simp [errW_none, errW_some] <;> rfl) | (simp [*, errW_none, errW_some] <;> rfl), by (with_reducible repeat (first | apply Kd.R_alloc | apply Kd.R_drewN | apply Kd.R_drew)); exact HO171.out, by repeat (first | (with_reducible first | exact HB.out | apply below_alloc | apply pw_below_drewN | apply below_drew1) | exact HB.out)⟩

end Go.Proofs.Yteobnbichpadjaa.Q
