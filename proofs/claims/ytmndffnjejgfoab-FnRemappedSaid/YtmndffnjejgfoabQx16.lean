/- Plain Lean functions with the same answers as the Go functions of this seat, and a proof for each that the Go code comes to just these answers; no condition. Written by a program of this session (the kit's printer, turned). -/
import Derived.Test.YtmndffnjejgfoabQx0
import Derived.Test.YtmndffnjejgfoabQx10
import Derived.Test.YtmndffnjejgfoabQx12
import Derived.Test.YtmndffnjejgfoabQx14
import Derived.Test.YtmndffnjejgfoabQx15
namespace Go.Proofs.Ytmndffnjejgfoab.Q
open Go.RowKit Go.Proofs.YtmndffnjejgfoabW.PrintWords Go.Proofs.YtmndffnjejgfoabW.PrintLast Go.Proofs.YtmndffnjejgfoabW.PrintMore Go.Proofs.YtmndffnjejgfoabW.PrintFlt
attribute [local go_sem] cmp_lss cmp_leq cmp_gtr cmp_geq cmp_eql cmp_neq flt_l flt_r fgt_l fgt_r feq_l feq_r fne_l fne_r ord_lt ord_gt ord_eq ord_ne conv_int foi_fold run_store_flt
attribute [local go_sem] max2_int min2_int max_two min_two max_three min_three max_four min_four   -- for this text's walks alone
set_option linter.unusedVariables false
set_option linter.unusedSimpArgs false

/-! ### spec_DrawRemap: function 20 -/
mutual
def spec_DrawRemap.l0 : Nat → List Int → List Int → Int → List Int → Int → Option (List Int × List Int × List Int)
 | 0, _, _, _, _, _ => none
 | k + 1, x6, x7, x8, x182000, x182001 => if (wrap64 (x8 + 1)) < (x6.length : Int) then ((spec_l1Rd_below.f x182000 x182001 1000).bind fun bt189 => ((some (([bt189.1] : List Int) : List Int)).bind fun y191 => (if x7.length + y191.length < 17592186044416 then (spec_DrawRemap.l0 k x6 (x7 ++ y191) (wrap64 (x8 + 1)) x182000 bt189.2) else (none)))) else ((spec_l11DrawEdges.f k x182000 x182001 20).bind fun bt197 => ((spec_l1Rd_once.f x182000 bt197.2 3).bind fun bt201 => (if bt201.1 = true then (if 0 < (x6.length : Int) then ((some (([wrap64 ((rd x6 0) - 3)] : List Int) : List Int)).bind fun y204 => ((some (([] : List Int) : List Int)).bind fun y207 => (if 0 ≤ (bt197.1.length : Int) then ((some (bt197.1.take 0 : List Int)).bind fun y210 => (if y207.length + y210.length < 17592186044416 then ((some (y207 ++ y210 : List Int)).bind fun y214 => (if 0 ≤ (wrap64 ((x6.length : Int) - 1)) then (if (wrap64 ((x6.length : Int) - 1)) < (x6.length : Int) then ((some (([wrap64 ((rd x6 (wrap64 ((x6.length : Int) - 1))) + 2)] : List Int) : List Int)).bind fun y218 => (if y214.length + y218.length < 17592186044416 then ((some (y214 ++ y218 : List Int)).bind fun y221 => (if y204.length + y221.length < 17592186044416 then (spec_DrawRemap.j1 k x6 x7 (y204 ++ y221) x182000 bt201.2) else (none))) else (none))) else (none)) else (none))) else (none))) else (none)))) else (none)) else (spec_DrawRemap.j1 k x6 x7 bt197.1 x182000 bt201.2))))
def spec_DrawRemap.j1 : Nat → List Int → List Int → List Int → List Int → Int → Option (List Int × List Int × List Int)
 | 0, _, _, _, _, _ => none
 | k + 1, x6, x7, x9, x182000, x182001 => (spec_l1Rd_below.f x182000 x182001 24).bind fun bt227 => (if bt227.1 = 0 then ((some (([(-1), 1000000000000, 1000000000001] : List Int) : List Int)).bind fun y229 => ((spec_l1Rd_below.f x182000 bt227.2 3).bind fun bt232 => (if 0 ≤ bt232.1 then (if bt232.1 < (y229.length : Int) then (if 0 < (x7.length : Int) then (spec_DrawRemap.j2 k x6 (x7.set (0 : Int).toNat (rd y229 bt232.1)) x9) else (none)) else (none)) else (none)))) else (if bt227.1 = 1 then (if 1 < (x6.length : Int) then ((some (([(-1000000), (-1000001), rd x6 1] : List Int) : List Int)).bind fun y237 => ((spec_l1Rd_below.f x182000 bt227.2 3).bind fun bt240 => (if 0 ≤ bt240.1 then (if bt240.1 < (y237.length : Int) then (if 0 < (x6.length : Int) then (spec_DrawRemap.j2 k (x6.set (0 : Int).toNat (rd y237 bt240.1)) x7 x9) else (none)) else (none)) else (none)))) else (none)) else (if bt227.1 = 2 then (if 0 < (x9.length : Int) then ((some (([1000000, 1000001, rd x9 0] : List Int) : List Int)).bind fun y245 => ((spec_l1Rd_below.f x182000 bt227.2 3).bind fun bt248 => (if 0 ≤ bt248.1 then (if bt248.1 < (y245.length : Int) then (if 0 ≤ (wrap64 ((x9.length : Int) - 1)) then (if (wrap64 ((x9.length : Int) - 1)) < (x9.length : Int) then (spec_DrawRemap.j2 k x6 x7 (x9.set ((wrap64 ((x9.length : Int) - 1)) : Int).toNat (rd y245 bt248.1))) else (none)) else (none)) else (none)) else (none)))) else (none)) else (if bt227.1 = 3 then ((some (([1] : List Int) : List Int)).bind fun y252 => (if x7.length + y252.length < 17592186044416 then (spec_DrawRemap.j2 k x6 (x7 ++ y252) x9) else (none))) else (if bt227.1 = 4 then (if 1 ≤ (x9.length : Int) then (spec_DrawRemap.j2 k x6 x7 (x9.take (1 : Int).toNat)) else (none)) else (if bt227.1 = 5 then ((some (([] : List Int) : List Int)).bind fun y261 => (if y261.length + x6.length < 17592186044416 then (spec_DrawRemap.j2 k x6 x7 (y261 ++ x6)) else (none))) else (spec_DrawRemap.j2 k x6 x7 x9)))))))
def spec_DrawRemap.j2 : Nat → List Int → List Int → List Int → Option (List Int × List Int × List Int)
 | 0, _, _, _ => none
 | k + 1, x6, x7, x9 => some (x6, x7, x9)
end
def spec_DrawRemap.f (k : Nat) (l0 : List Int) : Option (List Int × List Int × List Int) := (spec_l1Open.f l0).bind fun bt179 => ((spec_l11DrawEdges.f k bt179.1 bt179.2 20).bind fun bt182 => (spec_DrawRemap.l0 k bt182.1 (([] : List Int)) 0 bt179.1 bt182.2))
theorem spec_DrawRemap.mono_l : ∀ k, (∀ y0 y1 y2 y3 y4, LeO (spec_DrawRemap.l0 k y0 y1 y2 y3 y4) (spec_DrawRemap.l0 (k + 1) y0 y1 y2 y3 y4)) ∧ (∀ y0 y1 y2 y3 y4, LeO (spec_DrawRemap.j1 k y0 y1 y2 y3 y4) (spec_DrawRemap.j1 (k + 1) y0 y1 y2 y3 y4)) ∧ (∀ y0 y1 y2, LeO (spec_DrawRemap.j2 k y0 y1 y2) (spec_DrawRemap.j2 (k + 1) y0 y1 y2))
 | 0 => ⟨fun _ _ _ _ _ r h => by simp [spec_DrawRemap.l0] at h, fun _ _ _ _ _ r h => by simp [spec_DrawRemap.j1] at h, fun _ _ _ r h => by simp [spec_DrawRemap.j2] at h⟩
 | k + 1 => by
  obtain ⟨ih0, ih1, ih2⟩ := spec_DrawRemap.mono_l k
  refine ⟨?_, ?_, ?_⟩
  ·intro y0 y1 y2 y3 y4
   unfold spec_DrawRemap.l0
   repeat' first
   | (with_reducible exact ih0 _ _ _ _ _)
   | (with_reducible exact ih1 _ _ _ _ _)
   | (with_reducible exact ih2 _ _ _)
   | (with_reducible exact spec_l11DrawEdges.mono _ _ _ _)
   | (with_reducible exact LeO.refl _)
   | (with_reducible exact LeO.none _)
   | (with_reducible refine LeO.ite ?_ ?_)
   | (with_reducible refine LeO.bind ?_ (fun _ => ?_))
   | exact ih0 _ _ _ _ _
   | exact ih1 _ _ _ _ _
   | exact ih2 _ _ _
   | exact spec_l11DrawEdges.mono _ _ _ _
   | exact LeO.none _
   | refine LeO.ite ?_ ?_
   | refine LeO.bind ?_ (fun _ => ?_)
  ·intro y0 y1 y2 y3 y4
   unfold spec_DrawRemap.j1
   repeat' first
   | (with_reducible exact ih0 _ _ _ _ _)
   | (with_reducible exact ih1 _ _ _ _ _)
   | (with_reducible exact ih2 _ _ _)
   | (with_reducible exact spec_l11DrawEdges.mono _ _ _ _)
   | (with_reducible exact LeO.refl _)
   | (with_reducible exact LeO.none _)
   | (with_reducible refine LeO.ite ?_ ?_)
   | (with_reducible refine LeO.bind ?_ (fun _ => ?_))
   | exact ih0 _ _ _ _ _
   | exact ih1 _ _ _ _ _
   | exact ih2 _ _ _
   | exact spec_l11DrawEdges.mono _ _ _ _
   | exact LeO.none _
   | refine LeO.ite ?_ ?_
   | refine LeO.bind ?_ (fun _ => ?_)
  ·intro y0 y1 y2
   unfold spec_DrawRemap.j2
   repeat' first
   | (with_reducible exact ih0 _ _ _ _ _)
   | (with_reducible exact ih1 _ _ _ _ _)
   | (with_reducible exact ih2 _ _ _)
   | (with_reducible exact spec_l11DrawEdges.mono _ _ _ _)
   | (with_reducible exact LeO.refl _)
   | (with_reducible exact LeO.none _)
   | (with_reducible refine LeO.ite ?_ ?_)
   | (with_reducible refine LeO.bind ?_ (fun _ => ?_))
   | exact ih0 _ _ _ _ _
   | exact ih1 _ _ _ _ _
   | exact ih2 _ _ _
   | exact spec_l11DrawEdges.mono _ _ _ _
   | exact LeO.none _
   | refine LeO.ite ?_ ?_
   | refine LeO.bind ?_ (fun _ => ?_)
theorem spec_DrawRemap.mono : ∀ a0 k, LeO (spec_DrawRemap.f k a0) (spec_DrawRemap.f (k + 1) a0) := by
 intro a0 k
 obtain ⟨ih0, ih1, ih2⟩ := spec_DrawRemap.mono_l k
 unfold spec_DrawRemap.f
 repeat' first
   | (with_reducible exact ih0 _ _ _ _ _)
   | (with_reducible exact ih1 _ _ _ _ _)
   | (with_reducible exact ih2 _ _ _)
   | (with_reducible exact spec_l11DrawEdges.mono _ _ _ _)
   | (with_reducible exact LeO.refl _)
   | (with_reducible exact LeO.none _)
   | (with_reducible refine LeO.ite ?_ ?_)
   | (with_reducible refine LeO.bind ?_ (fun _ => ?_))
   | exact ih0 _ _ _ _ _
   | exact ih1 _ _ _ _ _
   | exact ih2 _ _ _
   | exact spec_l11DrawEdges.mono _ _ _ _
   | exact LeO.none _
   | refine LeO.ite ?_ ?_
   | refine LeO.bind ?_ (fun _ => ?_)
def spec_DrawRemap.T10 : Bool × List (List Nat × List Nat) := (true, [([], []), ([0], [0]), ([1], [1]), ([2], [2]), ([3], [3]), ([], []), ([], []), ([6], [6]), ([5, 7], [5, 7]), ([], []), ([], []), ([10], [10]), ([11], [11]), ([9, 12], [9, 12]), ([13], [13]), ([14], [14]), ([15], [15]), ([8, 16, 8], [8, 16]), ([4, 17, 17], [4, 17]), ([18, 18, 0, 1, 2, 3, 4, 5, 6, 7, 8, 9, 10, 11, 12, 13, 14, 15, 16, 17, 18], [6, 18])])
def spec_DrawRemap.B10 : List Nat := [0, 1, 3, 7, 15, 0, 0, 64, 224, 0, 0, 1024, 3072, 7680, 15872, 32256, 65024, 131040, 262143, 524287]
theorem spec_DrawRemap.tab10 : rtab .any (opsOf Try.f20 10) = spec_DrawRemap.T10 := by kernel_rfl
theorem spec_DrawRemap.bits10 : waitsOk spec_DrawRemap.T10.2 spec_DrawRemap.B10 = true := by kernel_rfl
def spec_DrawRemap.T15 : Bool × List (List Nat × List Nat) := (true, [([], []), ([], []), ([1], [1]), ([2], [2]), ([3], [3]), ([], []), ([5], [5]), ([4, 6], [4, 6]), ([7], [7]), ([0, 0, 1, 2, 3, 4, 5, 6, 7, 8], [0]), ([9, 8, 6, 0, 1, 2, 3, 4, 5, 6, 7, 8], [8, 9])])
def spec_DrawRemap.B15 : List Nat := [0, 0, 2, 6, 14, 0, 32, 126, 254, 511, 1023]
theorem spec_DrawRemap.tab15 : rtab .any (opsOf Try.f20 15) = spec_DrawRemap.T15 := by kernel_rfl
theorem spec_DrawRemap.bits15 : waitsOk spec_DrawRemap.T15.2 spec_DrawRemap.B15 = true := by kernel_rfl
def spec_DrawRemap.T17 : Bool × List (List Nat × List Nat) := (true, [([], []), ([], []), ([1], [1]), ([2], [2]), ([], []), ([4], [4]), ([5], [5]), ([6], [6]), ([], []), ([8], [8]), ([7, 9], [7, 9]), ([10], [10]), ([0, 3, 0, 1, 2, 3, 4, 5, 6, 7, 8, 9, 10, 11], [0, 3]), ([12, 11, 9, 0, 1, 2, 3, 4, 5, 6, 7, 8, 9, 10, 11], [11, 12])])
def spec_DrawRemap.B17 : List Nat := [0, 0, 2, 6, 0, 16, 48, 112, 0, 256, 1008, 2032, 4095, 8191]
theorem spec_DrawRemap.tab17 : rtab .any (opsOf Try.f20 17) = spec_DrawRemap.T17 := by kernel_rfl
theorem spec_DrawRemap.bits17 : waitsOk spec_DrawRemap.T17.2 spec_DrawRemap.B17 = true := by kernel_rfl
set_option maxHeartbeats 8000000 in
set_option maxRecDepth 100000 in
theorem spec_DrawRemap.calls (k : Nat) (A0 : Option Addr) (c0 : Nat) (l0 : List Int) (r1 : List Int) (r2 : List Int) (r3 : List Int) (w : World) (hr0 : Kd.C (Kd.int .u8) w A0 l0.length l0) (hc0 : l0.length ≤ c0) (h : spec_DrawRemap.f k l0 = some (r1, r2, r3)) :
  Calls Try.prog 20 #[.slice A0 l0.length c0] w fun e w' => ∃ v0_ v1_ v2_ : Value, e = .returned (.tuple #[v0_, v1_, v2_]) ∧ Kd.R (Kd.int .i64) 2 w' w.heap.size (fun k_ => some k_ ≠ (v1_ : Value).ownBlock ∧ some k_ ≠ (v2_ : Value).ownBlock) v0_ r1 ∧ Kd.R (Kd.int .i64) 2 w' w.heap.size (fun k_ => some k_ ≠ (v0_ : Value).ownBlock ∧ some k_ ≠ (v2_ : Value).ownBlock) v1_ r2 ∧ Kd.R (Kd.int .i64) 2 w' w.heap.size (fun k_ => some k_ ≠ (v0_ : Value).ownBlock ∧ some k_ ≠ (v1_ : Value).ownBlock) v2_ r3 ∧ Below w.heap.size w w' := by
 have HR0 := Aside0.mk hr0
 have HC0 := Aside0.mk hc0
 clear hr0 hc0
 have HB := Aside0.mk (Below.refl w.heap.size w)
 have H : ((spec_l1Open.f l0).bind fun bt179 => ((spec_l11DrawEdges.f k bt179.1 bt179.2 20).bind fun bt182 => (spec_DrawRemap.l0 k bt182.1 (([] : List Int)) 0 bt179.1 bt182.2))) = some (r1, r2, r3) := h
 clear h
 replace H := Option.bind_eq_some_iff.mp H
 obtain ⟨⟨t179, t180⟩, A20, H⟩ := H
 replace H : ((spec_l11DrawEdges.f k t179 t180 20).bind fun bt182 => (spec_DrawRemap.l0 k bt182.1 (([] : List Int)) 0 t179 bt182.2)) = some (r1, r2, r3) := H
 have A2 := Aside0.mk A20
 clear A20
 replace H := Option.bind_eq_some_iff.mp H
 obtain ⟨⟨t182, t185⟩, A30, H⟩ := H
 replace H : (spec_DrawRemap.l0 k t182 (([] : List Int)) 0 t179 t185) = some (r1, r2, r3) := H
 have A3 := Aside0.mk A30
 clear A30
 obtain ⟨y186, hy186⟩ : ∃ y_ : List Int, y_ = (([] : List Int)) := ⟨_, rfl⟩
 replace H : (spec_DrawRemap.l0 k t182 y186 0 t179 t185) = some (r1, r2, r3) := by first | (rw [hy186]; with_reducible exact H) | (have H2_ := (Option.bind_some _ _).symm.trans H; rw [hy186]; with_reducible exact H2_) | (have H2_ := (Option.bind_some _ _).symm.trans H; with_reducible exact H2_) | with_reducible exact H | (rw [hy186]; exact H) | exact H
 have Ny186 := Aside0.mk hy186
 clear hy186
 have H' := Aside0.mk H
 clear H
 go_enter Try.func20, Try.ntmps20
 go_wp2_with (first | ((with_reducible refine gate_callee (f := 33) rfl ?_); refine goesL_ (some 11) rfl rfl Try.func33 (by kernel_rfl) rfl #[.slice A0 l0.length c0] rfl (by (try simp only [List.map_toArray, List.map_cons, List.map_nil]); first | done | rfl | (simp only [List.length_drop, List.length_take]; rfl)) ?_; (with_reducible refine (spec_l1Open.calls _ _ l0 t179 t180 w _ ?side1 ?side2 ?side3 A2.out).mono ?_); (case side1 => repeat (first | (with_reducible first | exact HB.out | apply below_alloc | apply pw_below_drewN | apply below_drew1) | exact HB.out)); (case side2 => exact HR0.out); (case side3 => exact HC0.out); rintro e w4 ⟨g181, rfl, hi, hb, hb2⟩; refine ⟨_, rfl, ?_⟩; have n0_ := Aside0.mk (hb); have n1_ := Aside0.mk (hi); clear HB; have HB := n0_; have HI181 := n1_; clear n0_ n1_; (try clear hb); (try clear hb2); (try clear hk); (try clear hi)) | ((with_reducible refine gate_callee (f := 34) rfl ?_); refine goesL_ (some 13) rfl rfl Try.func34 (by kernel_rfl) rfl #[.pointer (some ⟨g181, 0, none⟩), .int .i64 20] rfl (by (try simp only [List.map_toArray, List.map_cons, List.map_nil]); first | done | rfl | (simp only [List.length_drop, List.length_take]; rfl)) ?_; (with_reducible refine (spec_l11DrawEdges.calls k g181 t179 t180 20 t182 t185 w _ ?side1 ?side2 A3.out).mono ?_); (case side1 => repeat (first | (with_reducible first | exact HI181.out | apply IsS59.alloc | apply IsS59.drewN | apply IsS59.drew | apply IsS59.set_1) | exact HI181.out)); (case side2 => repeat (first | (with_reducible first | exact HB.out | apply below_alloc | apply pw_below_drewN | apply below_drew1 | refine below_set ?_ (IsS59.ge HI181.out)) | exact HB.out)); rintro e w5 ⟨v183, rfl, ho0, hi, hb, hk⟩; refine ⟨_, rfl, ?_⟩; have n0_ := Aside0.mk (Kd.R_lower ho0 (below_size HB.out)); have n1_ := Aside0.mk (hb); have n2_ := Aside0.mk (hi); clear HB; clear HI181; have HO184 := n0_; have HB := n1_; have HI181 := n2_; clear n0_ n1_ n2_; (try clear hb); (try clear hb2); (try clear hk); (try clear hi); (try clear ho0)) | ((with_reducible refine gate_dst (N := 14) rfl ?_); refine Kd.R_lit (Kd.int .i64) _ 2 ?hg (N := 14) ?hd (xs := ([] : List Int)) (inner := []) (ok := fun _ => True) (okp := fun _ => True) ?hr ?hp (fun _ hk => hk) trivial (Below.refl _ _) (Nat.le_refl _) (by simp) ?_; (case hd => rfl); (case hg => rfl); (case hr => first | (go_simp; done) | (go_simp; rfl)); (case hp => exact (Reps.none _ _)); intro v187 w6 ho7 hb hg_ hnew_; clear hg_ hnew_; (first | rw [← Ny186.out] at ho7 | (simp only [Int.reduceToNat] at ho7; rw [← Ny186.out] at ho7)); have n0_ := Aside0.mk (Kd.R_elder' HO184.out (Kd.R_base ho7) hb); have n1_ := Aside0.mk (Kd.R_lower (Kd.R_new' ho7 (Kd.R_lt HO184.out)) (below_size HB.out)); have n2_ := Aside0.mk (IsS59.below HI181.out hb); have n3_ := Aside0.mk (below_step HB.out hb); clear HO184; clear HI181; clear HB; have HO184 := n0_; have HO188 := n1_; have HI181 := n2_; have HB := n3_; clear n0_ n1_ n2_ n3_; clear hb ho7))
 go_loopg [7, 8] k (fun kq v7 v8 w' => ∃ (x7_1 : List Int) (x8_1 : Int) (x182001_1 : Int), v8 = .int .i64 x8_1 ∧ Aside0 (spec_DrawRemap.l0 kq t182 x7_1 x8_1 t179 x182001_1 = some (r1, r2, r3)) ∧ Aside0 (kq ≤ k) ∧ Aside0 (Kd.R (Kd.int .i64) 2 w' w.heap.size (fun k_ => some k_ ≠ (v7 : Value).ownBlock) v183 t182) ∧ Aside0 (Kd.R (Kd.int .i64) 2 w' w.heap.size (fun k_ => some k_ ≠ (v183 : Value).ownBlock) v7 x7_1) ∧ Aside0 (IsS59 w w' g181 t179 x182001_1) ∧ Aside0 (Below w.heap.size w w'))
 case atStart => exact ⟨(y186), (0), (t185), (by first | rfl | (simp; done) | (simp [*]; done)), H', ⟨Nat.le_refl _⟩, ⟨by (with_reducible repeat (first | apply Kd.R_alloc | apply Kd.R_drewN | apply Kd.R_drew)); exact Kd.R_mono HO184.out (fun _ hk => hk.2)⟩, ⟨by (with_reducible repeat (first | apply Kd.R_alloc | apply Kd.R_drewN | apply Kd.R_drew)); exact Kd.R_mono HO188.out (fun _ hk => hk.2)⟩, ⟨HI181.out⟩, ⟨HB.out⟩⟩
 case round =>
  clear H'
  try clear c2
  try clear p2
  try clear c3
  obtain ⟨x7_1, x8_1, x182001_1, rfl, HA, HK1, HO_6, HO_7, HI181, HB⟩ := hrel
  cases gk with
  | zero => exact absurd HA.out (by simp [spec_DrawRemap.l0])
  | succ k1 =>
   have H := HA.out
   clear HA
   simp only [spec_DrawRemap.l0] at H
   by_cases c8 : (wrap64 (x8_1 + 1)) < (t182.length : Int)
   ·rw [if_pos c8] at H
    have c8b0 : decide ((wrap64 (x8_1 + 1)) < (t182.length : Int)) = true := decide_eq_true c8
    clear c8
    replace H := Option.bind_eq_some_iff.mp H
    obtain ⟨⟨t189, t190⟩, A90, H⟩ := H
    replace H : ((some (([t189] : List Int) : List Int)).bind fun y191 => (if x7_1.length + y191.length < 17592186044416 then (spec_DrawRemap.l0 k1 t182 (x7_1 ++ y191) (wrap64 (x8_1 + 1)) t179 t190) else (none))) = some (r1, r2, r3) := H
    have A9 := Aside0.mk A90
    clear A90
    obtain ⟨y191, hy191⟩ : ∃ y_ : List Int, y_ = (([t189] : List Int)) := ⟨_, rfl⟩
    replace H : (if x7_1.length + y191.length < 17592186044416 then (spec_DrawRemap.l0 k1 t182 (x7_1 ++ y191) (wrap64 (x8_1 + 1)) t179 t190) else (none)) = some (r1, r2, r3) := by first | (rw [hy191]; with_reducible exact H) | (have H2_ := (Option.bind_some _ _).symm.trans H; rw [hy191]; with_reducible exact H2_) | (have H2_ := (Option.bind_some _ _).symm.trans H; with_reducible exact H2_) | with_reducible exact H | (rw [hy191]; exact H) | exact H
    have Ny191 := Aside0.mk hy191
    clear hy191
    by_cases c10 : x7_1.length + y191.length < 17592186044416
    ·rw [if_pos c10] at H
     have LMc10 := Aside0.mk c10
     clear c10
     obtain ⟨y194, hy194⟩ : ∃ y_ : List Int, y_ = (x7_1 ++ y191) := ⟨_, rfl⟩
     replace H : (spec_DrawRemap.l0 k1 t182 y194 (wrap64 (x8_1 + 1)) t179 t190) = some (r1, r2, r3) := by first | (rw [hy194]; with_reducible exact H) | (have H2_ := (Option.bind_some _ _).symm.trans H; rw [hy194]; with_reducible exact H2_) | (have H2_ := (Option.bind_some _ _).symm.trans H; with_reducible exact H2_) | with_reducible exact H | (rw [hy194]; exact H) | exact H
     have Ny194 := Aside0.mk hy194
     clear hy194
     have H' := Aside0.mk H
     clear H
     obtain ⟨Ao11, co11, eo11⟩ := Kd.R_slice HO_6.out
     subst eo11
     go_wp2_with (first | ((with_reducible refine gate_callee (f := 35) rfl ?_); refine goesL_ (some 24) rfl rfl Try.func35 (by kernel_rfl) rfl #[.pointer (some ⟨g181, 0, none⟩), .int .i64 1000] rfl (by (try simp only [List.map_toArray, List.map_cons, List.map_nil]); first | done | rfl | (simp only [List.length_drop, List.length_take]; rfl)) ?_; (with_reducible refine (spec_l1Rd_below.calls g181 t179 x182001_1 1000 t189 t190 w _ ?side1 ?side2 A9.out).mono ?_); (case side1 => repeat (first | (with_reducible first | exact HI181.out | apply IsS59.alloc | apply IsS59.drewN | apply IsS59.drew | apply IsS59.set_1) | exact HI181.out)); (case side2 => repeat (first | (with_reducible first | exact HB.out | apply below_alloc | apply pw_below_drewN | apply below_drew1 | refine below_set ?_ (IsS59.ge HI181.out)) | exact HB.out)); rintro e w12 ⟨rfl, hi, hb, hk⟩; refine ⟨_, rfl, ?_⟩; have n0_ := Aside0.mk (Kd.R_mono (Kd.R_keep (IsS59.apart (show IsS59 w _ g181 t179 x182001_1 from by repeat (first | (with_reducible first | exact HI181.out | apply IsS59.alloc | apply IsS59.drewN | apply IsS59.drew | apply IsS59.set_1) | exact HI181.out)) HO_6.out (by decide)) hk (fun _ h => h.2)) (fun _ h => h.1)); have n1_ := Aside0.mk (Kd.R_mono (Kd.R_keep (IsS59.apart (show IsS59 w _ g181 t179 x182001_1 from by repeat (first | (with_reducible first | exact HI181.out | apply IsS59.alloc | apply IsS59.drewN | apply IsS59.drew | apply IsS59.set_1) | exact HI181.out)) HO_7.out (by decide)) hk (fun _ h => h.2)) (fun _ h => h.1)); have n2_ := Aside0.mk (hb); have n3_ := Aside0.mk (hi); clear HO_6; clear HO_7; clear HB; clear HI181; have HO_6 := n0_; have HO_7 := n1_; have HB := n2_; have HI181 := n3_; clear n0_ n1_ n2_ n3_; (try clear hb); (try clear hb2); (try clear hk); (try clear hi)) | ((with_reducible refine gate_dst (N := 25) rfl ?_); refine Kd.R_lit (Kd.int .i64) _ 2 ?hg (N := 25) ?hd (xs := ([t189] : List Int)) (inner := [.int .i64 t189]) (ok := fun _ => True) (okp := fun _ => True) ?hr ?hp (fun _ hk => hk) trivial (Below.refl _ _) (Nat.le_refl _) (by simp) ?_; (case hd => rfl); (case hg => rfl); (case hr => first | (go_simp; done) | (go_simp; rfl)); (case hp => exact (Reps.one (show Kd.M (Kd.int .i64) _ _ _ t189 [.int .i64 t189] from rfl) (Reps.none _ _))); intro v192 w13 ho14 hb hg_ hnew_; clear hg_ hnew_; (first | rw [← Ny191.out] at ho14 | (simp only [Int.reduceToNat] at ho14; rw [← Ny191.out] at ho14)); have n0_ := Aside0.mk (Kd.R_elder' HO_6.out (Kd.R_base ho14) hb); have n1_ := Aside0.mk (Kd.R_elder' HO_7.out (Kd.R_base ho14) hb); have n2_ := Aside0.mk (Kd.R_lower (Kd.R_new' (Kd.R_new' ho14 (Kd.R_lt HO_6.out)) (Kd.R_lt HO_7.out)) (below_size HB.out)); have n3_ := Aside0.mk (IsS59.below HI181.out hb); have n4_ := Aside0.mk (below_step HB.out hb); clear HO_6; clear HO_7; clear HI181; clear HB; have HO_6 := n0_; have HO_7 := n1_; have HO193 := n2_; have HI181 := n3_; have HB := n4_; clear n0_ n1_ n2_ n3_ n4_; clear hb ho14; obtain ⟨Ao16, co16, eo16⟩ := Kd.R_slice HO193.out; subst eo16) | ((with_reducible refine gate_builtin (b := .append) (xs := #[.tmp 22, .tmp 25]) rfl ?_); at_builtin; refine Kd.R_append_rows (Kd.int .i64) (w0 := w) w.heap.size rfl (.tmp 22) (.tmp 25) 30 2 (.int .i64 0) 8 rfl Try.underlying30 info2 rfl (by decide) (by omega) u7 x7_1 y191 _ _ _ (fun k_ => some k_ ≠ (.slice Ao11 t182.length co11 : Value).ownBlock ∧ some k_ ≠ (.slice Ao16 y191.length co16 : Value).ownBlock) (fun _ => False) rfl rfl ?aO ?aR (fun _ _ h => h) (fun _ h => h.elim) ?aF ?aB ?aS ?aL ?_; (case aR => repeat (first | exact (Kd.R_reads' HO193.out).2.2 | (with_reducible refine Kd.C_alloc ?_ _) | (with_reducible refine Kd.C_drewN ?_ _) | (with_reducible refine Kd.C_drew ?_))); (case aB => exact HB.out); (case aF => exact (fun k_ hk => ⟨Kd.fresh' (Kd.R_lt HO_6.out) k_ hk, Kd.fresh' (Kd.R_lt HO193.out) k_ hk⟩)); (case aO => exact HO_7.out); (case aS => exact (below_size HB.out)); (case aL => have := LMc10.out; omega); intro v195 w15 ho hb hg hat; rw [← Ny194.out] at ho; have n0_ := Aside0.mk (Kd.R_after (ok := (fun k_ => some k_ ≠ (.slice Ao16 y191.length co16 : Value).ownBlock)) (Kd.R_mono HO_6.out (fun _ hk => ⟨hk.2, hk.1⟩)) hg hat); have n1_ := Aside0.mk (IsS59.grown HI181.out hg (IsS59.own_ne HI181.out HO_7.out (by decide))); have n2_ := Aside0.mk (Kd.R_after (ok := (fun k_ => some k_ ≠ (.slice Ao11 t182.length co11 : Value).ownBlock)) (Kd.R_mono HO193.out (fun _ hk => ⟨hk.1.2, hk.2⟩)) hg hat); have n3_ := Aside0.mk (hb); have n4_ := Aside0.mk (ho); clear HO_6; clear HI181; clear HO193; clear HB; clear HO_7; have HO_6 := n0_; have HI181 := n1_; have HO193 := n2_; have HB := n3_; have HO196 := n4_; clear n0_ n1_ n2_ n3_ n4_; clear ho hb hg hat))
     go_roundg k1
     case measure => have := HK1.out; omega
     case rel => exact ⟨(y194), (wrap64 (x8_1 + 1)), (t190), (by first | rfl | (simp; done) | (simp [*]; done)), H', ⟨by have := HK1.out; omega⟩, ⟨by (with_reducible repeat (first | apply Kd.R_alloc | apply Kd.R_drewN | apply Kd.R_drew)); exact Kd.R_mono HO_6.out (fun _ hk => hk.2)⟩, ⟨by (with_reducible repeat (first | apply Kd.R_alloc | apply Kd.R_drewN | apply Kd.R_drew)); exact Kd.R_mono HO196.out (fun _ hk => hk.1)⟩, ⟨HI181.out⟩, ⟨HB.out⟩⟩
    ·rw [if_neg c10] at H
     exact absurd H (by simp)
   ·rw [if_neg c8] at H
    have c8b0 : decide ((wrap64 (x8_1 + 1)) < (t182.length : Int)) = false := decide_eq_false c8
    clear c8
    replace H := Option.bind_eq_some_iff.mp H
    obtain ⟨⟨t197, t200⟩, A170, H⟩ := H
    replace H : ((spec_l1Rd_once.f t179 t200 3).bind fun bt201 => (if bt201.1 = true then (if 0 < (t182.length : Int) then ((some (([wrap64 ((rd t182 0) - 3)] : List Int) : List Int)).bind fun y204 => ((some (([] : List Int) : List Int)).bind fun y207 => (if 0 ≤ (t197.length : Int) then ((some (t197.take 0 : List Int)).bind fun y210 => (if y207.length + y210.length < 17592186044416 then ((some (y207 ++ y210 : List Int)).bind fun y214 => (if 0 ≤ (wrap64 ((t182.length : Int) - 1)) then (if (wrap64 ((t182.length : Int) - 1)) < (t182.length : Int) then ((some (([wrap64 ((rd t182 (wrap64 ((t182.length : Int) - 1))) + 2)] : List Int) : List Int)).bind fun y218 => (if y214.length + y218.length < 17592186044416 then ((some (y214 ++ y218 : List Int)).bind fun y221 => (if y204.length + y221.length < 17592186044416 then (spec_DrawRemap.j1 k1 t182 x7_1 (y204 ++ y221) t179 bt201.2) else (none))) else (none))) else (none)) else (none))) else (none))) else (none)))) else (none)) else (spec_DrawRemap.j1 k1 t182 x7_1 t197 t179 bt201.2))) = some (r1, r2, r3) := H
    have A17 := Aside0.mk A170
    clear A170
    replace H := Option.bind_eq_some_iff.mp H
    obtain ⟨⟨t201, t202⟩, A180, H⟩ := H
    replace H : (if t201 = true then (if 0 < (t182.length : Int) then ((some (([wrap64 ((rd t182 0) - 3)] : List Int) : List Int)).bind fun y204 => ((some (([] : List Int) : List Int)).bind fun y207 => (if 0 ≤ (t197.length : Int) then ((some (t197.take 0 : List Int)).bind fun y210 => (if y207.length + y210.length < 17592186044416 then ((some (y207 ++ y210 : List Int)).bind fun y214 => (if 0 ≤ (wrap64 ((t182.length : Int) - 1)) then (if (wrap64 ((t182.length : Int) - 1)) < (t182.length : Int) then ((some (([wrap64 ((rd t182 (wrap64 ((t182.length : Int) - 1))) + 2)] : List Int) : List Int)).bind fun y218 => (if y214.length + y218.length < 17592186044416 then ((some (y214 ++ y218 : List Int)).bind fun y221 => (if y204.length + y221.length < 17592186044416 then (spec_DrawRemap.j1 k1 t182 x7_1 (y204 ++ y221) t179 t202) else (none))) else (none))) else (none)) else (none))) else (none))) else (none)))) else (none)) else (spec_DrawRemap.j1 k1 t182 x7_1 t197 t179 t202)) = some (r1, r2, r3) := H
    have A18 := Aside0.mk A180
    clear A180
    have HC19 := Aside0.mk H
    clear H
    obtain ⟨Ao20, co20, eo20⟩ := Kd.R_slice HO_6.out
    subst eo20
    go_upto_if 30 with (first | ((with_reducible refine gate_callee (f := 34) rfl ?_); refine goesL_ (some 28) rfl rfl Try.func34 (by kernel_rfl) rfl #[.pointer (some ⟨g181, 0, none⟩), .int .i64 20] rfl (by (try simp only [List.map_toArray, List.map_cons, List.map_nil]); first | done | rfl | (simp only [List.length_drop, List.length_take]; rfl)) ?_; (with_reducible refine (spec_l11DrawEdges.calls k1 g181 t179 x182001_1 20 t197 t200 w _ ?side1 ?side2 A17.out).mono ?_); (case side1 => repeat (first | (with_reducible first | exact HI181.out | apply IsS59.alloc | apply IsS59.drewN | apply IsS59.drew | apply IsS59.set_1) | exact HI181.out)); (case side2 => repeat (first | (with_reducible first | exact HB.out | apply below_alloc | apply pw_below_drewN | apply below_drew1 | refine below_set ?_ (IsS59.ge HI181.out)) | exact HB.out)); rintro e w21 ⟨v198, rfl, ho0, hi, hb, hk⟩; refine ⟨_, rfl, ?_⟩; have n0_ := Aside0.mk (Kd.R_mono (Kd.R_told (Kd.R_oldK (IsS59.apart (show IsS59 w _ g181 t179 x182001_1 from by repeat (first | (with_reducible first | exact HI181.out | apply IsS59.alloc | apply IsS59.drewN | apply IsS59.drew | apply IsS59.set_1) | exact HI181.out)) HO_6.out (by decide)) hk) (Kd.R_base ho0)) (fun _ h_ => h_.1)); have n1_ := Aside0.mk (Kd.R_mono (Kd.R_told (Kd.R_oldK (IsS59.apart (show IsS59 w _ g181 t179 x182001_1 from by repeat (first | (with_reducible first | exact HI181.out | apply IsS59.alloc | apply IsS59.drewN | apply IsS59.drew | apply IsS59.set_1) | exact HI181.out)) HO_7.out (by decide)) hk) (Kd.R_base ho0)) (fun _ h_ => h_.1)); have n2_ := Aside0.mk (Kd.R_lower (Kd.R_new' (Kd.R_new' ho0 (Kd.R_lt HO_6.out)) (Kd.R_lt HO_7.out)) (below_size HB.out)); have n3_ := Aside0.mk (hb); have n4_ := Aside0.mk (hi); clear HO_6; clear HO_7; clear HB; clear HI181; have HO_6 := n0_; have HO_7 := n1_; have HO199 := n2_; have HB := n3_; have HI181 := n4_; clear n0_ n1_ n2_ n3_ n4_; (try clear hb); (try clear hb2); (try clear hk); (try clear hi); (try clear ho0)) | ((with_reducible refine gate_callee (f := 36) rfl ?_); refine goesL_ (some 30) rfl rfl Try.func36 (by kernel_rfl) rfl #[.pointer (some ⟨g181, 0, none⟩), .int .i64 3] rfl (by (try simp only [List.map_toArray, List.map_cons, List.map_nil]); first | done | rfl | (simp only [List.length_drop, List.length_take]; rfl)) ?_; (with_reducible refine (spec_l1Rd_once.calls g181 t179 t200 3 t201 t202 w _ ?side1 ?side2 A18.out).mono ?_); (case side1 => repeat (first | (with_reducible first | exact HI181.out | apply IsS59.alloc | apply IsS59.drewN | apply IsS59.drew | apply IsS59.set_1) | exact HI181.out)); (case side2 => repeat (first | (with_reducible first | exact HB.out | apply below_alloc | apply pw_below_drewN | apply below_drew1 | refine below_set ?_ (IsS59.ge HI181.out)) | exact HB.out)); rintro e w22 ⟨rfl, hi, hb, hk⟩; refine ⟨_, rfl, ?_⟩; have n0_ := Aside0.mk (Kd.R_mono (Kd.R_keep (IsS59.apart (show IsS59 w _ g181 t179 t200 from by repeat (first | (with_reducible first | exact HI181.out | apply IsS59.alloc | apply IsS59.drewN | apply IsS59.drew | apply IsS59.set_1) | exact HI181.out)) HO_6.out (by decide)) hk (fun _ h => h.2)) (fun _ h => h.1)); have n1_ := Aside0.mk (Kd.R_mono (Kd.R_keep (IsS59.apart (show IsS59 w _ g181 t179 t200 from by repeat (first | (with_reducible first | exact HI181.out | apply IsS59.alloc | apply IsS59.drewN | apply IsS59.drew | apply IsS59.set_1) | exact HI181.out)) HO_7.out (by decide)) hk (fun _ h => h.2)) (fun _ h => h.1)); have n2_ := Aside0.mk (Kd.R_mono (Kd.R_keep (IsS59.apart (show IsS59 w _ g181 t179 t200 from by repeat (first | (with_reducible first | exact HI181.out | apply IsS59.alloc | apply IsS59.drewN | apply IsS59.drew | apply IsS59.set_1) | exact HI181.out)) HO199.out (by decide)) hk (fun _ h => h.2)) (fun _ h => h.1)); have n3_ := Aside0.mk (hb); have n4_ := Aside0.mk (hi); clear HO_6; clear HO_7; clear HO199; clear HB; clear HI181; have HO_6 := n0_; have HO_7 := n1_; have HO199 := n2_; have HB := n3_; have HI181 := n4_; clear n0_ n1_ n2_ n3_ n4_; (try clear hb); (try clear hb2); (try clear hk); (try clear hi)))
    (try simp only [Act.put, sqA, sqZ, sqS])
    go_cut [9] (fun v9 wc => ∃ (kq : Nat) (x9_18 : List Int), Aside0 (spec_DrawRemap.j1 kq t182 x7_1 x9_18 t179 t202 = some (r1, r2, r3)) ∧ Aside0 (kq ≤ k1) ∧ Aside0 (Kd.R (Kd.int .i64) 2 wc w.heap.size (fun k_ => some k_ ≠ (u7 : Value).ownBlock ∧ some k_ ≠ (v9 : Value).ownBlock) (.slice Ao20 t182.length co20) t182) ∧ Aside0 (Kd.R (Kd.int .i64) 2 wc w.heap.size (fun k_ => some k_ ≠ ((.slice Ao20 t182.length co20) : Value).ownBlock ∧ some k_ ≠ (v9 : Value).ownBlock) u7 x7_1) ∧ Aside0 (Kd.R (Kd.int .i64) 2 wc w.heap.size (fun k_ => some k_ ≠ ((.slice Ao20 t182.length co20) : Value).ownBlock ∧ some k_ ≠ (u7 : Value).ownBlock) v9 x9_18) ∧ Aside0 (IsS59 w wc g181 t179 t202) ∧ Aside0 (Below w.heap.size w wc))
    case first =>
     have H := HC19.out
     clear HC19
     by_cases c23 : t201 = true
     ·subst c23
      have H1 : (if 0 < (t182.length : Int) then ((some (([wrap64 ((rd t182 0) - 3)] : List Int) : List Int)).bind fun y204 => ((some (([] : List Int) : List Int)).bind fun y207 => (if 0 ≤ (t197.length : Int) then ((some (t197.take 0 : List Int)).bind fun y210 => (if y207.length + y210.length < 17592186044416 then ((some (y207 ++ y210 : List Int)).bind fun y214 => (if 0 ≤ (wrap64 ((t182.length : Int) - 1)) then (if (wrap64 ((t182.length : Int) - 1)) < (t182.length : Int) then ((some (([wrap64 ((rd t182 (wrap64 ((t182.length : Int) - 1))) + 2)] : List Int) : List Int)).bind fun y218 => (if y214.length + y218.length < 17592186044416 then ((some (y214 ++ y218 : List Int)).bind fun y221 => (if y204.length + y221.length < 17592186044416 then (spec_DrawRemap.j1 k1 t182 x7_1 (y204 ++ y221) t179 t202) else (none))) else (none))) else (none)) else (none))) else (none))) else (none)))) else (none)) = some (r1, r2, r3) := by rw [if_pos rfl] at H; exact H
      clear H
      have H := H1
      clear H1
      by_cases c24 : 0 < (t182.length : Int)
      ·rw [if_pos c24] at H
       have c24b0 : decide (0 < (t182.length : Int)) = true := decide_eq_true c24
       have c24b1 : decide (0 < t182.length) = true := decide_eq_true (by omega)
       clear c24
       (first | rw [c24b0] | (simp only [i64_w, i32_w]; rw [c24b0]) | skip)
       obtain ⟨y204, hy204⟩ : ∃ y_ : List Int, y_ = (([wrap64 ((rd t182 0) - 3)] : List Int)) := ⟨_, rfl⟩
       replace H : ((some (([] : List Int) : List Int)).bind fun y207 => (if 0 ≤ (t197.length : Int) then ((some (t197.take 0 : List Int)).bind fun y210 => (if y207.length + y210.length < 17592186044416 then ((some (y207 ++ y210 : List Int)).bind fun y214 => (if 0 ≤ (wrap64 ((t182.length : Int) - 1)) then (if (wrap64 ((t182.length : Int) - 1)) < (t182.length : Int) then ((some (([wrap64 ((rd t182 (wrap64 ((t182.length : Int) - 1))) + 2)] : List Int) : List Int)).bind fun y218 => (if y214.length + y218.length < 17592186044416 then ((some (y214 ++ y218 : List Int)).bind fun y221 => (if y204.length + y221.length < 17592186044416 then (spec_DrawRemap.j1 k1 t182 x7_1 (y204 ++ y221) t179 t202) else (none))) else (none))) else (none)) else (none))) else (none))) else (none))) = some (r1, r2, r3) := by first | (rw [hy204]; with_reducible exact H) | (have H2_ := (Option.bind_some _ _).symm.trans H; rw [hy204]; with_reducible exact H2_) | (have H2_ := (Option.bind_some _ _).symm.trans H; with_reducible exact H2_) | with_reducible exact H | (rw [hy204]; exact H) | exact H
       have Ny204 := Aside0.mk hy204
       clear hy204
       obtain ⟨y207, hy207⟩ : ∃ y_ : List Int, y_ = (([] : List Int)) := ⟨_, rfl⟩
       replace H : (if 0 ≤ (t197.length : Int) then ((some (t197.take 0 : List Int)).bind fun y210 => (if y207.length + y210.length < 17592186044416 then ((some (y207 ++ y210 : List Int)).bind fun y214 => (if 0 ≤ (wrap64 ((t182.length : Int) - 1)) then (if (wrap64 ((t182.length : Int) - 1)) < (t182.length : Int) then ((some (([wrap64 ((rd t182 (wrap64 ((t182.length : Int) - 1))) + 2)] : List Int) : List Int)).bind fun y218 => (if y214.length + y218.length < 17592186044416 then ((some (y214 ++ y218 : List Int)).bind fun y221 => (if y204.length + y221.length < 17592186044416 then (spec_DrawRemap.j1 k1 t182 x7_1 (y204 ++ y221) t179 t202) else (none))) else (none))) else (none)) else (none))) else (none))) else (none)) = some (r1, r2, r3) := by first | (rw [hy207]; with_reducible exact H) | (have H2_ := (Option.bind_some _ _).symm.trans H; rw [hy207]; with_reducible exact H2_) | (have H2_ := (Option.bind_some _ _).symm.trans H; with_reducible exact H2_) | with_reducible exact H | (rw [hy207]; exact H) | exact H
       have Ny207 := Aside0.mk hy207
       clear hy207
       by_cases c25 : 0 ≤ (t197.length : Int)
       ·rw [if_pos c25] at H
        have c25b0 := eq_true c25
        have c25b1 : decide (0 ≤ (t197.length : Int)) = true := decide_eq_true c25
        clear c25
        obtain ⟨y210, hy210⟩ : ∃ y_ : List Int, y_ = (t197.take 0) := ⟨_, rfl⟩
        replace H : (if y207.length + y210.length < 17592186044416 then ((some (y207 ++ y210 : List Int)).bind fun y214 => (if 0 ≤ (wrap64 ((t182.length : Int) - 1)) then (if (wrap64 ((t182.length : Int) - 1)) < (t182.length : Int) then ((some (([wrap64 ((rd t182 (wrap64 ((t182.length : Int) - 1))) + 2)] : List Int) : List Int)).bind fun y218 => (if y214.length + y218.length < 17592186044416 then ((some (y214 ++ y218 : List Int)).bind fun y221 => (if y204.length + y221.length < 17592186044416 then (spec_DrawRemap.j1 k1 t182 x7_1 (y204 ++ y221) t179 t202) else (none))) else (none))) else (none)) else (none))) else (none)) = some (r1, r2, r3) := by first | (rw [hy210]; with_reducible exact H) | (have H2_ := (Option.bind_some _ _).symm.trans H; rw [hy210]; with_reducible exact H2_) | (have H2_ := (Option.bind_some _ _).symm.trans H; with_reducible exact H2_) | with_reducible exact H | (rw [hy210]; exact H) | exact H
        have Ny210 := Aside0.mk hy210
        clear hy210
        by_cases c26 : y207.length + y210.length < 17592186044416
        ·rw [if_pos c26] at H
         have LMc26 := Aside0.mk c26
         clear c26
         obtain ⟨y214, hy214⟩ : ∃ y_ : List Int, y_ = (y207 ++ y210) := ⟨_, rfl⟩
         replace H : (if 0 ≤ (wrap64 ((t182.length : Int) - 1)) then (if (wrap64 ((t182.length : Int) - 1)) < (t182.length : Int) then ((some (([wrap64 ((rd t182 (wrap64 ((t182.length : Int) - 1))) + 2)] : List Int) : List Int)).bind fun y218 => (if y214.length + y218.length < 17592186044416 then ((some (y214 ++ y218 : List Int)).bind fun y221 => (if y204.length + y221.length < 17592186044416 then (spec_DrawRemap.j1 k1 t182 x7_1 (y204 ++ y221) t179 t202) else (none))) else (none))) else (none)) else (none)) = some (r1, r2, r3) := by first | (rw [hy214]; with_reducible exact H) | (have H2_ := (Option.bind_some _ _).symm.trans H; rw [hy214]; with_reducible exact H2_) | (have H2_ := (Option.bind_some _ _).symm.trans H; with_reducible exact H2_) | with_reducible exact H | (rw [hy214]; exact H) | exact H
         have Ny214 := Aside0.mk hy214
         clear hy214
         obtain ⟨ji27, hji27⟩ : ∃ j_ : Int, (wrap64 ((t182.length : Int) - 1)) = j_ := ⟨_, rfl⟩
         replace H : (if 0 ≤ (ji27) then (if (ji27) < (t182.length : Int) then ((some (([wrap64 ((rd t182 (ji27)) + 2)] : List Int) : List Int)).bind fun y218 => (if y214.length + y218.length < 17592186044416 then ((some (y214 ++ y218 : List Int)).bind fun y221 => (if y204.length + y221.length < 17592186044416 then (spec_DrawRemap.j1 k1 t182 x7_1 (y204 ++ y221) t179 t202) else (none))) else (none))) else (none)) else (none)) = some (r1, r2, r3) := by first | (rw [hji27] at H; exact H) | (simp only [hji27] at H ⊢; exact H)
         have hji27w : (IntKind.i64.wrap ((t182.length : Int) - 1)) = ji27 := (i64_w _).trans hji27
         by_cases c28 : 0 ≤ (ji27)
         ·rw [if_pos c28] at H
          have c28b0 : decide (0 ≤ (ji27)) = true := decide_eq_true c28
          clear c28
          by_cases c29 : (ji27) < (t182.length : Int)
          ·rw [if_pos c29] at H
           have c29b0 : decide ((ji27) < (t182.length : Int)) = true := decide_eq_true c29
           clear c29
           obtain ⟨y218, hy218⟩ : ∃ y_ : List Int, y_ = (([wrap64 ((rd t182 (ji27)) + 2)] : List Int)) := ⟨_, rfl⟩
           replace H : (if y214.length + y218.length < 17592186044416 then ((some (y214 ++ y218 : List Int)).bind fun y221 => (if y204.length + y221.length < 17592186044416 then (spec_DrawRemap.j1 k1 t182 x7_1 (y204 ++ y221) t179 t202) else (none))) else (none)) = some (r1, r2, r3) := by first | (rw [hy218]; with_reducible exact H) | (have H2_ := (Option.bind_some _ _).symm.trans H; rw [hy218]; with_reducible exact H2_) | (have H2_ := (Option.bind_some _ _).symm.trans H; with_reducible exact H2_) | with_reducible exact H | (rw [hy218]; exact H) | exact H
           have Ny218 := Aside0.mk hy218
           clear hy218
           by_cases c30 : y214.length + y218.length < 17592186044416
           ·rw [if_pos c30] at H
            have LMc30 := Aside0.mk c30
            clear c30
            obtain ⟨y221, hy221⟩ : ∃ y_ : List Int, y_ = (y214 ++ y218) := ⟨_, rfl⟩
            replace H : (if y204.length + y221.length < 17592186044416 then (spec_DrawRemap.j1 k1 t182 x7_1 (y204 ++ y221) t179 t202) else (none)) = some (r1, r2, r3) := by first | (rw [hy221]; with_reducible exact H) | (have H2_ := (Option.bind_some _ _).symm.trans H; rw [hy221]; with_reducible exact H2_) | (have H2_ := (Option.bind_some _ _).symm.trans H; with_reducible exact H2_) | with_reducible exact H | (rw [hy221]; exact H) | exact H
            have Ny221 := Aside0.mk hy221
            clear hy221
            by_cases c31 : y204.length + y221.length < 17592186044416
            ·rw [if_pos c31] at H
             have LMc31 := Aside0.mk c31
             clear c31
             obtain ⟨y224, hy224⟩ : ∃ y_ : List Int, y_ = (y204 ++ y221) := ⟨_, rfl⟩
             replace H : (spec_DrawRemap.j1 k1 t182 x7_1 y224 t179 t202) = some (r1, r2, r3) := by first | (rw [hy224]; with_reducible exact H) | (have H2_ := (Option.bind_some _ _).symm.trans H; rw [hy224]; with_reducible exact H2_) | (have H2_ := (Option.bind_some _ _).symm.trans H; with_reducible exact H2_) | with_reducible exact H | (rw [hy224]; exact H) | exact H
             have Ny224 := Aside0.mk hy224
             clear hy224
             have H' := Aside0.mk H
             clear H
             try go_wp2
             have n0_ := Aside0.mk (Kd.R_drew HO_6.out)
             have n1_ := Aside0.mk (Kd.R_drew HO_7.out)
             have n2_ := Aside0.mk (Kd.R_drew HO199.out)
             have n3_ := Aside0.mk (IsS59.drew HI181.out)
             have n4_ := Aside0.mk (below_drew1 HB.out)
             clear HO_6
             clear HO_7
             clear HO199
             clear HI181
             clear HB
             have HO_6 := n0_
             have HO_7 := n1_
             have HO199 := n2_
             have HI181 := n3_
             have HB := n4_
             clear n0_ n1_ n2_ n3_ n4_
             have p203 : 0 ≤ (0 : Int) := (by omega)
             have q203 : 0 < (t182.length : Int) := of_decide_eq_true (by first | (with_reducible assumption) | assumption)
             obtain ⟨ad203, e203, hx203_0⟩ := Kd.at_int (Kd.R_reads' HO_6.out).2.2 0 p203 q203
             cases e203
             have qi203 : (0 < t182.length) = True := eq_true (by omega)
             (try rw [show ((0 : Int)).toNat = 0 from rfl] at hx203_0)
             (try rw [Addr.add_zero'] at hx203_0)
             replace p203 := eq_true p203
             replace q203 := eq_true q203
             obtain ⟨Ao34, co34, eo34⟩ := Kd.R_slice HO199.out
             (first | subst eo34 | (injection eo34 with f1_ f2_ f3_; have f4_ := f1_.symm; have f5_ := f3_.symm; clear f1_ f2_ f3_; subst f4_; subst f5_))
             have q33 : (0 : Int) ≤ ((t197.length : Int) : Int) := of_decide_eq_true (by first | (with_reducible assumption) | assumption)
             obtain ⟨i033, hi033, _, hsz33, _⟩ := info_parts info2
             have hroom33 : t197.length ≤ co34 := (Kd.R_reads' HO199.out).2.1
             have hC33 : Kd.C (Kd.int .i64) _ Ao34 t197.length t197 := (Kd.R_reads' HO199.out).2.2
             have hcut33 := cut_to (P := Try.prog) 30 2 .i64 Try.underlying30 hi033 Ao34 t197.length co34 0 (by omega) q33 hroom33
             have hr33 := Kd.C_take (m := 0) hC33 (by omega)
             have hy33 : y210.length = (0 : Int).toNat := (by rw [Ny210.out, List.length_take]; omega)
             rw [← Ny210.out] at hr33
             rw [← hy33] at hcut33
             have HR213 := Aside0.mk hr33
             have HC213 := Aside0.mk (show y210.length ≤ co34 from by omega)
             clear hr33 hC33 hroom33 hi033 hsz33
             have KY33 := Aside0.mk hy33
             clear hy33
             have KL33 := Aside0.mk (show 0 ≤ t197.length from by omega)
             replace q33 := eq_true q33
             have p217 : 0 ≤ ((ji27) : Int) := of_decide_eq_true (by first | (with_reducible assumption) | assumption)
             have q217 : (ji27) < (t182.length : Int) := of_decide_eq_true (by first | (with_reducible assumption) | assumption)
             obtain ⟨ad217, e217, hx217_0⟩ := Kd.at_int (Kd.R_reads' HO_6.out).2.2 (ji27) p217 q217
             obtain rfl : ad203 = ad217 := (by injection e217)
             replace p217 := eq_true p217
             replace q217 := eq_true q217
             refine start_ (n := 20) (S := fun w' => w'.cell? ad203 = some (.int .i64 (rd t182 0)) ∧ w'.cell? (ad203.add ((ji27)).toNat) = some (.int .i64 (rd t182 (ji27)))) (ds := []) #[false, false, false, false, false, false, false, false, false, false, false, false, false, false, false, false, false, false, false, false] (by kernel_rfl) rfl rfl ⟨hx203_0, hx217_0⟩ (fun hHeld => ?_); refine with_tabW spec_DrawRemap.tab10 spec_DrawRemap.bits10 (fun HT_ HW_ => ?_)
             generalize w22.drew = w32 at HO_6 HO_7 HO199 HI181 HB HR213 hx203_0 hx217_0 hHeld ⊢
             refine pure_ (i := 0) (N := some 31) (v := ?_) (a' := ?_) #[true, false, false, false, false, false, false, false, false, false, false, false, false, false, false, false, false, false, false, false] rfl rfl (any_of HT_.out (by kernel_rfl)) (fun _ _ _ h => h) (Or.inl ⟨by rfl, ?_⟩) ?_ ?_
             rotate_left
             ·intro w'
              go_simp
              with_reducible rfl
             rotate_left
             ·simp only [Act.put, sqA, sqZ, sqS, i64_w, i32_w]
              rfl
             refine pure_ (i := 1) (N := some 32) (v := ?_) (a' := ?_) #[true, true, false, false, false, false, false, false, false, false, false, false, false, false, false, false, false, false, false, false] rfl rfl (any_of HT_.out (by kernel_rfl)) (fun _ _ _ h => h) (Or.inl ⟨by rfl, ?_⟩) ?_ ?_
             rotate_left
             ·intro w'
              go_simp
              with_reducible rfl
             rotate_left
             ·simp only [Act.put, sqA, sqZ, sqS, i64_w, i32_w]
              rfl
             refine pure_ (i := 6) (N := some 37) (v := ?_) (a' := ?_) #[true, true, false, false, false, false, true, false, false, false, false, false, false, false, false, false, false, false, false, false] rfl rfl (any_of HT_.out (by kernel_rfl)) (fun _ _ _ h => h) (Or.inl ⟨by rfl, ?_⟩) ?_ ?_
             rotate_left
             ·intro w'
              go_simp
              with_reducible rfl
             rotate_left
             ·simp only [Act.put, sqA, sqZ, sqS, i64_w, i32_w]
              rfl
             refine pure_ (i := 7) (N := some 38) (v := ?_) (a' := ?_) #[true, true, false, false, false, false, true, true, false, false, false, false, false, false, false, false, false, false, false, false] rfl rfl (any_of HT_.out (by kernel_rfl)) (fun _ _ _ h => h) (Or.inl ⟨by rfl, ?_⟩) ?_ ?_
             rotate_left
             ·intro w'
              go_simp
              with_reducible rfl
             rotate_left
             ·simp only [Act.put, sqA, sqZ, sqS, i64_w, i32_w]
              rfl
             refine pure_ (i := 9) (N := some 40) (v := ?_) (a' := ?_) #[true, true, false, false, false, false, true, true, false, true, false, false, false, false, false, false, false, false, false, false] rfl rfl (any_of HT_.out (by kernel_rfl)) (fun _ _ _ h => h) (Or.inl ⟨by rfl, ?_⟩) ?_ ?_
             rotate_left
             ·intro w'
              go_simp
              with_reducible rfl
             rotate_left
             ·simp only [Act.put, sqA, sqZ, sqS, i64_w, i32_w]
              rfl
             refine pure_ (i := 10) (N := some 41) (v := ?_) (a' := ?_) #[true, true, false, false, false, false, true, true, false, true, true, false, false, false, false, false, false, false, false, false] rfl rfl (any_of HT_.out (by kernel_rfl)) (fun _ _ _ h => h) (Or.inl ⟨by rfl, ?_⟩) ?_ ?_
             rotate_left
             ·intro w'
              go_simp
              with_reducible rfl
             rotate_left
             ·simp only [Act.put, sqA, sqZ, sqS, i64_w, i32_w]
              rfl
             refine pure_ (i := 11) (N := some 42) (v := ?_) (a' := ?_) #[true, true, false, false, false, false, true, true, false, true, true, true, false, false, false, false, false, false, false, false] rfl rfl (any_of HT_.out (by kernel_rfl)) (fun _ _ _ h => h) (Or.inl ⟨by rfl, ?_⟩) ?_ ?_
             rotate_left
             ·intro w'
              go_simp
              with_reducible rfl
             rotate_left
             ·simp only [Act.put, sqA, sqZ, sqS, i64_w, i32_w]
              rfl
             refine pure_ (i := 12) (N := some 43) (v := ?_) (a' := ?_) #[true, true, false, false, false, false, true, true, false, true, true, true, true, false, false, false, false, false, false, false] rfl rfl (any_of HT_.out (by kernel_rfl)) (fun _ _ _ h => h) (Or.inl ⟨by rfl, ?_⟩) ?_ ?_
             rotate_left
             ·intro w'
              go_simp
              with_reducible rfl
             rotate_left
             ·simp only [Act.put, sqA, sqZ, sqS, i64_w, i32_w]
              rfl
             refine pure_ (i := 13) (N := some 44) (v := ?_) (a' := ?_) #[true, true, false, false, false, false, true, true, false, true, true, true, true, true, false, false, false, false, false, false] rfl rfl (any_of HT_.out (by kernel_rfl)) (fun _ _ _ h => h) (Or.inl ⟨by rfl, ?_⟩) ?_ ?_
             rotate_left
             ·intro w'
              go_simp
              with_reducible rfl
             rotate_left
             ·simp only [Act.put, sqA, sqZ, sqS, i64_w, i32_w]
              rfl
             refine take_ (i := 2) (N := some 33) (v := ?_) (a' := ?_) #[true, true, true, false, false, false, true, true, false, true, true, true, true, true, false, false, false, false, false, false] rfl rfl (take_ofW HT_.out HW_.out (by kernel_rfl)) (fun _ _ _ h => h) (Or.inl ⟨by rfl, ?_⟩) hHeld ?_ ?_
             rotate_left
             ·rintro w' ⟨s0, s1⟩
              go_simp
              with_reducible rfl
             rotate_left
             ·simp only [Act.put, sqA, sqZ, sqS, i64_w, i32_w]
              rfl
             refine pure_ (i := 3) (N := some 34) (v := ?_) (a' := ?_) #[true, true, true, true, false, false, true, true, false, true, true, true, true, true, false, false, false, false, false, false] rfl rfl (any_of HT_.out (by kernel_rfl)) (fun _ _ _ h => h) (Or.inl ⟨by rfl, ?_⟩) ?_ ?_
             rotate_left
             ·intro w'
              go_simp
              with_reducible rfl
             rotate_left
             ·simp only [Act.put, sqA, sqZ, sqS, i64_w, i32_w]
              rfl
             refine take_ (i := 14) (N := some 45) (v := ?_) (a' := ?_) #[true, true, true, true, false, false, true, true, false, true, true, true, true, true, true, false, false, false, false, false] rfl rfl (take_ofW HT_.out HW_.out (by kernel_rfl)) (fun _ _ _ h => h) (Or.inl ⟨by rfl, ?_⟩) hHeld ?_ ?_
             rotate_left
             ·rintro w' ⟨s0, s1⟩
              go_simp
              with_reducible rfl
             rotate_left
             ·simp only [Act.put, sqA, sqZ, sqS, i64_w, i32_w]
              rfl
             refine pure_ (i := 15) (N := some 46) (v := ?_) (a' := ?_) #[true, true, true, true, false, false, true, true, false, true, true, true, true, true, true, true, false, false, false, false] rfl rfl (any_of HT_.out (by kernel_rfl)) (fun _ _ _ h => h) (Or.inl ⟨by rfl, ?_⟩) ?_ ?_
             rotate_left
             ·intro w'
              go_simp
              with_reducible rfl
             rotate_left
             ·simp only [Act.put, sqA, sqZ, sqS, i64_w, i32_w]
              rfl
             refine join_ (σ := Value × Value × Value × Value × Value) 2 #[true, true, true, true, true, true, true, true, true, true, true, true, true, true, true, true, true, true, false, false] (fun s_ => [(35, s_.1), (36, s_.2.1), (39, s_.2.2.1), (47, s_.2.2.2.1), (48, s_.2.2.2.2)]) (fun s_ w' => (w'.cell? ad203 = some (.int .i64 (rd t182 0)) ∧ w'.cell? (ad203.add ((ji27)).toNat) = some (.int .i64 (rd t182 (ji27)))) ∧ (Kd.R (Kd.int .i64) 2 w' w.heap.size (fun k_ => some k_ ≠ (s_.1 : Value).ownBlock ∧ some k_ ≠ (s_.2.2.2.1 : Value).ownBlock ∧ some k_ ≠ (s_.2.2.2.2 : Value).ownBlock ∧ some k_ ≠ (.slice (some ad203) t182.length co20 : Value).ownBlock ∧ some k_ ≠ (u7 : Value).ownBlock) (.slice Ao34 t197.length co34) t197) ∧ (Kd.R (Kd.int .i64) 2 w' w.heap.size (fun k_ => some k_ ≠ (.slice Ao34 t197.length co34 : Value).ownBlock ∧ some k_ ≠ (s_.2.2.2.1 : Value).ownBlock ∧ some k_ ≠ (s_.2.2.2.2 : Value).ownBlock ∧ some k_ ≠ (.slice (some ad203) t182.length co20 : Value).ownBlock ∧ some k_ ≠ (u7 : Value).ownBlock) s_.1 y204) ∧ (Kd.R (Kd.int .i64) 2 w' w.heap.size (fun k_ => some k_ ≠ (.slice Ao34 t197.length co34 : Value).ownBlock ∧ some k_ ≠ (s_.1 : Value).ownBlock ∧ some k_ ≠ (s_.2.2.2.2 : Value).ownBlock ∧ some k_ ≠ (.slice (some ad203) t182.length co20 : Value).ownBlock ∧ some k_ ≠ (u7 : Value).ownBlock) s_.2.2.2.1 y218) ∧ (Kd.R (Kd.int .i64) 2 w' w.heap.size (fun k_ => some k_ ≠ (.slice Ao34 t197.length co34 : Value).ownBlock ∧ some k_ ≠ (s_.1 : Value).ownBlock ∧ some k_ ≠ (s_.2.2.2.1 : Value).ownBlock ∧ some k_ ≠ (.slice (some ad203) t182.length co20 : Value).ownBlock ∧ some k_ ≠ (u7 : Value).ownBlock) s_.2.2.2.2 y221) ∧ (Kd.R (Kd.int .i64) 2 w' w.heap.size (fun k_ => some k_ ≠ (.slice Ao34 t197.length co34 : Value).ownBlock ∧ some k_ ≠ (s_.1 : Value).ownBlock ∧ some k_ ≠ (s_.2.2.2.1 : Value).ownBlock ∧ some k_ ≠ (s_.2.2.2.2 : Value).ownBlock ∧ some k_ ≠ (u7 : Value).ownBlock) (.slice (some ad203) t182.length co20) t182) ∧ (Kd.R (Kd.int .i64) 2 w' w.heap.size (fun k_ => some k_ ≠ (.slice Ao34 t197.length co34 : Value).ownBlock ∧ some k_ ≠ (s_.1 : Value).ownBlock ∧ some k_ ≠ (s_.2.2.2.1 : Value).ownBlock ∧ some k_ ≠ (s_.2.2.2.2 : Value).ownBlock ∧ some k_ ≠ (.slice (some ad203) t182.length co20 : Value).ownBlock) u7 x7_1) ∧ (IsS59 w w' g181 t179 t202) ∧ (Below w.heap.size w w')) ?_ ?_
             rotate_left
             ·intro hJ4_5_8_16_17
              refine join_ (σ := Value × Value × Value × Value) 3 #[true, true, true, true, true, true, true, true, true, true, true, true, true, true, true, true, true, false, false, false] (fun s_ => [(35, s_.1), (36, s_.2.1), (39, s_.2.2.1), (47, s_.2.2.2)]) (fun s_ w' => (w'.cell? ad203 = some (.int .i64 (rd t182 0)) ∧ w'.cell? (ad203.add ((ji27)).toNat) = some (.int .i64 (rd t182 (ji27)))) ∧ (Kd.R (Kd.int .i64) 2 w' w.heap.size (fun k_ => some k_ ≠ (s_.1 : Value).ownBlock ∧ some k_ ≠ (s_.2.2.1 : Value).ownBlock ∧ some k_ ≠ (s_.2.2.2 : Value).ownBlock ∧ some k_ ≠ (.slice (some ad203) t182.length co20 : Value).ownBlock ∧ some k_ ≠ (u7 : Value).ownBlock) (.slice Ao34 t197.length co34) t197) ∧ (Kd.R (Kd.int .i64) 2 w' w.heap.size (fun k_ => some k_ ≠ (.slice Ao34 t197.length co34 : Value).ownBlock ∧ some k_ ≠ (s_.2.2.1 : Value).ownBlock ∧ some k_ ≠ (s_.2.2.2 : Value).ownBlock ∧ some k_ ≠ (.slice (some ad203) t182.length co20 : Value).ownBlock ∧ some k_ ≠ (u7 : Value).ownBlock) s_.1 y204) ∧ (Kd.R (Kd.int .i64) 2 w' w.heap.size (fun k_ => some k_ ≠ (.slice Ao34 t197.length co34 : Value).ownBlock ∧ some k_ ≠ (s_.1 : Value).ownBlock ∧ some k_ ≠ (s_.2.2.2 : Value).ownBlock ∧ some k_ ≠ (.slice (some ad203) t182.length co20 : Value).ownBlock ∧ some k_ ≠ (u7 : Value).ownBlock) s_.2.2.1 y214) ∧ (Kd.R (Kd.int .i64) 2 w' w.heap.size (fun k_ => some k_ ≠ (.slice Ao34 t197.length co34 : Value).ownBlock ∧ some k_ ≠ (s_.1 : Value).ownBlock ∧ some k_ ≠ (s_.2.2.1 : Value).ownBlock ∧ some k_ ≠ (.slice (some ad203) t182.length co20 : Value).ownBlock ∧ some k_ ≠ (u7 : Value).ownBlock) s_.2.2.2 y218) ∧ (Kd.R (Kd.int .i64) 2 w' w.heap.size (fun k_ => some k_ ≠ (.slice Ao34 t197.length co34 : Value).ownBlock ∧ some k_ ≠ (s_.1 : Value).ownBlock ∧ some k_ ≠ (s_.2.2.1 : Value).ownBlock ∧ some k_ ≠ (s_.2.2.2 : Value).ownBlock ∧ some k_ ≠ (u7 : Value).ownBlock) (.slice (some ad203) t182.length co20) t182) ∧ (Kd.R (Kd.int .i64) 2 w' w.heap.size (fun k_ => some k_ ≠ (.slice Ao34 t197.length co34 : Value).ownBlock ∧ some k_ ≠ (s_.1 : Value).ownBlock ∧ some k_ ≠ (s_.2.2.1 : Value).ownBlock ∧ some k_ ≠ (s_.2.2.2 : Value).ownBlock ∧ some k_ ≠ (.slice (some ad203) t182.length co20 : Value).ownBlock) u7 x7_1) ∧ (IsS59 w w' g181 t179 t202) ∧ (Below w.heap.size w w')) ?_ ?_
              rotate_left
              ·intro hJ4_5_8_16
               refine join_ (σ := Value × Value × Value × Value) 3 #[true, true, true, true, false, true, true, true, true, true, true, true, true, true, true, true, true, true, false, false] (fun s_ => [(36, s_.1), (39, s_.2.1), (47, s_.2.2.1), (48, s_.2.2.2)]) (fun s_ w' => (w'.cell? ad203 = some (.int .i64 (rd t182 0)) ∧ w'.cell? (ad203.add ((ji27)).toNat) = some (.int .i64 (rd t182 (ji27)))) ∧ (Kd.R (Kd.int .i64) 2 w' w.heap.size (fun k_ => some k_ ≠ (s_.2.2.1 : Value).ownBlock ∧ some k_ ≠ (s_.2.2.2 : Value).ownBlock ∧ some k_ ≠ (.slice (some ad203) t182.length co20 : Value).ownBlock ∧ some k_ ≠ (u7 : Value).ownBlock) (.slice Ao34 t197.length co34) t197) ∧ (Kd.R (Kd.int .i64) 2 w' w.heap.size (fun k_ => some k_ ≠ (.slice Ao34 t197.length co34 : Value).ownBlock ∧ some k_ ≠ (s_.2.2.2 : Value).ownBlock ∧ some k_ ≠ (.slice (some ad203) t182.length co20 : Value).ownBlock ∧ some k_ ≠ (u7 : Value).ownBlock) s_.2.2.1 y218) ∧ (Kd.R (Kd.int .i64) 2 w' w.heap.size (fun k_ => some k_ ≠ (.slice Ao34 t197.length co34 : Value).ownBlock ∧ some k_ ≠ (s_.2.2.1 : Value).ownBlock ∧ some k_ ≠ (.slice (some ad203) t182.length co20 : Value).ownBlock ∧ some k_ ≠ (u7 : Value).ownBlock) s_.2.2.2 y221) ∧ (Kd.R (Kd.int .i64) 2 w' w.heap.size (fun k_ => some k_ ≠ (.slice Ao34 t197.length co34 : Value).ownBlock ∧ some k_ ≠ (s_.2.2.1 : Value).ownBlock ∧ some k_ ≠ (s_.2.2.2 : Value).ownBlock ∧ some k_ ≠ (u7 : Value).ownBlock) (.slice (some ad203) t182.length co20) t182) ∧ (Kd.R (Kd.int .i64) 2 w' w.heap.size (fun k_ => some k_ ≠ (.slice Ao34 t197.length co34 : Value).ownBlock ∧ some k_ ≠ (s_.2.2.1 : Value).ownBlock ∧ some k_ ≠ (s_.2.2.2 : Value).ownBlock ∧ some k_ ≠ (.slice (some ad203) t182.length co20 : Value).ownBlock) u7 x7_1) ∧ (IsS59 w w' g181 t179 t202) ∧ (Below w.heap.size w w')) ?_ ?_
               rotate_left
               ·intro hJ5_8_16_17
                refine join_ (σ := Value × Value × Value) 4 #[true, true, true, true, true, true, true, true, true, true, true, true, true, true, true, true, false, false, false, false] (fun s_ => [(35, s_.1), (36, s_.2.1), (39, s_.2.2)]) (fun s_ w' => (w'.cell? ad203 = some (.int .i64 (rd t182 0)) ∧ w'.cell? (ad203.add ((ji27)).toNat) = some (.int .i64 (rd t182 (ji27)))) ∧ (Kd.R (Kd.int .i64) 2 w' w.heap.size (fun k_ => some k_ ≠ (s_.1 : Value).ownBlock ∧ some k_ ≠ (s_.2.2 : Value).ownBlock ∧ some k_ ≠ (.slice (some ad203) t182.length co20 : Value).ownBlock ∧ some k_ ≠ (u7 : Value).ownBlock) (.slice Ao34 t197.length co34) t197) ∧ (Kd.R (Kd.int .i64) 2 w' w.heap.size (fun k_ => some k_ ≠ (.slice Ao34 t197.length co34 : Value).ownBlock ∧ some k_ ≠ (s_.2.2 : Value).ownBlock ∧ some k_ ≠ (.slice (some ad203) t182.length co20 : Value).ownBlock ∧ some k_ ≠ (u7 : Value).ownBlock) s_.1 y204) ∧ (Kd.R (Kd.int .i64) 2 w' w.heap.size (fun k_ => some k_ ≠ (.slice Ao34 t197.length co34 : Value).ownBlock ∧ some k_ ≠ (s_.1 : Value).ownBlock ∧ some k_ ≠ (.slice (some ad203) t182.length co20 : Value).ownBlock ∧ some k_ ≠ (u7 : Value).ownBlock) s_.2.2 y214) ∧ (Kd.R (Kd.int .i64) 2 w' w.heap.size (fun k_ => some k_ ≠ (.slice Ao34 t197.length co34 : Value).ownBlock ∧ some k_ ≠ (s_.1 : Value).ownBlock ∧ some k_ ≠ (s_.2.2 : Value).ownBlock ∧ some k_ ≠ (u7 : Value).ownBlock) (.slice (some ad203) t182.length co20) t182) ∧ (Kd.R (Kd.int .i64) 2 w' w.heap.size (fun k_ => some k_ ≠ (.slice Ao34 t197.length co34 : Value).ownBlock ∧ some k_ ≠ (s_.1 : Value).ownBlock ∧ some k_ ≠ (s_.2.2 : Value).ownBlock ∧ some k_ ≠ (.slice (some ad203) t182.length co20 : Value).ownBlock) u7 x7_1) ∧ (IsS59 w w' g181 t179 t202) ∧ (Below w.heap.size w w')) ?_ ?_
                rotate_left
                ·intro hJ4_5_8
                 refine join_ (σ := Value × Value × Value) 4 #[true, true, true, true, true, true, true, true, false, true, true, true, true, true, true, true, true, false, false, false] (fun s_ => [(35, s_.1), (36, s_.2.1), (47, s_.2.2)]) (fun s_ w' => (w'.cell? ad203 = some (.int .i64 (rd t182 0)) ∧ w'.cell? (ad203.add ((ji27)).toNat) = some (.int .i64 (rd t182 (ji27)))) ∧ (Kd.R (Kd.int .i64) 2 w' w.heap.size (fun k_ => some k_ ≠ (s_.1 : Value).ownBlock ∧ some k_ ≠ (s_.2.1 : Value).ownBlock ∧ some k_ ≠ (s_.2.2 : Value).ownBlock ∧ some k_ ≠ (.slice (some ad203) t182.length co20 : Value).ownBlock ∧ some k_ ≠ (u7 : Value).ownBlock) (.slice Ao34 t197.length co34) t197) ∧ (Kd.R (Kd.int .i64) 2 w' w.heap.size (fun k_ => some k_ ≠ (.slice Ao34 t197.length co34 : Value).ownBlock ∧ some k_ ≠ (s_.2.1 : Value).ownBlock ∧ some k_ ≠ (s_.2.2 : Value).ownBlock ∧ some k_ ≠ (.slice (some ad203) t182.length co20 : Value).ownBlock ∧ some k_ ≠ (u7 : Value).ownBlock) s_.1 y204) ∧ (Kd.R (Kd.int .i64) 2 w' w.heap.size (fun k_ => some k_ ≠ (.slice Ao34 t197.length co34 : Value).ownBlock ∧ some k_ ≠ (s_.1 : Value).ownBlock ∧ some k_ ≠ (s_.2.2 : Value).ownBlock ∧ some k_ ≠ (.slice (some ad203) t182.length co20 : Value).ownBlock ∧ some k_ ≠ (u7 : Value).ownBlock) s_.2.1 y207) ∧ (Kd.R (Kd.int .i64) 2 w' w.heap.size (fun k_ => some k_ ≠ (.slice Ao34 t197.length co34 : Value).ownBlock ∧ some k_ ≠ (s_.1 : Value).ownBlock ∧ some k_ ≠ (s_.2.1 : Value).ownBlock ∧ some k_ ≠ (.slice (some ad203) t182.length co20 : Value).ownBlock ∧ some k_ ≠ (u7 : Value).ownBlock) s_.2.2 y218) ∧ (Kd.R (Kd.int .i64) 2 w' w.heap.size (fun k_ => some k_ ≠ (.slice Ao34 t197.length co34 : Value).ownBlock ∧ some k_ ≠ (s_.1 : Value).ownBlock ∧ some k_ ≠ (s_.2.1 : Value).ownBlock ∧ some k_ ≠ (s_.2.2 : Value).ownBlock ∧ some k_ ≠ (u7 : Value).ownBlock) (.slice (some ad203) t182.length co20) t182) ∧ (Kd.R (Kd.int .i64) 2 w' w.heap.size (fun k_ => some k_ ≠ (.slice Ao34 t197.length co34 : Value).ownBlock ∧ some k_ ≠ (s_.1 : Value).ownBlock ∧ some k_ ≠ (s_.2.1 : Value).ownBlock ∧ some k_ ≠ (s_.2.2 : Value).ownBlock ∧ some k_ ≠ (.slice (some ad203) t182.length co20 : Value).ownBlock) u7 x7_1) ∧ (IsS59 w w' g181 t179 t202) ∧ (Below w.heap.size w w')) ?_ ?_
                 rotate_left
                 ·intro hJ4_5_16
                  refine join_ (σ := Value × Value × Value) 4 #[true, true, true, true, false, true, true, true, true, true, true, true, true, true, true, true, true, false, false, false] (fun s_ => [(36, s_.1), (39, s_.2.1), (47, s_.2.2)]) (fun s_ w' => (w'.cell? ad203 = some (.int .i64 (rd t182 0)) ∧ w'.cell? (ad203.add ((ji27)).toNat) = some (.int .i64 (rd t182 (ji27)))) ∧ (Kd.R (Kd.int .i64) 2 w' w.heap.size (fun k_ => some k_ ≠ (s_.2.1 : Value).ownBlock ∧ some k_ ≠ (s_.2.2 : Value).ownBlock ∧ some k_ ≠ (.slice (some ad203) t182.length co20 : Value).ownBlock ∧ some k_ ≠ (u7 : Value).ownBlock) (.slice Ao34 t197.length co34) t197) ∧ (Kd.R (Kd.int .i64) 2 w' w.heap.size (fun k_ => some k_ ≠ (.slice Ao34 t197.length co34 : Value).ownBlock ∧ some k_ ≠ (s_.2.2 : Value).ownBlock ∧ some k_ ≠ (.slice (some ad203) t182.length co20 : Value).ownBlock ∧ some k_ ≠ (u7 : Value).ownBlock) s_.2.1 y214) ∧ (Kd.R (Kd.int .i64) 2 w' w.heap.size (fun k_ => some k_ ≠ (.slice Ao34 t197.length co34 : Value).ownBlock ∧ some k_ ≠ (s_.2.1 : Value).ownBlock ∧ some k_ ≠ (.slice (some ad203) t182.length co20 : Value).ownBlock ∧ some k_ ≠ (u7 : Value).ownBlock) s_.2.2 y218) ∧ (Kd.R (Kd.int .i64) 2 w' w.heap.size (fun k_ => some k_ ≠ (.slice Ao34 t197.length co34 : Value).ownBlock ∧ some k_ ≠ (s_.2.1 : Value).ownBlock ∧ some k_ ≠ (s_.2.2 : Value).ownBlock ∧ some k_ ≠ (u7 : Value).ownBlock) (.slice (some ad203) t182.length co20) t182) ∧ (Kd.R (Kd.int .i64) 2 w' w.heap.size (fun k_ => some k_ ≠ (.slice Ao34 t197.length co34 : Value).ownBlock ∧ some k_ ≠ (s_.2.1 : Value).ownBlock ∧ some k_ ≠ (s_.2.2 : Value).ownBlock ∧ some k_ ≠ (.slice (some ad203) t182.length co20 : Value).ownBlock) u7 x7_1) ∧ (IsS59 w w' g181 t179 t202) ∧ (Below w.heap.size w w')) ?_ ?_
                  rotate_left
                  ·intro hJ5_8_16
                   refine join_ (σ := Value × Value) 5 #[true, true, true, true, true, true, true, true, false, true, true, true, true, true, true, true, false, false, false, false] (fun s_ => [(35, s_.1), (36, s_.2)]) (fun s_ w' => (w'.cell? ad203 = some (.int .i64 (rd t182 0)) ∧ w'.cell? (ad203.add ((ji27)).toNat) = some (.int .i64 (rd t182 (ji27)))) ∧ (Kd.R (Kd.int .i64) 2 w' w.heap.size (fun k_ => some k_ ≠ (s_.1 : Value).ownBlock ∧ some k_ ≠ (s_.2 : Value).ownBlock ∧ some k_ ≠ (.slice (some ad203) t182.length co20 : Value).ownBlock ∧ some k_ ≠ (u7 : Value).ownBlock) (.slice Ao34 t197.length co34) t197) ∧ (Kd.R (Kd.int .i64) 2 w' w.heap.size (fun k_ => some k_ ≠ (.slice Ao34 t197.length co34 : Value).ownBlock ∧ some k_ ≠ (s_.2 : Value).ownBlock ∧ some k_ ≠ (.slice (some ad203) t182.length co20 : Value).ownBlock ∧ some k_ ≠ (u7 : Value).ownBlock) s_.1 y204) ∧ (Kd.R (Kd.int .i64) 2 w' w.heap.size (fun k_ => some k_ ≠ (.slice Ao34 t197.length co34 : Value).ownBlock ∧ some k_ ≠ (s_.1 : Value).ownBlock ∧ some k_ ≠ (.slice (some ad203) t182.length co20 : Value).ownBlock ∧ some k_ ≠ (u7 : Value).ownBlock) s_.2 y207) ∧ (Kd.R (Kd.int .i64) 2 w' w.heap.size (fun k_ => some k_ ≠ (.slice Ao34 t197.length co34 : Value).ownBlock ∧ some k_ ≠ (s_.1 : Value).ownBlock ∧ some k_ ≠ (s_.2 : Value).ownBlock ∧ some k_ ≠ (u7 : Value).ownBlock) (.slice (some ad203) t182.length co20) t182) ∧ (Kd.R (Kd.int .i64) 2 w' w.heap.size (fun k_ => some k_ ≠ (.slice Ao34 t197.length co34 : Value).ownBlock ∧ some k_ ≠ (s_.1 : Value).ownBlock ∧ some k_ ≠ (s_.2 : Value).ownBlock ∧ some k_ ≠ (.slice (some ad203) t182.length co20 : Value).ownBlock) u7 x7_1) ∧ (IsS59 w w' g181 t179 t202) ∧ (Below w.heap.size w w')) ?_ ?_
                   rotate_left
                   ·intro hJ4_5
                    refine join_ (σ := Value × Value) 5 #[true, true, true, true, true, false, true, true, false, true, true, true, true, true, true, true, true, false, false, false] (fun s_ => [(35, s_.1), (47, s_.2)]) (fun s_ w' => (w'.cell? ad203 = some (.int .i64 (rd t182 0)) ∧ w'.cell? (ad203.add ((ji27)).toNat) = some (.int .i64 (rd t182 (ji27)))) ∧ (Kd.R (Kd.int .i64) 2 w' w.heap.size (fun k_ => some k_ ≠ (s_.1 : Value).ownBlock ∧ some k_ ≠ (s_.2 : Value).ownBlock ∧ some k_ ≠ (.slice (some ad203) t182.length co20 : Value).ownBlock ∧ some k_ ≠ (u7 : Value).ownBlock) (.slice Ao34 t197.length co34) t197) ∧ (Kd.R (Kd.int .i64) 2 w' w.heap.size (fun k_ => some k_ ≠ (.slice Ao34 t197.length co34 : Value).ownBlock ∧ some k_ ≠ (s_.2 : Value).ownBlock ∧ some k_ ≠ (.slice (some ad203) t182.length co20 : Value).ownBlock ∧ some k_ ≠ (u7 : Value).ownBlock) s_.1 y204) ∧ (Kd.R (Kd.int .i64) 2 w' w.heap.size (fun k_ => some k_ ≠ (.slice Ao34 t197.length co34 : Value).ownBlock ∧ some k_ ≠ (s_.1 : Value).ownBlock ∧ some k_ ≠ (.slice (some ad203) t182.length co20 : Value).ownBlock ∧ some k_ ≠ (u7 : Value).ownBlock) s_.2 y218) ∧ (Kd.R (Kd.int .i64) 2 w' w.heap.size (fun k_ => some k_ ≠ (.slice Ao34 t197.length co34 : Value).ownBlock ∧ some k_ ≠ (s_.1 : Value).ownBlock ∧ some k_ ≠ (s_.2 : Value).ownBlock ∧ some k_ ≠ (u7 : Value).ownBlock) (.slice (some ad203) t182.length co20) t182) ∧ (Kd.R (Kd.int .i64) 2 w' w.heap.size (fun k_ => some k_ ≠ (.slice Ao34 t197.length co34 : Value).ownBlock ∧ some k_ ≠ (s_.1 : Value).ownBlock ∧ some k_ ≠ (s_.2 : Value).ownBlock ∧ some k_ ≠ (.slice (some ad203) t182.length co20 : Value).ownBlock) u7 x7_1) ∧ (IsS59 w w' g181 t179 t202) ∧ (Below w.heap.size w w')) ?_ ?_
                    rotate_left
                    ·intro hJ4_16
                     refine join_ (σ := Value × Value) 5 #[true, true, true, true, false, true, true, true, true, true, true, true, true, true, true, true, false, false, false, false] (fun s_ => [(36, s_.1), (39, s_.2)]) (fun s_ w' => (w'.cell? ad203 = some (.int .i64 (rd t182 0)) ∧ w'.cell? (ad203.add ((ji27)).toNat) = some (.int .i64 (rd t182 (ji27)))) ∧ (Kd.R (Kd.int .i64) 2 w' w.heap.size (fun k_ => some k_ ≠ (s_.2 : Value).ownBlock ∧ some k_ ≠ (.slice (some ad203) t182.length co20 : Value).ownBlock ∧ some k_ ≠ (u7 : Value).ownBlock) (.slice Ao34 t197.length co34) t197) ∧ (Kd.R (Kd.int .i64) 2 w' w.heap.size (fun k_ => some k_ ≠ (.slice Ao34 t197.length co34 : Value).ownBlock ∧ some k_ ≠ (.slice (some ad203) t182.length co20 : Value).ownBlock ∧ some k_ ≠ (u7 : Value).ownBlock) s_.2 y214) ∧ (Kd.R (Kd.int .i64) 2 w' w.heap.size (fun k_ => some k_ ≠ (.slice Ao34 t197.length co34 : Value).ownBlock ∧ some k_ ≠ (s_.2 : Value).ownBlock ∧ some k_ ≠ (u7 : Value).ownBlock) (.slice (some ad203) t182.length co20) t182) ∧ (Kd.R (Kd.int .i64) 2 w' w.heap.size (fun k_ => some k_ ≠ (.slice Ao34 t197.length co34 : Value).ownBlock ∧ some k_ ≠ (s_.2 : Value).ownBlock ∧ some k_ ≠ (.slice (some ad203) t182.length co20 : Value).ownBlock) u7 x7_1) ∧ (IsS59 w w' g181 t179 t202) ∧ (Below w.heap.size w w')) ?_ ?_
                     rotate_left
                     ·intro hJ5_8
                      refine join_ (σ := Value × Value) 5 #[true, true, true, true, false, true, true, true, false, true, true, true, true, true, true, true, true, false, false, false] (fun s_ => [(36, s_.1), (47, s_.2)]) (fun s_ w' => (w'.cell? ad203 = some (.int .i64 (rd t182 0)) ∧ w'.cell? (ad203.add ((ji27)).toNat) = some (.int .i64 (rd t182 (ji27)))) ∧ (Kd.R (Kd.int .i64) 2 w' w.heap.size (fun k_ => some k_ ≠ (s_.1 : Value).ownBlock ∧ some k_ ≠ (s_.2 : Value).ownBlock ∧ some k_ ≠ (.slice (some ad203) t182.length co20 : Value).ownBlock ∧ some k_ ≠ (u7 : Value).ownBlock) (.slice Ao34 t197.length co34) t197) ∧ (Kd.R (Kd.int .i64) 2 w' w.heap.size (fun k_ => some k_ ≠ (.slice Ao34 t197.length co34 : Value).ownBlock ∧ some k_ ≠ (s_.2 : Value).ownBlock ∧ some k_ ≠ (.slice (some ad203) t182.length co20 : Value).ownBlock ∧ some k_ ≠ (u7 : Value).ownBlock) s_.1 y207) ∧ (Kd.R (Kd.int .i64) 2 w' w.heap.size (fun k_ => some k_ ≠ (.slice Ao34 t197.length co34 : Value).ownBlock ∧ some k_ ≠ (s_.1 : Value).ownBlock ∧ some k_ ≠ (.slice (some ad203) t182.length co20 : Value).ownBlock ∧ some k_ ≠ (u7 : Value).ownBlock) s_.2 y218) ∧ (Kd.R (Kd.int .i64) 2 w' w.heap.size (fun k_ => some k_ ≠ (.slice Ao34 t197.length co34 : Value).ownBlock ∧ some k_ ≠ (s_.1 : Value).ownBlock ∧ some k_ ≠ (s_.2 : Value).ownBlock ∧ some k_ ≠ (u7 : Value).ownBlock) (.slice (some ad203) t182.length co20) t182) ∧ (Kd.R (Kd.int .i64) 2 w' w.heap.size (fun k_ => some k_ ≠ (.slice Ao34 t197.length co34 : Value).ownBlock ∧ some k_ ≠ (s_.1 : Value).ownBlock ∧ some k_ ≠ (s_.2 : Value).ownBlock ∧ some k_ ≠ (.slice (some ad203) t182.length co20 : Value).ownBlock) u7 x7_1) ∧ (IsS59 w w' g181 t179 t202) ∧ (Below w.heap.size w w')) ?_ ?_
                      rotate_left
                      ·intro hJ5_16
                       refine join_ (σ := Value) 6 #[true, true, true, true, true, false, true, true, false, true, true, true, true, true, true, true, false, false, false, false] (fun s_ => [(35, s_)]) (fun s_ w' => (w'.cell? ad203 = some (.int .i64 (rd t182 0)) ∧ w'.cell? (ad203.add ((ji27)).toNat) = some (.int .i64 (rd t182 (ji27)))) ∧ (Kd.R (Kd.int .i64) 2 w' w.heap.size (fun k_ => some k_ ≠ (s_ : Value).ownBlock ∧ some k_ ≠ (.slice (some ad203) t182.length co20 : Value).ownBlock ∧ some k_ ≠ (u7 : Value).ownBlock) (.slice Ao34 t197.length co34) t197) ∧ (Kd.R (Kd.int .i64) 2 w' w.heap.size (fun k_ => some k_ ≠ (.slice Ao34 t197.length co34 : Value).ownBlock ∧ some k_ ≠ (.slice (some ad203) t182.length co20 : Value).ownBlock ∧ some k_ ≠ (u7 : Value).ownBlock) s_ y204) ∧ (Kd.R (Kd.int .i64) 2 w' w.heap.size (fun k_ => some k_ ≠ (.slice Ao34 t197.length co34 : Value).ownBlock ∧ some k_ ≠ (s_ : Value).ownBlock ∧ some k_ ≠ (u7 : Value).ownBlock) (.slice (some ad203) t182.length co20) t182) ∧ (Kd.R (Kd.int .i64) 2 w' w.heap.size (fun k_ => some k_ ≠ (.slice Ao34 t197.length co34 : Value).ownBlock ∧ some k_ ≠ (s_ : Value).ownBlock ∧ some k_ ≠ (.slice (some ad203) t182.length co20 : Value).ownBlock) u7 x7_1) ∧ (IsS59 w w' g181 t179 t202) ∧ (Below w.heap.size w w')) ?_ ?_
                       rotate_left
                       ·intro hJ4
                        refine join_ (σ := Value) 6 #[true, true, true, true, false, true, true, true, false, true, true, true, true, true, true, true, false, false, false, false] (fun s_ => [(36, s_)]) (fun s_ w' => (w'.cell? ad203 = some (.int .i64 (rd t182 0)) ∧ w'.cell? (ad203.add ((ji27)).toNat) = some (.int .i64 (rd t182 (ji27)))) ∧ (Kd.R (Kd.int .i64) 2 w' w.heap.size (fun k_ => some k_ ≠ (s_ : Value).ownBlock ∧ some k_ ≠ (.slice (some ad203) t182.length co20 : Value).ownBlock ∧ some k_ ≠ (u7 : Value).ownBlock) (.slice Ao34 t197.length co34) t197) ∧ (Kd.R (Kd.int .i64) 2 w' w.heap.size (fun k_ => some k_ ≠ (.slice Ao34 t197.length co34 : Value).ownBlock ∧ some k_ ≠ (.slice (some ad203) t182.length co20 : Value).ownBlock ∧ some k_ ≠ (u7 : Value).ownBlock) s_ y207) ∧ (Kd.R (Kd.int .i64) 2 w' w.heap.size (fun k_ => some k_ ≠ (.slice Ao34 t197.length co34 : Value).ownBlock ∧ some k_ ≠ (s_ : Value).ownBlock ∧ some k_ ≠ (u7 : Value).ownBlock) (.slice (some ad203) t182.length co20) t182) ∧ (Kd.R (Kd.int .i64) 2 w' w.heap.size (fun k_ => some k_ ≠ (.slice Ao34 t197.length co34 : Value).ownBlock ∧ some k_ ≠ (s_ : Value).ownBlock ∧ some k_ ≠ (.slice (some ad203) t182.length co20 : Value).ownBlock) u7 x7_1) ∧ (IsS59 w w' g181 t179 t202) ∧ (Below w.heap.size w w')) ?_ ?_
                        rotate_left
                        ·intro hJ5
                         refine join_ (σ := Value) 6 #[true, true, true, true, false, false, true, true, false, true, true, true, true, true, true, true, true, false, false, false] (fun s_ => [(47, s_)]) (fun s_ w' => (w'.cell? ad203 = some (.int .i64 (rd t182 0)) ∧ w'.cell? (ad203.add ((ji27)).toNat) = some (.int .i64 (rd t182 (ji27)))) ∧ (Kd.R (Kd.int .i64) 2 w' w.heap.size (fun k_ => some k_ ≠ (s_ : Value).ownBlock ∧ some k_ ≠ (.slice (some ad203) t182.length co20 : Value).ownBlock ∧ some k_ ≠ (u7 : Value).ownBlock) (.slice Ao34 t197.length co34) t197) ∧ (Kd.R (Kd.int .i64) 2 w' w.heap.size (fun k_ => some k_ ≠ (.slice Ao34 t197.length co34 : Value).ownBlock ∧ some k_ ≠ (.slice (some ad203) t182.length co20 : Value).ownBlock ∧ some k_ ≠ (u7 : Value).ownBlock) s_ y218) ∧ (Kd.R (Kd.int .i64) 2 w' w.heap.size (fun k_ => some k_ ≠ (.slice Ao34 t197.length co34 : Value).ownBlock ∧ some k_ ≠ (s_ : Value).ownBlock ∧ some k_ ≠ (u7 : Value).ownBlock) (.slice (some ad203) t182.length co20) t182) ∧ (Kd.R (Kd.int .i64) 2 w' w.heap.size (fun k_ => some k_ ≠ (.slice Ao34 t197.length co34 : Value).ownBlock ∧ some k_ ≠ (s_ : Value).ownBlock ∧ some k_ ≠ (.slice (some ad203) t182.length co20 : Value).ownBlock) u7 x7_1) ∧ (IsS59 w w' g181 t179 t202) ∧ (Below w.heap.size w w')) ?_ ?_
                         rotate_left
                         ·intro hJ16
                          refine three_ (i := 4) (j := 5) (k := 16) (Ni := some 35) (Nj := some 36) (Nk := some 47) #[true, true, true, true, true, false, true, true, false, true, true, true, true, true, true, true, false, false, false, false] #[true, true, true, true, false, true, true, true, false, true, true, true, true, true, true, true, false, false, false, false] #[true, true, true, true, false, false, true, true, false, true, true, true, true, true, true, true, true, false, false, false] rfl rfl rfl rfl rfl rfl (three_of HT_.out (by kernel_rfl)) (by decide) (by decide) (by decide) (fun K hK => ?_) (fun K hK => ?_) (fun K hK => ?_)
                          ·skip
                           refine Kd.R_lit_step (Kd.int .i64) _ 2 ?hg (N := 35) ?hd (xs := ([wrap64 ((rd t182 0) - 3)] : List Int)) (inner := [.int .i64 (wrap64 ((rd t182 0) - 3))]) (ok := fun _ => True) (okp := fun _ => True) ?hr ?hp (fun _ hk => hk) trivial (Below.refl _ _) (Nat.le_refl _) (by simp) ?_; (case hd => rfl); (case hg => rfl); (case hr => first | (go_simp; done) | (go_simp; rfl)); (case hp => exact (Reps.one (show Kd.M (Kd.int .i64) _ _ _ (wrap64 ((rd t182 0) - 3)) [.int .i64 (wrap64 ((rd t182 0) - 3))] from rfl) (Reps.none _ _)))
                           intro v205 w35 ho36 hb hg_ hnew_
                           have HS0_ := (hb.cell (World.block_lt_of_cell? _ _ (hHeld.1))).trans (hHeld.1)
                           have HS1_ := (hb.cell (World.block_lt_of_cell? _ _ (hHeld.2))).trans (hHeld.2)
                           clear hg_ hnew_
                           (first | rw [← Ny204.out] at ho36 | (simp only [Int.reduceToNat] at ho36; rw [← Ny204.out] at ho36))
                           have n0_ := Aside0.mk (Kd.R_elder' HO_6.out (Kd.R_base ho36) hb)
                           have n1_ := Aside0.mk (Kd.R_elder' HO_7.out (Kd.R_base ho36) hb)
                           have n2_ := Aside0.mk (Kd.R_elder' HO199.out (Kd.R_base ho36) hb)
                           have n3_ := Aside0.mk (Kd.R_lower (Kd.R_new' (Kd.R_new' (Kd.R_new' ho36 (Kd.R_lt HO_6.out)) (Kd.R_lt HO_7.out)) (Kd.R_lt HO199.out)) (below_size HB.out))
                           have n4_ := Aside0.mk (IsS59.below HI181.out hb)
                           have n5_ := Aside0.mk (Kd.C_below (by repeat (first | (with_reducible exact HR213.out) | (with_reducible refine Kd.C_alloc ?_ _) | (with_reducible refine Kd.C_drewN ?_ _) | (with_reducible refine Kd.C_drew ?_) | exact HR213.out)) hb)
                           have n6_ := Aside0.mk (below_step HB.out hb)
                           clear HO_6
                           clear HO_7
                           clear HO199
                           clear HI181
                           clear HR213
                           clear HB
                           have HO_6 := n0_
                           have HO_7 := n1_
                           have HO199 := n2_
                           have HO206 := n3_
                           have HI181 := n4_
                           have HR213 := n5_
                           have HB := n6_
                           clear n0_ n1_ n2_ n3_ n4_ n5_ n6_
                           clear hb ho36
                           refine hK.out _ _ ⟨HS0_, HS1_⟩ (fun hHeld => ?_)
                           clear hK K
                           refine norm_ (a' := ?_) ?_ ?_
                           rotate_left
                           ·show Act.put _ (some 35) _ = _
                            simp only [Act.put, sqA, sqZ, sqS, i64_w, i32_w]
                            rfl
                           exact norm_ (by simp only [putAll, Act.put, sqA, sqZ, sqS] <;> rfl) (hJ4 (v205) _ ⟨hHeld, (Kd.R_mono HO199.out (fun _ hk => ⟨hk.2, ⟨hk.1.1.2, hk.1.2⟩⟩)), (Kd.R_mono HO206.out (fun _ hk => ⟨hk.2, ⟨hk.1.1.2, hk.1.2⟩⟩)), (Kd.R_mono HO_6.out (fun _ hk => ⟨hk.1.2, ⟨hk.2, hk.1.1⟩⟩)), (Kd.R_mono HO_7.out (fun _ hk => ⟨hk.1.2, ⟨hk.2, hk.1.1⟩⟩)), HI181.out, HB.out⟩)
                          ·skip
                           refine Kd.R_lit_step (Kd.int .i64) _ 2 ?hg (N := 36) ?hd (xs := ([] : List Int)) (inner := []) (ok := fun _ => True) (okp := fun _ => True) ?hr ?hp (fun _ hk => hk) trivial (Below.refl _ _) (Nat.le_refl _) (by simp) ?_; (case hd => rfl); (case hg => rfl); (case hr => first | (go_simp; done) | (go_simp; rfl)); (case hp => exact (Reps.none _ _))
                           intro v208 w35 ho36 hb hg_ hnew_
                           have HS0_ := (hb.cell (World.block_lt_of_cell? _ _ (hHeld.1))).trans (hHeld.1)
                           have HS1_ := (hb.cell (World.block_lt_of_cell? _ _ (hHeld.2))).trans (hHeld.2)
                           clear hg_ hnew_
                           (first | rw [← Ny207.out] at ho36 | (simp only [Int.reduceToNat] at ho36; rw [← Ny207.out] at ho36))
                           have n0_ := Aside0.mk (Kd.R_elder' HO_6.out (Kd.R_base ho36) hb)
                           have n1_ := Aside0.mk (Kd.R_elder' HO_7.out (Kd.R_base ho36) hb)
                           have n2_ := Aside0.mk (Kd.R_elder' HO199.out (Kd.R_base ho36) hb)
                           have n3_ := Aside0.mk (Kd.R_lower (Kd.R_new' (Kd.R_new' (Kd.R_new' ho36 (Kd.R_lt HO_6.out)) (Kd.R_lt HO_7.out)) (Kd.R_lt HO199.out)) (below_size HB.out))
                           have n4_ := Aside0.mk (IsS59.below HI181.out hb)
                           have n5_ := Aside0.mk (Kd.C_below (by repeat (first | (with_reducible exact HR213.out) | (with_reducible refine Kd.C_alloc ?_ _) | (with_reducible refine Kd.C_drewN ?_ _) | (with_reducible refine Kd.C_drew ?_) | exact HR213.out)) hb)
                           have n6_ := Aside0.mk (below_step HB.out hb)
                           clear HO_6
                           clear HO_7
                           clear HO199
                           clear HI181
                           clear HR213
                           clear HB
                           have HO_6 := n0_
                           have HO_7 := n1_
                           have HO199 := n2_
                           have HO209 := n3_
                           have HI181 := n4_
                           have HR213 := n5_
                           have HB := n6_
                           clear n0_ n1_ n2_ n3_ n4_ n5_ n6_
                           clear hb ho36
                           refine hK.out _ _ ⟨HS0_, HS1_⟩ (fun hHeld => ?_)
                           clear hK K
                           refine norm_ (a' := ?_) ?_ ?_
                           rotate_left
                           ·show Act.put _ (some 36) _ = _
                            simp only [Act.put, sqA, sqZ, sqS, i64_w, i32_w]
                            rfl
                           exact norm_ (by simp only [putAll, Act.put, sqA, sqZ, sqS] <;> rfl) (hJ5 (v208) _ ⟨hHeld, (Kd.R_mono HO199.out (fun _ hk => ⟨hk.2, ⟨hk.1.1.2, hk.1.2⟩⟩)), (Kd.R_mono HO209.out (fun _ hk => ⟨hk.2, ⟨hk.1.1.2, hk.1.2⟩⟩)), (Kd.R_mono HO_6.out (fun _ hk => ⟨hk.1.2, ⟨hk.2, hk.1.1⟩⟩)), (Kd.R_mono HO_7.out (fun _ hk => ⟨hk.1.2, ⟨hk.2, hk.1.1⟩⟩)), HI181.out, HB.out⟩)
                          ·skip
                           refine Kd.R_lit_step (Kd.int .i64) _ 2 ?hg (N := 47) ?hd (xs := ([wrap64 ((rd t182 (ji27)) + 2)] : List Int)) (inner := [.int .i64 (wrap64 ((rd t182 (ji27)) + 2))]) (ok := fun _ => True) (okp := fun _ => True) ?hr ?hp (fun _ hk => hk) trivial (Below.refl _ _) (Nat.le_refl _) (by simp) ?_; (case hd => rfl); (case hg => rfl); (case hr => first | (go_simp; done) | (go_simp; rfl)); (case hp => exact (Reps.one (show Kd.M (Kd.int .i64) _ _ _ (wrap64 ((rd t182 (ji27)) + 2)) [.int .i64 (wrap64 ((rd t182 (ji27)) + 2))] from rfl) (Reps.none _ _)))
                           intro v219 w35 ho36 hb hg_ hnew_
                           have HS0_ := (hb.cell (World.block_lt_of_cell? _ _ (hHeld.1))).trans (hHeld.1)
                           have HS1_ := (hb.cell (World.block_lt_of_cell? _ _ (hHeld.2))).trans (hHeld.2)
                           clear hg_ hnew_
                           (first | rw [← Ny218.out] at ho36 | (simp only [Int.reduceToNat] at ho36; rw [← Ny218.out] at ho36))
                           have n0_ := Aside0.mk (Kd.R_elder' HO_6.out (Kd.R_base ho36) hb)
                           have n1_ := Aside0.mk (Kd.R_elder' HO_7.out (Kd.R_base ho36) hb)
                           have n2_ := Aside0.mk (Kd.R_elder' HO199.out (Kd.R_base ho36) hb)
                           have n3_ := Aside0.mk (Kd.R_lower (Kd.R_new' (Kd.R_new' (Kd.R_new' ho36 (Kd.R_lt HO_6.out)) (Kd.R_lt HO_7.out)) (Kd.R_lt HO199.out)) (below_size HB.out))
                           have n4_ := Aside0.mk (IsS59.below HI181.out hb)
                           have n5_ := Aside0.mk (Kd.C_below (by repeat (first | (with_reducible exact HR213.out) | (with_reducible refine Kd.C_alloc ?_ _) | (with_reducible refine Kd.C_drewN ?_ _) | (with_reducible refine Kd.C_drew ?_) | exact HR213.out)) hb)
                           have n6_ := Aside0.mk (below_step HB.out hb)
                           clear HO_6
                           clear HO_7
                           clear HO199
                           clear HI181
                           clear HR213
                           clear HB
                           have HO_6 := n0_
                           have HO_7 := n1_
                           have HO199 := n2_
                           have HO220 := n3_
                           have HI181 := n4_
                           have HR213 := n5_
                           have HB := n6_
                           clear n0_ n1_ n2_ n3_ n4_ n5_ n6_
                           clear hb ho36
                           refine hK.out _ _ ⟨HS0_, HS1_⟩ (fun hHeld => ?_)
                           clear hK K
                           refine norm_ (a' := ?_) ?_ ?_
                           rotate_left
                           ·show Act.put _ (some 47) _ = _
                            simp only [Act.put, sqA, sqZ, sqS, i64_w, i32_w]
                            rfl
                           exact norm_ (by simp only [putAll, Act.put, sqA, sqZ, sqS] <;> rfl) (hJ16 (v219) _ ⟨hHeld, (Kd.R_mono HO199.out (fun _ hk => ⟨hk.2, ⟨hk.1.1.2, hk.1.2⟩⟩)), (Kd.R_mono HO220.out (fun _ hk => ⟨hk.2, ⟨hk.1.1.2, hk.1.2⟩⟩)), (Kd.R_mono HO_6.out (fun _ hk => ⟨hk.1.2, ⟨hk.2, hk.1.1⟩⟩)), (Kd.R_mono HO_7.out (fun _ hk => ⟨hk.1.2, ⟨hk.2, hk.1.1⟩⟩)), HI181.out, HB.out⟩)
                         ·skip
                          rintro v219 w37 ⟨hS_, h0_, h1_, h2_, h3_, h4_, h5_⟩
                          (try dsimp only at h0_ h1_ h2_ h3_ h4_ h5_)
                          have n0_ := Aside0.mk h0_
                          have n1_ := Aside0.mk h1_
                          have n2_ := Aside0.mk h2_
                          have n3_ := Aside0.mk h3_
                          have n4_ := Aside0.mk h4_
                          have n5_ := Aside0.mk h5_
                          clear HO_6
                          clear HO_7
                          clear HO199
                          clear HI181
                          clear HB
                          clear h0_ h1_ h2_ h3_ h4_ h5_
                          have HO199 := n0_
                          have HO220 := n1_
                          have HO_6 := n2_
                          have HO_7 := n3_
                          have HI181 := n4_
                          have HB := n5_
                          clear n0_ n1_ n2_ n3_ n4_ n5_
                          have hHeld : w37.cell? ad203 = some (.int .i64 (rd t182 0)) ∧ w37.cell? (ad203.add ((ji27)).toNat) = some (.int .i64 (rd t182 (ji27))) := hS_
                          refine norm_ (a' := ?_) ?_ ?_
                          rotate_left
                          ·simp only [putAll, Act.put, sqA, sqZ, sqS]
                           rfl
                          refine two_ (i := 4) (j := 5) (Ni := some 35) (Nj := some 36) #[true, true, true, true, true, false, true, true, false, true, true, true, true, true, true, true, true, false, false, false] #[true, true, true, true, false, true, true, true, false, true, true, true, true, true, true, true, true, false, false, false] rfl rfl rfl rfl (two_of HT_.out (by kernel_rfl)) (by decide) (by decide) (fun K hK => ?_) (fun K hK => ?_)
                          ·skip
                           refine Kd.R_lit_step (Kd.int .i64) _ 2 ?hg (N := 35) ?hd (xs := ([wrap64 ((rd t182 0) - 3)] : List Int)) (inner := [.int .i64 (wrap64 ((rd t182 0) - 3))]) (ok := fun _ => True) (okp := fun _ => True) ?hr ?hp (fun _ hk => hk) trivial (Below.refl _ _) (Nat.le_refl _) (by simp) ?_; (case hd => rfl); (case hg => rfl); (case hr => first | (go_simp; done) | (go_simp; rfl)); (case hp => exact (Reps.one (show Kd.M (Kd.int .i64) _ _ _ (wrap64 ((rd t182 0) - 3)) [.int .i64 (wrap64 ((rd t182 0) - 3))] from rfl) (Reps.none _ _)))
                           intro v205 w38 ho39 hb hg_ hnew_
                           have HS0_ := (hb.cell (World.block_lt_of_cell? _ _ (hHeld.1))).trans (hHeld.1)
                           have HS1_ := (hb.cell (World.block_lt_of_cell? _ _ (hHeld.2))).trans (hHeld.2)
                           clear hg_ hnew_
                           (first | rw [← Ny204.out] at ho39 | (simp only [Int.reduceToNat] at ho39; rw [← Ny204.out] at ho39))
                           have n0_ := Aside0.mk (Kd.R_elder' HO_6.out (Kd.R_base ho39) hb)
                           have n1_ := Aside0.mk (Kd.R_elder' HO_7.out (Kd.R_base ho39) hb)
                           have n2_ := Aside0.mk (Kd.R_elder' HO199.out (Kd.R_base ho39) hb)
                           have n3_ := Aside0.mk (Kd.R_elder' HO220.out (Kd.R_base ho39) hb)
                           have n4_ := Aside0.mk (Kd.R_lower (Kd.R_new' (Kd.R_new' (Kd.R_new' (Kd.R_new' ho39 (Kd.R_lt HO_6.out)) (Kd.R_lt HO_7.out)) (Kd.R_lt HO199.out)) (Kd.R_lt HO220.out)) (below_size HB.out))
                           have n5_ := Aside0.mk (IsS59.below HI181.out hb)
                           have n6_ := Aside0.mk (below_step HB.out hb)
                           clear HO_6
                           clear HO_7
                           clear HO199
                           clear HO220
                           clear HI181
                           clear HB
                           have HO_6 := n0_
                           have HO_7 := n1_
                           have HO199 := n2_
                           have HO220 := n3_
                           have HO206 := n4_
                           have HI181 := n5_
                           have HB := n6_
                           clear n0_ n1_ n2_ n3_ n4_ n5_ n6_
                           clear hb ho39
                           refine hK.out _ _ ⟨HS0_, HS1_⟩ (fun hHeld => ?_)
                           clear hK K
                           refine norm_ (a' := ?_) ?_ ?_
                           rotate_left
                           ·show Act.put _ (some 35) _ = _
                            simp only [Act.put, sqA, sqZ, sqS, i64_w, i32_w]
                            rfl
                           exact norm_ (by simp only [putAll, Act.put, sqA, sqZ, sqS] <;> rfl) (hJ4_16 (v205, v219) _ ⟨hHeld, (Kd.R_mono HO199.out (fun _ hk => ⟨hk.2, ⟨hk.1.1, ⟨hk.1.2.1, hk.1.2.2⟩⟩⟩)), (Kd.R_mono HO206.out (fun _ hk => ⟨hk.1.2, ⟨hk.2, ⟨hk.1.1.1.2, hk.1.1.2⟩⟩⟩)), (Kd.R_mono HO220.out (fun _ hk => ⟨hk.1.1, ⟨hk.2, ⟨hk.1.2.1, hk.1.2.2⟩⟩⟩)), (Kd.R_mono HO_6.out (fun _ hk => ⟨hk.1.1, ⟨hk.2, ⟨hk.1.2.1, hk.1.2.2⟩⟩⟩)), (Kd.R_mono HO_7.out (fun _ hk => ⟨hk.1.1, ⟨hk.2, ⟨hk.1.2.1, hk.1.2.2⟩⟩⟩)), HI181.out, HB.out⟩)
                          ·skip
                           refine Kd.R_lit_step (Kd.int .i64) _ 2 ?hg (N := 36) ?hd (xs := ([] : List Int)) (inner := []) (ok := fun _ => True) (okp := fun _ => True) ?hr ?hp (fun _ hk => hk) trivial (Below.refl _ _) (Nat.le_refl _) (by simp) ?_; (case hd => rfl); (case hg => rfl); (case hr => first | (go_simp; done) | (go_simp; rfl)); (case hp => exact (Reps.none _ _))
                           intro v208 w38 ho39 hb hg_ hnew_
                           have HS0_ := (hb.cell (World.block_lt_of_cell? _ _ (hHeld.1))).trans (hHeld.1)
                           have HS1_ := (hb.cell (World.block_lt_of_cell? _ _ (hHeld.2))).trans (hHeld.2)
                           clear hg_ hnew_
                           (first | rw [← Ny207.out] at ho39 | (simp only [Int.reduceToNat] at ho39; rw [← Ny207.out] at ho39))
                           have n0_ := Aside0.mk (Kd.R_elder' HO_6.out (Kd.R_base ho39) hb)
                           have n1_ := Aside0.mk (Kd.R_elder' HO_7.out (Kd.R_base ho39) hb)
                           have n2_ := Aside0.mk (Kd.R_elder' HO199.out (Kd.R_base ho39) hb)
                           have n3_ := Aside0.mk (Kd.R_elder' HO220.out (Kd.R_base ho39) hb)
                           have n4_ := Aside0.mk (Kd.R_lower (Kd.R_new' (Kd.R_new' (Kd.R_new' (Kd.R_new' ho39 (Kd.R_lt HO_6.out)) (Kd.R_lt HO_7.out)) (Kd.R_lt HO199.out)) (Kd.R_lt HO220.out)) (below_size HB.out))
                           have n5_ := Aside0.mk (IsS59.below HI181.out hb)
                           have n6_ := Aside0.mk (below_step HB.out hb)
                           clear HO_6
                           clear HO_7
                           clear HO199
                           clear HO220
                           clear HI181
                           clear HB
                           have HO_6 := n0_
                           have HO_7 := n1_
                           have HO199 := n2_
                           have HO220 := n3_
                           have HO209 := n4_
                           have HI181 := n5_
                           have HB := n6_
                           clear n0_ n1_ n2_ n3_ n4_ n5_ n6_
                           clear hb ho39
                           refine hK.out _ _ ⟨HS0_, HS1_⟩ (fun hHeld => ?_)
                           clear hK K
                           refine norm_ (a' := ?_) ?_ ?_
                           rotate_left
                           ·show Act.put _ (some 36) _ = _
                            simp only [Act.put, sqA, sqZ, sqS, i64_w, i32_w]
                            rfl
                           exact norm_ (by simp only [putAll, Act.put, sqA, sqZ, sqS] <;> rfl) (hJ5_16 (v208, v219) _ ⟨hHeld, (Kd.R_mono HO199.out (fun _ hk => ⟨hk.2, ⟨hk.1.1, ⟨hk.1.2.1, hk.1.2.2⟩⟩⟩)), (Kd.R_mono HO209.out (fun _ hk => ⟨hk.1.2, ⟨hk.2, ⟨hk.1.1.1.2, hk.1.1.2⟩⟩⟩)), (Kd.R_mono HO220.out (fun _ hk => ⟨hk.1.1, ⟨hk.2, ⟨hk.1.2.1, hk.1.2.2⟩⟩⟩)), (Kd.R_mono HO_6.out (fun _ hk => ⟨hk.1.1, ⟨hk.2, ⟨hk.1.2.1, hk.1.2.2⟩⟩⟩)), (Kd.R_mono HO_7.out (fun _ hk => ⟨hk.1.1, ⟨hk.2, ⟨hk.1.2.1, hk.1.2.2⟩⟩⟩)), HI181.out, HB.out⟩)
                        ·skip
                         rintro v208 w37 ⟨hS_, h0_, h1_, h2_, h3_, h4_, h5_⟩
                         (try dsimp only at h0_ h1_ h2_ h3_ h4_ h5_)
                         have n0_ := Aside0.mk h0_
                         have n1_ := Aside0.mk h1_
                         have n2_ := Aside0.mk h2_
                         have n3_ := Aside0.mk h3_
                         have n4_ := Aside0.mk h4_
                         have n5_ := Aside0.mk h5_
                         clear HO_6
                         clear HO_7
                         clear HO199
                         clear HI181
                         clear HB
                         clear h0_ h1_ h2_ h3_ h4_ h5_
                         have HO199 := n0_
                         have HO209 := n1_
                         have HO_6 := n2_
                         have HO_7 := n3_
                         have HI181 := n4_
                         have HB := n5_
                         clear n0_ n1_ n2_ n3_ n4_ n5_
                         have hHeld : w37.cell? ad203 = some (.int .i64 (rd t182 0)) ∧ w37.cell? (ad203.add ((ji27)).toNat) = some (.int .i64 (rd t182 (ji27))) := hS_
                         refine norm_ (a' := ?_) ?_ ?_
                         rotate_left
                         ·simp only [putAll, Act.put, sqA, sqZ, sqS]
                          rfl
                         refine three_ (i := 4) (j := 8) (k := 16) (Ni := some 35) (Nj := some 39) (Nk := some 47) #[true, true, true, true, true, true, true, true, false, true, true, true, true, true, true, true, false, false, false, false] #[true, true, true, true, false, true, true, true, true, true, true, true, true, true, true, true, false, false, false, false] #[true, true, true, true, false, true, true, true, false, true, true, true, true, true, true, true, true, false, false, false] rfl rfl rfl rfl rfl rfl (three_of HT_.out (by kernel_rfl)) (by decide) (by decide) (by decide) (fun K hK => ?_) (fun K hK => ?_) (fun K hK => ?_)
                         ·skip
                          refine Kd.R_lit_step (Kd.int .i64) _ 2 ?hg (N := 35) ?hd (xs := ([wrap64 ((rd t182 0) - 3)] : List Int)) (inner := [.int .i64 (wrap64 ((rd t182 0) - 3))]) (ok := fun _ => True) (okp := fun _ => True) ?hr ?hp (fun _ hk => hk) trivial (Below.refl _ _) (Nat.le_refl _) (by simp) ?_; (case hd => rfl); (case hg => rfl); (case hr => first | (go_simp; done) | (go_simp; rfl)); (case hp => exact (Reps.one (show Kd.M (Kd.int .i64) _ _ _ (wrap64 ((rd t182 0) - 3)) [.int .i64 (wrap64 ((rd t182 0) - 3))] from rfl) (Reps.none _ _)))
                          intro v205 w38 ho39 hb hg_ hnew_
                          have HS0_ := (hb.cell (World.block_lt_of_cell? _ _ (hHeld.1))).trans (hHeld.1)
                          have HS1_ := (hb.cell (World.block_lt_of_cell? _ _ (hHeld.2))).trans (hHeld.2)
                          clear hg_ hnew_
                          (first | rw [← Ny204.out] at ho39 | (simp only [Int.reduceToNat] at ho39; rw [← Ny204.out] at ho39))
                          have n0_ := Aside0.mk (Kd.R_elder' HO_6.out (Kd.R_base ho39) hb)
                          have n1_ := Aside0.mk (Kd.R_elder' HO_7.out (Kd.R_base ho39) hb)
                          have n2_ := Aside0.mk (Kd.R_elder' HO199.out (Kd.R_base ho39) hb)
                          have n3_ := Aside0.mk (Kd.R_elder' HO209.out (Kd.R_base ho39) hb)
                          have n4_ := Aside0.mk (Kd.R_lower (Kd.R_new' (Kd.R_new' (Kd.R_new' (Kd.R_new' ho39 (Kd.R_lt HO_6.out)) (Kd.R_lt HO_7.out)) (Kd.R_lt HO199.out)) (Kd.R_lt HO209.out)) (below_size HB.out))
                          have n5_ := Aside0.mk (IsS59.below HI181.out hb)
                          have n6_ := Aside0.mk (below_step HB.out hb)
                          clear HO_6
                          clear HO_7
                          clear HO199
                          clear HO209
                          clear HI181
                          clear HB
                          have HO_6 := n0_
                          have HO_7 := n1_
                          have HO199 := n2_
                          have HO209 := n3_
                          have HO206 := n4_
                          have HI181 := n5_
                          have HB := n6_
                          clear n0_ n1_ n2_ n3_ n4_ n5_ n6_
                          clear hb ho39
                          refine hK.out _ _ ⟨HS0_, HS1_⟩ (fun hHeld => ?_)
                          clear hK K
                          refine norm_ (a' := ?_) ?_ ?_
                          rotate_left
                          ·show Act.put _ (some 35) _ = _
                           simp only [Act.put, sqA, sqZ, sqS, i64_w, i32_w]
                           rfl
                          exact norm_ (by simp only [putAll, Act.put, sqA, sqZ, sqS] <;> rfl) (hJ4_5 (v205, v208) _ ⟨hHeld, (Kd.R_mono HO199.out (fun _ hk => ⟨hk.2, ⟨hk.1.1, ⟨hk.1.2.1, hk.1.2.2⟩⟩⟩)), (Kd.R_mono HO206.out (fun _ hk => ⟨hk.1.2, ⟨hk.2, ⟨hk.1.1.1.2, hk.1.1.2⟩⟩⟩)), (Kd.R_mono HO209.out (fun _ hk => ⟨hk.1.1, ⟨hk.2, ⟨hk.1.2.1, hk.1.2.2⟩⟩⟩)), (Kd.R_mono HO_6.out (fun _ hk => ⟨hk.1.1, ⟨hk.2, ⟨hk.1.2.1, hk.1.2.2⟩⟩⟩)), (Kd.R_mono HO_7.out (fun _ hk => ⟨hk.1.1, ⟨hk.2, ⟨hk.1.2.1, hk.1.2.2⟩⟩⟩)), HI181.out, HB.out⟩)
                         ·skip
                          refine Kd.R_append_rows_step (Kd.int .i64) (w0 := w) w.heap.size (by rfl) (.tmp 36) (.tmp 38) 30 2 (.int .i64 0) 8 rfl Try.underlying30 info2 rfl (by decide) (by omega) v208 y207 y210 _ _ _ (fun k_ => some k_ ≠ (.slice (some ad203) t182.length co20 : Value).ownBlock ∧ some k_ ≠ (u7 : Value).ownBlock ∧ some k_ ≠ (.slice Ao34 t197.length co34 : Value).ownBlock) (fun _ => False) rfl rfl ?aO ?aR (fun _ _ h => h) (fun _ h => h.elim) ?aF ?aB ?aS ?aL ?_
                          (case aR => (have h_ : y210 = [] := by (rw [Ny210.out]; exact List.take_zero)); (rw [h_]; exact ⟨rfl, by simp, fun h => absurd h (Nat.lt_irrefl 0)⟩))
                          (case aB => exact HB.out)
                          (case aF => exact (fun k_ hk => ⟨Kd.fresh' (Kd.R_lt HO_6.out) k_ hk, Kd.fresh' (Kd.R_lt HO_7.out) k_ hk, Kd.fresh' (Kd.R_lt HO199.out) k_ hk⟩))
                          (case aO => exact (Kd.R_mono HO209.out (fun _ hk => ⟨hk.2.1, ⟨hk.2.2, hk.1⟩⟩)))
                          (case aS => exact (below_size HB.out))
                          (case aL => have := LMc26.out; omega)
                          intro v215 w38 ho hb hg hat
                          (first | have HS0_ := cell_grown hg (hHeld.1) (by first | exact (fun e_ => (((HO209.out).1 _ e_.symm).2.1) rfl) | (rw [add_block]; exact (fun e_ => (((HO209.out).1 _ e_.symm).2.1) rfl)) | (show some (Addr.add _ _).block ≠ _; rw [add_block]; exact (fun e_ => (((HO209.out).1 _ e_.symm).2.1) rfl))) | have HS0_ := cell_grown hg ((World.cell?_alloc_lt _ _ _ (World.block_lt_of_cell? _ _ (hHeld.1))).trans (hHeld.1)) (by first | exact (fun e_ => (((HO209.out).1 _ e_.symm).2.1) rfl) | (rw [add_block]; exact (fun e_ => (((HO209.out).1 _ e_.symm).2.1) rfl)) | (show some (Addr.add _ _).block ≠ _; rw [add_block]; exact (fun e_ => (((HO209.out).1 _ e_.symm).2.1) rfl))))
                          (first | have HS1_ := cell_grown hg (hHeld.2) (by first | exact (fun e_ => (((HO209.out).1 _ e_.symm).2.1) rfl) | (rw [add_block]; exact (fun e_ => (((HO209.out).1 _ e_.symm).2.1) rfl)) | (show some (Addr.add _ _).block ≠ _; rw [add_block]; exact (fun e_ => (((HO209.out).1 _ e_.symm).2.1) rfl))) | have HS1_ := cell_grown hg ((World.cell?_alloc_lt _ _ _ (World.block_lt_of_cell? _ _ (hHeld.2))).trans (hHeld.2)) (by first | exact (fun e_ => (((HO209.out).1 _ e_.symm).2.1) rfl) | (rw [add_block]; exact (fun e_ => (((HO209.out).1 _ e_.symm).2.1) rfl)) | (show some (Addr.add _ _).block ≠ _; rw [add_block]; exact (fun e_ => (((HO209.out).1 _ e_.symm).2.1) rfl))))
                          rw [← Ny214.out] at ho
                          have n0_ := Aside0.mk (Kd.R_after (ok := (fun k_ => some k_ ≠ (u7 : Value).ownBlock ∧ some k_ ≠ (.slice Ao34 t197.length co34 : Value).ownBlock)) (Kd.R_mono HO_6.out (fun _ hk => ⟨⟨hk.2.2, hk.1⟩, hk.2.1⟩)) hg hat)
                          have n1_ := Aside0.mk (Kd.R_after (ok := (fun k_ => some k_ ≠ (.slice (some ad203) t182.length co20 : Value).ownBlock ∧ some k_ ≠ (.slice Ao34 t197.length co34 : Value).ownBlock)) (Kd.R_mono HO_7.out (fun _ hk => ⟨⟨hk.2.2, hk.1⟩, hk.2.1⟩)) hg hat)
                          have n2_ := Aside0.mk (IsS59.grown HI181.out hg (IsS59.own_ne HI181.out HO209.out (by decide)))
                          have n3_ := Aside0.mk (Kd.R_after (ok := (fun k_ => some k_ ≠ (.slice (some ad203) t182.length co20 : Value).ownBlock ∧ some k_ ≠ (u7 : Value).ownBlock)) (Kd.R_mono HO199.out (fun _ hk => ⟨⟨hk.2.1, hk.2.2⟩, hk.1⟩)) hg hat)
                          have n4_ := Aside0.mk (hb)
                          have n5_ := Aside0.mk (ho)
                          clear HO_6
                          clear HO_7
                          clear HI181
                          clear HO199
                          clear HB
                          clear HO209
                          have HO_6 := n0_
                          have HO_7 := n1_
                          have HI181 := n2_
                          have HO199 := n3_
                          have HB := n4_
                          have HO216 := n5_
                          clear n0_ n1_ n2_ n3_ n4_ n5_
                          clear ho hb hg hat
                          refine hK.out _ _ ⟨HS0_, HS1_⟩ (fun hHeld => ?_)
                          clear hK K
                          refine norm_ (a' := ?_) ?_ ?_
                          rotate_left
                          ·show Act.put _ (some 39) _ = _
                           simp only [Act.put, sqA, sqZ, sqS, i64_w, i32_w]
                           rfl
                          exact norm_ (by simp only [putAll, Act.put, sqA, sqZ, sqS] <;> rfl) (hJ5_8 (v208, v215) _ ⟨hHeld, (Kd.R_mono HO199.out (fun _ hk => ⟨hk.2, ⟨hk.1.1, hk.1.2⟩⟩)), (Kd.R_mono HO216.out (fun _ hk => ⟨hk.2.2, ⟨hk.1, hk.2.1⟩⟩)), (Kd.R_mono HO_6.out (fun _ hk => ⟨hk.1.2, ⟨hk.2, hk.1.1⟩⟩)), (Kd.R_mono HO_7.out (fun _ hk => ⟨hk.1.2, ⟨hk.2, hk.1.1⟩⟩)), HI181.out, HB.out⟩)
                         ·skip
                          refine Kd.R_lit_step (Kd.int .i64) _ 2 ?hg (N := 47) ?hd (xs := ([wrap64 ((rd t182 (ji27)) + 2)] : List Int)) (inner := [.int .i64 (wrap64 ((rd t182 (ji27)) + 2))]) (ok := fun _ => True) (okp := fun _ => True) ?hr ?hp (fun _ hk => hk) trivial (Below.refl _ _) (Nat.le_refl _) (by simp) ?_; (case hd => rfl); (case hg => rfl); (case hr => first | (go_simp; done) | (go_simp; rfl)); (case hp => exact (Reps.one (show Kd.M (Kd.int .i64) _ _ _ (wrap64 ((rd t182 (ji27)) + 2)) [.int .i64 (wrap64 ((rd t182 (ji27)) + 2))] from rfl) (Reps.none _ _)))
                          intro v219 w38 ho39 hb hg_ hnew_
                          have HS0_ := (hb.cell (World.block_lt_of_cell? _ _ (hHeld.1))).trans (hHeld.1)
                          have HS1_ := (hb.cell (World.block_lt_of_cell? _ _ (hHeld.2))).trans (hHeld.2)
                          clear hg_ hnew_
                          (first | rw [← Ny218.out] at ho39 | (simp only [Int.reduceToNat] at ho39; rw [← Ny218.out] at ho39))
                          have n0_ := Aside0.mk (Kd.R_elder' HO_6.out (Kd.R_base ho39) hb)
                          have n1_ := Aside0.mk (Kd.R_elder' HO_7.out (Kd.R_base ho39) hb)
                          have n2_ := Aside0.mk (Kd.R_elder' HO199.out (Kd.R_base ho39) hb)
                          have n3_ := Aside0.mk (Kd.R_elder' HO209.out (Kd.R_base ho39) hb)
                          have n4_ := Aside0.mk (Kd.R_lower (Kd.R_new' (Kd.R_new' (Kd.R_new' (Kd.R_new' ho39 (Kd.R_lt HO_6.out)) (Kd.R_lt HO_7.out)) (Kd.R_lt HO199.out)) (Kd.R_lt HO209.out)) (below_size HB.out))
                          have n5_ := Aside0.mk (IsS59.below HI181.out hb)
                          have n6_ := Aside0.mk (below_step HB.out hb)
                          clear HO_6
                          clear HO_7
                          clear HO199
                          clear HO209
                          clear HI181
                          clear HB
                          have HO_6 := n0_
                          have HO_7 := n1_
                          have HO199 := n2_
                          have HO209 := n3_
                          have HO220 := n4_
                          have HI181 := n5_
                          have HB := n6_
                          clear n0_ n1_ n2_ n3_ n4_ n5_ n6_
                          clear hb ho39
                          refine hK.out _ _ ⟨HS0_, HS1_⟩ (fun hHeld => ?_)
                          clear hK K
                          refine norm_ (a' := ?_) ?_ ?_
                          rotate_left
                          ·show Act.put _ (some 47) _ = _
                           simp only [Act.put, sqA, sqZ, sqS, i64_w, i32_w]
                           rfl
                          exact norm_ (by simp only [putAll, Act.put, sqA, sqZ, sqS] <;> rfl) (hJ5_16 (v208, v219) _ ⟨hHeld, (Kd.R_mono HO199.out (fun _ hk => ⟨hk.1.1, ⟨hk.2, ⟨hk.1.2.1, hk.1.2.2⟩⟩⟩)), (Kd.R_mono HO209.out (fun _ hk => ⟨hk.1.1, ⟨hk.2, ⟨hk.1.2.1, hk.1.2.2⟩⟩⟩)), (Kd.R_mono HO220.out (fun _ hk => ⟨hk.1.2, ⟨hk.2, ⟨hk.1.1.1.2, hk.1.1.2⟩⟩⟩)), (Kd.R_mono HO_6.out (fun _ hk => ⟨hk.1.1, ⟨hk.1.2.1, ⟨hk.2, hk.1.2.2⟩⟩⟩)), (Kd.R_mono HO_7.out (fun _ hk => ⟨hk.1.1, ⟨hk.1.2.1, ⟨hk.2, hk.1.2.2⟩⟩⟩)), HI181.out, HB.out⟩)
                       ·skip
                        rintro v205 w37 ⟨hS_, h0_, h1_, h2_, h3_, h4_, h5_⟩
                        (try dsimp only at h0_ h1_ h2_ h3_ h4_ h5_)
                        have n0_ := Aside0.mk h0_
                        have n1_ := Aside0.mk h1_
                        have n2_ := Aside0.mk h2_
                        have n3_ := Aside0.mk h3_
                        have n4_ := Aside0.mk h4_
                        have n5_ := Aside0.mk h5_
                        clear HO_6
                        clear HO_7
                        clear HO199
                        clear HI181
                        clear HB
                        clear h0_ h1_ h2_ h3_ h4_ h5_
                        have HO199 := n0_
                        have HO206 := n1_
                        have HO_6 := n2_
                        have HO_7 := n3_
                        have HI181 := n4_
                        have HB := n5_
                        clear n0_ n1_ n2_ n3_ n4_ n5_
                        have hHeld : w37.cell? ad203 = some (.int .i64 (rd t182 0)) ∧ w37.cell? (ad203.add ((ji27)).toNat) = some (.int .i64 (rd t182 (ji27))) := hS_
                        refine norm_ (a' := ?_) ?_ ?_
                        rotate_left
                        ·simp only [putAll, Act.put, sqA, sqZ, sqS]
                         rfl
                        refine two_ (i := 5) (j := 16) (Ni := some 36) (Nj := some 47) #[true, true, true, true, true, true, true, true, false, true, true, true, true, true, true, true, false, false, false, false] #[true, true, true, true, true, false, true, true, false, true, true, true, true, true, true, true, true, false, false, false] rfl rfl rfl rfl (two_of HT_.out (by kernel_rfl)) (by decide) (by decide) (fun K hK => ?_) (fun K hK => ?_)
                        ·skip
                         refine Kd.R_lit_step (Kd.int .i64) _ 2 ?hg (N := 36) ?hd (xs := ([] : List Int)) (inner := []) (ok := fun _ => True) (okp := fun _ => True) ?hr ?hp (fun _ hk => hk) trivial (Below.refl _ _) (Nat.le_refl _) (by simp) ?_; (case hd => rfl); (case hg => rfl); (case hr => first | (go_simp; done) | (go_simp; rfl)); (case hp => exact (Reps.none _ _))
                         intro v208 w38 ho39 hb hg_ hnew_
                         have HS0_ := (hb.cell (World.block_lt_of_cell? _ _ (hHeld.1))).trans (hHeld.1)
                         have HS1_ := (hb.cell (World.block_lt_of_cell? _ _ (hHeld.2))).trans (hHeld.2)
                         clear hg_ hnew_
                         (first | rw [← Ny207.out] at ho39 | (simp only [Int.reduceToNat] at ho39; rw [← Ny207.out] at ho39))
                         have n0_ := Aside0.mk (Kd.R_elder' HO_6.out (Kd.R_base ho39) hb)
                         have n1_ := Aside0.mk (Kd.R_elder' HO_7.out (Kd.R_base ho39) hb)
                         have n2_ := Aside0.mk (Kd.R_elder' HO199.out (Kd.R_base ho39) hb)
                         have n3_ := Aside0.mk (Kd.R_elder' HO206.out (Kd.R_base ho39) hb)
                         have n4_ := Aside0.mk (Kd.R_lower (Kd.R_new' (Kd.R_new' (Kd.R_new' (Kd.R_new' ho39 (Kd.R_lt HO_6.out)) (Kd.R_lt HO_7.out)) (Kd.R_lt HO199.out)) (Kd.R_lt HO206.out)) (below_size HB.out))
                         have n5_ := Aside0.mk (IsS59.below HI181.out hb)
                         have n6_ := Aside0.mk (below_step HB.out hb)
                         clear HO_6
                         clear HO_7
                         clear HO199
                         clear HO206
                         clear HI181
                         clear HB
                         have HO_6 := n0_
                         have HO_7 := n1_
                         have HO199 := n2_
                         have HO206 := n3_
                         have HO209 := n4_
                         have HI181 := n5_
                         have HB := n6_
                         clear n0_ n1_ n2_ n3_ n4_ n5_ n6_
                         clear hb ho39
                         refine hK.out _ _ ⟨HS0_, HS1_⟩ (fun hHeld => ?_)
                         clear hK K
                         refine norm_ (a' := ?_) ?_ ?_
                         rotate_left
                         ·show Act.put _ (some 36) _ = _
                          simp only [Act.put, sqA, sqZ, sqS, i64_w, i32_w]
                          rfl
                         exact norm_ (by simp only [putAll, Act.put, sqA, sqZ, sqS] <;> rfl) (hJ4_5 (v205, v208) _ ⟨hHeld, (Kd.R_mono HO199.out (fun _ hk => ⟨hk.1.1, ⟨hk.2, ⟨hk.1.2.1, hk.1.2.2⟩⟩⟩)), (Kd.R_mono HO206.out (fun _ hk => ⟨hk.1.1, ⟨hk.2, ⟨hk.1.2.1, hk.1.2.2⟩⟩⟩)), (Kd.R_mono HO209.out (fun _ hk => ⟨hk.1.2, ⟨hk.2, ⟨hk.1.1.1.2, hk.1.1.2⟩⟩⟩)), (Kd.R_mono HO_6.out (fun _ hk => ⟨hk.1.1, ⟨hk.1.2.1, ⟨hk.2, hk.1.2.2⟩⟩⟩)), (Kd.R_mono HO_7.out (fun _ hk => ⟨hk.1.1, ⟨hk.1.2.1, ⟨hk.2, hk.1.2.2⟩⟩⟩)), HI181.out, HB.out⟩)
                        ·skip
                         refine Kd.R_lit_step (Kd.int .i64) _ 2 ?hg (N := 47) ?hd (xs := ([wrap64 ((rd t182 (ji27)) + 2)] : List Int)) (inner := [.int .i64 (wrap64 ((rd t182 (ji27)) + 2))]) (ok := fun _ => True) (okp := fun _ => True) ?hr ?hp (fun _ hk => hk) trivial (Below.refl _ _) (Nat.le_refl _) (by simp) ?_; (case hd => rfl); (case hg => rfl); (case hr => first | (go_simp; done) | (go_simp; rfl)); (case hp => exact (Reps.one (show Kd.M (Kd.int .i64) _ _ _ (wrap64 ((rd t182 (ji27)) + 2)) [.int .i64 (wrap64 ((rd t182 (ji27)) + 2))] from rfl) (Reps.none _ _)))
                         intro v219 w38 ho39 hb hg_ hnew_
                         have HS0_ := (hb.cell (World.block_lt_of_cell? _ _ (hHeld.1))).trans (hHeld.1)
                         have HS1_ := (hb.cell (World.block_lt_of_cell? _ _ (hHeld.2))).trans (hHeld.2)
                         clear hg_ hnew_
                         (first | rw [← Ny218.out] at ho39 | (simp only [Int.reduceToNat] at ho39; rw [← Ny218.out] at ho39))
                         have n0_ := Aside0.mk (Kd.R_elder' HO_6.out (Kd.R_base ho39) hb)
                         have n1_ := Aside0.mk (Kd.R_elder' HO_7.out (Kd.R_base ho39) hb)
                         have n2_ := Aside0.mk (Kd.R_elder' HO199.out (Kd.R_base ho39) hb)
                         have n3_ := Aside0.mk (Kd.R_elder' HO206.out (Kd.R_base ho39) hb)
                         have n4_ := Aside0.mk (Kd.R_lower (Kd.R_new' (Kd.R_new' (Kd.R_new' (Kd.R_new' ho39 (Kd.R_lt HO_6.out)) (Kd.R_lt HO_7.out)) (Kd.R_lt HO199.out)) (Kd.R_lt HO206.out)) (below_size HB.out))
                         have n5_ := Aside0.mk (IsS59.below HI181.out hb)
                         have n6_ := Aside0.mk (below_step HB.out hb)
                         clear HO_6
                         clear HO_7
                         clear HO199
                         clear HO206
                         clear HI181
                         clear HB
                         have HO_6 := n0_
                         have HO_7 := n1_
                         have HO199 := n2_
                         have HO206 := n3_
                         have HO220 := n4_
                         have HI181 := n5_
                         have HB := n6_
                         clear n0_ n1_ n2_ n3_ n4_ n5_ n6_
                         clear hb ho39
                         refine hK.out _ _ ⟨HS0_, HS1_⟩ (fun hHeld => ?_)
                         clear hK K
                         refine norm_ (a' := ?_) ?_ ?_
                         rotate_left
                         ·show Act.put _ (some 47) _ = _
                          simp only [Act.put, sqA, sqZ, sqS, i64_w, i32_w]
                          rfl
                         exact norm_ (by simp only [putAll, Act.put, sqA, sqZ, sqS] <;> rfl) (hJ4_16 (v205, v219) _ ⟨hHeld, (Kd.R_mono HO199.out (fun _ hk => ⟨hk.1.1, ⟨hk.2, ⟨hk.1.2.1, hk.1.2.2⟩⟩⟩)), (Kd.R_mono HO206.out (fun _ hk => ⟨hk.1.1, ⟨hk.2, ⟨hk.1.2.1, hk.1.2.2⟩⟩⟩)), (Kd.R_mono HO220.out (fun _ hk => ⟨hk.1.2, ⟨hk.2, ⟨hk.1.1.1.2, hk.1.1.2⟩⟩⟩)), (Kd.R_mono HO_6.out (fun _ hk => ⟨hk.1.1, ⟨hk.1.2.1, ⟨hk.2, hk.1.2.2⟩⟩⟩)), (Kd.R_mono HO_7.out (fun _ hk => ⟨hk.1.1, ⟨hk.1.2.1, ⟨hk.2, hk.1.2.2⟩⟩⟩)), HI181.out, HB.out⟩)
                      ·skip
                       rintro ⟨v208, v219⟩ w39 ⟨hS_, h0_, h1_, h2_, h3_, h4_, h5_, h6_⟩
                       (try dsimp only at h0_ h1_ h2_ h3_ h4_ h5_ h6_)
                       have n0_ := Aside0.mk h0_
                       have n1_ := Aside0.mk h1_
                       have n2_ := Aside0.mk h2_
                       have n3_ := Aside0.mk h3_
                       have n4_ := Aside0.mk h4_
                       have n5_ := Aside0.mk h5_
                       have n6_ := Aside0.mk h6_
                       clear HO_6
                       clear HO_7
                       clear HO199
                       clear HI181
                       clear HB
                       clear h0_ h1_ h2_ h3_ h4_ h5_ h6_
                       have HO199 := n0_
                       have HO209 := n1_
                       have HO220 := n2_
                       have HO_6 := n3_
                       have HO_7 := n4_
                       have HI181 := n5_
                       have HB := n6_
                       clear n0_ n1_ n2_ n3_ n4_ n5_ n6_
                       have hHeld : w39.cell? ad203 = some (.int .i64 (rd t182 0)) ∧ w39.cell? (ad203.add ((ji27)).toNat) = some (.int .i64 (rd t182 (ji27))) := hS_
                       refine norm_ (a' := ?_) ?_ ?_
                       rotate_left
                       ·simp only [putAll, Act.put, sqA, sqZ, sqS]
                        rfl
                       refine two_ (i := 4) (j := 8) (Ni := some 35) (Nj := some 39) #[true, true, true, true, true, true, true, true, false, true, true, true, true, true, true, true, true, false, false, false] #[true, true, true, true, false, true, true, true, true, true, true, true, true, true, true, true, true, false, false, false] rfl rfl rfl rfl (two_of HT_.out (by kernel_rfl)) (by decide) (by decide) (fun K hK => ?_) (fun K hK => ?_)
                       ·skip
                        refine Kd.R_lit_step (Kd.int .i64) _ 2 ?hg (N := 35) ?hd (xs := ([wrap64 ((rd t182 0) - 3)] : List Int)) (inner := [.int .i64 (wrap64 ((rd t182 0) - 3))]) (ok := fun _ => True) (okp := fun _ => True) ?hr ?hp (fun _ hk => hk) trivial (Below.refl _ _) (Nat.le_refl _) (by simp) ?_; (case hd => rfl); (case hg => rfl); (case hr => first | (go_simp; done) | (go_simp; rfl)); (case hp => exact (Reps.one (show Kd.M (Kd.int .i64) _ _ _ (wrap64 ((rd t182 0) - 3)) [.int .i64 (wrap64 ((rd t182 0) - 3))] from rfl) (Reps.none _ _)))
                        intro v205 w40 ho41 hb hg_ hnew_
                        have HS0_ := (hb.cell (World.block_lt_of_cell? _ _ (hHeld.1))).trans (hHeld.1)
                        have HS1_ := (hb.cell (World.block_lt_of_cell? _ _ (hHeld.2))).trans (hHeld.2)
                        clear hg_ hnew_
                        (first | rw [← Ny204.out] at ho41 | (simp only [Int.reduceToNat] at ho41; rw [← Ny204.out] at ho41))
                        have n0_ := Aside0.mk (Kd.R_elder' HO_6.out (Kd.R_base ho41) hb)
                        have n1_ := Aside0.mk (Kd.R_elder' HO_7.out (Kd.R_base ho41) hb)
                        have n2_ := Aside0.mk (Kd.R_elder' HO199.out (Kd.R_base ho41) hb)
                        have n3_ := Aside0.mk (Kd.R_elder' HO209.out (Kd.R_base ho41) hb)
                        have n4_ := Aside0.mk (Kd.R_elder' HO220.out (Kd.R_base ho41) hb)
                        have n5_ := Aside0.mk (Kd.R_lower (Kd.R_new' (Kd.R_new' (Kd.R_new' (Kd.R_new' (Kd.R_new' ho41 (Kd.R_lt HO_6.out)) (Kd.R_lt HO_7.out)) (Kd.R_lt HO199.out)) (Kd.R_lt HO209.out)) (Kd.R_lt HO220.out)) (below_size HB.out))
                        have n6_ := Aside0.mk (IsS59.below HI181.out hb)
                        have n7_ := Aside0.mk (below_step HB.out hb)
                        clear HO_6
                        clear HO_7
                        clear HO199
                        clear HO209
                        clear HO220
                        clear HI181
                        clear HB
                        have HO_6 := n0_
                        have HO_7 := n1_
                        have HO199 := n2_
                        have HO209 := n3_
                        have HO220 := n4_
                        have HO206 := n5_
                        have HI181 := n6_
                        have HB := n7_
                        clear n0_ n1_ n2_ n3_ n4_ n5_ n6_ n7_
                        clear hb ho41
                        refine hK.out _ _ ⟨HS0_, HS1_⟩ (fun hHeld => ?_)
                        clear hK K
                        refine norm_ (a' := ?_) ?_ ?_
                        rotate_left
                        ·show Act.put _ (some 35) _ = _
                         simp only [Act.put, sqA, sqZ, sqS, i64_w, i32_w]
                         rfl
                        exact norm_ (by simp only [putAll, Act.put, sqA, sqZ, sqS] <;> rfl) (hJ4_5_16 (v205, v208, v219) _ ⟨hHeld, (Kd.R_mono HO199.out (fun _ hk => ⟨hk.2, ⟨hk.1.1, ⟨hk.1.2.1, ⟨hk.1.2.2.1, hk.1.2.2.2⟩⟩⟩⟩)), (Kd.R_mono HO206.out (fun _ hk => ⟨hk.1.1.2, ⟨hk.1.2, ⟨hk.2, ⟨hk.1.1.1.1.2, hk.1.1.1.2⟩⟩⟩⟩)), (Kd.R_mono HO209.out (fun _ hk => ⟨hk.1.1, ⟨hk.2, ⟨hk.1.2.1, ⟨hk.1.2.2.1, hk.1.2.2.2⟩⟩⟩⟩)), (Kd.R_mono HO220.out (fun _ hk => ⟨hk.1.1, ⟨hk.2, ⟨hk.1.2.1, ⟨hk.1.2.2.1, hk.1.2.2.2⟩⟩⟩⟩)), (Kd.R_mono HO_6.out (fun _ hk => ⟨hk.1.1, ⟨hk.2, ⟨hk.1.2.1, ⟨hk.1.2.2.1, hk.1.2.2.2⟩⟩⟩⟩)), (Kd.R_mono HO_7.out (fun _ hk => ⟨hk.1.1, ⟨hk.2, ⟨hk.1.2.1, ⟨hk.1.2.2.1, hk.1.2.2.2⟩⟩⟩⟩)), HI181.out, HB.out⟩)
                       ·skip
                        refine Kd.R_append_rows_step (Kd.int .i64) (w0 := w) w.heap.size (by rfl) (.tmp 36) (.tmp 38) 30 2 (.int .i64 0) 8 rfl Try.underlying30 info2 rfl (by decide) (by omega) v208 y207 y210 _ _ _ (fun k_ => some k_ ≠ (.slice (some ad203) t182.length co20 : Value).ownBlock ∧ some k_ ≠ (u7 : Value).ownBlock ∧ some k_ ≠ (.slice Ao34 t197.length co34 : Value).ownBlock ∧ some k_ ≠ (v219 : Value).ownBlock) (fun _ => False) rfl rfl ?aO ?aR (fun _ _ h => h) (fun _ h => h.elim) ?aF ?aB ?aS ?aL ?_
                        (case aR => (have h_ : y210 = [] := by (rw [Ny210.out]; exact List.take_zero)); (rw [h_]; exact ⟨rfl, by simp, fun h => absurd h (Nat.lt_irrefl 0)⟩))
                        (case aB => exact HB.out)
                        (case aF => exact (fun k_ hk => ⟨Kd.fresh' (Kd.R_lt HO_6.out) k_ hk, Kd.fresh' (Kd.R_lt HO_7.out) k_ hk, Kd.fresh' (Kd.R_lt HO199.out) k_ hk, Kd.fresh' (Kd.R_lt HO220.out) k_ hk⟩))
                        (case aO => exact (Kd.R_mono HO209.out (fun _ hk => ⟨hk.2.2.1, ⟨hk.2.2.2, ⟨hk.1, hk.2.1⟩⟩⟩)))
                        (case aS => exact (below_size HB.out))
                        (case aL => have := LMc26.out; omega)
                        intro v215 w40 ho hb hg hat
                        (first | have HS0_ := cell_grown hg (hHeld.1) (by first | exact (fun e_ => (((HO209.out).1 _ e_.symm).2.2.1) rfl) | (rw [add_block]; exact (fun e_ => (((HO209.out).1 _ e_.symm).2.2.1) rfl)) | (show some (Addr.add _ _).block ≠ _; rw [add_block]; exact (fun e_ => (((HO209.out).1 _ e_.symm).2.2.1) rfl))) | have HS0_ := cell_grown hg ((World.cell?_alloc_lt _ _ _ (World.block_lt_of_cell? _ _ (hHeld.1))).trans (hHeld.1)) (by first | exact (fun e_ => (((HO209.out).1 _ e_.symm).2.2.1) rfl) | (rw [add_block]; exact (fun e_ => (((HO209.out).1 _ e_.symm).2.2.1) rfl)) | (show some (Addr.add _ _).block ≠ _; rw [add_block]; exact (fun e_ => (((HO209.out).1 _ e_.symm).2.2.1) rfl))))
                        (first | have HS1_ := cell_grown hg (hHeld.2) (by first | exact (fun e_ => (((HO209.out).1 _ e_.symm).2.2.1) rfl) | (rw [add_block]; exact (fun e_ => (((HO209.out).1 _ e_.symm).2.2.1) rfl)) | (show some (Addr.add _ _).block ≠ _; rw [add_block]; exact (fun e_ => (((HO209.out).1 _ e_.symm).2.2.1) rfl))) | have HS1_ := cell_grown hg ((World.cell?_alloc_lt _ _ _ (World.block_lt_of_cell? _ _ (hHeld.2))).trans (hHeld.2)) (by first | exact (fun e_ => (((HO209.out).1 _ e_.symm).2.2.1) rfl) | (rw [add_block]; exact (fun e_ => (((HO209.out).1 _ e_.symm).2.2.1) rfl)) | (show some (Addr.add _ _).block ≠ _; rw [add_block]; exact (fun e_ => (((HO209.out).1 _ e_.symm).2.2.1) rfl))))
                        rw [← Ny214.out] at ho
                        have n0_ := Aside0.mk (Kd.R_after (ok := (fun k_ => some k_ ≠ (u7 : Value).ownBlock ∧ some k_ ≠ (.slice Ao34 t197.length co34 : Value).ownBlock ∧ some k_ ≠ (v219 : Value).ownBlock)) (Kd.R_mono HO_6.out (fun _ hk => ⟨⟨hk.2.2.2, ⟨hk.1, hk.2.2.1⟩⟩, hk.2.1⟩)) hg hat)
                        have n1_ := Aside0.mk (Kd.R_after (ok := (fun k_ => some k_ ≠ (.slice (some ad203) t182.length co20 : Value).ownBlock ∧ some k_ ≠ (.slice Ao34 t197.length co34 : Value).ownBlock ∧ some k_ ≠ (v219 : Value).ownBlock)) (Kd.R_mono HO_7.out (fun _ hk => ⟨⟨hk.2.2.2, ⟨hk.1, hk.2.2.1⟩⟩, hk.2.1⟩)) hg hat)
                        have n2_ := Aside0.mk (IsS59.grown HI181.out hg (IsS59.own_ne HI181.out HO209.out (by decide)))
                        have n3_ := Aside0.mk (Kd.R_after (ok := (fun k_ => some k_ ≠ (.slice (some ad203) t182.length co20 : Value).ownBlock ∧ some k_ ≠ (u7 : Value).ownBlock ∧ some k_ ≠ (v219 : Value).ownBlock)) (Kd.R_mono HO199.out (fun _ hk => ⟨⟨hk.2.2.1, ⟨hk.2.2.2, hk.2.1⟩⟩, hk.1⟩)) hg hat)
                        have n4_ := Aside0.mk (Kd.R_after (ok := (fun k_ => some k_ ≠ (.slice (some ad203) t182.length co20 : Value).ownBlock ∧ some k_ ≠ (u7 : Value).ownBlock ∧ some k_ ≠ (.slice Ao34 t197.length co34 : Value).ownBlock)) (Kd.R_mono HO220.out (fun _ hk => ⟨⟨hk.2.2.1, ⟨hk.2.2.2, hk.1⟩⟩, hk.2.1⟩)) hg hat)
                        have n5_ := Aside0.mk (hb)
                        have n6_ := Aside0.mk (ho)
                        clear HO_6
                        clear HO_7
                        clear HI181
                        clear HO199
                        clear HO220
                        clear HB
                        clear HO209
                        have HO_6 := n0_
                        have HO_7 := n1_
                        have HI181 := n2_
                        have HO199 := n3_
                        have HO220 := n4_
                        have HB := n5_
                        have HO216 := n6_
                        clear n0_ n1_ n2_ n3_ n4_ n5_ n6_
                        clear ho hb hg hat
                        refine hK.out _ _ ⟨HS0_, HS1_⟩ (fun hHeld => ?_)
                        clear hK K
                        refine norm_ (a' := ?_) ?_ ?_
                        rotate_left
                        ·show Act.put _ (some 39) _ = _
                         simp only [Act.put, sqA, sqZ, sqS, i64_w, i32_w]
                         rfl
                        exact norm_ (by simp only [putAll, Act.put, sqA, sqZ, sqS] <;> rfl) (hJ5_8_16 (v208, v215, v219) _ ⟨hHeld, (Kd.R_mono HO199.out (fun _ hk => ⟨hk.2, ⟨hk.1.2.2, ⟨hk.1.1, hk.1.2.1⟩⟩⟩)), (Kd.R_mono HO216.out (fun _ hk => ⟨hk.2.2.1, ⟨hk.2.2.2, ⟨hk.1, hk.2.1⟩⟩⟩)), (Kd.R_mono HO220.out (fun _ hk => ⟨hk.1.2.2, ⟨hk.2, ⟨hk.1.1, hk.1.2.1⟩⟩⟩)), (Kd.R_mono HO_6.out (fun _ hk => ⟨hk.1.2.1, ⟨hk.2, ⟨hk.1.2.2, hk.1.1⟩⟩⟩)), (Kd.R_mono HO_7.out (fun _ hk => ⟨hk.1.2.1, ⟨hk.2, ⟨hk.1.2.2, hk.1.1⟩⟩⟩)), HI181.out, HB.out⟩)
                     ·skip
                      rintro ⟨v208, v215⟩ w38 ⟨hS_, h0_, h1_, h2_, h3_, h4_, h5_⟩
                      (try dsimp only at h0_ h1_ h2_ h3_ h4_ h5_)
                      have n0_ := Aside0.mk h0_
                      have n1_ := Aside0.mk h1_
                      have n2_ := Aside0.mk h2_
                      have n3_ := Aside0.mk h3_
                      have n4_ := Aside0.mk h4_
                      have n5_ := Aside0.mk h5_
                      clear HO_6
                      clear HO_7
                      clear HO199
                      clear HI181
                      clear HB
                      clear h0_ h1_ h2_ h3_ h4_ h5_
                      have HO199 := n0_
                      have HO216 := n1_
                      have HO_6 := n2_
                      have HO_7 := n3_
                      have HI181 := n4_
                      have HB := n5_
                      clear n0_ n1_ n2_ n3_ n4_ n5_
                      have hHeld : w38.cell? ad203 = some (.int .i64 (rd t182 0)) ∧ w38.cell? (ad203.add ((ji27)).toNat) = some (.int .i64 (rd t182 (ji27))) := hS_
                      refine norm_ (a' := ?_) ?_ ?_
                      rotate_left
                      ·simp only [putAll, Act.put, sqA, sqZ, sqS]
                       rfl
                      refine two_ (i := 4) (j := 16) (Ni := some 35) (Nj := some 47) #[true, true, true, true, true, true, true, true, true, true, true, true, true, true, true, true, false, false, false, false] #[true, true, true, true, false, true, true, true, true, true, true, true, true, true, true, true, true, false, false, false] rfl rfl rfl rfl (two_of HT_.out (by kernel_rfl)) (by decide) (by decide) (fun K hK => ?_) (fun K hK => ?_)
                      ·skip
                       refine Kd.R_lit_step (Kd.int .i64) _ 2 ?hg (N := 35) ?hd (xs := ([wrap64 ((rd t182 0) - 3)] : List Int)) (inner := [.int .i64 (wrap64 ((rd t182 0) - 3))]) (ok := fun _ => True) (okp := fun _ => True) ?hr ?hp (fun _ hk => hk) trivial (Below.refl _ _) (Nat.le_refl _) (by simp) ?_; (case hd => rfl); (case hg => rfl); (case hr => first | (go_simp; done) | (go_simp; rfl)); (case hp => exact (Reps.one (show Kd.M (Kd.int .i64) _ _ _ (wrap64 ((rd t182 0) - 3)) [.int .i64 (wrap64 ((rd t182 0) - 3))] from rfl) (Reps.none _ _)))
                       intro v205 w39 ho40 hb hg_ hnew_
                       have HS0_ := (hb.cell (World.block_lt_of_cell? _ _ (hHeld.1))).trans (hHeld.1)
                       have HS1_ := (hb.cell (World.block_lt_of_cell? _ _ (hHeld.2))).trans (hHeld.2)
                       clear hg_ hnew_
                       (first | rw [← Ny204.out] at ho40 | (simp only [Int.reduceToNat] at ho40; rw [← Ny204.out] at ho40))
                       have n0_ := Aside0.mk (Kd.R_elder' HO_6.out (Kd.R_base ho40) hb)
                       have n1_ := Aside0.mk (Kd.R_elder' HO_7.out (Kd.R_base ho40) hb)
                       have n2_ := Aside0.mk (Kd.R_elder' HO199.out (Kd.R_base ho40) hb)
                       have n3_ := Aside0.mk (Kd.R_elder' HO216.out (Kd.R_base ho40) hb)
                       have n4_ := Aside0.mk (Kd.R_lower (Kd.R_new' (Kd.R_new' (Kd.R_new' (Kd.R_new' ho40 (Kd.R_lt HO_6.out)) (Kd.R_lt HO_7.out)) (Kd.R_lt HO199.out)) (Kd.R_lt HO216.out)) (below_size HB.out))
                       have n5_ := Aside0.mk (IsS59.below HI181.out hb)
                       have n6_ := Aside0.mk (below_step HB.out hb)
                       clear HO_6
                       clear HO_7
                       clear HO199
                       clear HO216
                       clear HI181
                       clear HB
                       have HO_6 := n0_
                       have HO_7 := n1_
                       have HO199 := n2_
                       have HO216 := n3_
                       have HO206 := n4_
                       have HI181 := n5_
                       have HB := n6_
                       clear n0_ n1_ n2_ n3_ n4_ n5_ n6_
                       clear hb ho40
                       refine hK.out _ _ ⟨HS0_, HS1_⟩ (fun hHeld => ?_)
                       clear hK K
                       refine norm_ (a' := ?_) ?_ ?_
                       rotate_left
                       ·show Act.put _ (some 35) _ = _
                        simp only [Act.put, sqA, sqZ, sqS, i64_w, i32_w]
                        rfl
                       exact norm_ (by simp only [putAll, Act.put, sqA, sqZ, sqS] <;> rfl) (hJ4_5_8 (v205, v208, v215) _ ⟨hHeld, (Kd.R_mono HO199.out (fun _ hk => ⟨hk.2, ⟨hk.1.1, ⟨hk.1.2.1, hk.1.2.2⟩⟩⟩)), (Kd.R_mono HO206.out (fun _ hk => ⟨hk.1.2, ⟨hk.2, ⟨hk.1.1.1.2, hk.1.1.2⟩⟩⟩)), (Kd.R_mono HO216.out (fun _ hk => ⟨hk.1.1, ⟨hk.2, ⟨hk.1.2.1, hk.1.2.2⟩⟩⟩)), (Kd.R_mono HO_6.out (fun _ hk => ⟨hk.1.1, ⟨hk.2, ⟨hk.1.2.1, hk.1.2.2⟩⟩⟩)), (Kd.R_mono HO_7.out (fun _ hk => ⟨hk.1.1, ⟨hk.2, ⟨hk.1.2.1, hk.1.2.2⟩⟩⟩)), HI181.out, HB.out⟩)
                      ·skip
                       refine Kd.R_lit_step (Kd.int .i64) _ 2 ?hg (N := 47) ?hd (xs := ([wrap64 ((rd t182 (ji27)) + 2)] : List Int)) (inner := [.int .i64 (wrap64 ((rd t182 (ji27)) + 2))]) (ok := fun _ => True) (okp := fun _ => True) ?hr ?hp (fun _ hk => hk) trivial (Below.refl _ _) (Nat.le_refl _) (by simp) ?_; (case hd => rfl); (case hg => rfl); (case hr => first | (go_simp; done) | (go_simp; rfl)); (case hp => exact (Reps.one (show Kd.M (Kd.int .i64) _ _ _ (wrap64 ((rd t182 (ji27)) + 2)) [.int .i64 (wrap64 ((rd t182 (ji27)) + 2))] from rfl) (Reps.none _ _)))
                       intro v219 w39 ho40 hb hg_ hnew_
                       have HS0_ := (hb.cell (World.block_lt_of_cell? _ _ (hHeld.1))).trans (hHeld.1)
                       have HS1_ := (hb.cell (World.block_lt_of_cell? _ _ (hHeld.2))).trans (hHeld.2)
                       clear hg_ hnew_
                       (first | rw [← Ny218.out] at ho40 | (simp only [Int.reduceToNat] at ho40; rw [← Ny218.out] at ho40))
                       have n0_ := Aside0.mk (Kd.R_elder' HO_6.out (Kd.R_base ho40) hb)
                       have n1_ := Aside0.mk (Kd.R_elder' HO_7.out (Kd.R_base ho40) hb)
                       have n2_ := Aside0.mk (Kd.R_elder' HO199.out (Kd.R_base ho40) hb)
                       have n3_ := Aside0.mk (Kd.R_elder' HO216.out (Kd.R_base ho40) hb)
                       have n4_ := Aside0.mk (Kd.R_lower (Kd.R_new' (Kd.R_new' (Kd.R_new' (Kd.R_new' ho40 (Kd.R_lt HO_6.out)) (Kd.R_lt HO_7.out)) (Kd.R_lt HO199.out)) (Kd.R_lt HO216.out)) (below_size HB.out))
                       have n5_ := Aside0.mk (IsS59.below HI181.out hb)
                       have n6_ := Aside0.mk (below_step HB.out hb)
                       clear HO_6
                       clear HO_7
                       clear HO199
                       clear HO216
                       clear HI181
                       clear HB
                       have HO_6 := n0_
                       have HO_7 := n1_
                       have HO199 := n2_
                       have HO216 := n3_
                       have HO220 := n4_
                       have HI181 := n5_
                       have HB := n6_
                       clear n0_ n1_ n2_ n3_ n4_ n5_ n6_
                       clear hb ho40
                       refine hK.out _ _ ⟨HS0_, HS1_⟩ (fun hHeld => ?_)
                       clear hK K
                       refine norm_ (a' := ?_) ?_ ?_
                       rotate_left
                       ·show Act.put _ (some 47) _ = _
                        simp only [Act.put, sqA, sqZ, sqS, i64_w, i32_w]
                        rfl
                       exact norm_ (by simp only [putAll, Act.put, sqA, sqZ, sqS] <;> rfl) (hJ5_8_16 (v208, v215, v219) _ ⟨hHeld, (Kd.R_mono HO199.out (fun _ hk => ⟨hk.1.1, ⟨hk.2, ⟨hk.1.2.1, hk.1.2.2⟩⟩⟩)), (Kd.R_mono HO216.out (fun _ hk => ⟨hk.1.1, ⟨hk.2, ⟨hk.1.2.1, hk.1.2.2⟩⟩⟩)), (Kd.R_mono HO220.out (fun _ hk => ⟨hk.1.2, ⟨hk.2, ⟨hk.1.1.1.2, hk.1.1.2⟩⟩⟩)), (Kd.R_mono HO_6.out (fun _ hk => ⟨hk.1.1, ⟨hk.1.2.1, ⟨hk.2, hk.1.2.2⟩⟩⟩)), (Kd.R_mono HO_7.out (fun _ hk => ⟨hk.1.1, ⟨hk.1.2.1, ⟨hk.2, hk.1.2.2⟩⟩⟩)), HI181.out, HB.out⟩)
                    ·skip
                     rintro ⟨v205, v219⟩ w39 ⟨hS_, h0_, h1_, h2_, h3_, h4_, h5_, h6_⟩
                     (try dsimp only at h0_ h1_ h2_ h3_ h4_ h5_ h6_)
                     have n0_ := Aside0.mk h0_
                     have n1_ := Aside0.mk h1_
                     have n2_ := Aside0.mk h2_
                     have n3_ := Aside0.mk h3_
                     have n4_ := Aside0.mk h4_
                     have n5_ := Aside0.mk h5_
                     have n6_ := Aside0.mk h6_
                     clear HO_6
                     clear HO_7
                     clear HO199
                     clear HI181
                     clear HB
                     clear h0_ h1_ h2_ h3_ h4_ h5_ h6_
                     have HO199 := n0_
                     have HO206 := n1_
                     have HO220 := n2_
                     have HO_6 := n3_
                     have HO_7 := n4_
                     have HI181 := n5_
                     have HB := n6_
                     clear n0_ n1_ n2_ n3_ n4_ n5_ n6_
                     have hHeld : w39.cell? ad203 = some (.int .i64 (rd t182 0)) ∧ w39.cell? (ad203.add ((ji27)).toNat) = some (.int .i64 (rd t182 (ji27))) := hS_
                     refine norm_ (a' := ?_) ?_ ?_
                     rotate_left
                     ·simp only [putAll, Act.put, sqA, sqZ, sqS]
                      rfl
                     refine one_ (i := 5) (N := some 36) #[true, true, true, true, true, true, true, true, false, true, true, true, true, true, true, true, true, false, false, false] rfl rfl (one_of HT_.out (by kernel_rfl)) (by decide) (fun K hK => ?_)
                     refine Kd.R_lit_step (Kd.int .i64) _ 2 ?hg (N := 36) ?hd (xs := ([] : List Int)) (inner := []) (ok := fun _ => True) (okp := fun _ => True) ?hr ?hp (fun _ hk => hk) trivial (Below.refl _ _) (Nat.le_refl _) (by simp) ?_; (case hd => rfl); (case hg => rfl); (case hr => first | (go_simp; done) | (go_simp; rfl)); (case hp => exact (Reps.none _ _))
                     intro v208 w40 ho41 hb hg_ hnew_
                     have HS0_ := (hb.cell (World.block_lt_of_cell? _ _ (hHeld.1))).trans (hHeld.1)
                     have HS1_ := (hb.cell (World.block_lt_of_cell? _ _ (hHeld.2))).trans (hHeld.2)
                     clear hg_ hnew_
                     (first | rw [← Ny207.out] at ho41 | (simp only [Int.reduceToNat] at ho41; rw [← Ny207.out] at ho41))
                     have n0_ := Aside0.mk (Kd.R_elder' HO_6.out (Kd.R_base ho41) hb)
                     have n1_ := Aside0.mk (Kd.R_elder' HO_7.out (Kd.R_base ho41) hb)
                     have n2_ := Aside0.mk (Kd.R_elder' HO199.out (Kd.R_base ho41) hb)
                     have n3_ := Aside0.mk (Kd.R_elder' HO206.out (Kd.R_base ho41) hb)
                     have n4_ := Aside0.mk (Kd.R_elder' HO220.out (Kd.R_base ho41) hb)
                     have n5_ := Aside0.mk (Kd.R_lower (Kd.R_new' (Kd.R_new' (Kd.R_new' (Kd.R_new' (Kd.R_new' ho41 (Kd.R_lt HO_6.out)) (Kd.R_lt HO_7.out)) (Kd.R_lt HO199.out)) (Kd.R_lt HO206.out)) (Kd.R_lt HO220.out)) (below_size HB.out))
                     have n6_ := Aside0.mk (IsS59.below HI181.out hb)
                     have n7_ := Aside0.mk (below_step HB.out hb)
                     clear HO_6
                     clear HO_7
                     clear HO199
                     clear HO206
                     clear HO220
                     clear HI181
                     clear HB
                     have HO_6 := n0_
                     have HO_7 := n1_
                     have HO199 := n2_
                     have HO206 := n3_
                     have HO220 := n4_
                     have HO209 := n5_
                     have HI181 := n6_
                     have HB := n7_
                     clear n0_ n1_ n2_ n3_ n4_ n5_ n6_ n7_
                     clear hb ho41
                     refine hK.out _ _ ⟨HS0_, HS1_⟩ (fun hHeld => ?_)
                     clear hK K
                     refine norm_ (a' := ?_) ?_ ?_
                     rotate_left
                     ·show Act.put _ (some 36) _ = _
                      simp only [Act.put, sqA, sqZ, sqS, i64_w, i32_w]
                      rfl
                     exact norm_ (by simp only [putAll, Act.put, sqA, sqZ, sqS] <;> rfl) (hJ4_5_16 (v205, v208, v219) _ ⟨hHeld, (Kd.R_mono HO199.out (fun _ hk => ⟨hk.1.1, ⟨hk.2, ⟨hk.1.2.1, ⟨hk.1.2.2.1, hk.1.2.2.2⟩⟩⟩⟩)), (Kd.R_mono HO206.out (fun _ hk => ⟨hk.1.1, ⟨hk.2, ⟨hk.1.2.1, ⟨hk.1.2.2.1, hk.1.2.2.2⟩⟩⟩⟩)), (Kd.R_mono HO209.out (fun _ hk => ⟨hk.1.1.2, ⟨hk.1.2, ⟨hk.2, ⟨hk.1.1.1.1.2, hk.1.1.1.2⟩⟩⟩⟩)), (Kd.R_mono HO220.out (fun _ hk => ⟨hk.1.1, ⟨hk.1.2.1, ⟨hk.2, ⟨hk.1.2.2.1, hk.1.2.2.2⟩⟩⟩⟩)), (Kd.R_mono HO_6.out (fun _ hk => ⟨hk.1.1, ⟨hk.1.2.1, ⟨hk.2, ⟨hk.1.2.2.1, hk.1.2.2.2⟩⟩⟩⟩)), (Kd.R_mono HO_7.out (fun _ hk => ⟨hk.1.1, ⟨hk.1.2.1, ⟨hk.2, ⟨hk.1.2.2.1, hk.1.2.2.2⟩⟩⟩⟩)), HI181.out, HB.out⟩)
                   ·skip
                    rintro ⟨v205, v208⟩ w39 ⟨hS_, h0_, h1_, h2_, h3_, h4_, h5_, h6_⟩
                    (try dsimp only at h0_ h1_ h2_ h3_ h4_ h5_ h6_)
                    have n0_ := Aside0.mk h0_
                    have n1_ := Aside0.mk h1_
                    have n2_ := Aside0.mk h2_
                    have n3_ := Aside0.mk h3_
                    have n4_ := Aside0.mk h4_
                    have n5_ := Aside0.mk h5_
                    have n6_ := Aside0.mk h6_
                    clear HO_6
                    clear HO_7
                    clear HO199
                    clear HI181
                    clear HB
                    clear h0_ h1_ h2_ h3_ h4_ h5_ h6_
                    have HO199 := n0_
                    have HO206 := n1_
                    have HO209 := n2_
                    have HO_6 := n3_
                    have HO_7 := n4_
                    have HI181 := n5_
                    have HB := n6_
                    clear n0_ n1_ n2_ n3_ n4_ n5_ n6_
                    have hHeld : w39.cell? ad203 = some (.int .i64 (rd t182 0)) ∧ w39.cell? (ad203.add ((ji27)).toNat) = some (.int .i64 (rd t182 (ji27))) := hS_
                    refine norm_ (a' := ?_) ?_ ?_
                    rotate_left
                    ·simp only [putAll, Act.put, sqA, sqZ, sqS]
                     rfl
                    refine two_ (i := 8) (j := 16) (Ni := some 39) (Nj := some 47) #[true, true, true, true, true, true, true, true, true, true, true, true, true, true, true, true, false, false, false, false] #[true, true, true, true, true, true, true, true, false, true, true, true, true, true, true, true, true, false, false, false] rfl rfl rfl rfl (two_of HT_.out (by kernel_rfl)) (by decide) (by decide) (fun K hK => ?_) (fun K hK => ?_)
                    ·skip
                     refine Kd.R_append_rows_step (Kd.int .i64) (w0 := w) w.heap.size (by rfl) (.tmp 36) (.tmp 38) 30 2 (.int .i64 0) 8 rfl Try.underlying30 info2 rfl (by decide) (by omega) v208 y207 y210 _ _ _ (fun k_ => some k_ ≠ (.slice (some ad203) t182.length co20 : Value).ownBlock ∧ some k_ ≠ (u7 : Value).ownBlock ∧ some k_ ≠ (.slice Ao34 t197.length co34 : Value).ownBlock ∧ some k_ ≠ (v205 : Value).ownBlock) (fun _ => False) rfl rfl ?aO ?aR (fun _ _ h => h) (fun _ h => h.elim) ?aF ?aB ?aS ?aL ?_
                     (case aR => (have h_ : y210 = [] := by (rw [Ny210.out]; exact List.take_zero)); (rw [h_]; exact ⟨rfl, by simp, fun h => absurd h (Nat.lt_irrefl 0)⟩))
                     (case aB => exact HB.out)
                     (case aF => exact (fun k_ hk => ⟨Kd.fresh' (Kd.R_lt HO_6.out) k_ hk, Kd.fresh' (Kd.R_lt HO_7.out) k_ hk, Kd.fresh' (Kd.R_lt HO199.out) k_ hk, Kd.fresh' (Kd.R_lt HO206.out) k_ hk⟩))
                     (case aO => exact (Kd.R_mono HO209.out (fun _ hk => ⟨hk.2.2.1, ⟨hk.2.2.2, ⟨hk.1, hk.2.1⟩⟩⟩)))
                     (case aS => exact (below_size HB.out))
                     (case aL => have := LMc26.out; omega)
                     intro v215 w40 ho hb hg hat
                     (first | have HS0_ := cell_grown hg (hHeld.1) (by first | exact (fun e_ => (((HO209.out).1 _ e_.symm).2.2.1) rfl) | (rw [add_block]; exact (fun e_ => (((HO209.out).1 _ e_.symm).2.2.1) rfl)) | (show some (Addr.add _ _).block ≠ _; rw [add_block]; exact (fun e_ => (((HO209.out).1 _ e_.symm).2.2.1) rfl))) | have HS0_ := cell_grown hg ((World.cell?_alloc_lt _ _ _ (World.block_lt_of_cell? _ _ (hHeld.1))).trans (hHeld.1)) (by first | exact (fun e_ => (((HO209.out).1 _ e_.symm).2.2.1) rfl) | (rw [add_block]; exact (fun e_ => (((HO209.out).1 _ e_.symm).2.2.1) rfl)) | (show some (Addr.add _ _).block ≠ _; rw [add_block]; exact (fun e_ => (((HO209.out).1 _ e_.symm).2.2.1) rfl))))
                     (first | have HS1_ := cell_grown hg (hHeld.2) (by first | exact (fun e_ => (((HO209.out).1 _ e_.symm).2.2.1) rfl) | (rw [add_block]; exact (fun e_ => (((HO209.out).1 _ e_.symm).2.2.1) rfl)) | (show some (Addr.add _ _).block ≠ _; rw [add_block]; exact (fun e_ => (((HO209.out).1 _ e_.symm).2.2.1) rfl))) | have HS1_ := cell_grown hg ((World.cell?_alloc_lt _ _ _ (World.block_lt_of_cell? _ _ (hHeld.2))).trans (hHeld.2)) (by first | exact (fun e_ => (((HO209.out).1 _ e_.symm).2.2.1) rfl) | (rw [add_block]; exact (fun e_ => (((HO209.out).1 _ e_.symm).2.2.1) rfl)) | (show some (Addr.add _ _).block ≠ _; rw [add_block]; exact (fun e_ => (((HO209.out).1 _ e_.symm).2.2.1) rfl))))
                     rw [← Ny214.out] at ho
                     have n0_ := Aside0.mk (Kd.R_after (ok := (fun k_ => some k_ ≠ (u7 : Value).ownBlock ∧ some k_ ≠ (.slice Ao34 t197.length co34 : Value).ownBlock ∧ some k_ ≠ (v205 : Value).ownBlock)) (Kd.R_mono HO_6.out (fun _ hk => ⟨⟨hk.2.2.2, ⟨hk.1, hk.2.1⟩⟩, hk.2.2.1⟩)) hg hat)
                     have n1_ := Aside0.mk (Kd.R_after (ok := (fun k_ => some k_ ≠ (.slice (some ad203) t182.length co20 : Value).ownBlock ∧ some k_ ≠ (.slice Ao34 t197.length co34 : Value).ownBlock ∧ some k_ ≠ (v205 : Value).ownBlock)) (Kd.R_mono HO_7.out (fun _ hk => ⟨⟨hk.2.2.2, ⟨hk.1, hk.2.1⟩⟩, hk.2.2.1⟩)) hg hat)
                     have n2_ := Aside0.mk (IsS59.grown HI181.out hg (IsS59.own_ne HI181.out HO209.out (by decide)))
                     have n3_ := Aside0.mk (Kd.R_after (ok := (fun k_ => some k_ ≠ (.slice (some ad203) t182.length co20 : Value).ownBlock ∧ some k_ ≠ (u7 : Value).ownBlock ∧ some k_ ≠ (v205 : Value).ownBlock)) (Kd.R_mono HO199.out (fun _ hk => ⟨⟨hk.2.2.1, ⟨hk.2.2.2, hk.1⟩⟩, hk.2.1⟩)) hg hat)
                     have n4_ := Aside0.mk (Kd.R_after (ok := (fun k_ => some k_ ≠ (.slice (some ad203) t182.length co20 : Value).ownBlock ∧ some k_ ≠ (u7 : Value).ownBlock ∧ some k_ ≠ (.slice Ao34 t197.length co34 : Value).ownBlock)) (Kd.R_mono HO206.out (fun _ hk => ⟨⟨hk.2.2.1, ⟨hk.2.2.2, hk.1⟩⟩, hk.2.1⟩)) hg hat)
                     have n5_ := Aside0.mk (hb)
                     have n6_ := Aside0.mk (ho)
                     clear HO_6
                     clear HO_7
                     clear HI181
                     clear HO199
                     clear HO206
                     clear HB
                     clear HO209
                     have HO_6 := n0_
                     have HO_7 := n1_
                     have HI181 := n2_
                     have HO199 := n3_
                     have HO206 := n4_
                     have HB := n5_
                     have HO216 := n6_
                     clear n0_ n1_ n2_ n3_ n4_ n5_ n6_
                     clear ho hb hg hat
                     refine hK.out _ _ ⟨HS0_, HS1_⟩ (fun hHeld => ?_)
                     clear hK K
                     refine norm_ (a' := ?_) ?_ ?_
                     rotate_left
                     ·show Act.put _ (some 39) _ = _
                      simp only [Act.put, sqA, sqZ, sqS, i64_w, i32_w]
                      rfl
                     exact norm_ (by simp only [putAll, Act.put, sqA, sqZ, sqS] <;> rfl) (hJ4_5_8 (v205, v208, v215) _ ⟨hHeld, (Kd.R_mono HO199.out (fun _ hk => ⟨hk.1.2.2, ⟨hk.2, ⟨hk.1.1, hk.1.2.1⟩⟩⟩)), (Kd.R_mono HO206.out (fun _ hk => ⟨hk.1.2.2, ⟨hk.2, ⟨hk.1.1, hk.1.2.1⟩⟩⟩)), (Kd.R_mono HO216.out (fun _ hk => ⟨hk.2.2.1, ⟨hk.2.2.2, ⟨hk.1, hk.2.1⟩⟩⟩)), (Kd.R_mono HO_6.out (fun _ hk => ⟨hk.1.2.1, ⟨hk.1.2.2, ⟨hk.2, hk.1.1⟩⟩⟩)), (Kd.R_mono HO_7.out (fun _ hk => ⟨hk.1.2.1, ⟨hk.1.2.2, ⟨hk.2, hk.1.1⟩⟩⟩)), HI181.out, HB.out⟩)
                    ·skip
                     refine Kd.R_lit_step (Kd.int .i64) _ 2 ?hg (N := 47) ?hd (xs := ([wrap64 ((rd t182 (ji27)) + 2)] : List Int)) (inner := [.int .i64 (wrap64 ((rd t182 (ji27)) + 2))]) (ok := fun _ => True) (okp := fun _ => True) ?hr ?hp (fun _ hk => hk) trivial (Below.refl _ _) (Nat.le_refl _) (by simp) ?_; (case hd => rfl); (case hg => rfl); (case hr => first | (go_simp; done) | (go_simp; rfl)); (case hp => exact (Reps.one (show Kd.M (Kd.int .i64) _ _ _ (wrap64 ((rd t182 (ji27)) + 2)) [.int .i64 (wrap64 ((rd t182 (ji27)) + 2))] from rfl) (Reps.none _ _)))
                     intro v219 w40 ho41 hb hg_ hnew_
                     have HS0_ := (hb.cell (World.block_lt_of_cell? _ _ (hHeld.1))).trans (hHeld.1)
                     have HS1_ := (hb.cell (World.block_lt_of_cell? _ _ (hHeld.2))).trans (hHeld.2)
                     clear hg_ hnew_
                     (first | rw [← Ny218.out] at ho41 | (simp only [Int.reduceToNat] at ho41; rw [← Ny218.out] at ho41))
                     have n0_ := Aside0.mk (Kd.R_elder' HO_6.out (Kd.R_base ho41) hb)
                     have n1_ := Aside0.mk (Kd.R_elder' HO_7.out (Kd.R_base ho41) hb)
                     have n2_ := Aside0.mk (Kd.R_elder' HO199.out (Kd.R_base ho41) hb)
                     have n3_ := Aside0.mk (Kd.R_elder' HO206.out (Kd.R_base ho41) hb)
                     have n4_ := Aside0.mk (Kd.R_elder' HO209.out (Kd.R_base ho41) hb)
                     have n5_ := Aside0.mk (Kd.R_lower (Kd.R_new' (Kd.R_new' (Kd.R_new' (Kd.R_new' (Kd.R_new' ho41 (Kd.R_lt HO_6.out)) (Kd.R_lt HO_7.out)) (Kd.R_lt HO199.out)) (Kd.R_lt HO206.out)) (Kd.R_lt HO209.out)) (below_size HB.out))
                     have n6_ := Aside0.mk (IsS59.below HI181.out hb)
                     have n7_ := Aside0.mk (below_step HB.out hb)
                     clear HO_6
                     clear HO_7
                     clear HO199
                     clear HO206
                     clear HO209
                     clear HI181
                     clear HB
                     have HO_6 := n0_
                     have HO_7 := n1_
                     have HO199 := n2_
                     have HO206 := n3_
                     have HO209 := n4_
                     have HO220 := n5_
                     have HI181 := n6_
                     have HB := n7_
                     clear n0_ n1_ n2_ n3_ n4_ n5_ n6_ n7_
                     clear hb ho41
                     refine hK.out _ _ ⟨HS0_, HS1_⟩ (fun hHeld => ?_)
                     clear hK K
                     refine norm_ (a' := ?_) ?_ ?_
                     rotate_left
                     ·show Act.put _ (some 47) _ = _
                      simp only [Act.put, sqA, sqZ, sqS, i64_w, i32_w]
                      rfl
                     exact norm_ (by simp only [putAll, Act.put, sqA, sqZ, sqS] <;> rfl) (hJ4_5_16 (v205, v208, v219) _ ⟨hHeld, (Kd.R_mono HO199.out (fun _ hk => ⟨hk.1.1, ⟨hk.1.2.1, ⟨hk.2, ⟨hk.1.2.2.1, hk.1.2.2.2⟩⟩⟩⟩)), (Kd.R_mono HO206.out (fun _ hk => ⟨hk.1.1, ⟨hk.1.2.1, ⟨hk.2, ⟨hk.1.2.2.1, hk.1.2.2.2⟩⟩⟩⟩)), (Kd.R_mono HO209.out (fun _ hk => ⟨hk.1.1, ⟨hk.1.2.1, ⟨hk.2, ⟨hk.1.2.2.1, hk.1.2.2.2⟩⟩⟩⟩)), (Kd.R_mono HO220.out (fun _ hk => ⟨hk.1.1.2, ⟨hk.1.2, ⟨hk.2, ⟨hk.1.1.1.1.2, hk.1.1.1.2⟩⟩⟩⟩)), (Kd.R_mono HO_6.out (fun _ hk => ⟨hk.1.1, ⟨hk.1.2.1, ⟨hk.1.2.2.1, ⟨hk.2, hk.1.2.2.2⟩⟩⟩⟩)), (Kd.R_mono HO_7.out (fun _ hk => ⟨hk.1.1, ⟨hk.1.2.1, ⟨hk.1.2.2.1, ⟨hk.2, hk.1.2.2.2⟩⟩⟩⟩)), HI181.out, HB.out⟩)
                  ·skip
                   rintro ⟨v208, v215, v219⟩ w40 ⟨hS_, h0_, h1_, h2_, h3_, h4_, h5_, h6_⟩
                   (try dsimp only at h0_ h1_ h2_ h3_ h4_ h5_ h6_)
                   have n0_ := Aside0.mk h0_
                   have n1_ := Aside0.mk h1_
                   have n2_ := Aside0.mk h2_
                   have n3_ := Aside0.mk h3_
                   have n4_ := Aside0.mk h4_
                   have n5_ := Aside0.mk h5_
                   have n6_ := Aside0.mk h6_
                   clear HO_6
                   clear HO_7
                   clear HO199
                   clear HI181
                   clear HB
                   clear h0_ h1_ h2_ h3_ h4_ h5_ h6_
                   have HO199 := n0_
                   have HO216 := n1_
                   have HO220 := n2_
                   have HO_6 := n3_
                   have HO_7 := n4_
                   have HI181 := n5_
                   have HB := n6_
                   clear n0_ n1_ n2_ n3_ n4_ n5_ n6_
                   have hHeld : w40.cell? ad203 = some (.int .i64 (rd t182 0)) ∧ w40.cell? (ad203.add ((ji27)).toNat) = some (.int .i64 (rd t182 (ji27))) := hS_
                   refine norm_ (a' := ?_) ?_ ?_
                   rotate_left
                   ·simp only [putAll, Act.put, sqA, sqZ, sqS]
                    rfl
                   refine two_ (i := 4) (j := 17) (Ni := some 35) (Nj := some 48) #[true, true, true, true, true, true, true, true, true, true, true, true, true, true, true, true, true, false, false, false] #[true, true, true, true, false, true, true, true, true, true, true, true, true, true, true, true, true, true, false, false] rfl rfl rfl rfl (two_of HT_.out (by kernel_rfl)) (by decide) (by decide) (fun K hK => ?_) (fun K hK => ?_)
                   ·skip
                    refine Kd.R_lit_step (Kd.int .i64) _ 2 ?hg (N := 35) ?hd (xs := ([wrap64 ((rd t182 0) - 3)] : List Int)) (inner := [.int .i64 (wrap64 ((rd t182 0) - 3))]) (ok := fun _ => True) (okp := fun _ => True) ?hr ?hp (fun _ hk => hk) trivial (Below.refl _ _) (Nat.le_refl _) (by simp) ?_; (case hd => rfl); (case hg => rfl); (case hr => first | (go_simp; done) | (go_simp; rfl)); (case hp => exact (Reps.one (show Kd.M (Kd.int .i64) _ _ _ (wrap64 ((rd t182 0) - 3)) [.int .i64 (wrap64 ((rd t182 0) - 3))] from rfl) (Reps.none _ _)))
                    intro v205 w41 ho42 hb hg_ hnew_
                    have HS0_ := (hb.cell (World.block_lt_of_cell? _ _ (hHeld.1))).trans (hHeld.1)
                    have HS1_ := (hb.cell (World.block_lt_of_cell? _ _ (hHeld.2))).trans (hHeld.2)
                    clear hg_ hnew_
                    (first | rw [← Ny204.out] at ho42 | (simp only [Int.reduceToNat] at ho42; rw [← Ny204.out] at ho42))
                    have n0_ := Aside0.mk (Kd.R_elder' HO_6.out (Kd.R_base ho42) hb)
                    have n1_ := Aside0.mk (Kd.R_elder' HO_7.out (Kd.R_base ho42) hb)
                    have n2_ := Aside0.mk (Kd.R_elder' HO199.out (Kd.R_base ho42) hb)
                    have n3_ := Aside0.mk (Kd.R_elder' HO216.out (Kd.R_base ho42) hb)
                    have n4_ := Aside0.mk (Kd.R_elder' HO220.out (Kd.R_base ho42) hb)
                    have n5_ := Aside0.mk (Kd.R_lower (Kd.R_new' (Kd.R_new' (Kd.R_new' (Kd.R_new' (Kd.R_new' ho42 (Kd.R_lt HO_6.out)) (Kd.R_lt HO_7.out)) (Kd.R_lt HO199.out)) (Kd.R_lt HO216.out)) (Kd.R_lt HO220.out)) (below_size HB.out))
                    have n6_ := Aside0.mk (IsS59.below HI181.out hb)
                    have n7_ := Aside0.mk (below_step HB.out hb)
                    clear HO_6
                    clear HO_7
                    clear HO199
                    clear HO216
                    clear HO220
                    clear HI181
                    clear HB
                    have HO_6 := n0_
                    have HO_7 := n1_
                    have HO199 := n2_
                    have HO216 := n3_
                    have HO220 := n4_
                    have HO206 := n5_
                    have HI181 := n6_
                    have HB := n7_
                    clear n0_ n1_ n2_ n3_ n4_ n5_ n6_ n7_
                    clear hb ho42
                    refine hK.out _ _ ⟨HS0_, HS1_⟩ (fun hHeld => ?_)
                    clear hK K
                    refine norm_ (a' := ?_) ?_ ?_
                    rotate_left
                    ·show Act.put _ (some 35) _ = _
                     simp only [Act.put, sqA, sqZ, sqS, i64_w, i32_w]
                     rfl
                    exact norm_ (by simp only [putAll, Act.put, sqA, sqZ, sqS] <;> rfl) (hJ4_5_8_16 (v205, v208, v215, v219) _ ⟨hHeld, (Kd.R_mono HO199.out (fun _ hk => ⟨hk.2, ⟨hk.1.1, ⟨hk.1.2.1, ⟨hk.1.2.2.1, hk.1.2.2.2⟩⟩⟩⟩)), (Kd.R_mono HO206.out (fun _ hk => ⟨hk.1.1.2, ⟨hk.1.2, ⟨hk.2, ⟨hk.1.1.1.1.2, hk.1.1.1.2⟩⟩⟩⟩)), (Kd.R_mono HO216.out (fun _ hk => ⟨hk.1.1, ⟨hk.2, ⟨hk.1.2.1, ⟨hk.1.2.2.1, hk.1.2.2.2⟩⟩⟩⟩)), (Kd.R_mono HO220.out (fun _ hk => ⟨hk.1.1, ⟨hk.2, ⟨hk.1.2.1, ⟨hk.1.2.2.1, hk.1.2.2.2⟩⟩⟩⟩)), (Kd.R_mono HO_6.out (fun _ hk => ⟨hk.1.1, ⟨hk.2, ⟨hk.1.2.1, ⟨hk.1.2.2.1, hk.1.2.2.2⟩⟩⟩⟩)), (Kd.R_mono HO_7.out (fun _ hk => ⟨hk.1.1, ⟨hk.2, ⟨hk.1.2.1, ⟨hk.1.2.2.1, hk.1.2.2.2⟩⟩⟩⟩)), HI181.out, HB.out⟩)
                   ·skip
                    obtain ⟨Ao42, co42, eo42⟩ := Kd.R_slice HO220.out
                    (first | subst eo42 | (injection eo42 with f1_ f2_ f3_; have f4_ := f1_.symm; have f5_ := f3_.symm; clear f1_ f2_ f3_; subst f4_; subst f5_))
                    refine Kd.R_append_rows_step (Kd.int .i64) (w0 := w) w.heap.size (by rfl) (.tmp 39) (.tmp 47) 30 2 (.int .i64 0) 8 rfl Try.underlying30 info2 rfl (by decide) (by omega) v215 y214 y218 _ _ _ (fun k_ => some k_ ≠ (.slice (some ad203) t182.length co20 : Value).ownBlock ∧ some k_ ≠ (u7 : Value).ownBlock ∧ some k_ ≠ (.slice Ao34 t197.length co34 : Value).ownBlock ∧ some k_ ≠ (.slice Ao42 y218.length co42 : Value).ownBlock) (fun _ => False) rfl rfl ?aO ?aR (fun _ _ h => h) (fun _ h => h.elim) ?aF ?aB ?aS ?aL ?_
                    (case aR => repeat (first | exact (Kd.R_reads' HO220.out).2.2 | (with_reducible refine Kd.C_alloc ?_ _) | (with_reducible refine Kd.C_drewN ?_ _) | (with_reducible refine Kd.C_drew ?_)))
                    (case aB => exact HB.out)
                    (case aF => exact (fun k_ hk => ⟨Kd.fresh' (Kd.R_lt HO_6.out) k_ hk, Kd.fresh' (Kd.R_lt HO_7.out) k_ hk, Kd.fresh' (Kd.R_lt HO199.out) k_ hk, Kd.fresh' (Kd.R_lt HO220.out) k_ hk⟩))
                    (case aO => exact (Kd.R_mono HO216.out (fun _ hk => ⟨hk.2.2.1, ⟨hk.2.2.2, ⟨hk.1, hk.2.1⟩⟩⟩)))
                    (case aS => exact (below_size HB.out))
                    (case aL => have := LMc30.out; omega)
                    intro v222 w41 ho hb hg hat
                    (first | have HS0_ := cell_grown hg (hHeld.1) (by first | exact (fun e_ => (((HO216.out).1 _ e_.symm).2.2.1) rfl) | (rw [add_block]; exact (fun e_ => (((HO216.out).1 _ e_.symm).2.2.1) rfl)) | (show some (Addr.add _ _).block ≠ _; rw [add_block]; exact (fun e_ => (((HO216.out).1 _ e_.symm).2.2.1) rfl))) | have HS0_ := cell_grown hg ((World.cell?_alloc_lt _ _ _ (World.block_lt_of_cell? _ _ (hHeld.1))).trans (hHeld.1)) (by first | exact (fun e_ => (((HO216.out).1 _ e_.symm).2.2.1) rfl) | (rw [add_block]; exact (fun e_ => (((HO216.out).1 _ e_.symm).2.2.1) rfl)) | (show some (Addr.add _ _).block ≠ _; rw [add_block]; exact (fun e_ => (((HO216.out).1 _ e_.symm).2.2.1) rfl))))
                    (first | have HS1_ := cell_grown hg (hHeld.2) (by first | exact (fun e_ => (((HO216.out).1 _ e_.symm).2.2.1) rfl) | (rw [add_block]; exact (fun e_ => (((HO216.out).1 _ e_.symm).2.2.1) rfl)) | (show some (Addr.add _ _).block ≠ _; rw [add_block]; exact (fun e_ => (((HO216.out).1 _ e_.symm).2.2.1) rfl))) | have HS1_ := cell_grown hg ((World.cell?_alloc_lt _ _ _ (World.block_lt_of_cell? _ _ (hHeld.2))).trans (hHeld.2)) (by first | exact (fun e_ => (((HO216.out).1 _ e_.symm).2.2.1) rfl) | (rw [add_block]; exact (fun e_ => (((HO216.out).1 _ e_.symm).2.2.1) rfl)) | (show some (Addr.add _ _).block ≠ _; rw [add_block]; exact (fun e_ => (((HO216.out).1 _ e_.symm).2.2.1) rfl))))
                    rw [← Ny221.out] at ho
                    have n0_ := Aside0.mk (Kd.R_after (ok := (fun k_ => some k_ ≠ (u7 : Value).ownBlock ∧ some k_ ≠ (.slice Ao34 t197.length co34 : Value).ownBlock ∧ some k_ ≠ (.slice Ao42 y218.length co42 : Value).ownBlock)) (Kd.R_mono HO_6.out (fun _ hk => ⟨⟨hk.2.2.2, ⟨hk.1, hk.2.2.1⟩⟩, hk.2.1⟩)) hg hat)
                    have n1_ := Aside0.mk (Kd.R_after (ok := (fun k_ => some k_ ≠ (.slice (some ad203) t182.length co20 : Value).ownBlock ∧ some k_ ≠ (.slice Ao34 t197.length co34 : Value).ownBlock ∧ some k_ ≠ (.slice Ao42 y218.length co42 : Value).ownBlock)) (Kd.R_mono HO_7.out (fun _ hk => ⟨⟨hk.2.2.2, ⟨hk.1, hk.2.2.1⟩⟩, hk.2.1⟩)) hg hat)
                    have n2_ := Aside0.mk (IsS59.grown HI181.out hg (IsS59.own_ne HI181.out HO216.out (by decide)))
                    have n3_ := Aside0.mk (Kd.R_after (ok := (fun k_ => some k_ ≠ (.slice (some ad203) t182.length co20 : Value).ownBlock ∧ some k_ ≠ (u7 : Value).ownBlock ∧ some k_ ≠ (.slice Ao42 y218.length co42 : Value).ownBlock)) (Kd.R_mono HO199.out (fun _ hk => ⟨⟨hk.2.2.1, ⟨hk.2.2.2, hk.2.1⟩⟩, hk.1⟩)) hg hat)
                    have n4_ := Aside0.mk (Kd.R_after (ok := (fun k_ => some k_ ≠ (.slice (some ad203) t182.length co20 : Value).ownBlock ∧ some k_ ≠ (u7 : Value).ownBlock ∧ some k_ ≠ (.slice Ao34 t197.length co34 : Value).ownBlock)) (Kd.R_mono HO220.out (fun _ hk => ⟨⟨hk.2.2.1, ⟨hk.2.2.2, hk.1⟩⟩, hk.2.1⟩)) hg hat)
                    have n5_ := Aside0.mk (hb)
                    have n6_ := Aside0.mk (ho)
                    clear HO_6
                    clear HO_7
                    clear HI181
                    clear HO199
                    clear HO220
                    clear HB
                    clear HO216
                    have HO_6 := n0_
                    have HO_7 := n1_
                    have HI181 := n2_
                    have HO199 := n3_
                    have HO220 := n4_
                    have HB := n5_
                    have HO223 := n6_
                    clear n0_ n1_ n2_ n3_ n4_ n5_ n6_
                    clear ho hb hg hat
                    refine hK.out _ _ ⟨HS0_, HS1_⟩ (fun hHeld => ?_)
                    clear hK K
                    refine norm_ (a' := ?_) ?_ ?_
                    rotate_left
                    ·show Act.put _ (some 48) _ = _
                     simp only [Act.put, sqA, sqZ, sqS, i64_w, i32_w]
                     rfl
                    exact norm_ (by simp only [putAll, Act.put, sqA, sqZ, sqS] <;> rfl) (hJ5_8_16_17 (v208, v215, .slice Ao42 y218.length co42, v222) _ ⟨hHeld, (Kd.R_mono HO199.out (fun _ hk => ⟨hk.1.2.2, ⟨hk.2, ⟨hk.1.1, hk.1.2.1⟩⟩⟩)), (Kd.R_mono HO220.out (fun _ hk => ⟨hk.1.2.2, ⟨hk.2, ⟨hk.1.1, hk.1.2.1⟩⟩⟩)), (Kd.R_mono HO223.out (fun _ hk => ⟨hk.2.2.1, ⟨hk.2.2.2, ⟨hk.1, hk.2.1⟩⟩⟩)), (Kd.R_mono HO_6.out (fun _ hk => ⟨hk.1.2.1, ⟨hk.1.2.2, ⟨hk.2, hk.1.1⟩⟩⟩)), (Kd.R_mono HO_7.out (fun _ hk => ⟨hk.1.2.1, ⟨hk.1.2.2, ⟨hk.2, hk.1.1⟩⟩⟩)), HI181.out, HB.out⟩)
                 ·skip
                  rintro ⟨v205, v208, v219⟩ w41 ⟨hS_, h0_, h1_, h2_, h3_, h4_, h5_, h6_, h7_⟩
                  (try dsimp only at h0_ h1_ h2_ h3_ h4_ h5_ h6_ h7_)
                  have n0_ := Aside0.mk h0_
                  have n1_ := Aside0.mk h1_
                  have n2_ := Aside0.mk h2_
                  have n3_ := Aside0.mk h3_
                  have n4_ := Aside0.mk h4_
                  have n5_ := Aside0.mk h5_
                  have n6_ := Aside0.mk h6_
                  have n7_ := Aside0.mk h7_
                  clear HO_6
                  clear HO_7
                  clear HO199
                  clear HI181
                  clear HB
                  clear h0_ h1_ h2_ h3_ h4_ h5_ h6_ h7_
                  have HO199 := n0_
                  have HO206 := n1_
                  have HO209 := n2_
                  have HO220 := n3_
                  have HO_6 := n4_
                  have HO_7 := n5_
                  have HI181 := n6_
                  have HB := n7_
                  clear n0_ n1_ n2_ n3_ n4_ n5_ n6_ n7_
                  have hHeld : w41.cell? ad203 = some (.int .i64 (rd t182 0)) ∧ w41.cell? (ad203.add ((ji27)).toNat) = some (.int .i64 (rd t182 (ji27))) := hS_
                  refine norm_ (a' := ?_) ?_ ?_
                  rotate_left
                  ·simp only [putAll, Act.put, sqA, sqZ, sqS]
                   rfl
                  refine one_ (i := 8) (N := some 39) #[true, true, true, true, true, true, true, true, true, true, true, true, true, true, true, true, true, false, false, false] rfl rfl (one_of HT_.out (by kernel_rfl)) (by decide) (fun K hK => ?_)
                  refine Kd.R_append_rows_step (Kd.int .i64) (w0 := w) w.heap.size (by rfl) (.tmp 36) (.tmp 38) 30 2 (.int .i64 0) 8 rfl Try.underlying30 info2 rfl (by decide) (by omega) v208 y207 y210 _ _ _ (fun k_ => some k_ ≠ (.slice (some ad203) t182.length co20 : Value).ownBlock ∧ some k_ ≠ (u7 : Value).ownBlock ∧ some k_ ≠ (.slice Ao34 t197.length co34 : Value).ownBlock ∧ some k_ ≠ (v205 : Value).ownBlock ∧ some k_ ≠ (v219 : Value).ownBlock) (fun _ => False) rfl rfl ?aO ?aR (fun _ _ h => h) (fun _ h => h.elim) ?aF ?aB ?aS ?aL ?_
                  (case aR => (have h_ : y210 = [] := by (rw [Ny210.out]; exact List.take_zero)); (rw [h_]; exact ⟨rfl, by simp, fun h => absurd h (Nat.lt_irrefl 0)⟩))
                  (case aB => exact HB.out)
                  (case aF => exact (fun k_ hk => ⟨Kd.fresh' (Kd.R_lt HO_6.out) k_ hk, Kd.fresh' (Kd.R_lt HO_7.out) k_ hk, Kd.fresh' (Kd.R_lt HO199.out) k_ hk, Kd.fresh' (Kd.R_lt HO206.out) k_ hk, Kd.fresh' (Kd.R_lt HO220.out) k_ hk⟩))
                  (case aO => exact (Kd.R_mono HO209.out (fun _ hk => ⟨hk.2.2.2.1, ⟨hk.2.2.2.2, ⟨hk.1, ⟨hk.2.1, hk.2.2.1⟩⟩⟩⟩)))
                  (case aS => exact (below_size HB.out))
                  (case aL => have := LMc26.out; omega)
                  intro v215 w42 ho hb hg hat
                  (first | have HS0_ := cell_grown hg (hHeld.1) (by first | exact (fun e_ => (((HO209.out).1 _ e_.symm).2.2.2.1) rfl) | (rw [add_block]; exact (fun e_ => (((HO209.out).1 _ e_.symm).2.2.2.1) rfl)) | (show some (Addr.add _ _).block ≠ _; rw [add_block]; exact (fun e_ => (((HO209.out).1 _ e_.symm).2.2.2.1) rfl))) | have HS0_ := cell_grown hg ((World.cell?_alloc_lt _ _ _ (World.block_lt_of_cell? _ _ (hHeld.1))).trans (hHeld.1)) (by first | exact (fun e_ => (((HO209.out).1 _ e_.symm).2.2.2.1) rfl) | (rw [add_block]; exact (fun e_ => (((HO209.out).1 _ e_.symm).2.2.2.1) rfl)) | (show some (Addr.add _ _).block ≠ _; rw [add_block]; exact (fun e_ => (((HO209.out).1 _ e_.symm).2.2.2.1) rfl))))
                  (first | have HS1_ := cell_grown hg (hHeld.2) (by first | exact (fun e_ => (((HO209.out).1 _ e_.symm).2.2.2.1) rfl) | (rw [add_block]; exact (fun e_ => (((HO209.out).1 _ e_.symm).2.2.2.1) rfl)) | (show some (Addr.add _ _).block ≠ _; rw [add_block]; exact (fun e_ => (((HO209.out).1 _ e_.symm).2.2.2.1) rfl))) | have HS1_ := cell_grown hg ((World.cell?_alloc_lt _ _ _ (World.block_lt_of_cell? _ _ (hHeld.2))).trans (hHeld.2)) (by first | exact (fun e_ => (((HO209.out).1 _ e_.symm).2.2.2.1) rfl) | (rw [add_block]; exact (fun e_ => (((HO209.out).1 _ e_.symm).2.2.2.1) rfl)) | (show some (Addr.add _ _).block ≠ _; rw [add_block]; exact (fun e_ => (((HO209.out).1 _ e_.symm).2.2.2.1) rfl))))
                  rw [← Ny214.out] at ho
                  have n0_ := Aside0.mk (Kd.R_after (ok := (fun k_ => some k_ ≠ (u7 : Value).ownBlock ∧ some k_ ≠ (.slice Ao34 t197.length co34 : Value).ownBlock ∧ some k_ ≠ (v205 : Value).ownBlock ∧ some k_ ≠ (v219 : Value).ownBlock)) (Kd.R_mono HO_6.out (fun _ hk => ⟨⟨hk.2.2.2.2, ⟨hk.1, ⟨hk.2.1, hk.2.2.2.1⟩⟩⟩, hk.2.2.1⟩)) hg hat)
                  have n1_ := Aside0.mk (Kd.R_after (ok := (fun k_ => some k_ ≠ (.slice (some ad203) t182.length co20 : Value).ownBlock ∧ some k_ ≠ (.slice Ao34 t197.length co34 : Value).ownBlock ∧ some k_ ≠ (v205 : Value).ownBlock ∧ some k_ ≠ (v219 : Value).ownBlock)) (Kd.R_mono HO_7.out (fun _ hk => ⟨⟨hk.2.2.2.2, ⟨hk.1, ⟨hk.2.1, hk.2.2.2.1⟩⟩⟩, hk.2.2.1⟩)) hg hat)
                  have n2_ := Aside0.mk (IsS59.grown HI181.out hg (IsS59.own_ne HI181.out HO209.out (by decide)))
                  have n3_ := Aside0.mk (Kd.R_after (ok := (fun k_ => some k_ ≠ (.slice (some ad203) t182.length co20 : Value).ownBlock ∧ some k_ ≠ (u7 : Value).ownBlock ∧ some k_ ≠ (v205 : Value).ownBlock ∧ some k_ ≠ (v219 : Value).ownBlock)) (Kd.R_mono HO199.out (fun _ hk => ⟨⟨hk.2.2.2.1, ⟨hk.2.2.2.2, ⟨hk.1, hk.2.2.1⟩⟩⟩, hk.2.1⟩)) hg hat)
                  have n4_ := Aside0.mk (Kd.R_after (ok := (fun k_ => some k_ ≠ (.slice (some ad203) t182.length co20 : Value).ownBlock ∧ some k_ ≠ (u7 : Value).ownBlock ∧ some k_ ≠ (.slice Ao34 t197.length co34 : Value).ownBlock ∧ some k_ ≠ (v219 : Value).ownBlock)) (Kd.R_mono HO206.out (fun _ hk => ⟨⟨hk.2.2.2.1, ⟨hk.2.2.2.2, ⟨hk.1, hk.2.2.1⟩⟩⟩, hk.2.1⟩)) hg hat)
                  have n5_ := Aside0.mk (Kd.R_after (ok := (fun k_ => some k_ ≠ (.slice (some ad203) t182.length co20 : Value).ownBlock ∧ some k_ ≠ (u7 : Value).ownBlock ∧ some k_ ≠ (.slice Ao34 t197.length co34 : Value).ownBlock ∧ some k_ ≠ (v205 : Value).ownBlock)) (Kd.R_mono HO220.out (fun _ hk => ⟨⟨hk.2.2.2.1, ⟨hk.2.2.2.2, ⟨hk.1, hk.2.1⟩⟩⟩, hk.2.2.1⟩)) hg hat)
                  have n6_ := Aside0.mk (hb)
                  have n7_ := Aside0.mk (ho)
                  clear HO_6
                  clear HO_7
                  clear HI181
                  clear HO199
                  clear HO206
                  clear HO220
                  clear HB
                  clear HO209
                  have HO_6 := n0_
                  have HO_7 := n1_
                  have HI181 := n2_
                  have HO199 := n3_
                  have HO206 := n4_
                  have HO220 := n5_
                  have HB := n6_
                  have HO216 := n7_
                  clear n0_ n1_ n2_ n3_ n4_ n5_ n6_ n7_
                  clear ho hb hg hat
                  refine hK.out _ _ ⟨HS0_, HS1_⟩ (fun hHeld => ?_)
                  clear hK K
                  refine norm_ (a' := ?_) ?_ ?_
                  rotate_left
                  ·show Act.put _ (some 39) _ = _
                   simp only [Act.put, sqA, sqZ, sqS, i64_w, i32_w]
                   rfl
                  exact norm_ (by simp only [putAll, Act.put, sqA, sqZ, sqS] <;> rfl) (hJ4_5_8_16 (v205, v208, v215, v219) _ ⟨hHeld, (Kd.R_mono HO199.out (fun _ hk => ⟨hk.1.2.2.1, ⟨hk.2, ⟨hk.1.2.2.2, ⟨hk.1.1, hk.1.2.1⟩⟩⟩⟩)), (Kd.R_mono HO206.out (fun _ hk => ⟨hk.1.2.2.1, ⟨hk.2, ⟨hk.1.2.2.2, ⟨hk.1.1, hk.1.2.1⟩⟩⟩⟩)), (Kd.R_mono HO216.out (fun _ hk => ⟨hk.2.2.1, ⟨hk.2.2.2.1, ⟨hk.2.2.2.2, ⟨hk.1, hk.2.1⟩⟩⟩⟩)), (Kd.R_mono HO220.out (fun _ hk => ⟨hk.1.2.2.1, ⟨hk.1.2.2.2, ⟨hk.2, ⟨hk.1.1, hk.1.2.1⟩⟩⟩⟩)), (Kd.R_mono HO_6.out (fun _ hk => ⟨hk.1.2.1, ⟨hk.1.2.2.1, ⟨hk.2, ⟨hk.1.2.2.2, hk.1.1⟩⟩⟩⟩)), (Kd.R_mono HO_7.out (fun _ hk => ⟨hk.1.2.1, ⟨hk.1.2.2.1, ⟨hk.2, ⟨hk.1.2.2.2, hk.1.1⟩⟩⟩⟩)), HI181.out, HB.out⟩)
                ·skip
                 rintro ⟨v205, v208, v215⟩ w40 ⟨hS_, h0_, h1_, h2_, h3_, h4_, h5_, h6_⟩
                 (try dsimp only at h0_ h1_ h2_ h3_ h4_ h5_ h6_)
                 have n0_ := Aside0.mk h0_
                 have n1_ := Aside0.mk h1_
                 have n2_ := Aside0.mk h2_
                 have n3_ := Aside0.mk h3_
                 have n4_ := Aside0.mk h4_
                 have n5_ := Aside0.mk h5_
                 have n6_ := Aside0.mk h6_
                 clear HO_6
                 clear HO_7
                 clear HO199
                 clear HI181
                 clear HB
                 clear h0_ h1_ h2_ h3_ h4_ h5_ h6_
                 have HO199 := n0_
                 have HO206 := n1_
                 have HO216 := n2_
                 have HO_6 := n3_
                 have HO_7 := n4_
                 have HI181 := n5_
                 have HB := n6_
                 clear n0_ n1_ n2_ n3_ n4_ n5_ n6_
                 have hHeld : w40.cell? ad203 = some (.int .i64 (rd t182 0)) ∧ w40.cell? (ad203.add ((ji27)).toNat) = some (.int .i64 (rd t182 (ji27))) := hS_
                 refine norm_ (a' := ?_) ?_ ?_
                 rotate_left
                 ·simp only [putAll, Act.put, sqA, sqZ, sqS]
                  rfl
                 refine one_ (i := 16) (N := some 47) #[true, true, true, true, true, true, true, true, true, true, true, true, true, true, true, true, true, false, false, false] rfl rfl (one_of HT_.out (by kernel_rfl)) (by decide) (fun K hK => ?_)
                 refine Kd.R_lit_step (Kd.int .i64) _ 2 ?hg (N := 47) ?hd (xs := ([wrap64 ((rd t182 (ji27)) + 2)] : List Int)) (inner := [.int .i64 (wrap64 ((rd t182 (ji27)) + 2))]) (ok := fun _ => True) (okp := fun _ => True) ?hr ?hp (fun _ hk => hk) trivial (Below.refl _ _) (Nat.le_refl _) (by simp) ?_; (case hd => rfl); (case hg => rfl); (case hr => first | (go_simp; done) | (go_simp; rfl)); (case hp => exact (Reps.one (show Kd.M (Kd.int .i64) _ _ _ (wrap64 ((rd t182 (ji27)) + 2)) [.int .i64 (wrap64 ((rd t182 (ji27)) + 2))] from rfl) (Reps.none _ _)))
                 intro v219 w41 ho42 hb hg_ hnew_
                 have HS0_ := (hb.cell (World.block_lt_of_cell? _ _ (hHeld.1))).trans (hHeld.1)
                 have HS1_ := (hb.cell (World.block_lt_of_cell? _ _ (hHeld.2))).trans (hHeld.2)
                 clear hg_ hnew_
                 (first | rw [← Ny218.out] at ho42 | (simp only [Int.reduceToNat] at ho42; rw [← Ny218.out] at ho42))
                 have n0_ := Aside0.mk (Kd.R_elder' HO_6.out (Kd.R_base ho42) hb)
                 have n1_ := Aside0.mk (Kd.R_elder' HO_7.out (Kd.R_base ho42) hb)
                 have n2_ := Aside0.mk (Kd.R_elder' HO199.out (Kd.R_base ho42) hb)
                 have n3_ := Aside0.mk (Kd.R_elder' HO206.out (Kd.R_base ho42) hb)
                 have n4_ := Aside0.mk (Kd.R_elder' HO216.out (Kd.R_base ho42) hb)
                 have n5_ := Aside0.mk (Kd.R_lower (Kd.R_new' (Kd.R_new' (Kd.R_new' (Kd.R_new' (Kd.R_new' ho42 (Kd.R_lt HO_6.out)) (Kd.R_lt HO_7.out)) (Kd.R_lt HO199.out)) (Kd.R_lt HO206.out)) (Kd.R_lt HO216.out)) (below_size HB.out))
                 have n6_ := Aside0.mk (IsS59.below HI181.out hb)
                 have n7_ := Aside0.mk (below_step HB.out hb)
                 clear HO_6
                 clear HO_7
                 clear HO199
                 clear HO206
                 clear HO216
                 clear HI181
                 clear HB
                 have HO_6 := n0_
                 have HO_7 := n1_
                 have HO199 := n2_
                 have HO206 := n3_
                 have HO216 := n4_
                 have HO220 := n5_
                 have HI181 := n6_
                 have HB := n7_
                 clear n0_ n1_ n2_ n3_ n4_ n5_ n6_ n7_
                 clear hb ho42
                 refine hK.out _ _ ⟨HS0_, HS1_⟩ (fun hHeld => ?_)
                 clear hK K
                 refine norm_ (a' := ?_) ?_ ?_
                 rotate_left
                 ·show Act.put _ (some 47) _ = _
                  simp only [Act.put, sqA, sqZ, sqS, i64_w, i32_w]
                  rfl
                 exact norm_ (by simp only [putAll, Act.put, sqA, sqZ, sqS] <;> rfl) (hJ4_5_8_16 (v205, v208, v215, v219) _ ⟨hHeld, (Kd.R_mono HO199.out (fun _ hk => ⟨hk.1.1, ⟨hk.1.2.1, ⟨hk.2, ⟨hk.1.2.2.1, hk.1.2.2.2⟩⟩⟩⟩)), (Kd.R_mono HO206.out (fun _ hk => ⟨hk.1.1, ⟨hk.1.2.1, ⟨hk.2, ⟨hk.1.2.2.1, hk.1.2.2.2⟩⟩⟩⟩)), (Kd.R_mono HO216.out (fun _ hk => ⟨hk.1.1, ⟨hk.1.2.1, ⟨hk.2, ⟨hk.1.2.2.1, hk.1.2.2.2⟩⟩⟩⟩)), (Kd.R_mono HO220.out (fun _ hk => ⟨hk.1.1.2, ⟨hk.1.2, ⟨hk.2, ⟨hk.1.1.1.1.2, hk.1.1.1.2⟩⟩⟩⟩)), (Kd.R_mono HO_6.out (fun _ hk => ⟨hk.1.1, ⟨hk.1.2.1, ⟨hk.1.2.2.1, ⟨hk.2, hk.1.2.2.2⟩⟩⟩⟩)), (Kd.R_mono HO_7.out (fun _ hk => ⟨hk.1.1, ⟨hk.1.2.1, ⟨hk.1.2.2.1, ⟨hk.2, hk.1.2.2.2⟩⟩⟩⟩)), HI181.out, HB.out⟩)
               ·skip
                rintro ⟨v208, v215, v219, v222⟩ w42 ⟨hS_, h0_, h1_, h2_, h3_, h4_, h5_, h6_⟩
                (try dsimp only at h0_ h1_ h2_ h3_ h4_ h5_ h6_)
                have n0_ := Aside0.mk h0_
                have n1_ := Aside0.mk h1_
                have n2_ := Aside0.mk h2_
                have n3_ := Aside0.mk h3_
                have n4_ := Aside0.mk h4_
                have n5_ := Aside0.mk h5_
                have n6_ := Aside0.mk h6_
                clear HO_6
                clear HO_7
                clear HO199
                clear HI181
                clear HB
                clear h0_ h1_ h2_ h3_ h4_ h5_ h6_
                have HO199 := n0_
                have HO220 := n1_
                have HO223 := n2_
                have HO_6 := n3_
                have HO_7 := n4_
                have HI181 := n5_
                have HB := n6_
                clear n0_ n1_ n2_ n3_ n4_ n5_ n6_
                have hHeld : w42.cell? ad203 = some (.int .i64 (rd t182 0)) ∧ w42.cell? (ad203.add ((ji27)).toNat) = some (.int .i64 (rd t182 (ji27))) := hS_
                refine norm_ (a' := ?_) ?_ ?_
                rotate_left
                ·simp only [putAll, Act.put, sqA, sqZ, sqS]
                 rfl
                refine one_ (i := 4) (N := some 35) #[true, true, true, true, true, true, true, true, true, true, true, true, true, true, true, true, true, true, false, false] rfl rfl (one_of HT_.out (by kernel_rfl)) (by decide) (fun K hK => ?_)
                refine Kd.R_lit_step (Kd.int .i64) _ 2 ?hg (N := 35) ?hd (xs := ([wrap64 ((rd t182 0) - 3)] : List Int)) (inner := [.int .i64 (wrap64 ((rd t182 0) - 3))]) (ok := fun _ => True) (okp := fun _ => True) ?hr ?hp (fun _ hk => hk) trivial (Below.refl _ _) (Nat.le_refl _) (by simp) ?_; (case hd => rfl); (case hg => rfl); (case hr => first | (go_simp; done) | (go_simp; rfl)); (case hp => exact (Reps.one (show Kd.M (Kd.int .i64) _ _ _ (wrap64 ((rd t182 0) - 3)) [.int .i64 (wrap64 ((rd t182 0) - 3))] from rfl) (Reps.none _ _)))
                intro v205 w43 ho44 hb hg_ hnew_
                have HS0_ := (hb.cell (World.block_lt_of_cell? _ _ (hHeld.1))).trans (hHeld.1)
                have HS1_ := (hb.cell (World.block_lt_of_cell? _ _ (hHeld.2))).trans (hHeld.2)
                clear hg_ hnew_
                (first | rw [← Ny204.out] at ho44 | (simp only [Int.reduceToNat] at ho44; rw [← Ny204.out] at ho44))
                have n0_ := Aside0.mk (Kd.R_elder' HO_6.out (Kd.R_base ho44) hb)
                have n1_ := Aside0.mk (Kd.R_elder' HO_7.out (Kd.R_base ho44) hb)
                have n2_ := Aside0.mk (Kd.R_elder' HO199.out (Kd.R_base ho44) hb)
                have n3_ := Aside0.mk (Kd.R_elder' HO220.out (Kd.R_base ho44) hb)
                have n4_ := Aside0.mk (Kd.R_elder' HO223.out (Kd.R_base ho44) hb)
                have n5_ := Aside0.mk (Kd.R_lower (Kd.R_new' (Kd.R_new' (Kd.R_new' (Kd.R_new' (Kd.R_new' ho44 (Kd.R_lt HO_6.out)) (Kd.R_lt HO_7.out)) (Kd.R_lt HO199.out)) (Kd.R_lt HO220.out)) (Kd.R_lt HO223.out)) (below_size HB.out))
                have n6_ := Aside0.mk (IsS59.below HI181.out hb)
                have n7_ := Aside0.mk (below_step HB.out hb)
                clear HO_6
                clear HO_7
                clear HO199
                clear HO220
                clear HO223
                clear HI181
                clear HB
                have HO_6 := n0_
                have HO_7 := n1_
                have HO199 := n2_
                have HO220 := n3_
                have HO223 := n4_
                have HO206 := n5_
                have HI181 := n6_
                have HB := n7_
                clear n0_ n1_ n2_ n3_ n4_ n5_ n6_ n7_
                clear hb ho44
                refine hK.out _ _ ⟨HS0_, HS1_⟩ (fun hHeld => ?_)
                clear hK K
                refine norm_ (a' := ?_) ?_ ?_
                rotate_left
                ·show Act.put _ (some 35) _ = _
                 simp only [Act.put, sqA, sqZ, sqS, i64_w, i32_w]
                 rfl
                exact norm_ (by simp only [putAll, Act.put, sqA, sqZ, sqS] <;> rfl) (hJ4_5_8_16_17 (v205, v208, v215, v219, v222) _ ⟨hHeld, (Kd.R_mono HO199.out (fun _ hk => ⟨hk.2, ⟨hk.1.1, ⟨hk.1.2.1, ⟨hk.1.2.2.1, hk.1.2.2.2⟩⟩⟩⟩)), (Kd.R_mono HO206.out (fun _ hk => ⟨hk.1.1.2, ⟨hk.1.2, ⟨hk.2, ⟨hk.1.1.1.1.2, hk.1.1.1.2⟩⟩⟩⟩)), (Kd.R_mono HO220.out (fun _ hk => ⟨hk.1.1, ⟨hk.2, ⟨hk.1.2.1, ⟨hk.1.2.2.1, hk.1.2.2.2⟩⟩⟩⟩)), (Kd.R_mono HO223.out (fun _ hk => ⟨hk.1.1, ⟨hk.2, ⟨hk.1.2.1, ⟨hk.1.2.2.1, hk.1.2.2.2⟩⟩⟩⟩)), (Kd.R_mono HO_6.out (fun _ hk => ⟨hk.1.1, ⟨hk.2, ⟨hk.1.2.1, ⟨hk.1.2.2.1, hk.1.2.2.2⟩⟩⟩⟩)), (Kd.R_mono HO_7.out (fun _ hk => ⟨hk.1.1, ⟨hk.2, ⟨hk.1.2.1, ⟨hk.1.2.2.1, hk.1.2.2.2⟩⟩⟩⟩)), HI181.out, HB.out⟩)
              ·skip
               rintro ⟨v205, v208, v215, v219⟩ w42 ⟨hS_, h0_, h1_, h2_, h3_, h4_, h5_, h6_, h7_⟩
               (try dsimp only at h0_ h1_ h2_ h3_ h4_ h5_ h6_ h7_)
               have n0_ := Aside0.mk h0_
               have n1_ := Aside0.mk h1_
               have n2_ := Aside0.mk h2_
               have n3_ := Aside0.mk h3_
               have n4_ := Aside0.mk h4_
               have n5_ := Aside0.mk h5_
               have n6_ := Aside0.mk h6_
               have n7_ := Aside0.mk h7_
               clear HO_6
               clear HO_7
               clear HO199
               clear HI181
               clear HB
               clear h0_ h1_ h2_ h3_ h4_ h5_ h6_ h7_
               have HO199 := n0_
               have HO206 := n1_
               have HO216 := n2_
               have HO220 := n3_
               have HO_6 := n4_
               have HO_7 := n5_
               have HI181 := n6_
               have HB := n7_
               clear n0_ n1_ n2_ n3_ n4_ n5_ n6_ n7_
               have hHeld : w42.cell? ad203 = some (.int .i64 (rd t182 0)) ∧ w42.cell? (ad203.add ((ji27)).toNat) = some (.int .i64 (rd t182 (ji27))) := hS_
               obtain ⟨Ao44, co44, eo44⟩ := Kd.R_slice HO220.out
               (first | subst eo44 | (injection eo44 with f1_ f2_ f3_; have f4_ := f1_.symm; have f5_ := f3_.symm; clear f1_ f2_ f3_; subst f4_; subst f5_))
               refine norm_ (a' := ?_) ?_ ?_
               rotate_left
               ·simp only [putAll, Act.put, sqA, sqZ, sqS]
                rfl
               refine one_ (i := 17) (N := some 48) #[true, true, true, true, true, true, true, true, true, true, true, true, true, true, true, true, true, true, false, false] rfl rfl (one_of HT_.out (by kernel_rfl)) (by decide) (fun K hK => ?_)
               refine Kd.R_append_rows_step (Kd.int .i64) (w0 := w) w.heap.size (by rfl) (.tmp 39) (.tmp 47) 30 2 (.int .i64 0) 8 rfl Try.underlying30 info2 rfl (by decide) (by omega) v215 y214 y218 _ _ _ (fun k_ => some k_ ≠ (.slice (some ad203) t182.length co20 : Value).ownBlock ∧ some k_ ≠ (u7 : Value).ownBlock ∧ some k_ ≠ (.slice Ao34 t197.length co34 : Value).ownBlock ∧ some k_ ≠ (v205 : Value).ownBlock ∧ some k_ ≠ (.slice Ao44 y218.length co44 : Value).ownBlock) (fun _ => False) rfl rfl ?aO ?aR (fun _ _ h => h) (fun _ h => h.elim) ?aF ?aB ?aS ?aL ?_
               (case aR => repeat (first | exact (Kd.R_reads' HO220.out).2.2 | (with_reducible refine Kd.C_alloc ?_ _) | (with_reducible refine Kd.C_drewN ?_ _) | (with_reducible refine Kd.C_drew ?_)))
               (case aB => exact HB.out)
               (case aF => exact (fun k_ hk => ⟨Kd.fresh' (Kd.R_lt HO_6.out) k_ hk, Kd.fresh' (Kd.R_lt HO_7.out) k_ hk, Kd.fresh' (Kd.R_lt HO199.out) k_ hk, Kd.fresh' (Kd.R_lt HO206.out) k_ hk, Kd.fresh' (Kd.R_lt HO220.out) k_ hk⟩))
               (case aO => exact (Kd.R_mono HO216.out (fun _ hk => ⟨hk.2.2.2.1, ⟨hk.2.2.2.2, ⟨hk.1, ⟨hk.2.1, hk.2.2.1⟩⟩⟩⟩)))
               (case aS => exact (below_size HB.out))
               (case aL => have := LMc30.out; omega)
               intro v222 w43 ho hb hg hat
               (first | have HS0_ := cell_grown hg (hHeld.1) (by first | exact (fun e_ => (((HO216.out).1 _ e_.symm).2.2.2.1) rfl) | (rw [add_block]; exact (fun e_ => (((HO216.out).1 _ e_.symm).2.2.2.1) rfl)) | (show some (Addr.add _ _).block ≠ _; rw [add_block]; exact (fun e_ => (((HO216.out).1 _ e_.symm).2.2.2.1) rfl))) | have HS0_ := cell_grown hg ((World.cell?_alloc_lt _ _ _ (World.block_lt_of_cell? _ _ (hHeld.1))).trans (hHeld.1)) (by first | exact (fun e_ => (((HO216.out).1 _ e_.symm).2.2.2.1) rfl) | (rw [add_block]; exact (fun e_ => (((HO216.out).1 _ e_.symm).2.2.2.1) rfl)) | (show some (Addr.add _ _).block ≠ _; rw [add_block]; exact (fun e_ => (((HO216.out).1 _ e_.symm).2.2.2.1) rfl))))
               (first | have HS1_ := cell_grown hg (hHeld.2) (by first | exact (fun e_ => (((HO216.out).1 _ e_.symm).2.2.2.1) rfl) | (rw [add_block]; exact (fun e_ => (((HO216.out).1 _ e_.symm).2.2.2.1) rfl)) | (show some (Addr.add _ _).block ≠ _; rw [add_block]; exact (fun e_ => (((HO216.out).1 _ e_.symm).2.2.2.1) rfl))) | have HS1_ := cell_grown hg ((World.cell?_alloc_lt _ _ _ (World.block_lt_of_cell? _ _ (hHeld.2))).trans (hHeld.2)) (by first | exact (fun e_ => (((HO216.out).1 _ e_.symm).2.2.2.1) rfl) | (rw [add_block]; exact (fun e_ => (((HO216.out).1 _ e_.symm).2.2.2.1) rfl)) | (show some (Addr.add _ _).block ≠ _; rw [add_block]; exact (fun e_ => (((HO216.out).1 _ e_.symm).2.2.2.1) rfl))))
               rw [← Ny221.out] at ho
               have n0_ := Aside0.mk (Kd.R_after (ok := (fun k_ => some k_ ≠ (u7 : Value).ownBlock ∧ some k_ ≠ (.slice Ao34 t197.length co34 : Value).ownBlock ∧ some k_ ≠ (v205 : Value).ownBlock ∧ some k_ ≠ (.slice Ao44 y218.length co44 : Value).ownBlock)) (Kd.R_mono HO_6.out (fun _ hk => ⟨⟨hk.2.2.2.2, ⟨hk.1, ⟨hk.2.1, hk.2.2.2.1⟩⟩⟩, hk.2.2.1⟩)) hg hat)
               have n1_ := Aside0.mk (Kd.R_after (ok := (fun k_ => some k_ ≠ (.slice (some ad203) t182.length co20 : Value).ownBlock ∧ some k_ ≠ (.slice Ao34 t197.length co34 : Value).ownBlock ∧ some k_ ≠ (v205 : Value).ownBlock ∧ some k_ ≠ (.slice Ao44 y218.length co44 : Value).ownBlock)) (Kd.R_mono HO_7.out (fun _ hk => ⟨⟨hk.2.2.2.2, ⟨hk.1, ⟨hk.2.1, hk.2.2.2.1⟩⟩⟩, hk.2.2.1⟩)) hg hat)
               have n2_ := Aside0.mk (IsS59.grown HI181.out hg (IsS59.own_ne HI181.out HO216.out (by decide)))
               have n3_ := Aside0.mk (Kd.R_after (ok := (fun k_ => some k_ ≠ (.slice (some ad203) t182.length co20 : Value).ownBlock ∧ some k_ ≠ (u7 : Value).ownBlock ∧ some k_ ≠ (v205 : Value).ownBlock ∧ some k_ ≠ (.slice Ao44 y218.length co44 : Value).ownBlock)) (Kd.R_mono HO199.out (fun _ hk => ⟨⟨hk.2.2.2.1, ⟨hk.2.2.2.2, ⟨hk.1, hk.2.2.1⟩⟩⟩, hk.2.1⟩)) hg hat)
               have n4_ := Aside0.mk (Kd.R_after (ok := (fun k_ => some k_ ≠ (.slice (some ad203) t182.length co20 : Value).ownBlock ∧ some k_ ≠ (u7 : Value).ownBlock ∧ some k_ ≠ (.slice Ao34 t197.length co34 : Value).ownBlock ∧ some k_ ≠ (.slice Ao44 y218.length co44 : Value).ownBlock)) (Kd.R_mono HO206.out (fun _ hk => ⟨⟨hk.2.2.2.1, ⟨hk.2.2.2.2, ⟨hk.1, hk.2.2.1⟩⟩⟩, hk.2.1⟩)) hg hat)
               have n5_ := Aside0.mk (Kd.R_after (ok := (fun k_ => some k_ ≠ (.slice (some ad203) t182.length co20 : Value).ownBlock ∧ some k_ ≠ (u7 : Value).ownBlock ∧ some k_ ≠ (.slice Ao34 t197.length co34 : Value).ownBlock ∧ some k_ ≠ (v205 : Value).ownBlock)) (Kd.R_mono HO220.out (fun _ hk => ⟨⟨hk.2.2.2.1, ⟨hk.2.2.2.2, ⟨hk.1, hk.2.1⟩⟩⟩, hk.2.2.1⟩)) hg hat)
               have n6_ := Aside0.mk (hb)
               have n7_ := Aside0.mk (ho)
               clear HO_6
               clear HO_7
               clear HI181
               clear HO199
               clear HO206
               clear HO220
               clear HB
               clear HO216
               have HO_6 := n0_
               have HO_7 := n1_
               have HI181 := n2_
               have HO199 := n3_
               have HO206 := n4_
               have HO220 := n5_
               have HB := n6_
               have HO223 := n7_
               clear n0_ n1_ n2_ n3_ n4_ n5_ n6_ n7_
               clear ho hb hg hat
               refine hK.out _ _ ⟨HS0_, HS1_⟩ (fun hHeld => ?_)
               clear hK K
               refine norm_ (a' := ?_) ?_ ?_
               rotate_left
               ·show Act.put _ (some 48) _ = _
                simp only [Act.put, sqA, sqZ, sqS, i64_w, i32_w]
                rfl
               exact norm_ (by simp only [putAll, Act.put, sqA, sqZ, sqS] <;> rfl) (hJ4_5_8_16_17 (v205, v208, v215, .slice Ao44 y218.length co44, v222) _ ⟨hHeld, (Kd.R_mono HO199.out (fun _ hk => ⟨hk.1.2.2.1, ⟨hk.1.2.2.2, ⟨hk.2, ⟨hk.1.1, hk.1.2.1⟩⟩⟩⟩)), (Kd.R_mono HO206.out (fun _ hk => ⟨hk.1.2.2.1, ⟨hk.1.2.2.2, ⟨hk.2, ⟨hk.1.1, hk.1.2.1⟩⟩⟩⟩)), (Kd.R_mono HO220.out (fun _ hk => ⟨hk.1.2.2.1, ⟨hk.1.2.2.2, ⟨hk.2, ⟨hk.1.1, hk.1.2.1⟩⟩⟩⟩)), (Kd.R_mono HO223.out (fun _ hk => ⟨hk.2.2.1, ⟨hk.2.2.2.1, ⟨hk.2.2.2.2, ⟨hk.1, hk.2.1⟩⟩⟩⟩)), (Kd.R_mono HO_6.out (fun _ hk => ⟨hk.1.2.1, ⟨hk.1.2.2.1, ⟨hk.1.2.2.2, ⟨hk.2, hk.1.1⟩⟩⟩⟩)), (Kd.R_mono HO_7.out (fun _ hk => ⟨hk.1.2.1, ⟨hk.1.2.2.1, ⟨hk.1.2.2.2, ⟨hk.2, hk.1.1⟩⟩⟩⟩)), HI181.out, HB.out⟩)
             rintro ⟨v205, v208, v215, v219, v222⟩ w44 ⟨hS_, h0_, h1_, h2_, h3_, h4_, h5_, h6_, h7_⟩
             (try dsimp only at h0_ h1_ h2_ h3_ h4_ h5_ h6_ h7_)
             have n0_ := Aside0.mk h0_
             have n1_ := Aside0.mk h1_
             have n2_ := Aside0.mk h2_
             have n3_ := Aside0.mk h3_
             have n4_ := Aside0.mk h4_
             have n5_ := Aside0.mk h5_
             have n6_ := Aside0.mk h6_
             have n7_ := Aside0.mk h7_
             clear HO_6
             clear HO_7
             clear HO199
             clear HI181
             clear HB
             clear h0_ h1_ h2_ h3_ h4_ h5_ h6_ h7_
             have HO199 := n0_
             have HO206 := n1_
             have HO220 := n2_
             have HO223 := n3_
             have HO_6 := n4_
             have HO_7 := n5_
             have HI181 := n6_
             have HB := n7_
             clear n0_ n1_ n2_ n3_ n4_ n5_ n6_ n7_
             have hHeld : w44.cell? ad203 = some (.int .i64 (rd t182 0)) ∧ w44.cell? (ad203.add ((ji27)).toNat) = some (.int .i64 (rd t182 (ji27))) := hS_
             obtain ⟨Ao46, co46, eo46⟩ := Kd.R_slice HO223.out
             (first | subst eo46 | (injection eo46 with f1_ f2_ f3_; have f4_ := f1_.symm; have f5_ := f3_.symm; clear f1_ f2_ f3_; subst f4_; subst f5_))
             refine norm_ (a' := ?_) ?_ ?_
             rotate_left
             ·simp only [putAll, Act.put, sqA, sqZ, sqS]
              rfl
             refine one_ (i := 18) (N := some 49) #[true, true, true, true, true, true, true, true, true, true, true, true, true, true, true, true, true, true, true, false] rfl rfl (one_of HT_.out (by kernel_rfl)) (by decide) (fun K hK => ?_)
             refine Kd.R_append_rows_step (Kd.int .i64) (w0 := w) w.heap.size (by rfl) (.tmp 35) (.tmp 48) 30 2 (.int .i64 0) 8 rfl Try.underlying30 info2 rfl (by decide) (by omega) v205 y204 y221 _ _ _ (fun k_ => some k_ ≠ (.slice (some ad203) t182.length co20 : Value).ownBlock ∧ some k_ ≠ (u7 : Value).ownBlock ∧ some k_ ≠ (.slice Ao34 t197.length co34 : Value).ownBlock ∧ some k_ ≠ (v219 : Value).ownBlock ∧ some k_ ≠ (.slice Ao46 y221.length co46 : Value).ownBlock) (fun _ => False) rfl rfl ?aO ?aR (fun _ _ h => h) (fun _ h => h.elim) ?aF ?aB ?aS ?aL ?_
             (case aR => repeat (first | exact (Kd.R_reads' HO223.out).2.2 | (with_reducible refine Kd.C_alloc ?_ _) | (with_reducible refine Kd.C_drewN ?_ _) | (with_reducible refine Kd.C_drew ?_)))
             (case aB => exact HB.out)
             (case aF => exact (fun k_ hk => ⟨Kd.fresh' (Kd.R_lt HO_6.out) k_ hk, Kd.fresh' (Kd.R_lt HO_7.out) k_ hk, Kd.fresh' (Kd.R_lt HO199.out) k_ hk, Kd.fresh' (Kd.R_lt HO220.out) k_ hk, Kd.fresh' (Kd.R_lt HO223.out) k_ hk⟩))
             (case aO => exact (Kd.R_mono HO206.out (fun _ hk => ⟨hk.2.2.2.1, ⟨hk.2.2.2.2, ⟨hk.1, ⟨hk.2.1, hk.2.2.1⟩⟩⟩⟩)))
             (case aS => exact (below_size HB.out))
             (case aL => have := LMc31.out; omega)
             intro v225 w45 ho hb hg hat
             (first | have HS0_ := cell_grown hg (hHeld.1) (by first | exact (fun e_ => (((HO206.out).1 _ e_.symm).2.2.2.1) rfl) | (rw [add_block]; exact (fun e_ => (((HO206.out).1 _ e_.symm).2.2.2.1) rfl)) | (show some (Addr.add _ _).block ≠ _; rw [add_block]; exact (fun e_ => (((HO206.out).1 _ e_.symm).2.2.2.1) rfl))) | have HS0_ := cell_grown hg ((World.cell?_alloc_lt _ _ _ (World.block_lt_of_cell? _ _ (hHeld.1))).trans (hHeld.1)) (by first | exact (fun e_ => (((HO206.out).1 _ e_.symm).2.2.2.1) rfl) | (rw [add_block]; exact (fun e_ => (((HO206.out).1 _ e_.symm).2.2.2.1) rfl)) | (show some (Addr.add _ _).block ≠ _; rw [add_block]; exact (fun e_ => (((HO206.out).1 _ e_.symm).2.2.2.1) rfl))))
             (first | have HS1_ := cell_grown hg (hHeld.2) (by first | exact (fun e_ => (((HO206.out).1 _ e_.symm).2.2.2.1) rfl) | (rw [add_block]; exact (fun e_ => (((HO206.out).1 _ e_.symm).2.2.2.1) rfl)) | (show some (Addr.add _ _).block ≠ _; rw [add_block]; exact (fun e_ => (((HO206.out).1 _ e_.symm).2.2.2.1) rfl))) | have HS1_ := cell_grown hg ((World.cell?_alloc_lt _ _ _ (World.block_lt_of_cell? _ _ (hHeld.2))).trans (hHeld.2)) (by first | exact (fun e_ => (((HO206.out).1 _ e_.symm).2.2.2.1) rfl) | (rw [add_block]; exact (fun e_ => (((HO206.out).1 _ e_.symm).2.2.2.1) rfl)) | (show some (Addr.add _ _).block ≠ _; rw [add_block]; exact (fun e_ => (((HO206.out).1 _ e_.symm).2.2.2.1) rfl))))
             rw [← Ny224.out] at ho
             have n0_ := Aside0.mk (Kd.R_after (ok := (fun k_ => some k_ ≠ (u7 : Value).ownBlock ∧ some k_ ≠ (.slice Ao34 t197.length co34 : Value).ownBlock ∧ some k_ ≠ (v219 : Value).ownBlock ∧ some k_ ≠ (.slice Ao46 y221.length co46 : Value).ownBlock)) (Kd.R_mono HO_6.out (fun _ hk => ⟨⟨hk.2.2.2.2, ⟨hk.1, ⟨hk.2.2.1, hk.2.2.2.1⟩⟩⟩, hk.2.1⟩)) hg hat)
             have n1_ := Aside0.mk (Kd.R_after (ok := (fun k_ => some k_ ≠ (.slice (some ad203) t182.length co20 : Value).ownBlock ∧ some k_ ≠ (.slice Ao34 t197.length co34 : Value).ownBlock ∧ some k_ ≠ (v219 : Value).ownBlock ∧ some k_ ≠ (.slice Ao46 y221.length co46 : Value).ownBlock)) (Kd.R_mono HO_7.out (fun _ hk => ⟨⟨hk.2.2.2.2, ⟨hk.1, ⟨hk.2.2.1, hk.2.2.2.1⟩⟩⟩, hk.2.1⟩)) hg hat)
             have n2_ := Aside0.mk (IsS59.grown HI181.out hg (IsS59.own_ne HI181.out HO206.out (by decide)))
             have n3_ := Aside0.mk (Kd.R_after (ok := (fun k_ => some k_ ≠ (.slice (some ad203) t182.length co20 : Value).ownBlock ∧ some k_ ≠ (u7 : Value).ownBlock ∧ some k_ ≠ (v219 : Value).ownBlock ∧ some k_ ≠ (.slice Ao46 y221.length co46 : Value).ownBlock)) (Kd.R_mono HO199.out (fun _ hk => ⟨⟨hk.2.2.2.1, ⟨hk.2.2.2.2, ⟨hk.2.1, hk.2.2.1⟩⟩⟩, hk.1⟩)) hg hat)
             have n4_ := Aside0.mk (Kd.R_after (ok := (fun k_ => some k_ ≠ (.slice (some ad203) t182.length co20 : Value).ownBlock ∧ some k_ ≠ (u7 : Value).ownBlock ∧ some k_ ≠ (.slice Ao34 t197.length co34 : Value).ownBlock ∧ some k_ ≠ (.slice Ao46 y221.length co46 : Value).ownBlock)) (Kd.R_mono HO220.out (fun _ hk => ⟨⟨hk.2.2.2.1, ⟨hk.2.2.2.2, ⟨hk.1, hk.2.2.1⟩⟩⟩, hk.2.1⟩)) hg hat)
             have n5_ := Aside0.mk (Kd.R_after (ok := (fun k_ => some k_ ≠ (.slice (some ad203) t182.length co20 : Value).ownBlock ∧ some k_ ≠ (u7 : Value).ownBlock ∧ some k_ ≠ (.slice Ao34 t197.length co34 : Value).ownBlock ∧ some k_ ≠ (v219 : Value).ownBlock)) (Kd.R_mono HO223.out (fun _ hk => ⟨⟨hk.2.2.2.1, ⟨hk.2.2.2.2, ⟨hk.1, hk.2.2.1⟩⟩⟩, hk.2.1⟩)) hg hat)
             have n6_ := Aside0.mk (hb)
             have n7_ := Aside0.mk (ho)
             clear HO_6
             clear HO_7
             clear HI181
             clear HO199
             clear HO220
             clear HO223
             clear HB
             clear HO206
             have HO_6 := n0_
             have HO_7 := n1_
             have HI181 := n2_
             have HO199 := n3_
             have HO220 := n4_
             have HO223 := n5_
             have HB := n6_
             have HO226 := n7_
             clear n0_ n1_ n2_ n3_ n4_ n5_ n6_ n7_
             clear ho hb hg hat
             refine hK.out _ _ ⟨HS0_, HS1_⟩ (fun hHeld => ?_)
             clear hK K
             refine norm_ (a' := ?_) ?_ ?_
             rotate_left
             ·show Act.put _ (some 49) _ = _
              simp only [Act.put, sqA, sqZ, sqS, i64_w, i32_w]
              rfl
             refine pure_ (i := 19) (N := some 9) (v := ?_) (a' := ?_) #[true, true, true, true, true, true, true, true, true, true, true, true, true, true, true, true, true, true, true, true] rfl rfl (any_of HT_.out (by kernel_rfl)) (fun _ _ _ h => h) (Or.inl ⟨by rfl, ?_⟩) ?_ ?_
             rotate_left
             ·intro w'
              go_simp
              with_reducible rfl
             rotate_left
             ·simp only [Act.put, sqA, sqZ, sqS, i64_w, i32_w]
              rfl
             refine done_ (done_of HT_.out (by kernel_rfl)) ?_
             try go_wp2
             go_meet
             case rel => exact ⟨_, (y224), H', ⟨by have := HK1.out; first | omega | exact Nat.le_refl _⟩, ⟨by (with_reducible repeat (first | apply Kd.R_alloc | apply Kd.R_drewN | apply Kd.R_drew)); exact Kd.R_mono HO_6.out (fun _ hk => ⟨hk.1.1, hk.2⟩)⟩, ⟨by (with_reducible repeat (first | apply Kd.R_alloc | apply Kd.R_drewN | apply Kd.R_drew)); exact Kd.R_mono HO_7.out (fun _ hk => ⟨hk.1.1, hk.2⟩)⟩, ⟨by (with_reducible repeat (first | apply Kd.R_alloc | apply Kd.R_drewN | apply Kd.R_drew)); exact Kd.R_mono HO226.out (fun _ hk => ⟨hk.1, hk.2.1⟩)⟩, ⟨HI181.out⟩, ⟨HB.out⟩⟩
            ·rw [if_neg c31] at H
             exact absurd H (by simp)
           ·rw [if_neg c30] at H
            exact absurd H (by simp)
          ·rw [if_neg c29] at H
           exact absurd H (by simp)
         ·rw [if_neg c28] at H
          exact absurd H (by simp)
        ·rw [if_neg c26] at H
         exact absurd H (by simp)
       ·rw [if_neg c25] at H
        exact absurd H (by simp)
      ·rw [if_neg c24] at H
       exact absurd H (by simp)
     ·replace c23 := Bool.eq_false_iff.mpr c23
      subst c23
      have H1 : (spec_DrawRemap.j1 k1 t182 x7_1 t197 t179 t202) = some (r1, r2, r3) := by rw [if_neg (show ¬ (false = true) by decide)] at H; exact H
      clear H
      have H := H1
      clear H1
      have H' := Aside0.mk H
      clear H
      go_wp2
      go_meet
      case rel => exact ⟨_, (t197), H', ⟨by have := HK1.out; first | omega | exact Nat.le_refl _⟩, ⟨HO_6.out⟩, ⟨HO_7.out⟩, ⟨by (with_reducible repeat (first | apply Kd.R_alloc | apply Kd.R_drewN | apply Kd.R_drew)); exact Kd.R_mono HO199.out (fun _ hk => ⟨hk.1.2, hk.2⟩)⟩, ⟨HI181.out⟩, ⟨HB.out⟩⟩
    case rest =>
     clear HC19
     try clear c2
     try clear p2
     try clear c3
     try clear p6
     try clear c23
     try clear c24
     try clear c25
     try clear c26
     try clear c28
     try clear c29
     try clear c30
     try clear c31
     obtain ⟨kq, x9_18, HA, HJ18, HO_6, HO_7, HO_9, HI181, HB⟩ := hcut
     cases kq with
     | zero => exact absurd HA.out (by simp [spec_DrawRemap.j1])
     | succ kj18 =>
      have H := HA.out
      clear HA
      simp only [spec_DrawRemap.j1] at H
      replace H := Option.bind_eq_some_iff.mp H
      obtain ⟨⟨t227, t228⟩, A470, H⟩ := H
      replace H : (if t227 = 0 then ((some (([(-1), 1000000000000, 1000000000001] : List Int) : List Int)).bind fun y229 => ((spec_l1Rd_below.f t179 t228 3).bind fun bt232 => (if 0 ≤ bt232.1 then (if bt232.1 < (y229.length : Int) then (if 0 < (x7_1.length : Int) then (spec_DrawRemap.j2 kj18 t182 (x7_1.set (0 : Int).toNat (rd y229 bt232.1)) x9_18) else (none)) else (none)) else (none)))) else (if t227 = 1 then (if 1 < (t182.length : Int) then ((some (([(-1000000), (-1000001), rd t182 1] : List Int) : List Int)).bind fun y237 => ((spec_l1Rd_below.f t179 t228 3).bind fun bt240 => (if 0 ≤ bt240.1 then (if bt240.1 < (y237.length : Int) then (if 0 < (t182.length : Int) then (spec_DrawRemap.j2 kj18 (t182.set (0 : Int).toNat (rd y237 bt240.1)) x7_1 x9_18) else (none)) else (none)) else (none)))) else (none)) else (if t227 = 2 then (if 0 < (x9_18.length : Int) then ((some (([1000000, 1000001, rd x9_18 0] : List Int) : List Int)).bind fun y245 => ((spec_l1Rd_below.f t179 t228 3).bind fun bt248 => (if 0 ≤ bt248.1 then (if bt248.1 < (y245.length : Int) then (if 0 ≤ (wrap64 ((x9_18.length : Int) - 1)) then (if (wrap64 ((x9_18.length : Int) - 1)) < (x9_18.length : Int) then (spec_DrawRemap.j2 kj18 t182 x7_1 (x9_18.set ((wrap64 ((x9_18.length : Int) - 1)) : Int).toNat (rd y245 bt248.1))) else (none)) else (none)) else (none)) else (none)))) else (none)) else (if t227 = 3 then ((some (([1] : List Int) : List Int)).bind fun y252 => (if x7_1.length + y252.length < 17592186044416 then (spec_DrawRemap.j2 kj18 t182 (x7_1 ++ y252) x9_18) else (none))) else (if t227 = 4 then (if 1 ≤ (x9_18.length : Int) then (spec_DrawRemap.j2 kj18 t182 x7_1 (x9_18.take (1 : Int).toNat)) else (none)) else (if t227 = 5 then ((some (([] : List Int) : List Int)).bind fun y261 => (if y261.length + t182.length < 17592186044416 then (spec_DrawRemap.j2 kj18 t182 x7_1 (y261 ++ t182)) else (none))) else (spec_DrawRemap.j2 kj18 t182 x7_1 x9_18))))))) = some (r1, r2, r3) := H
      have A47 := Aside0.mk A470
      clear A470
      have HC48 := Aside0.mk H
      clear H
      go_upto_block 2 with (first | ((with_reducible refine gate_callee (f := 35) rfl ?_); refine goesL_ (some 51) rfl rfl Try.func35 (by kernel_rfl) rfl #[.pointer (some ⟨g181, 0, none⟩), .int .i64 24] rfl (by (try simp only [List.map_toArray, List.map_cons, List.map_nil]); first | done | rfl | (simp only [List.length_drop, List.length_take]; rfl)) ?_; (with_reducible refine (spec_l1Rd_below.calls g181 t179 t202 24 t227 t228 w _ ?side1 ?side2 A47.out).mono ?_); (case side1 => repeat (first | (with_reducible first | exact HI181.out | apply IsS59.alloc | apply IsS59.drewN | apply IsS59.drew | apply IsS59.set_1) | exact HI181.out)); (case side2 => repeat (first | (with_reducible first | exact HB.out | apply below_alloc | apply pw_below_drewN | apply below_drew1 | refine below_set ?_ (IsS59.ge HI181.out)) | exact HB.out)); rintro e w49 ⟨rfl, hi, hb, hk⟩; refine ⟨_, rfl, ?_⟩; have n0_ := Aside0.mk (Kd.R_mono (Kd.R_keep (IsS59.apart (show IsS59 w _ g181 t179 t202 from by repeat (first | (with_reducible first | exact HI181.out | apply IsS59.alloc | apply IsS59.drewN | apply IsS59.drew | apply IsS59.set_1) | exact HI181.out)) HO_6.out (by decide)) hk (fun _ h => h.2)) (fun _ h => h.1)); have n1_ := Aside0.mk (Kd.R_mono (Kd.R_keep (IsS59.apart (show IsS59 w _ g181 t179 t202 from by repeat (first | (with_reducible first | exact HI181.out | apply IsS59.alloc | apply IsS59.drewN | apply IsS59.drew | apply IsS59.set_1) | exact HI181.out)) HO_7.out (by decide)) hk (fun _ h => h.2)) (fun _ h => h.1)); have n2_ := Aside0.mk (Kd.R_mono (Kd.R_keep (IsS59.apart (show IsS59 w _ g181 t179 t202 from by repeat (first | (with_reducible first | exact HI181.out | apply IsS59.alloc | apply IsS59.drewN | apply IsS59.drew | apply IsS59.set_1) | exact HI181.out)) HO_9.out (by decide)) hk (fun _ h => h.2)) (fun _ h => h.1)); have n3_ := Aside0.mk (hb); have n4_ := Aside0.mk (hi); clear HO_6; clear HO_7; clear HO_9; clear HB; clear HI181; have HO_6 := n0_; have HO_7 := n1_; have HO_9 := n2_; have HB := n3_; have HI181 := n4_; clear n0_ n1_ n2_ n3_ n4_; (try clear hb); (try clear hb2); (try clear hk); (try clear hi)))
      (try simp only [Act.put, sqA, sqZ, sqS])
      go_cut [7, 9] (fun v7 v9 wc => ∃ (kq : Nat) (x6_47 : List Int) (x7_47 : List Int) (x9_47 : List Int), Aside0 (spec_DrawRemap.j2 kq x6_47 x7_47 x9_47 = some (r1, r2, r3)) ∧ Aside0 (kq ≤ kj18) ∧ Aside0 (Kd.R (Kd.int .i64) 2 wc w.heap.size (fun k_ => some k_ ≠ (v7 : Value).ownBlock ∧ some k_ ≠ (v9 : Value).ownBlock) (.slice Ao20 t182.length co20) x6_47) ∧ Aside0 (Kd.R (Kd.int .i64) 2 wc w.heap.size (fun k_ => some k_ ≠ ((.slice Ao20 t182.length co20) : Value).ownBlock ∧ some k_ ≠ (v9 : Value).ownBlock) v7 x7_47) ∧ Aside0 (Kd.R (Kd.int .i64) 2 wc w.heap.size (fun k_ => some k_ ≠ ((.slice Ao20 t182.length co20) : Value).ownBlock ∧ some k_ ≠ (v7 : Value).ownBlock) v9 x9_47) ∧ Aside0 (Below w.heap.size w wc))
      case first =>
       have H := HC48.out
       clear HC48
       by_cases c50 : t227 = 0
       ·rw [if_pos c50] at H
        have c50b0 : (t227 == 0) = true := beq_iff_eq.mpr c50
        have c50b1 : (t227 != 0) = false := bne_eq_false_iff_eq.mpr c50
        clear c50
        (first | rw [c50b0] | (simp only [i64_w, i32_w]; rw [c50b0]) | skip)
        obtain ⟨y229, hy229⟩ : ∃ y_ : List Int, y_ = (([(-1), 1000000000000, 1000000000001] : List Int)) := ⟨_, rfl⟩
        replace H : ((spec_l1Rd_below.f t179 t228 3).bind fun bt232 => (if 0 ≤ bt232.1 then (if bt232.1 < (y229.length : Int) then (if 0 < (x7_1.length : Int) then (spec_DrawRemap.j2 kj18 t182 (x7_1.set (0 : Int).toNat (rd y229 bt232.1)) x9_18) else (none)) else (none)) else (none))) = some (r1, r2, r3) := by first | (rw [hy229]; with_reducible exact H) | (have H2_ := (Option.bind_some _ _).symm.trans H; rw [hy229]; with_reducible exact H2_) | (have H2_ := (Option.bind_some _ _).symm.trans H; with_reducible exact H2_) | with_reducible exact H | (rw [hy229]; exact H) | exact H
        have Ny229 := Aside0.mk hy229
        clear hy229
        replace H := Option.bind_eq_some_iff.mp H
        obtain ⟨⟨t232, t233⟩, A510, H⟩ := H
        replace H : (if 0 ≤ t232 then (if t232 < (y229.length : Int) then (if 0 < (x7_1.length : Int) then (spec_DrawRemap.j2 kj18 t182 (x7_1.set (0 : Int).toNat (rd y229 t232)) x9_18) else (none)) else (none)) else (none)) = some (r1, r2, r3) := H
        have A51 := Aside0.mk A510
        clear A510
        by_cases c52 : 0 ≤ t232
        ·rw [if_pos c52] at H
         have c52b0 : decide (0 ≤ t232) = true := decide_eq_true c52
         clear c52
         by_cases c53 : t232 < (y229.length : Int)
         ·rw [if_pos c53] at H
          have c53b0 : decide (t232 < (y229.length : Int)) = true := decide_eq_true c53
          clear c53
          by_cases c54 : 0 < (x7_1.length : Int)
          ·rw [if_pos c54] at H
           have c54b0 : decide (0 < (x7_1.length : Int)) = true := decide_eq_true c54
           have c54b1 : decide (0 < x7_1.length) = true := decide_eq_true (by omega)
           clear c54
           obtain ⟨y235, hy235⟩ : ∃ y_ : List Int, y_ = (x7_1.set (0 : Int).toNat (rd y229 t232)) := ⟨_, rfl⟩
           replace H : (spec_DrawRemap.j2 kj18 t182 y235 x9_18) = some (r1, r2, r3) := by first | (rw [hy235]; with_reducible exact H) | (have H2_ := (Option.bind_some _ _).symm.trans H; rw [hy235]; with_reducible exact H2_) | (have H2_ := (Option.bind_some _ _).symm.trans H; with_reducible exact H2_) | with_reducible exact H | (rw [hy235]; exact H) | exact H
           have Ny235 := Aside0.mk hy235
           clear hy235
           have H' := Aside0.mk H
           clear H
           go_wp2_with (first | ((with_reducible refine gate_dst (N := 55) rfl ?_); refine Kd.R_lit (Kd.int .i64) _ 2 ?hg (N := 55) ?hd (xs := ([(-1), 1000000000000, 1000000000001] : List Int)) (inner := [.int .i64 (-1), .int .i64 1000000000000, .int .i64 1000000000001]) (ok := fun _ => True) (okp := fun _ => True) ?hr ?hp (fun _ hk => hk) trivial (Below.refl _ _) (Nat.le_refl _) (by simp) ?_; (case hd => rfl); (case hg => rfl); (case hr => first | (go_simp; done) | (go_simp; rfl)); (case hp => exact (Reps.one (show Kd.M (Kd.int .i64) _ _ _ (-1) [.int .i64 (-1)] from rfl) (Reps.one (show Kd.M (Kd.int .i64) _ _ _ 1000000000000 [.int .i64 1000000000000] from rfl) (Reps.one (show Kd.M (Kd.int .i64) _ _ _ 1000000000001 [.int .i64 1000000000001] from rfl) (Reps.none _ _))))); intro v230 w56 ho57 hb hg_ hnew_; clear hg_ hnew_; (first | rw [← Ny229.out] at ho57 | (simp only [Int.reduceToNat] at ho57; rw [← Ny229.out] at ho57)); have n0_ := Aside0.mk (Kd.R_elder' HO_6.out (Kd.R_base ho57) hb); have n1_ := Aside0.mk (Kd.R_elder' HO_7.out (Kd.R_base ho57) hb); have n2_ := Aside0.mk (Kd.R_elder' HO_9.out (Kd.R_base ho57) hb); have n3_ := Aside0.mk (Kd.R_lower (Kd.R_new' (Kd.R_new' (Kd.R_new' ho57 (Kd.R_lt HO_6.out)) (Kd.R_lt HO_7.out)) (Kd.R_lt HO_9.out)) (below_size HB.out)); have n4_ := Aside0.mk (IsS59.below HI181.out hb); have n5_ := Aside0.mk (below_step HB.out hb); clear HO_6; clear HO_7; clear HO_9; clear HI181; clear HB; have HO_6 := n0_; have HO_7 := n1_; have HO_9 := n2_; have HO231 := n3_; have HI181 := n4_; have HB := n5_; clear n0_ n1_ n2_ n3_ n4_ n5_; clear hb ho57) | ((with_reducible refine gate_callee (f := 35) rfl ?_); refine goesL_ (some 57) rfl rfl Try.func35 (by kernel_rfl) rfl #[.pointer (some ⟨g181, 0, none⟩), .int .i64 3] rfl (by (try simp only [List.map_toArray, List.map_cons, List.map_nil]); first | done | rfl | (simp only [List.length_drop, List.length_take]; rfl)) ?_; (with_reducible refine (spec_l1Rd_below.calls g181 t179 t228 3 t232 t233 w _ ?side1 ?side2 A51.out).mono ?_); (case side1 => repeat (first | (with_reducible first | exact HI181.out | apply IsS59.alloc | apply IsS59.drewN | apply IsS59.drew | apply IsS59.set_1) | exact HI181.out)); (case side2 => repeat (first | (with_reducible first | exact HB.out | apply below_alloc | apply pw_below_drewN | apply below_drew1 | refine below_set ?_ (IsS59.ge HI181.out)) | exact HB.out)); rintro e w58 ⟨rfl, hi, hb, hk⟩; refine ⟨_, rfl, ?_⟩; have n0_ := Aside0.mk (Kd.R_mono (Kd.R_keep (IsS59.apart (show IsS59 w _ g181 t179 t228 from by repeat (first | (with_reducible first | exact HI181.out | apply IsS59.alloc | apply IsS59.drewN | apply IsS59.drew | apply IsS59.set_1) | exact HI181.out)) HO_6.out (by decide)) hk (fun _ h => h.2)) (fun _ h => h.1)); have n1_ := Aside0.mk (Kd.R_mono (Kd.R_keep (IsS59.apart (show IsS59 w _ g181 t179 t228 from by repeat (first | (with_reducible first | exact HI181.out | apply IsS59.alloc | apply IsS59.drewN | apply IsS59.drew | apply IsS59.set_1) | exact HI181.out)) HO_7.out (by decide)) hk (fun _ h => h.2)) (fun _ h => h.1)); have n2_ := Aside0.mk (Kd.R_mono (Kd.R_keep (IsS59.apart (show IsS59 w _ g181 t179 t228 from by repeat (first | (with_reducible first | exact HI181.out | apply IsS59.alloc | apply IsS59.drewN | apply IsS59.drew | apply IsS59.set_1) | exact HI181.out)) HO_9.out (by decide)) hk (fun _ h => h.2)) (fun _ h => h.1)); have n3_ := Aside0.mk (Kd.R_mono (Kd.R_keep (IsS59.apart (show IsS59 w _ g181 t179 t228 from by repeat (first | (with_reducible first | exact HI181.out | apply IsS59.alloc | apply IsS59.drewN | apply IsS59.drew | apply IsS59.set_1) | exact HI181.out)) HO231.out (by decide)) hk (fun _ h => h.2)) (fun _ h => h.1)); have n4_ := Aside0.mk (hb); have n5_ := Aside0.mk (hi); clear HO_6; clear HO_7; clear HO_9; clear HO231; clear HB; clear HI181; have HO_6 := n0_; have HO_7 := n1_; have HO_9 := n2_; have HO231 := n3_; have HB := n4_; have HI181 := n5_; clear n0_ n1_ n2_ n3_ n4_ n5_; (try clear hb); (try clear hb2); (try clear hk); (try clear hi); obtain ⟨Ao59, co59, eo59⟩ := Kd.R_slice HO231.out; subst eo59; have p234 : 0 ≤ (t232 : Int) := of_decide_eq_true (by first | (with_reducible assumption) | assumption); have q234 : t232 < (y229.length : Int) := of_decide_eq_true (by first | (with_reducible assumption) | assumption); obtain ⟨ad234, e234, hx234_0⟩ := Kd.at_int (Kd.R_reads' HO231.out).2.2 t232 p234 q234; cases e234; replace p234 := eq_true p234; replace q234 := eq_true q234; have p55 : 0 ≤ (0 : Int) := (by omega); have q55 : (0 : Int) < ((x7_1.length : Int) : Int) := of_decide_eq_true (by first | (with_reducible assumption) | assumption); have qi55 : (0 < x7_1.length) = True := eq_true (by omega); obtain ⟨go55, co55, eo55, gb55, gl55, cl55, HG55⟩ := Kd.R_form HO_7.out (by omega); (first | cases eo55 | (injection eo55 with ea_ en_ ec_; (first | subst ea_ | (injection ea_ with ea_; subst ea_)); subst ec_; clear en_)); have GB55 := Aside0.mk gb55; have GG55 := Aside0.mk HG55; clear gb55 gl55 HG55; obtain ⟨hx55_0, hf55_0⟩ := Kd.R_celln 0 HO_7.out (0 : Int) p55 q55; (try rw [show ((0 : Int)).toNat = 0 from rfl] at hx55_0); (try simp only [Nat.reduceMul, Nat.zero_mul, Nat.zero_add, Nat.reduceAdd] at hx55_0); (try rw [show ((0 : Int)).toNat = 0 from rfl] at hf55_0); (try simp only [Nat.reduceMul, Nat.zero_mul, Nat.zero_add, Nat.reduceAdd] at hf55_0); replace p55 := eq_true p55; replace q55 := eq_true q55; have n_ := Aside0.mk (Kd.R_mono (ok' := (fun k_ => some k_ ≠ (.slice Ao20 t182.length co20 : Value).ownBlock ∧ some k_ ≠ (u9 : Value).ownBlock ∧ some k_ ≠ (.slice (some ad234) y229.length co59 : Value).ownBlock)) HO_7.out (fun k_ hk => ⟨hk.1.1, ⟨hk.1.2, hk.2⟩⟩)); clear HO_7; have HO_7 := n_; clear n_; obtain ⟨hy60_, hz60_⟩ := Kd.R_celln 0 HO_7.out (0 : Int) (by omega) (of_decide_eq_true (by first | (with_reducible assumption) | assumption)); (try simp only [Int.reduceToNat, Int.toNat_zero, Int.toNat_ofNat, Nat.reduceMul, Nat.zero_mul, Nat.zero_add] at hy60_ hz60_); (try rw [show ((0 : Int)).toNat = 0 from rfl] at hy60_); (try rw [show ((0 : Int)).toNat = 0 from rfl] at hz60_); have HP60 := Kd.R_putg HO_7.out (0 : Int) (rd y229 t232)) | ((with_reducible refine gate_store (t := 2) (p := 60) rfl ?_); refine store_event (t := 2) (p := 60) (v := ?vo_w61) (w1 := (w58.setCell ⟨go55, (0 : Int).toNat, none⟩ (.int .i64 (rd y229 t232)))) ?hg ?ho ?hn ?hr ?_; (case ho => rfl); (case hg => rfl); (case hn => rfl); (case hr => first | (go_simp; done) | (go_simp; rfl)); intro w61 hw; have hg : w58.grownBy w61 (some go55) := (by rw [hw]; exact HP60.2); have hp_ : Kd.R (Kd.int .i64) 2 w61 w.heap.size (fun k_ => some k_ ≠ (.slice Ao20 t182.length co20 : Value).ownBlock ∧ some k_ ≠ (u9 : Value).ownBlock ∧ some k_ ≠ (.slice (some ad234) y229.length co59 : Value).ownBlock) (.slice (some ⟨go55, 0, none⟩) x7_1.length co55) y235 := (by rw [hw, Ny235.out]; exact HP60.1); clear HP60; have n0_ := Aside0.mk (Kd.R_after (v := (.slice (some ⟨go55, 0, none⟩) x7_1.length co55)) (v1 := (.slice (some ⟨go55, 0, none⟩) x7_1.length co55)) (ok := (fun k_ => some k_ ≠ (u9 : Value).ownBlock ∧ some k_ ≠ (.slice (some ad234) y229.length co59 : Value).ownBlock)) (Kd.R_mono HO_6.out (fun _ hk => ⟨⟨hk.1.2, hk.2⟩, hk.1.1⟩)) hg (.inl rfl)); have n1_ := Aside0.mk (hp_); have n2_ := Aside0.mk (Kd.R_after (v := (.slice (some ⟨go55, 0, none⟩) x7_1.length co55)) (v1 := (.slice (some ⟨go55, 0, none⟩) x7_1.length co55)) (ok := (fun k_ => some k_ ≠ (.slice Ao20 t182.length co20 : Value).ownBlock ∧ some k_ ≠ (.slice (some ad234) y229.length co59 : Value).ownBlock)) (Kd.R_mono HO_9.out (fun _ hk => ⟨⟨hk.1.1, hk.2⟩, hk.1.2⟩)) hg (.inl rfl)); have n3_ := Aside0.mk (IsS59.grown HI181.out hg (IsS59.own_ne HI181.out HO_7.out (by decide))); have n4_ := Aside0.mk (Kd.R_after (v := (.slice (some ⟨go55, 0, none⟩) x7_1.length co55)) (v1 := (.slice (some ⟨go55, 0, none⟩) x7_1.length co55)) (ok := (fun k_ => some k_ ≠ (.slice Ao20 t182.length co20 : Value).ownBlock ∧ some k_ ≠ (u9 : Value).ownBlock)) (Kd.R_mono HO231.out (fun _ hk => ⟨⟨hk.1.1.2, hk.2⟩, hk.1.2⟩)) hg (.inl rfl)); have n5_ := Aside0.mk ((by rw [hw]; exact below_set (HB.out) GB55.out : Below w.heap.size w w61)); clear HO_6; clear HO_7; clear HO_9; clear HI181; clear HO231; clear HB; have HO_6 := n0_; have HO_7 := n1_; have HO_9 := n2_; have HI181 := n3_; have HO231 := n4_; have HB := n5_; clear n0_ n1_ n2_ n3_ n4_ n5_; clear hg hw hp_))
           go_meet
           case rel => exact ⟨_, (t182), (y235), (x9_18), H', ⟨by have := HK1.out; have := HJ18.out; first | omega | exact Nat.le_refl _⟩, ⟨by (with_reducible repeat (first | apply Kd.R_alloc | apply Kd.R_drewN | apply Kd.R_drew)); exact Kd.R_mono HO_6.out (fun _ hk => ⟨hk.2, hk.1.1⟩)⟩, ⟨by (with_reducible repeat (first | apply Kd.R_alloc | apply Kd.R_drewN | apply Kd.R_drew)); exact Kd.R_mono HO_7.out (fun _ hk => ⟨hk.1, hk.2.1⟩)⟩, ⟨by (with_reducible repeat (first | apply Kd.R_alloc | apply Kd.R_drewN | apply Kd.R_drew)); exact Kd.R_mono HO_9.out (fun _ hk => ⟨hk.1.1, hk.2⟩)⟩, ⟨HB.out⟩⟩
          ·rw [if_neg c54] at H
           exact absurd H (by simp)
         ·rw [if_neg c53] at H
          exact absurd H (by simp)
        ·rw [if_neg c52] at H
         exact absurd H (by simp)
       ·rw [if_neg c50] at H
        have c50b0 : (t227 == 0) = false := beq_eq_false_iff_ne.mpr c50
        have c50b1 : (t227 != 0) = true := bne_iff_ne.mpr c50
        (first | rw [c50b0] | (simp only [i64_w, i32_w]; rw [c50b0]) | skip)
        by_cases c62 : t227 = 1
        ·rw [if_pos c62] at H
         have c62b0 : (t227 == 1) = true := beq_iff_eq.mpr c62
         have c62b1 : (t227 != 1) = false := bne_eq_false_iff_eq.mpr c62
         clear c62
         by_cases c63 : 1 < (t182.length : Int)
         ·rw [if_pos c63] at H
          have c63b0 : decide (1 < (t182.length : Int)) = true := decide_eq_true c63
          have c63b1 : decide (1 < t182.length) = true := decide_eq_true (by omega)
          clear c63
          obtain ⟨y237, hy237⟩ : ∃ y_ : List Int, y_ = (([(-1000000), (-1000001), rd t182 1] : List Int)) := ⟨_, rfl⟩
          replace H : ((spec_l1Rd_below.f t179 t228 3).bind fun bt240 => (if 0 ≤ bt240.1 then (if bt240.1 < (y237.length : Int) then (if 0 < (t182.length : Int) then (spec_DrawRemap.j2 kj18 (t182.set (0 : Int).toNat (rd y237 bt240.1)) x7_1 x9_18) else (none)) else (none)) else (none))) = some (r1, r2, r3) := by first | (rw [hy237]; with_reducible exact H) | (have H2_ := (Option.bind_some _ _).symm.trans H; rw [hy237]; with_reducible exact H2_) | (have H2_ := (Option.bind_some _ _).symm.trans H; with_reducible exact H2_) | with_reducible exact H | (rw [hy237]; exact H) | exact H
          have Ny237 := Aside0.mk hy237
          clear hy237
          replace H := Option.bind_eq_some_iff.mp H
          obtain ⟨⟨t240, t241⟩, A640, H⟩ := H
          replace H : (if 0 ≤ t240 then (if t240 < (y237.length : Int) then (if 0 < (t182.length : Int) then (spec_DrawRemap.j2 kj18 (t182.set (0 : Int).toNat (rd y237 t240)) x7_1 x9_18) else (none)) else (none)) else (none)) = some (r1, r2, r3) := H
          have A64 := Aside0.mk A640
          clear A640
          by_cases c65 : 0 ≤ t240
          ·rw [if_pos c65] at H
           have c65b0 : decide (0 ≤ t240) = true := decide_eq_true c65
           clear c65
           by_cases c66 : t240 < (y237.length : Int)
           ·rw [if_pos c66] at H
            have c66b0 : decide (t240 < (y237.length : Int)) = true := decide_eq_true c66
            clear c66
            by_cases c67 : 0 < (t182.length : Int)
            ·rw [if_pos c67] at H
             have c67b0 : decide (0 < (t182.length : Int)) = true := decide_eq_true c67
             have c67b1 : decide (0 < t182.length) = true := decide_eq_true (by omega)
             clear c67
             obtain ⟨y243, hy243⟩ : ∃ y_ : List Int, y_ = (t182.set (0 : Int).toNat (rd y237 t240)) := ⟨_, rfl⟩
             replace H : (spec_DrawRemap.j2 kj18 y243 x7_1 x9_18) = some (r1, r2, r3) := by first | (rw [hy243]; with_reducible exact H) | (have H2_ := (Option.bind_some _ _).symm.trans H; rw [hy243]; with_reducible exact H2_) | (have H2_ := (Option.bind_some _ _).symm.trans H; with_reducible exact H2_) | with_reducible exact H | (rw [hy243]; exact H) | exact H
             have Ny243 := Aside0.mk hy243
             clear hy243
             have H' := Aside0.mk H
             clear H
             try go_wp2
             have pi242 : (0 ≤ (t240 : Int)) = True := eq_true (of_decide_eq_true (by first | (with_reducible assumption) | assumption))
             have qi242 : (t240 < (y237.length : Int)) = True := eq_true (of_decide_eq_true (by first | (with_reducible assumption) | assumption))
             have n0_ := Aside0.mk (Kd.R_drew HO_6.out)
             have n1_ := Aside0.mk (Kd.R_drew HO_7.out)
             have n2_ := Aside0.mk (Kd.R_drew HO_9.out)
             have n3_ := Aside0.mk (IsS59.drew HI181.out)
             have n4_ := Aside0.mk (below_drew1 HB.out)
             clear HO_6
             clear HO_7
             clear HO_9
             clear HI181
             clear HB
             have HO_6 := n0_
             have HO_7 := n1_
             have HO_9 := n2_
             have HI181 := n3_
             have HB := n4_
             clear n0_ n1_ n2_ n3_ n4_
             have p236 : 0 ≤ (1 : Int) := (by omega)
             have q236 : 1 < (t182.length : Int) := of_decide_eq_true (by first | (with_reducible assumption) | assumption)
             obtain ⟨ad236, e236, hx236_0⟩ := Kd.at_int (Kd.R_reads' HO_6.out).2.2 1 p236 q236
             cases e236
             (try simp only [show (1 : Int).toNat = 1 from rfl, Nat.reduceMul, Nat.reduceEqDiff, Go.Addr.add, ↓reduceIte] at hx236_0)
             have qi236 : (1 < t182.length) = True := eq_true (by omega)
             (try rw [show ((1 : Int)).toNat = 1 from rfl] at hx236_0)
             replace p236 := eq_true p236
             replace q236 := eq_true q236
             refine start_ (n := 11) (S := fun w' => w'.cell? ⟨ad236.block, ad236.off + 1, none⟩ = some (.int .i64 (rd t182 1))) (ds := [10]) #[false, false, false, false, false, false, false, false, false, false, false] (by kernel_rfl) rfl rfl (hx236_0) (fun hHeld => ?_); refine with_tabW spec_DrawRemap.tab15 spec_DrawRemap.bits15 (fun HT_ HW_ => ?_)
             generalize w49.drew = w69 at HO_6 HO_7 HO_9 HI181 HB hx236_0 hHeld ⊢
             refine pure_ (i := 0) (N := some 63) (v := ?_) (a' := ?_) #[true, false, false, false, false, false, false, false, false, false, false] rfl rfl (any_of HT_.out (by kernel_rfl)) (fun _ _ _ h => h) (Or.inl ⟨by rfl, ?_⟩) ?_ ?_
             rotate_left
             ·intro w'
              go_simp
              with_reducible rfl
             rotate_left
             ·simp only [Act.put, sqA, sqZ, sqS, i64_w, i32_w]
              rfl
             refine pure_ (i := 1) (N := some 64) (v := ?_) (a' := ?_) #[true, true, false, false, false, false, false, false, false, false, false] rfl rfl (any_of HT_.out (by kernel_rfl)) (fun _ _ _ h => h) (Or.inl ⟨by rfl, ?_⟩) ?_ ?_
             rotate_left
             ·intro w'
              go_simp
              with_reducible rfl
             rotate_left
             ·simp only [Act.put, sqA, sqZ, sqS, i64_w, i32_w]
              rfl
             refine pure_ (i := 2) (N := some 65) (v := ?_) (a' := ?_) #[true, true, true, false, false, false, false, false, false, false, false] rfl rfl (any_of HT_.out (by kernel_rfl)) (fun _ _ _ h => h) (Or.inl ⟨by rfl, ?_⟩) ?_ ?_
             rotate_left
             ·intro w'
              go_simp
              with_reducible rfl
             rotate_left
             ·simp only [Act.put, sqA, sqZ, sqS, i64_w, i32_w]
              rfl
             refine pure_ (i := 5) (N := some 68) (v := ?_) (a' := ?_) #[true, true, true, false, false, true, false, false, false, false, false] rfl rfl (any_of HT_.out (by kernel_rfl)) (fun _ _ _ h => h) (Or.inl ⟨by rfl, ?_⟩) ?_ ?_
             rotate_left
             ·intro w'
              go_simp
              with_reducible rfl
             rotate_left
             ·simp only [Act.put, sqA, sqZ, sqS, i64_w, i32_w]
              rfl
             refine take_ (i := 3) (N := some 66) (v := ?_) (a' := ?_) #[true, true, true, true, false, true, false, false, false, false, false] rfl rfl (take_ofW HT_.out HW_.out (by kernel_rfl)) (fun _ _ _ h => h) (Or.inl ⟨by rfl, ?_⟩) hHeld ?_ ?_
             rotate_left
             ·intro w' s0
              go_simp
              with_reducible rfl
             rotate_left
             ·simp only [Act.put, sqA, sqZ, sqS, i64_w, i32_w]
              rfl
             refine join_ (σ := Value × Addr) 4 #[true, true, true, true, true, true, true, false, false, false, false] (fun s_ => [(67, s_.1), (69, .int .i64 t240)]) (fun s_ w' => (w'.cell? ⟨ad236.block, ad236.off + 1, none⟩ = some (.int .i64 (rd t182 1))) ∧ (Kd.R (Kd.int .i64) 2 w' w.heap.size (fun k_ => some k_ ≠ (.slice (some ad236) t182.length co20 : Value).ownBlock ∧ some k_ ≠ (u7 : Value).ownBlock ∧ some k_ ≠ (u9 : Value).ownBlock) s_.1 y237) ∧ (Kd.R (Kd.int .i64) 2 w' w.heap.size (fun k_ => some k_ ≠ (s_.1 : Value).ownBlock ∧ some k_ ≠ (u7 : Value).ownBlock ∧ some k_ ≠ (u9 : Value).ownBlock) (.slice (some ad236) t182.length co20) t182) ∧ (Kd.R (Kd.int .i64) 2 w' w.heap.size (fun k_ => some k_ ≠ (s_.1 : Value).ownBlock ∧ some k_ ≠ (.slice (some ad236) t182.length co20 : Value).ownBlock ∧ some k_ ≠ (u9 : Value).ownBlock) u7 x7_1) ∧ (Kd.R (Kd.int .i64) 2 w' w.heap.size (fun k_ => some k_ ≠ (s_.1 : Value).ownBlock ∧ some k_ ≠ (.slice (some ad236) t182.length co20 : Value).ownBlock ∧ some k_ ≠ (u7 : Value).ownBlock) u9 x9_18) ∧ (∃ c_, (s_.1 : Value) = .slice (some s_.2) y237.length c_) ∧ (IsS59 w w' g181 t179 t241) ∧ (Below w.heap.size w w')) ?_ ?_
             rotate_left
             ·intro hCont
              refine two_ (i := 4) (j := 6) (Ni := some 67) (Nj := some 69) #[true, true, true, true, true, true, false, false, false, false, false] #[true, true, true, true, false, true, true, false, false, false, false] rfl rfl rfl rfl (two_of HT_.out (by kernel_rfl)) (by decide) (by decide) (fun K hK => ?_) (fun K hK => ?_)
              ·skip
               refine Kd.R_lit_step (Kd.int .i64) _ 2 ?hg (N := 67) ?hd (xs := ([(-1000000), (-1000001), rd t182 1] : List Int)) (inner := [.int .i64 (-1000000), .int .i64 (-1000001), .int .i64 (rd t182 1)]) (ok := fun _ => True) (okp := fun _ => True) ?hr ?hp (fun _ hk => hk) trivial (Below.refl _ _) (Nat.le_refl _) (by simp) ?_; (case hd => rfl); (case hg => rfl); (case hr => first | (go_simp; done) | (go_simp; rfl)); (case hp => exact (Reps.one (show Kd.M (Kd.int .i64) _ _ _ (-1000000) [.int .i64 (-1000000)] from rfl) (Reps.one (show Kd.M (Kd.int .i64) _ _ _ (-1000001) [.int .i64 (-1000001)] from rfl) (Reps.one (show Kd.M (Kd.int .i64) _ _ _ (rd t182 1) [.int .i64 (rd t182 1)] from rfl) (Reps.none _ _)))))
               intro v238 w70 ho71 hb hg_ hnew_
               have HS0_ := (hb.cell (World.block_lt_of_cell? _ _ (hHeld))).trans (hHeld)
               clear hg_ hnew_
               (first | rw [← Ny237.out] at ho71 | (simp only [Int.reduceToNat] at ho71; rw [← Ny237.out] at ho71))
               have n0_ := Aside0.mk (Kd.R_elder' HO_6.out (Kd.R_base ho71) hb)
               have n1_ := Aside0.mk (Kd.R_elder' HO_7.out (Kd.R_base ho71) hb)
               have n2_ := Aside0.mk (Kd.R_elder' HO_9.out (Kd.R_base ho71) hb)
               have n3_ := Aside0.mk (Kd.R_lower (Kd.R_new' (Kd.R_new' (Kd.R_new' ho71 (Kd.R_lt HO_6.out)) (Kd.R_lt HO_7.out)) (Kd.R_lt HO_9.out)) (below_size HB.out))
               have n4_ := Aside0.mk (IsS59.below HI181.out hb)
               have n5_ := Aside0.mk (below_step HB.out hb)
               clear HO_6
               clear HO_7
               clear HO_9
               clear HI181
               clear HB
               have HO_6 := n0_
               have HO_7 := n1_
               have HO_9 := n2_
               have HO239 := n3_
               have HI181 := n4_
               have HB := n5_
               clear n0_ n1_ n2_ n3_ n4_ n5_
               clear hb ho71
               obtain ⟨Ao72, co72, eo72⟩ := Kd.R_slice HO239.out
               subst eo72
               obtain ⟨ado72, fo72, _⟩ := Kd.at_int (Kd.R_reads' HO239.out).2.2 0 (by decide) (by rw [Ny237.out]; simp)
               cases fo72
               refine hK.out _ _ (HS0_) (fun hHeld => ?_)
               clear hK K
               refine norm_ (a' := ?_) ?_ ?_
               rotate_left
               ·show Act.put _ (some 67) _ = _
                simp only [Act.put, sqA, sqZ, sqS, i64_w, i32_w]
                rfl
               refine one_ (i := 6) (N := some 69) #[true, true, true, true, true, true, true, false, false, false, false] rfl rfl (one_of HT_.out (by kernel_rfl)) (by decide) (fun K hK => ?_)
               refine goes_ Try.func35 (by kernel_rfl) rfl #[.pointer (some ⟨g181, 0, none⟩), .int .i64 3] (by rfl) rfl rfl (by (try simp only [List.map_toArray, List.map_cons, List.map_nil]); first | done | rfl | (simp only [List.length_drop, List.length_take]; rfl)) ?_
               with_reducible refine (spec_l1Rd_below.calls g181 t179 t228 3 t240 t241 w _ ?side1 ?side2 A64.out).mono ?_
               (case side1 => repeat (first | (with_reducible first | exact HI181.out | apply IsS59.alloc | apply IsS59.drewN | apply IsS59.drew | apply IsS59.set_1) | exact HI181.out))
               (case side2 => repeat (first | (with_reducible first | exact HB.out | apply below_alloc | apply pw_below_drewN | apply below_drew1 | refine below_set ?_ (IsS59.ge HI181.out)) | exact HB.out))
               rintro e w73 ⟨rfl, hi, hb, hk⟩
               have HS0_ := keep_cell hk (hHeld) (by first | (rw [add_block]; exact Kd.own_blk (IsS59.own_ne HI181.out HO_6.out (by decide))) | (show (Addr.add _ _).block ≠ _; rw [add_block]; exact Kd.own_blk (IsS59.own_ne HI181.out HO_6.out (by decide))) | exact Kd.own_blk (IsS59.own_ne HI181.out HO_6.out (by decide)) | (dsimp only; exact Kd.own_blk (IsS59.own_ne HI181.out HO_6.out (by decide))))
               refine ⟨_, rfl, ?_⟩
               have n0_ := Aside0.mk (Kd.R_mono (Kd.R_keep (IsS59.apart (show IsS59 w _ g181 t179 t228 from by repeat (first | (with_reducible first | exact HI181.out | apply IsS59.alloc | apply IsS59.drewN | apply IsS59.drew | apply IsS59.set_1) | exact HI181.out)) HO_6.out (by decide)) hk (fun _ h => h.2)) (fun _ h => h.1))
               have n1_ := Aside0.mk (Kd.R_mono (Kd.R_keep (IsS59.apart (show IsS59 w _ g181 t179 t228 from by repeat (first | (with_reducible first | exact HI181.out | apply IsS59.alloc | apply IsS59.drewN | apply IsS59.drew | apply IsS59.set_1) | exact HI181.out)) HO_7.out (by decide)) hk (fun _ h => h.2)) (fun _ h => h.1))
               have n2_ := Aside0.mk (Kd.R_mono (Kd.R_keep (IsS59.apart (show IsS59 w _ g181 t179 t228 from by repeat (first | (with_reducible first | exact HI181.out | apply IsS59.alloc | apply IsS59.drewN | apply IsS59.drew | apply IsS59.set_1) | exact HI181.out)) HO_9.out (by decide)) hk (fun _ h => h.2)) (fun _ h => h.1))
               have n3_ := Aside0.mk (Kd.R_mono (Kd.R_keep (IsS59.apart (show IsS59 w _ g181 t179 t228 from by repeat (first | (with_reducible first | exact HI181.out | apply IsS59.alloc | apply IsS59.drewN | apply IsS59.drew | apply IsS59.set_1) | exact HI181.out)) HO239.out (by decide)) hk (fun _ h => h.2)) (fun _ h => h.1))
               have n4_ := Aside0.mk (hb)
               have n5_ := Aside0.mk (hi)
               clear HO_6
               clear HO_7
               clear HO_9
               clear HO239
               clear HB
               clear HI181
               have HO_6 := n0_
               have HO_7 := n1_
               have HO_9 := n2_
               have HO239 := n3_
               have HB := n4_
               have HI181 := n5_
               clear n0_ n1_ n2_ n3_ n4_ n5_
               (try clear hb)
               (try clear hb2)
               (try clear hk)
               (try clear hi)
               refine hK.out _ _ (HS0_) (fun hHeld => ?_)
               clear hK K
               refine norm_ (a' := ?_) ?_ ?_
               rotate_left
               ·show Act.put _ (some 69) _ = _
                simp only [Act.put, sqA, sqZ, sqS, i64_w, i32_w]
                rfl
               exact norm_ (by simp only [putAll, Act.put, sqA, sqZ, sqS]) (hCont (.slice (some ado72) y237.length co72, ado72) _ ⟨hHeld, (Kd.R_mono HO239.out (fun _ hk => ⟨hk.1.1.2, ⟨hk.1.2, hk.2⟩⟩)), (Kd.R_mono HO_6.out (fun _ hk => ⟨hk.2, ⟨hk.1.1, hk.1.2⟩⟩)), (Kd.R_mono HO_7.out (fun _ hk => ⟨hk.2, ⟨hk.1.1, hk.1.2⟩⟩)), (Kd.R_mono HO_9.out (fun _ hk => ⟨hk.2, ⟨hk.1.1, hk.1.2⟩⟩)), ⟨_, rfl⟩, HI181.out, HB.out⟩)
              ·skip
               refine goes_ Try.func35 (by kernel_rfl) rfl #[.pointer (some ⟨g181, 0, none⟩), .int .i64 3] (by rfl) rfl rfl (by (try simp only [List.map_toArray, List.map_cons, List.map_nil]); first | done | rfl | (simp only [List.length_drop, List.length_take]; rfl)) ?_
               with_reducible refine (spec_l1Rd_below.calls g181 t179 t228 3 t240 t241 w _ ?side1 ?side2 A64.out).mono ?_
               (case side1 => repeat (first | (with_reducible first | exact HI181.out | apply IsS59.alloc | apply IsS59.drewN | apply IsS59.drew | apply IsS59.set_1) | exact HI181.out))
               (case side2 => repeat (first | (with_reducible first | exact HB.out | apply below_alloc | apply pw_below_drewN | apply below_drew1 | refine below_set ?_ (IsS59.ge HI181.out)) | exact HB.out))
               rintro e w70 ⟨rfl, hi, hb, hk⟩
               have HS0_ := keep_cell hk (hHeld) (by first | (rw [add_block]; exact Kd.own_blk (IsS59.own_ne HI181.out HO_6.out (by decide))) | (show (Addr.add _ _).block ≠ _; rw [add_block]; exact Kd.own_blk (IsS59.own_ne HI181.out HO_6.out (by decide))) | exact Kd.own_blk (IsS59.own_ne HI181.out HO_6.out (by decide)) | (dsimp only; exact Kd.own_blk (IsS59.own_ne HI181.out HO_6.out (by decide))))
               refine ⟨_, rfl, ?_⟩
               have n0_ := Aside0.mk (Kd.R_mono (Kd.R_keep (IsS59.apart (show IsS59 w _ g181 t179 t228 from by repeat (first | (with_reducible first | exact HI181.out | apply IsS59.alloc | apply IsS59.drewN | apply IsS59.drew | apply IsS59.set_1) | exact HI181.out)) HO_6.out (by decide)) hk (fun _ h => h.2)) (fun _ h => h.1))
               have n1_ := Aside0.mk (Kd.R_mono (Kd.R_keep (IsS59.apart (show IsS59 w _ g181 t179 t228 from by repeat (first | (with_reducible first | exact HI181.out | apply IsS59.alloc | apply IsS59.drewN | apply IsS59.drew | apply IsS59.set_1) | exact HI181.out)) HO_7.out (by decide)) hk (fun _ h => h.2)) (fun _ h => h.1))
               have n2_ := Aside0.mk (Kd.R_mono (Kd.R_keep (IsS59.apart (show IsS59 w _ g181 t179 t228 from by repeat (first | (with_reducible first | exact HI181.out | apply IsS59.alloc | apply IsS59.drewN | apply IsS59.drew | apply IsS59.set_1) | exact HI181.out)) HO_9.out (by decide)) hk (fun _ h => h.2)) (fun _ h => h.1))
               have n3_ := Aside0.mk (hb)
               have n4_ := Aside0.mk (hi)
               clear HO_6
               clear HO_7
               clear HO_9
               clear HB
               clear HI181
               have HO_6 := n0_
               have HO_7 := n1_
               have HO_9 := n2_
               have HB := n3_
               have HI181 := n4_
               clear n0_ n1_ n2_ n3_ n4_
               (try clear hb)
               (try clear hb2)
               (try clear hk)
               (try clear hi)
               refine hK.out _ _ (HS0_) (fun hHeld => ?_)
               clear hK K
               refine norm_ (a' := ?_) ?_ ?_
               rotate_left
               ·show Act.put _ (some 69) _ = _
                simp only [Act.put, sqA, sqZ, sqS, i64_w, i32_w]
                rfl
               refine one_ (i := 4) (N := some 67) #[true, true, true, true, true, true, true, false, false, false, false] rfl rfl (one_of HT_.out (by kernel_rfl)) (by decide) (fun K hK => ?_)
               refine Kd.R_lit_step (Kd.int .i64) _ 2 ?hg (N := 67) ?hd (xs := ([(-1000000), (-1000001), rd t182 1] : List Int)) (inner := [.int .i64 (-1000000), .int .i64 (-1000001), .int .i64 (rd t182 1)]) (ok := fun _ => True) (okp := fun _ => True) ?hr ?hp (fun _ hk => hk) trivial (Below.refl _ _) (Nat.le_refl _) (by simp) ?_; (case hd => rfl); (case hg => rfl); (case hr => first | (go_simp; done) | (go_simp; rfl)); (case hp => exact (Reps.one (show Kd.M (Kd.int .i64) _ _ _ (-1000000) [.int .i64 (-1000000)] from rfl) (Reps.one (show Kd.M (Kd.int .i64) _ _ _ (-1000001) [.int .i64 (-1000001)] from rfl) (Reps.one (show Kd.M (Kd.int .i64) _ _ _ (rd t182 1) [.int .i64 (rd t182 1)] from rfl) (Reps.none _ _)))))
               intro v238 w71 ho72 hb hg_ hnew_
               have HS0_ := (hb.cell (World.block_lt_of_cell? _ _ (hHeld))).trans (hHeld)
               clear hg_ hnew_
               (first | rw [← Ny237.out] at ho72 | (simp only [Int.reduceToNat] at ho72; rw [← Ny237.out] at ho72))
               have n0_ := Aside0.mk (Kd.R_elder' HO_6.out (Kd.R_base ho72) hb)
               have n1_ := Aside0.mk (Kd.R_elder' HO_7.out (Kd.R_base ho72) hb)
               have n2_ := Aside0.mk (Kd.R_elder' HO_9.out (Kd.R_base ho72) hb)
               have n3_ := Aside0.mk (Kd.R_lower (Kd.R_new' (Kd.R_new' (Kd.R_new' ho72 (Kd.R_lt HO_6.out)) (Kd.R_lt HO_7.out)) (Kd.R_lt HO_9.out)) (below_size HB.out))
               have n4_ := Aside0.mk (IsS59.below HI181.out hb)
               have n5_ := Aside0.mk (below_step HB.out hb)
               clear HO_6
               clear HO_7
               clear HO_9
               clear HI181
               clear HB
               have HO_6 := n0_
               have HO_7 := n1_
               have HO_9 := n2_
               have HO239 := n3_
               have HI181 := n4_
               have HB := n5_
               clear n0_ n1_ n2_ n3_ n4_ n5_
               clear hb ho72
               obtain ⟨Ao73, co73, eo73⟩ := Kd.R_slice HO239.out
               subst eo73
               obtain ⟨ado73, fo73, _⟩ := Kd.at_int (Kd.R_reads' HO239.out).2.2 0 (by decide) (by rw [Ny237.out]; simp)
               cases fo73
               refine hK.out _ _ (HS0_) (fun hHeld => ?_)
               clear hK K
               refine norm_ (a' := ?_) ?_ ?_
               rotate_left
               ·show Act.put _ (some 67) _ = _
                simp only [Act.put, sqA, sqZ, sqS, i64_w, i32_w]
                rfl
               exact norm_ (by simp only [putAll, Act.put, sqA, sqZ, sqS]) (hCont (.slice (some ado73) y237.length co73, ado73) _ ⟨hHeld, (Kd.R_mono HO239.out (fun _ hk => ⟨hk.1.1.2, ⟨hk.1.2, hk.2⟩⟩)), (Kd.R_mono HO_6.out (fun _ hk => ⟨hk.2, ⟨hk.1.1, hk.1.2⟩⟩)), (Kd.R_mono HO_7.out (fun _ hk => ⟨hk.2, ⟨hk.1.1, hk.1.2⟩⟩)), (Kd.R_mono HO_9.out (fun _ hk => ⟨hk.2, ⟨hk.1.1, hk.1.2⟩⟩)), ⟨_, rfl⟩, HI181.out, HB.out⟩)
             rintro ⟨v238, adz_v238⟩ w74 ⟨hS_, h0_, h1_, h2_, h3_, h4_, h5_, h6_⟩
             (try dsimp only at h0_ h1_ h2_ h3_ h4_ h5_ h6_)
             have n0_ := Aside0.mk h0_
             have n1_ := Aside0.mk h1_
             have n2_ := Aside0.mk h2_
             have n3_ := Aside0.mk h3_
             have n4_ := Aside0.mk h4_
             have n5_ := Aside0.mk h5_
             have n6_ := Aside0.mk h6_
             clear HO_6
             clear HO_7
             clear HO_9
             clear HI181
             clear HB
             clear h0_ h1_ h2_ h3_ h4_ h5_ h6_
             have HO239 := n0_
             have HO_6 := n1_
             have HO_7 := n2_
             have HO_9 := n3_
             have HA_HO239 := n4_
             have HI181 := n5_
             have HB := n6_
             clear n0_ n1_ n2_ n3_ n4_ n5_ n6_
             have hHeld : w74.cell? ⟨ad236.block, ad236.off + 1, none⟩ = some (.int .i64 (rd t182 1)) := hS_
             obtain ⟨co75, eo75⟩ := HA_HO239.out
             clear HA_HO239
             subst eo75
             have p68 : 0 ≤ (0 : Int) := (by omega)
             have q68 : (0 : Int) < ((t182.length : Int) : Int) := of_decide_eq_true (by first | (with_reducible assumption) | assumption)
             have qi68 : (0 < t182.length) = True := eq_true (by omega)
             obtain ⟨go68, co68, eo68, gb68, gl68, cl68, HG68⟩ := Kd.R_form HO_6.out (by omega)
             (first | cases eo68 | (injection eo68 with ea_ en_ ec_; (first | subst ea_ | (injection ea_ with ea_; subst ea_)); subst ec_; clear en_))
             have GB68 := Aside0.mk gb68
             have GG68 := Aside0.mk HG68
             clear gb68 gl68 HG68
             (first | simp only [add_plain] at hx236_0 | skip)
             obtain ⟨hx68_0, hf68_0⟩ := Kd.R_celln 0 HO_6.out (0 : Int) p68 q68
             (try rw [show ((0 : Int)).toNat = 0 from rfl] at hx68_0)
             (try simp only [Nat.reduceMul, Nat.zero_mul, Nat.zero_add, Nat.reduceAdd] at hx68_0)
             (try rw [show ((0 : Int)).toNat = 0 from rfl] at hf68_0)
             (try simp only [Nat.reduceMul, Nat.zero_mul, Nat.zero_add, Nat.reduceAdd] at hf68_0)
             replace p68 := eq_true p68
             replace q68 := eq_true q68
             have HN181_go68 := Aside0.mk (show g181 ≠ go68 from by have h_ := IsS59.own_ne HI181.out HO_6.out (by decide); intro e_; exact h_ (by rw [e_]; rfl))
             have HP76 := Kd.R_putn HO_6.out (0 : Int) (rd y237 t240)
             rw [← Ny243.out] at HP76
             have HQ76 := Aside0.mk HP76
             clear HP76
             refine norm_ (a' := ?_) ?_ ?_
             rotate_left
             ·simp only [putAll, Act.put, sqA, sqZ, sqS]
              rfl
             refine pure_ (i := 7) (N := some 70) (v := ?_) (a' := ?_) #[true, true, true, true, true, true, true, true, false, false, false] rfl rfl (any_of HT_.out (by kernel_rfl)) (fun _ _ _ h => h) (Or.inl ⟨by rfl, ?_⟩) ?_ ?_
             rotate_left
             ·intro w'
              go_simp
              with_reducible rfl
             rotate_left
             ·simp only [Act.put, sqA, sqZ, sqS, i64_w, i32_w]
              rfl
             refine one_ (i := 8) (N := some 71) #[true, true, true, true, true, true, true, true, true, false, false] rfl rfl (one_of HT_.out (by kernel_rfl)) (by decide) (fun K hK => ?_)
             (have p242 : 0 ≤ (t240 : Int) := of_decide_eq_true (by first | (with_reducible assumption) | assumption); have q242 : t240 < (y237.length : Int) := of_decide_eq_true (by first | (with_reducible assumption) | assumption); obtain ⟨ad242, e242, hx242_0⟩ := Kd.at_int (Kd.R_reads' HO239.out).2.2 t240 p242 q242; obtain rfl : adz_v238 = ad242 := (by injection e242))
             refine value_ (w1 := ?_) (v := ?_) (by rfl) rfl ?_ ?_
             rotate_left 2
             ·go_simp
              constructor
              ·rfl
              ·rfl
             clear hx242_0
             refine hK.out _ _ (hHeld) (fun hHeld => ?_)
             clear hK K
             refine norm_ (a' := ?_) ?_ ?_
             rotate_left
             ·show Act.put _ (some 71) _ = _
              simp only [Act.put, sqA, sqZ, sqS, i64_w, i32_w]
              rfl
             refine pure_ (i := 9) (N := some 72) (v := ?_) (a' := ?_) #[true, true, true, true, true, true, true, true, true, true, false] rfl rfl (any_of HT_.out (by kernel_rfl)) (fun _ _ _ h => h) (Or.inl ⟨by rfl, ?_⟩) ?_ ?_
             rotate_left
             ·intro w'
              go_simp
              with_reducible rfl
             rotate_left
             ·simp only [Act.put, sqA, sqZ, sqS, i64_w, i32_w]
              rfl
             refine last_ (i := 10) (N := none) #[true, true, true, true, true, true, true, true, true, true, true] rfl rfl (one_of HT_.out (by kernel_rfl)) (by decide) (fun K hK => ?_)
             refine skip_ (w1 := ?_) (by rfl) rfl ?_ ?_
             rotate_left
             ·go_simp
              rfl
             refine hK.out _ _ ?_
             clear hK K
             refine done_ (done_of HT_.out (by kernel_rfl)) ?_
             try go_wp2
             go_meet
             case rel => exact ⟨_, (y243), (x7_1), (x9_18), H', ⟨by have := HK1.out; have := HJ18.out; first | omega | exact Nat.le_refl _⟩, ⟨by (with_reducible repeat (first | apply Kd.R_alloc | apply Kd.R_drewN | apply Kd.R_drew)); exact Kd.R_mono HQ76.out (fun _ hk => ⟨hk.2.1, hk.2.2⟩)⟩, ⟨by (with_reducible repeat (first | apply Kd.R_alloc | apply Kd.R_drewN | apply Kd.R_drew)); exact Kd.R_mono (Kd.R_far (p := ⟨go68, 0, none⟩) (Kd.R_mono HO_7.out (fun k_ hk => (⟨hk, fun e_ => hk.2.1 (by rw [e_]; rfl)⟩ : _ ∧ k_ ≠ go68))) (fun _ hk => hk.2) (.int .i64 (rd y237 t240))) (fun _ hk => ⟨hk.1.2.1, hk.1.2.2⟩)⟩, ⟨by (with_reducible repeat (first | apply Kd.R_alloc | apply Kd.R_drewN | apply Kd.R_drew)); exact Kd.R_mono (Kd.R_far (p := ⟨go68, 0, none⟩) (Kd.R_mono HO_9.out (fun k_ hk => (⟨hk, fun e_ => hk.2.1 (by rw [e_]; rfl)⟩ : _ ∧ k_ ≠ go68))) (fun _ hk => hk.2) (.int .i64 (rd y237 t240))) (fun _ hk => ⟨hk.1.2.1, hk.1.2.2⟩)⟩, ⟨by repeat (first | (with_reducible first | exact HB.out | apply below_alloc | apply pw_below_drewN | apply below_drew1 | refine below_set ?_ GB68.out | refine below_set ?_ (IsS59.ge HI181.out)) | exact HB.out)⟩⟩
            ·rw [if_neg c67] at H
             exact absurd H (by simp)
           ·rw [if_neg c66] at H
            exact absurd H (by simp)
          ·rw [if_neg c65] at H
           exact absurd H (by simp)
         ·rw [if_neg c63] at H
          exact absurd H (by simp)
        ·rw [if_neg c62] at H
         have c62b0 : (t227 == 1) = false := beq_eq_false_iff_ne.mpr c62
         have c62b1 : (t227 != 1) = true := bne_iff_ne.mpr c62
         by_cases c77 : t227 = 2
         ·rw [if_pos c77] at H
          have c77b0 : (t227 == 2) = true := beq_iff_eq.mpr c77
          have c77b1 : (t227 != 2) = false := bne_eq_false_iff_eq.mpr c77
          clear c77
          by_cases c78 : 0 < (x9_18.length : Int)
          ·rw [if_pos c78] at H
           have c78b0 : decide (0 < (x9_18.length : Int)) = true := decide_eq_true c78
           have c78b1 : decide (0 < x9_18.length) = true := decide_eq_true (by omega)
           clear c78
           obtain ⟨y245, hy245⟩ : ∃ y_ : List Int, y_ = (([1000000, 1000001, rd x9_18 0] : List Int)) := ⟨_, rfl⟩
           replace H : ((spec_l1Rd_below.f t179 t228 3).bind fun bt248 => (if 0 ≤ bt248.1 then (if bt248.1 < (y245.length : Int) then (if 0 ≤ (wrap64 ((x9_18.length : Int) - 1)) then (if (wrap64 ((x9_18.length : Int) - 1)) < (x9_18.length : Int) then (spec_DrawRemap.j2 kj18 t182 x7_1 (x9_18.set ((wrap64 ((x9_18.length : Int) - 1)) : Int).toNat (rd y245 bt248.1))) else (none)) else (none)) else (none)) else (none))) = some (r1, r2, r3) := by first | (rw [hy245]; with_reducible exact H) | (have H2_ := (Option.bind_some _ _).symm.trans H; rw [hy245]; with_reducible exact H2_) | (have H2_ := (Option.bind_some _ _).symm.trans H; with_reducible exact H2_) | with_reducible exact H | (rw [hy245]; exact H) | exact H
           have Ny245 := Aside0.mk hy245
           clear hy245
           replace H := Option.bind_eq_some_iff.mp H
           obtain ⟨⟨t248, t249⟩, A790, H⟩ := H
           replace H : (if 0 ≤ t248 then (if t248 < (y245.length : Int) then (if 0 ≤ (wrap64 ((x9_18.length : Int) - 1)) then (if (wrap64 ((x9_18.length : Int) - 1)) < (x9_18.length : Int) then (spec_DrawRemap.j2 kj18 t182 x7_1 (x9_18.set ((wrap64 ((x9_18.length : Int) - 1)) : Int).toNat (rd y245 t248))) else (none)) else (none)) else (none)) else (none)) = some (r1, r2, r3) := H
           have A79 := Aside0.mk A790
           clear A790
           by_cases c80 : 0 ≤ t248
           ·rw [if_pos c80] at H
            have c80b0 : decide (0 ≤ t248) = true := decide_eq_true c80
            clear c80
            by_cases c81 : t248 < (y245.length : Int)
            ·rw [if_pos c81] at H
             have c81b0 : decide (t248 < (y245.length : Int)) = true := decide_eq_true c81
             clear c81
             obtain ⟨ji82, hji82⟩ : ∃ j_ : Int, (wrap64 ((x9_18.length : Int) - 1)) = j_ := ⟨_, rfl⟩
             replace H : (if 0 ≤ (ji82) then (if (ji82) < (x9_18.length : Int) then (spec_DrawRemap.j2 kj18 t182 x7_1 (x9_18.set ((ji82) : Int).toNat (rd y245 t248))) else (none)) else (none)) = some (r1, r2, r3) := by first | (rw [hji82] at H; exact H) | (simp only [hji82] at H ⊢; exact H)
             (try rw [hji82] at A79)
             have hji82w : (IntKind.i64.wrap ((x9_18.length : Int) - 1)) = ji82 := (i64_w _).trans hji82
             by_cases c83 : 0 ≤ (ji82)
             ·rw [if_pos c83] at H
              have c83b0 : decide (0 ≤ (ji82)) = true := decide_eq_true c83
              clear c83
              by_cases c84 : (ji82) < (x9_18.length : Int)
              ·rw [if_pos c84] at H
               have c84b0 : decide ((ji82) < (x9_18.length : Int)) = true := decide_eq_true c84
               clear c84
               obtain ⟨y251, hy251⟩ : ∃ y_ : List Int, y_ = (x9_18.set ((ji82) : Int).toNat (rd y245 t248)) := ⟨_, rfl⟩
               replace H : (spec_DrawRemap.j2 kj18 t182 x7_1 y251) = some (r1, r2, r3) := by first | (rw [hy251]; with_reducible exact H) | (have H2_ := (Option.bind_some _ _).symm.trans H; rw [hy251]; with_reducible exact H2_) | (have H2_ := (Option.bind_some _ _).symm.trans H; with_reducible exact H2_) | with_reducible exact H | (rw [hy251]; exact H) | exact H
               have Ny251 := Aside0.mk hy251
               clear hy251
               have H' := Aside0.mk H
               clear H
               try go_wp2
               have pi250 : (0 ≤ (t248 : Int)) = True := eq_true (of_decide_eq_true (by first | (with_reducible assumption) | assumption))
               have qi250 : (t248 < (y245.length : Int)) = True := eq_true (of_decide_eq_true (by first | (with_reducible assumption) | assumption))
               have n0_ := Aside0.mk (Kd.R_drew HO_6.out)
               have n1_ := Aside0.mk (Kd.R_drew HO_7.out)
               have n2_ := Aside0.mk (Kd.R_drew HO_9.out)
               have n3_ := Aside0.mk (IsS59.drew HI181.out)
               have n4_ := Aside0.mk (below_drew1 HB.out)
               clear HO_6
               clear HO_7
               clear HO_9
               clear HI181
               clear HB
               have HO_6 := n0_
               have HO_7 := n1_
               have HO_9 := n2_
               have HI181 := n3_
               have HB := n4_
               clear n0_ n1_ n2_ n3_ n4_
               obtain ⟨Ao87, co87, eo87⟩ := Kd.R_slice HO_9.out
               (first | subst eo87 | (injection eo87 with f1_ f2_ f3_; have f4_ := f1_.symm; have f5_ := f3_.symm; clear f1_ f2_ f3_; subst f4_; subst f5_))
               have p244 : 0 ≤ (0 : Int) := (by omega)
               have q244 : 0 < (x9_18.length : Int) := of_decide_eq_true (by first | (with_reducible assumption) | assumption)
               obtain ⟨ad244, e244, hx244_0⟩ := Kd.at_int (Kd.R_reads' HO_9.out).2.2 0 p244 q244
               cases e244
               have qi244 : (0 < x9_18.length) = True := eq_true (by omega)
               (try rw [show ((0 : Int)).toNat = 0 from rfl] at hx244_0)
               (try rw [Addr.add_zero'] at hx244_0)
               replace p244 := eq_true p244
               replace q244 := eq_true q244
               refine start_ (n := 14) (S := fun w' => w'.cell? ad244 = some (.int .i64 (rd x9_18 0))) (ds := [13]) #[false, false, false, false, false, false, false, false, false, false, false, false, false, false] (by kernel_rfl) rfl rfl (hx244_0) (fun hHeld => ?_); refine with_tabW spec_DrawRemap.tab17 spec_DrawRemap.bits17 (fun HT_ HW_ => ?_)
               generalize w49.drew = w86 at HO_6 HO_7 HO_9 HI181 HB hx244_0 hHeld ⊢
               refine pure_ (i := 0) (N := some 75) (v := ?_) (a' := ?_) #[true, false, false, false, false, false, false, false, false, false, false, false, false, false] rfl rfl (any_of HT_.out (by kernel_rfl)) (fun _ _ _ h => h) (Or.inl ⟨by rfl, ?_⟩) ?_ ?_
               rotate_left
               ·intro w'
                go_simp
                with_reducible rfl
               rotate_left
               ·simp only [Act.put, sqA, sqZ, sqS, i64_w, i32_w]
                rfl
               refine pure_ (i := 1) (N := some 76) (v := ?_) (a' := ?_) #[true, true, false, false, false, false, false, false, false, false, false, false, false, false] rfl rfl (any_of HT_.out (by kernel_rfl)) (fun _ _ _ h => h) (Or.inl ⟨by rfl, ?_⟩) ?_ ?_
               rotate_left
               ·intro w'
                go_simp
                with_reducible rfl
               rotate_left
               ·simp only [Act.put, sqA, sqZ, sqS, i64_w, i32_w]
                rfl
               refine pure_ (i := 2) (N := some 77) (v := ?_) (a' := ?_) #[true, true, true, false, false, false, false, false, false, false, false, false, false, false] rfl rfl (any_of HT_.out (by kernel_rfl)) (fun _ _ _ h => h) (Or.inl ⟨by rfl, ?_⟩) ?_ ?_
               rotate_left
               ·intro w'
                go_simp
                with_reducible rfl
               rotate_left
               ·simp only [Act.put, sqA, sqZ, sqS, i64_w, i32_w]
                rfl
               refine pure_ (i := 3) (N := some 78) (v := ?_) (a' := ?_) #[true, true, true, true, false, false, false, false, false, false, false, false, false, false] rfl rfl (any_of HT_.out (by kernel_rfl)) (fun _ _ _ h => h) (Or.inl ⟨by rfl, ?_⟩) ?_ ?_
               rotate_left
               ·intro w'
                go_simp
                with_reducible rfl
               rotate_left
               ·simp only [Act.put, sqA, sqZ, sqS, i64_w, i32_w]
                rfl
               refine pure_ (i := 4) (N := some 79) (v := ?_) (a' := ?_) #[true, true, true, true, true, false, false, false, false, false, false, false, false, false] rfl rfl (any_of HT_.out (by kernel_rfl)) (fun _ _ _ h => h) (Or.inl ⟨by rfl, ?_⟩) ?_ ?_
               rotate_left
               ·intro w'
                go_simp
                with_reducible rfl
               rotate_left
               ·simp only [Act.put, sqA, sqZ, sqS, i64_w, i32_w]
                rfl
               refine pure_ (i := 5) (N := some 80) (v := ?_) (a' := ?_) #[true, true, true, true, true, true, false, false, false, false, false, false, false, false] rfl rfl (any_of HT_.out (by kernel_rfl)) (fun _ _ _ h => h) (Or.inl ⟨by rfl, ?_⟩) ?_ ?_
               rotate_left
               ·intro w'
                go_simp
                with_reducible rfl
               rotate_left
               ·simp only [Act.put, sqA, sqZ, sqS, i64_w, i32_w]
                rfl
               refine pure_ (i := 8) (N := some 83) (v := ?_) (a' := ?_) #[true, true, true, true, true, true, false, false, true, false, false, false, false, false] rfl rfl (any_of HT_.out (by kernel_rfl)) (fun _ _ _ h => h) (Or.inl ⟨by rfl, ?_⟩) ?_ ?_
               rotate_left
               ·intro w'
                go_simp
                with_reducible rfl
               rotate_left
               ·simp only [Act.put, sqA, sqZ, sqS, i64_w, i32_w]
                rfl
               refine take_ (i := 6) (N := some 81) (v := ?_) (a' := ?_) #[true, true, true, true, true, true, true, false, true, false, false, false, false, false] rfl rfl (take_ofW HT_.out HW_.out (by kernel_rfl)) (fun _ _ _ h => h) (Or.inl ⟨by rfl, ?_⟩) hHeld ?_ ?_
               rotate_left
               ·intro w' s0
                go_simp
                with_reducible rfl
               rotate_left
               ·simp only [Act.put, sqA, sqZ, sqS, i64_w, i32_w]
                rfl
               refine join_ (σ := Value × Addr) 4 #[true, true, true, true, true, true, true, true, true, true, false, false, false, false] (fun s_ => [(82, s_.1), (84, .int .i64 t248)]) (fun s_ w' => (w'.cell? ad244 = some (.int .i64 (rd x9_18 0))) ∧ (Kd.R (Kd.int .i64) 2 w' w.heap.size (fun k_ => some k_ ≠ (.slice Ao20 t182.length co20 : Value).ownBlock ∧ some k_ ≠ (u7 : Value).ownBlock ∧ some k_ ≠ (.slice (some ad244) x9_18.length co87 : Value).ownBlock) s_.1 y245) ∧ (Kd.R (Kd.int .i64) 2 w' w.heap.size (fun k_ => some k_ ≠ (s_.1 : Value).ownBlock ∧ some k_ ≠ (u7 : Value).ownBlock ∧ some k_ ≠ (.slice (some ad244) x9_18.length co87 : Value).ownBlock) (.slice Ao20 t182.length co20) t182) ∧ (Kd.R (Kd.int .i64) 2 w' w.heap.size (fun k_ => some k_ ≠ (s_.1 : Value).ownBlock ∧ some k_ ≠ (.slice Ao20 t182.length co20 : Value).ownBlock ∧ some k_ ≠ (.slice (some ad244) x9_18.length co87 : Value).ownBlock) u7 x7_1) ∧ (Kd.R (Kd.int .i64) 2 w' w.heap.size (fun k_ => some k_ ≠ (s_.1 : Value).ownBlock ∧ some k_ ≠ (.slice Ao20 t182.length co20 : Value).ownBlock ∧ some k_ ≠ (u7 : Value).ownBlock) (.slice (some ad244) x9_18.length co87) x9_18) ∧ (∃ c_, (s_.1 : Value) = .slice (some s_.2) y245.length c_) ∧ (IsS59 w w' g181 t179 t249) ∧ (Below w.heap.size w w')) ?_ ?_
               rotate_left
               ·intro hCont
                refine two_ (i := 7) (j := 9) (Ni := some 82) (Nj := some 84) #[true, true, true, true, true, true, true, true, true, false, false, false, false, false] #[true, true, true, true, true, true, true, false, true, true, false, false, false, false] rfl rfl rfl rfl (two_of HT_.out (by kernel_rfl)) (by decide) (by decide) (fun K hK => ?_) (fun K hK => ?_)
                ·skip
                 refine Kd.R_lit_step (Kd.int .i64) _ 2 ?hg (N := 82) ?hd (xs := ([1000000, 1000001, rd x9_18 0] : List Int)) (inner := [.int .i64 1000000, .int .i64 1000001, .int .i64 (rd x9_18 0)]) (ok := fun _ => True) (okp := fun _ => True) ?hr ?hp (fun _ hk => hk) trivial (Below.refl _ _) (Nat.le_refl _) (by simp) ?_; (case hd => rfl); (case hg => rfl); (case hr => first | (go_simp; done) | (go_simp; rfl)); (case hp => exact (Reps.one (show Kd.M (Kd.int .i64) _ _ _ 1000000 [.int .i64 1000000] from rfl) (Reps.one (show Kd.M (Kd.int .i64) _ _ _ 1000001 [.int .i64 1000001] from rfl) (Reps.one (show Kd.M (Kd.int .i64) _ _ _ (rd x9_18 0) [.int .i64 (rd x9_18 0)] from rfl) (Reps.none _ _)))))
                 intro v246 w88 ho89 hb hg_ hnew_
                 have HS0_ := (hb.cell (World.block_lt_of_cell? _ _ (hHeld))).trans (hHeld)
                 clear hg_ hnew_
                 (first | rw [← Ny245.out] at ho89 | (simp only [Int.reduceToNat] at ho89; rw [← Ny245.out] at ho89))
                 have n0_ := Aside0.mk (Kd.R_elder' HO_6.out (Kd.R_base ho89) hb)
                 have n1_ := Aside0.mk (Kd.R_elder' HO_7.out (Kd.R_base ho89) hb)
                 have n2_ := Aside0.mk (Kd.R_elder' HO_9.out (Kd.R_base ho89) hb)
                 have n3_ := Aside0.mk (Kd.R_lower (Kd.R_new' (Kd.R_new' (Kd.R_new' ho89 (Kd.R_lt HO_6.out)) (Kd.R_lt HO_7.out)) (Kd.R_lt HO_9.out)) (below_size HB.out))
                 have n4_ := Aside0.mk (IsS59.below HI181.out hb)
                 have n5_ := Aside0.mk (below_step HB.out hb)
                 clear HO_6
                 clear HO_7
                 clear HO_9
                 clear HI181
                 clear HB
                 have HO_6 := n0_
                 have HO_7 := n1_
                 have HO_9 := n2_
                 have HO247 := n3_
                 have HI181 := n4_
                 have HB := n5_
                 clear n0_ n1_ n2_ n3_ n4_ n5_
                 clear hb ho89
                 obtain ⟨Ao90, co90, eo90⟩ := Kd.R_slice HO247.out
                 subst eo90
                 obtain ⟨ado90, fo90, _⟩ := Kd.at_int (Kd.R_reads' HO247.out).2.2 0 (by decide) (by rw [Ny245.out]; simp)
                 cases fo90
                 refine hK.out _ _ (HS0_) (fun hHeld => ?_)
                 clear hK K
                 refine norm_ (a' := ?_) ?_ ?_
                 rotate_left
                 ·show Act.put _ (some 82) _ = _
                  simp only [Act.put, sqA, sqZ, sqS, i64_w, i32_w]
                  rfl
                 refine one_ (i := 9) (N := some 84) #[true, true, true, true, true, true, true, true, true, true, false, false, false, false] rfl rfl (one_of HT_.out (by kernel_rfl)) (by decide) (fun K hK => ?_)
                 refine goes_ Try.func35 (by kernel_rfl) rfl #[.pointer (some ⟨g181, 0, none⟩), .int .i64 3] (by rfl) rfl rfl (by (try simp only [List.map_toArray, List.map_cons, List.map_nil]); first | done | rfl | (simp only [List.length_drop, List.length_take]; rfl)) ?_
                 with_reducible refine (spec_l1Rd_below.calls g181 t179 t228 3 t248 t249 w _ ?side1 ?side2 A79.out).mono ?_
                 (case side1 => repeat (first | (with_reducible first | exact HI181.out | apply IsS59.alloc | apply IsS59.drewN | apply IsS59.drew | apply IsS59.set_1) | exact HI181.out))
                 (case side2 => repeat (first | (with_reducible first | exact HB.out | apply below_alloc | apply pw_below_drewN | apply below_drew1 | refine below_set ?_ (IsS59.ge HI181.out)) | exact HB.out))
                 rintro e w91 ⟨rfl, hi, hb, hk⟩
                 have HS0_ := keep_cell hk (hHeld) (by first | (rw [add_block]; exact Kd.own_blk (IsS59.own_ne HI181.out HO_9.out (by decide))) | (show (Addr.add _ _).block ≠ _; rw [add_block]; exact Kd.own_blk (IsS59.own_ne HI181.out HO_9.out (by decide))) | exact Kd.own_blk (IsS59.own_ne HI181.out HO_9.out (by decide)) | (dsimp only; exact Kd.own_blk (IsS59.own_ne HI181.out HO_9.out (by decide))))
                 refine ⟨_, rfl, ?_⟩
                 have n0_ := Aside0.mk (Kd.R_mono (Kd.R_keep (IsS59.apart (show IsS59 w _ g181 t179 t228 from by repeat (first | (with_reducible first | exact HI181.out | apply IsS59.alloc | apply IsS59.drewN | apply IsS59.drew | apply IsS59.set_1) | exact HI181.out)) HO_6.out (by decide)) hk (fun _ h => h.2)) (fun _ h => h.1))
                 have n1_ := Aside0.mk (Kd.R_mono (Kd.R_keep (IsS59.apart (show IsS59 w _ g181 t179 t228 from by repeat (first | (with_reducible first | exact HI181.out | apply IsS59.alloc | apply IsS59.drewN | apply IsS59.drew | apply IsS59.set_1) | exact HI181.out)) HO_7.out (by decide)) hk (fun _ h => h.2)) (fun _ h => h.1))
                 have n2_ := Aside0.mk (Kd.R_mono (Kd.R_keep (IsS59.apart (show IsS59 w _ g181 t179 t228 from by repeat (first | (with_reducible first | exact HI181.out | apply IsS59.alloc | apply IsS59.drewN | apply IsS59.drew | apply IsS59.set_1) | exact HI181.out)) HO_9.out (by decide)) hk (fun _ h => h.2)) (fun _ h => h.1))
                 have n3_ := Aside0.mk (Kd.R_mono (Kd.R_keep (IsS59.apart (show IsS59 w _ g181 t179 t228 from by repeat (first | (with_reducible first | exact HI181.out | apply IsS59.alloc | apply IsS59.drewN | apply IsS59.drew | apply IsS59.set_1) | exact HI181.out)) HO247.out (by decide)) hk (fun _ h => h.2)) (fun _ h => h.1))
                 have n4_ := Aside0.mk (hb)
                 have n5_ := Aside0.mk (hi)
                 clear HO_6
                 clear HO_7
                 clear HO_9
                 clear HO247
                 clear HB
                 clear HI181
                 have HO_6 := n0_
                 have HO_7 := n1_
                 have HO_9 := n2_
                 have HO247 := n3_
                 have HB := n4_
                 have HI181 := n5_
                 clear n0_ n1_ n2_ n3_ n4_ n5_
                 (try clear hb)
                 (try clear hb2)
                 (try clear hk)
                 (try clear hi)
                 refine hK.out _ _ (HS0_) (fun hHeld => ?_)
                 clear hK K
                 refine norm_ (a' := ?_) ?_ ?_
                 rotate_left
                 ·show Act.put _ (some 84) _ = _
                  simp only [Act.put, sqA, sqZ, sqS, i64_w, i32_w]
                  rfl
                 exact norm_ (by simp only [putAll, Act.put, sqA, sqZ, sqS]) (hCont (.slice (some ado90) y245.length co90, ado90) _ ⟨hHeld, (Kd.R_mono HO247.out (fun _ hk => ⟨hk.1.1.2, ⟨hk.1.2, hk.2⟩⟩)), (Kd.R_mono HO_6.out (fun _ hk => ⟨hk.2, ⟨hk.1.1, hk.1.2⟩⟩)), (Kd.R_mono HO_7.out (fun _ hk => ⟨hk.2, ⟨hk.1.1, hk.1.2⟩⟩)), (Kd.R_mono HO_9.out (fun _ hk => ⟨hk.2, ⟨hk.1.1, hk.1.2⟩⟩)), ⟨_, rfl⟩, HI181.out, HB.out⟩)
                ·skip
                 refine goes_ Try.func35 (by kernel_rfl) rfl #[.pointer (some ⟨g181, 0, none⟩), .int .i64 3] (by rfl) rfl rfl (by (try simp only [List.map_toArray, List.map_cons, List.map_nil]); first | done | rfl | (simp only [List.length_drop, List.length_take]; rfl)) ?_
                 with_reducible refine (spec_l1Rd_below.calls g181 t179 t228 3 t248 t249 w _ ?side1 ?side2 A79.out).mono ?_
                 (case side1 => repeat (first | (with_reducible first | exact HI181.out | apply IsS59.alloc | apply IsS59.drewN | apply IsS59.drew | apply IsS59.set_1) | exact HI181.out))
                 (case side2 => repeat (first | (with_reducible first | exact HB.out | apply below_alloc | apply pw_below_drewN | apply below_drew1 | refine below_set ?_ (IsS59.ge HI181.out)) | exact HB.out))
                 rintro e w88 ⟨rfl, hi, hb, hk⟩
                 have HS0_ := keep_cell hk (hHeld) (by first | (rw [add_block]; exact Kd.own_blk (IsS59.own_ne HI181.out HO_9.out (by decide))) | (show (Addr.add _ _).block ≠ _; rw [add_block]; exact Kd.own_blk (IsS59.own_ne HI181.out HO_9.out (by decide))) | exact Kd.own_blk (IsS59.own_ne HI181.out HO_9.out (by decide)) | (dsimp only; exact Kd.own_blk (IsS59.own_ne HI181.out HO_9.out (by decide))))
                 refine ⟨_, rfl, ?_⟩
                 have n0_ := Aside0.mk (Kd.R_mono (Kd.R_keep (IsS59.apart (show IsS59 w _ g181 t179 t228 from by repeat (first | (with_reducible first | exact HI181.out | apply IsS59.alloc | apply IsS59.drewN | apply IsS59.drew | apply IsS59.set_1) | exact HI181.out)) HO_6.out (by decide)) hk (fun _ h => h.2)) (fun _ h => h.1))
                 have n1_ := Aside0.mk (Kd.R_mono (Kd.R_keep (IsS59.apart (show IsS59 w _ g181 t179 t228 from by repeat (first | (with_reducible first | exact HI181.out | apply IsS59.alloc | apply IsS59.drewN | apply IsS59.drew | apply IsS59.set_1) | exact HI181.out)) HO_7.out (by decide)) hk (fun _ h => h.2)) (fun _ h => h.1))
                 have n2_ := Aside0.mk (Kd.R_mono (Kd.R_keep (IsS59.apart (show IsS59 w _ g181 t179 t228 from by repeat (first | (with_reducible first | exact HI181.out | apply IsS59.alloc | apply IsS59.drewN | apply IsS59.drew | apply IsS59.set_1) | exact HI181.out)) HO_9.out (by decide)) hk (fun _ h => h.2)) (fun _ h => h.1))
                 have n3_ := Aside0.mk (hb)
                 have n4_ := Aside0.mk (hi)
                 clear HO_6
                 clear HO_7
                 clear HO_9
                 clear HB
                 clear HI181
                 have HO_6 := n0_
                 have HO_7 := n1_
                 have HO_9 := n2_
                 have HB := n3_
                 have HI181 := n4_
                 clear n0_ n1_ n2_ n3_ n4_
                 (try clear hb)
                 (try clear hb2)
                 (try clear hk)
                 (try clear hi)
                 refine hK.out _ _ (HS0_) (fun hHeld => ?_)
                 clear hK K
                 refine norm_ (a' := ?_) ?_ ?_
                 rotate_left
                 ·show Act.put _ (some 84) _ = _
                  simp only [Act.put, sqA, sqZ, sqS, i64_w, i32_w]
                  rfl
                 refine one_ (i := 7) (N := some 82) #[true, true, true, true, true, true, true, true, true, true, false, false, false, false] rfl rfl (one_of HT_.out (by kernel_rfl)) (by decide) (fun K hK => ?_)
                 refine Kd.R_lit_step (Kd.int .i64) _ 2 ?hg (N := 82) ?hd (xs := ([1000000, 1000001, rd x9_18 0] : List Int)) (inner := [.int .i64 1000000, .int .i64 1000001, .int .i64 (rd x9_18 0)]) (ok := fun _ => True) (okp := fun _ => True) ?hr ?hp (fun _ hk => hk) trivial (Below.refl _ _) (Nat.le_refl _) (by simp) ?_; (case hd => rfl); (case hg => rfl); (case hr => first | (go_simp; done) | (go_simp; rfl)); (case hp => exact (Reps.one (show Kd.M (Kd.int .i64) _ _ _ 1000000 [.int .i64 1000000] from rfl) (Reps.one (show Kd.M (Kd.int .i64) _ _ _ 1000001 [.int .i64 1000001] from rfl) (Reps.one (show Kd.M (Kd.int .i64) _ _ _ (rd x9_18 0) [.int .i64 (rd x9_18 0)] from rfl) (Reps.none _ _)))))
                 intro v246 w89 ho90 hb hg_ hnew_
                 have HS0_ := (hb.cell (World.block_lt_of_cell? _ _ (hHeld))).trans (hHeld)
                 clear hg_ hnew_
                 (first | rw [← Ny245.out] at ho90 | (simp only [Int.reduceToNat] at ho90; rw [← Ny245.out] at ho90))
                 have n0_ := Aside0.mk (Kd.R_elder' HO_6.out (Kd.R_base ho90) hb)
                 have n1_ := Aside0.mk (Kd.R_elder' HO_7.out (Kd.R_base ho90) hb)
                 have n2_ := Aside0.mk (Kd.R_elder' HO_9.out (Kd.R_base ho90) hb)
                 have n3_ := Aside0.mk (Kd.R_lower (Kd.R_new' (Kd.R_new' (Kd.R_new' ho90 (Kd.R_lt HO_6.out)) (Kd.R_lt HO_7.out)) (Kd.R_lt HO_9.out)) (below_size HB.out))
                 have n4_ := Aside0.mk (IsS59.below HI181.out hb)
                 have n5_ := Aside0.mk (below_step HB.out hb)
                 clear HO_6
                 clear HO_7
                 clear HO_9
                 clear HI181
                 clear HB
                 have HO_6 := n0_
                 have HO_7 := n1_
                 have HO_9 := n2_
                 have HO247 := n3_
                 have HI181 := n4_
                 have HB := n5_
                 clear n0_ n1_ n2_ n3_ n4_ n5_
                 clear hb ho90
                 obtain ⟨Ao91, co91, eo91⟩ := Kd.R_slice HO247.out
                 subst eo91
                 obtain ⟨ado91, fo91, _⟩ := Kd.at_int (Kd.R_reads' HO247.out).2.2 0 (by decide) (by rw [Ny245.out]; simp)
                 cases fo91
                 refine hK.out _ _ (HS0_) (fun hHeld => ?_)
                 clear hK K
                 refine norm_ (a' := ?_) ?_ ?_
                 rotate_left
                 ·show Act.put _ (some 82) _ = _
                  simp only [Act.put, sqA, sqZ, sqS, i64_w, i32_w]
                  rfl
                 exact norm_ (by simp only [putAll, Act.put, sqA, sqZ, sqS]) (hCont (.slice (some ado91) y245.length co91, ado91) _ ⟨hHeld, (Kd.R_mono HO247.out (fun _ hk => ⟨hk.1.1.2, ⟨hk.1.2, hk.2⟩⟩)), (Kd.R_mono HO_6.out (fun _ hk => ⟨hk.2, ⟨hk.1.1, hk.1.2⟩⟩)), (Kd.R_mono HO_7.out (fun _ hk => ⟨hk.2, ⟨hk.1.1, hk.1.2⟩⟩)), (Kd.R_mono HO_9.out (fun _ hk => ⟨hk.2, ⟨hk.1.1, hk.1.2⟩⟩)), ⟨_, rfl⟩, HI181.out, HB.out⟩)
               rintro ⟨v246, adz_v246⟩ w92 ⟨hS_, h0_, h1_, h2_, h3_, h4_, h5_, h6_⟩
               (try dsimp only at h0_ h1_ h2_ h3_ h4_ h5_ h6_)
               have n0_ := Aside0.mk h0_
               have n1_ := Aside0.mk h1_
               have n2_ := Aside0.mk h2_
               have n3_ := Aside0.mk h3_
               have n4_ := Aside0.mk h4_
               have n5_ := Aside0.mk h5_
               have n6_ := Aside0.mk h6_
               clear HO_6
               clear HO_7
               clear HO_9
               clear HI181
               clear HB
               clear h0_ h1_ h2_ h3_ h4_ h5_ h6_
               have HO247 := n0_
               have HO_6 := n1_
               have HO_7 := n2_
               have HO_9 := n3_
               have HA_HO247 := n4_
               have HI181 := n5_
               have HB := n6_
               clear n0_ n1_ n2_ n3_ n4_ n5_ n6_
               have hHeld : w92.cell? ad244 = some (.int .i64 (rd x9_18 0)) := hS_
               obtain ⟨co93, eo93⟩ := HA_HO247.out
               clear HA_HO247
               subst eo93
               have p85 : 0 ≤ ((ji82) : Int) := of_decide_eq_true (by first | (with_reducible assumption) | assumption)
               have q85 : ((ji82) : Int) < ((x9_18.length : Int) : Int) := of_decide_eq_true (by first | (with_reducible assumption) | assumption)
               obtain ⟨go85, co85, eo85, gb85, gl85, cl85, HG85⟩ := Kd.R_form HO_9.out (by omega)
               (first | cases eo85 | (injection eo85 with ea_ en_ ec_; (first | subst ea_ | (injection ea_ with ea_; subst ea_)); subst ec_; clear en_))
               have GB85 := Aside0.mk gb85
               have GG85 := Aside0.mk HG85
               clear gb85 gl85 HG85
               (first | simp only [add_plain] at hx244_0 | skip)
               obtain ⟨hx85_0, hf85_0⟩ := Kd.R_celln 0 HO_9.out ((ji82) : Int) p85 q85
               replace p85 := eq_true p85
               replace q85 := eq_true q85
               have HN181_go85 := Aside0.mk (show g181 ≠ go85 from by have h_ := IsS59.own_ne HI181.out HO_9.out (by decide); intro e_; exact h_ (by rw [e_]; rfl))
               have HP94 := Kd.R_putn HO_9.out ((ji82) : Int) (rd y245 t248)
               rw [← Ny251.out] at HP94
               have HQ94 := Aside0.mk HP94
               clear HP94
               refine norm_ (a' := ?_) ?_ ?_
               rotate_left
               ·simp only [putAll, Act.put, sqA, sqZ, sqS]
                rfl
               refine pure_ (i := 10) (N := some 85) (v := ?_) (a' := ?_) #[true, true, true, true, true, true, true, true, true, true, true, false, false, false] rfl rfl (any_of HT_.out (by kernel_rfl)) (fun _ _ _ h => h) (Or.inl ⟨by rfl, ?_⟩) ?_ ?_
               rotate_left
               ·intro w'
                go_simp
                with_reducible rfl
               rotate_left
               ·simp only [Act.put, sqA, sqZ, sqS, i64_w, i32_w]
                rfl
               refine one_ (i := 11) (N := some 86) #[true, true, true, true, true, true, true, true, true, true, true, true, false, false] rfl rfl (one_of HT_.out (by kernel_rfl)) (by decide) (fun K hK => ?_)
               (have p250 : 0 ≤ (t248 : Int) := of_decide_eq_true (by first | (with_reducible assumption) | assumption); have q250 : t248 < (y245.length : Int) := of_decide_eq_true (by first | (with_reducible assumption) | assumption); obtain ⟨ad250, e250, hx250_0⟩ := Kd.at_int (Kd.R_reads' HO247.out).2.2 t248 p250 q250; obtain rfl : adz_v246 = ad250 := (by injection e250))
               refine value_ (w1 := ?_) (v := ?_) (by rfl) rfl ?_ ?_
               rotate_left 2
               ·go_simp
                constructor
                ·rfl
                ·rfl
               clear hx250_0
               refine hK.out _ _ (hHeld) (fun hHeld => ?_)
               clear hK K
               refine norm_ (a' := ?_) ?_ ?_
               rotate_left
               ·show Act.put _ (some 86) _ = _
                simp only [Act.put, sqA, sqZ, sqS, i64_w, i32_w]
                rfl
               refine pure_ (i := 12) (N := some 87) (v := ?_) (a' := ?_) #[true, true, true, true, true, true, true, true, true, true, true, true, true, false] rfl rfl (any_of HT_.out (by kernel_rfl)) (fun _ _ _ h => h) (Or.inl ⟨by rfl, ?_⟩) ?_ ?_
               rotate_left
               ·intro w'
                go_simp
                with_reducible rfl
               rotate_left
               ·simp only [Act.put, sqA, sqZ, sqS, i64_w, i32_w]
                rfl
               refine last_ (i := 13) (N := none) #[true, true, true, true, true, true, true, true, true, true, true, true, true, true] rfl rfl (one_of HT_.out (by kernel_rfl)) (by decide) (fun K hK => ?_)
               refine skip_ (w1 := ?_) (by rfl) rfl ?_ ?_
               rotate_left
               ·go_simp
                rfl
               refine hK.out _ _ ?_
               clear hK K
               refine done_ (done_of HT_.out (by kernel_rfl)) ?_
               try go_wp2
               go_meet
               case rel => exact ⟨_, (t182), (x7_1), (y251), H', ⟨by have := HK1.out; have := HJ18.out; first | omega | exact Nat.le_refl _⟩, ⟨by (with_reducible repeat (first | apply Kd.R_alloc | apply Kd.R_drewN | apply Kd.R_drew)); exact Kd.R_mono (Kd.R_far (p := ⟨go85, ((ji82) : Int).toNat, none⟩) (Kd.R_mono HO_6.out (fun k_ hk => (⟨hk, fun e_ => hk.2.2 (by rw [e_]; rfl)⟩ : _ ∧ k_ ≠ go85))) (fun _ hk => hk.2) (.int .i64 (rd y245 t248))) (fun _ hk => ⟨hk.1.2.1, hk.1.2.2⟩)⟩, ⟨by (with_reducible repeat (first | apply Kd.R_alloc | apply Kd.R_drewN | apply Kd.R_drew)); exact Kd.R_mono (Kd.R_far (p := ⟨go85, ((ji82) : Int).toNat, none⟩) (Kd.R_mono HO_7.out (fun k_ hk => (⟨hk, fun e_ => hk.2.2 (by rw [e_]; rfl)⟩ : _ ∧ k_ ≠ go85))) (fun _ hk => hk.2) (.int .i64 (rd y245 t248))) (fun _ hk => ⟨hk.1.2.1, hk.1.2.2⟩)⟩, ⟨by (with_reducible repeat (first | apply Kd.R_alloc | apply Kd.R_drewN | apply Kd.R_drew)); exact Kd.R_mono HQ94.out (fun _ hk => ⟨hk.2.1, hk.2.2⟩)⟩, ⟨by repeat (first | (with_reducible first | exact HB.out | apply below_alloc | apply pw_below_drewN | apply below_drew1 | refine below_set ?_ GB85.out | refine below_set ?_ (IsS59.ge HI181.out)) | exact HB.out)⟩⟩
              ·rw [if_neg c84] at H
               exact absurd H (by simp)
             ·rw [if_neg c83] at H
              exact absurd H (by simp)
            ·rw [if_neg c81] at H
             exact absurd H (by simp)
           ·rw [if_neg c80] at H
            exact absurd H (by simp)
          ·rw [if_neg c78] at H
           exact absurd H (by simp)
         ·rw [if_neg c77] at H
          have c77b0 : (t227 == 2) = false := beq_eq_false_iff_ne.mpr c77
          have c77b1 : (t227 != 2) = true := bne_iff_ne.mpr c77
          by_cases c95 : t227 = 3
          ·rw [if_pos c95] at H
           have c95b0 : (t227 == 3) = true := beq_iff_eq.mpr c95
           have c95b1 : (t227 != 3) = false := bne_eq_false_iff_eq.mpr c95
           clear c95
           obtain ⟨y252, hy252⟩ : ∃ y_ : List Int, y_ = (([1] : List Int)) := ⟨_, rfl⟩
           replace H : (if x7_1.length + y252.length < 17592186044416 then (spec_DrawRemap.j2 kj18 t182 (x7_1 ++ y252) x9_18) else (none)) = some (r1, r2, r3) := by first | (rw [hy252]; with_reducible exact H) | (have H2_ := (Option.bind_some _ _).symm.trans H; rw [hy252]; with_reducible exact H2_) | (have H2_ := (Option.bind_some _ _).symm.trans H; with_reducible exact H2_) | with_reducible exact H | (rw [hy252]; exact H) | exact H
           have Ny252 := Aside0.mk hy252
           clear hy252
           by_cases c96 : x7_1.length + y252.length < 17592186044416
           ·rw [if_pos c96] at H
            have LMc96 := Aside0.mk c96
            clear c96
            obtain ⟨y255, hy255⟩ : ∃ y_ : List Int, y_ = (x7_1 ++ y252) := ⟨_, rfl⟩
            replace H : (spec_DrawRemap.j2 kj18 t182 y255 x9_18) = some (r1, r2, r3) := by first | (rw [hy255]; with_reducible exact H) | (have H2_ := (Option.bind_some _ _).symm.trans H; rw [hy255]; with_reducible exact H2_) | (have H2_ := (Option.bind_some _ _).symm.trans H; with_reducible exact H2_) | with_reducible exact H | (rw [hy255]; exact H) | exact H
            have Ny255 := Aside0.mk hy255
            clear hy255
            have H' := Aside0.mk H
            clear H
            go_wp2_with (first | ((with_reducible refine gate_dst (N := 91) rfl ?_); refine Kd.R_lit (Kd.int .i64) _ 2 ?hg (N := 91) ?hd (xs := ([1] : List Int)) (inner := [.int .i64 1]) (ok := fun _ => True) (okp := fun _ => True) ?hr ?hp (fun _ hk => hk) trivial (Below.refl _ _) (Nat.le_refl _) (by simp) ?_; (case hd => rfl); (case hg => rfl); (case hr => first | (go_simp; done) | (go_simp; rfl)); (case hp => exact (Reps.one (show Kd.M (Kd.int .i64) _ _ _ 1 [.int .i64 1] from rfl) (Reps.none _ _))); intro v253 w97 ho98 hb hg_ hnew_; clear hg_ hnew_; (first | rw [← Ny252.out] at ho98 | (simp only [Int.reduceToNat] at ho98; rw [← Ny252.out] at ho98)); have n0_ := Aside0.mk (Kd.R_elder' HO_6.out (Kd.R_base ho98) hb); have n1_ := Aside0.mk (Kd.R_elder' HO_7.out (Kd.R_base ho98) hb); have n2_ := Aside0.mk (Kd.R_elder' HO_9.out (Kd.R_base ho98) hb); have n3_ := Aside0.mk (Kd.R_lower (Kd.R_new' (Kd.R_new' (Kd.R_new' ho98 (Kd.R_lt HO_6.out)) (Kd.R_lt HO_7.out)) (Kd.R_lt HO_9.out)) (below_size HB.out)); have n4_ := Aside0.mk (IsS59.below HI181.out hb); have n5_ := Aside0.mk (below_step HB.out hb); clear HO_6; clear HO_7; clear HO_9; clear HI181; clear HB; have HO_6 := n0_; have HO_7 := n1_; have HO_9 := n2_; have HO254 := n3_; have HI181 := n4_; have HB := n5_; clear n0_ n1_ n2_ n3_ n4_ n5_; clear hb ho98; obtain ⟨Ao100, co100, eo100⟩ := Kd.R_slice HO254.out; subst eo100) | ((with_reducible refine gate_builtin (b := .append) (xs := #[.tmp 90, .tmp 91]) rfl ?_); at_builtin; refine Kd.R_append_rows (Kd.int .i64) (w0 := w) w.heap.size rfl (.tmp 90) (.tmp 91) 30 2 (.int .i64 0) 8 rfl Try.underlying30 info2 rfl (by decide) (by omega) u7 x7_1 y252 _ _ _ (fun k_ => some k_ ≠ (.slice Ao20 t182.length co20 : Value).ownBlock ∧ some k_ ≠ (u9 : Value).ownBlock ∧ some k_ ≠ (.slice Ao100 y252.length co100 : Value).ownBlock) (fun _ => False) rfl rfl ?aO ?aR (fun _ _ h => h) (fun _ h => h.elim) ?aF ?aB ?aS ?aL ?_; (case aR => repeat (first | exact (Kd.R_reads' HO254.out).2.2 | (with_reducible refine Kd.C_alloc ?_ _) | (with_reducible refine Kd.C_drewN ?_ _) | (with_reducible refine Kd.C_drew ?_))); (case aB => exact HB.out); (case aF => exact (fun k_ hk => ⟨Kd.fresh' (Kd.R_lt HO_6.out) k_ hk, Kd.fresh' (Kd.R_lt HO_9.out) k_ hk, Kd.fresh' (Kd.R_lt HO254.out) k_ hk⟩)); (case aO => exact (Kd.R_mono HO_7.out (fun _ hk => ⟨hk.1.1, ⟨hk.1.2, hk.2⟩⟩))); (case aS => exact (below_size HB.out)); (case aL => have := LMc96.out; omega); intro v256 w99 ho hb hg hat; rw [← Ny255.out] at ho; have n0_ := Aside0.mk (Kd.R_after (ok := (fun k_ => some k_ ≠ (u9 : Value).ownBlock ∧ some k_ ≠ (.slice Ao100 y252.length co100 : Value).ownBlock)) (Kd.R_mono HO_6.out (fun _ hk => ⟨⟨hk.1.2, hk.2⟩, hk.1.1⟩)) hg hat); have n1_ := Aside0.mk (Kd.R_after (ok := (fun k_ => some k_ ≠ (.slice Ao20 t182.length co20 : Value).ownBlock ∧ some k_ ≠ (.slice Ao100 y252.length co100 : Value).ownBlock)) (Kd.R_mono HO_9.out (fun _ hk => ⟨⟨hk.1.1, hk.2⟩, hk.1.2⟩)) hg hat); have n2_ := Aside0.mk (IsS59.grown HI181.out hg (IsS59.own_ne HI181.out HO_7.out (by decide))); have n3_ := Aside0.mk (Kd.R_after (ok := (fun k_ => some k_ ≠ (.slice Ao20 t182.length co20 : Value).ownBlock ∧ some k_ ≠ (u9 : Value).ownBlock)) (Kd.R_mono HO254.out (fun _ hk => ⟨⟨hk.1.1.2, hk.2⟩, hk.1.2⟩)) hg hat); have n4_ := Aside0.mk (hb); have n5_ := Aside0.mk (ho); clear HO_6; clear HO_9; clear HI181; clear HO254; clear HB; clear HO_7; have HO_6 := n0_; have HO_9 := n1_; have HI181 := n2_; have HO254 := n3_; have HB := n4_; have HO257 := n5_; clear n0_ n1_ n2_ n3_ n4_ n5_; clear ho hb hg hat))
            go_meet
            case rel => exact ⟨_, (t182), (y255), (x9_18), H', ⟨by have := HK1.out; have := HJ18.out; first | omega | exact Nat.le_refl _⟩, ⟨by (with_reducible repeat (first | apply Kd.R_alloc | apply Kd.R_drewN | apply Kd.R_drew)); exact Kd.R_mono HO_6.out (fun _ hk => ⟨hk.2, hk.1.1⟩)⟩, ⟨by (with_reducible repeat (first | apply Kd.R_alloc | apply Kd.R_drewN | apply Kd.R_drew)); exact Kd.R_mono HO257.out (fun _ hk => ⟨hk.1, hk.2.1⟩)⟩, ⟨by (with_reducible repeat (first | apply Kd.R_alloc | apply Kd.R_drewN | apply Kd.R_drew)); exact Kd.R_mono HO_9.out (fun _ hk => ⟨hk.1.1, hk.2⟩)⟩, ⟨HB.out⟩⟩
           ·rw [if_neg c96] at H
            exact absurd H (by simp)
          ·rw [if_neg c95] at H
           have c95b0 : (t227 == 3) = false := beq_eq_false_iff_ne.mpr c95
           have c95b1 : (t227 != 3) = true := bne_iff_ne.mpr c95
           by_cases c101 : t227 = 4
           ·rw [if_pos c101] at H
            have c101b0 : (t227 == 4) = true := beq_iff_eq.mpr c101
            have c101b1 : (t227 != 4) = false := bne_eq_false_iff_eq.mpr c101
            clear c101
            by_cases c102 : 1 ≤ (x9_18.length : Int)
            ·rw [if_pos c102] at H
             have c102b0 := eq_true c102
             have c102b1 : decide (1 ≤ (x9_18.length : Int)) = true := decide_eq_true c102
             clear c102
             obtain ⟨y258, hy258⟩ : ∃ y_ : List Int, y_ = (x9_18.take (1 : Int).toNat) := ⟨_, rfl⟩
             replace H : (spec_DrawRemap.j2 kj18 t182 x7_1 y258) = some (r1, r2, r3) := by first | (rw [hy258]; with_reducible exact H) | (have H2_ := (Option.bind_some _ _).symm.trans H; rw [hy258]; with_reducible exact H2_) | (have H2_ := (Option.bind_some _ _).symm.trans H; with_reducible exact H2_) | with_reducible exact H | (rw [hy258]; exact H) | exact H
             have Ny258 := Aside0.mk hy258
             clear hy258
             have H' := Aside0.mk H
             clear H
             obtain ⟨Ao103, co103, eo103⟩ := Kd.R_slice HO_9.out
             subst eo103
             have q104 : (1 : Int) ≤ ((x9_18.length : Int) : Int) := of_decide_eq_true (by first | (with_reducible assumption) | assumption)
             obtain ⟨i0104, hi0104, _, hsz104, _⟩ := info_parts info2
             have hcut104 := cut_to (P := Try.prog) 30 2 .i64 Try.underlying30 hi0104 Ao103 x9_18.length co103 1 (by omega) q104 (Kd.R_reads' HO_9.out).2.1
             have hr104 := Kd.R_take (m := (1 : Int).toNat) HO_9.out (by omega)
             have hy104 : y258.length = (1 : Int).toNat := (by rw [Ny258.out, List.length_take]; omega)
             rw [← Ny258.out] at hr104
             rw [← hy104] at hr104 hcut104
             clear hy104 hi0104 hsz104 HO_9
             have HO260 := Aside0.mk hr104
             clear hr104
             replace q104 := eq_true q104
             (try rw [show (.slice Ao103 x9_18.length co103 : Value).ownBlock = (.slice Ao103 y258.length co103 : Value).ownBlock from by first | rfl | (cases Ao103 <;> rfl)] at HO_6)
             (try rw [show (.slice Ao103 x9_18.length co103 : Value).ownBlock = (.slice Ao103 y258.length co103 : Value).ownBlock from by first | rfl | (cases Ao103 <;> rfl)] at HO_7)
             go_wp2
             go_meet
             case rel => exact ⟨_, (t182), (x7_1), (y258), H', ⟨by have := HK1.out; have := HJ18.out; first | omega | exact Nat.le_refl _⟩, ⟨HO_6.out⟩, ⟨HO_7.out⟩, ⟨HO260.out⟩, ⟨HB.out⟩⟩
            ·rw [if_neg c102] at H
             exact absurd H (by simp)
           ·rw [if_neg c101] at H
            have c101b0 : (t227 == 4) = false := beq_eq_false_iff_ne.mpr c101
            have c101b1 : (t227 != 4) = true := bne_iff_ne.mpr c101
            by_cases c105 : t227 = 5
            ·rw [if_pos c105] at H
             have c105b0 : (t227 == 5) = true := beq_iff_eq.mpr c105
             have c105b1 : (t227 != 5) = false := bne_eq_false_iff_eq.mpr c105
             clear c105
             obtain ⟨y261, hy261⟩ : ∃ y_ : List Int, y_ = (([] : List Int)) := ⟨_, rfl⟩
             replace H : (if y261.length + t182.length < 17592186044416 then (spec_DrawRemap.j2 kj18 t182 x7_1 (y261 ++ t182)) else (none)) = some (r1, r2, r3) := by first | (rw [hy261]; with_reducible exact H) | (have H2_ := (Option.bind_some _ _).symm.trans H; rw [hy261]; with_reducible exact H2_) | (have H2_ := (Option.bind_some _ _).symm.trans H; with_reducible exact H2_) | with_reducible exact H | (rw [hy261]; exact H) | exact H
             have Ny261 := Aside0.mk hy261
             clear hy261
             by_cases c106 : y261.length + t182.length < 17592186044416
             ·rw [if_pos c106] at H
              have LMc106 := Aside0.mk c106
              clear c106
              obtain ⟨y264, hy264⟩ : ∃ y_ : List Int, y_ = (y261 ++ t182) := ⟨_, rfl⟩
              replace H : (spec_DrawRemap.j2 kj18 t182 x7_1 y264) = some (r1, r2, r3) := by first | (rw [hy264]; with_reducible exact H) | (have H2_ := (Option.bind_some _ _).symm.trans H; rw [hy264]; with_reducible exact H2_) | (have H2_ := (Option.bind_some _ _).symm.trans H; with_reducible exact H2_) | with_reducible exact H | (rw [hy264]; exact H) | exact H
              have Ny264 := Aside0.mk hy264
              clear hy264
              have H' := Aside0.mk H
              clear H
              go_wp2_with (first | ((with_reducible refine gate_dst (N := 99) rfl ?_); refine Kd.R_lit (Kd.int .i64) _ 2 ?hg (N := 99) ?hd (xs := ([] : List Int)) (inner := []) (ok := fun _ => True) (okp := fun _ => True) ?hr ?hp (fun _ hk => hk) trivial (Below.refl _ _) (Nat.le_refl _) (by simp) ?_; (case hd => rfl); (case hg => rfl); (case hr => first | (go_simp; done) | (go_simp; rfl)); (case hp => exact (Reps.none _ _)); intro v262 w107 ho108 hb hg_ hnew_; clear hg_ hnew_; (first | rw [← Ny261.out] at ho108 | (simp only [Int.reduceToNat] at ho108; rw [← Ny261.out] at ho108)); have n0_ := Aside0.mk (Kd.R_elder' HO_6.out (Kd.R_base ho108) hb); have n1_ := Aside0.mk (Kd.R_elder' HO_7.out (Kd.R_base ho108) hb); have n2_ := Aside0.mk (Kd.R_elder' HO_9.out (Kd.R_base ho108) hb); have n3_ := Aside0.mk (Kd.R_lower (Kd.R_new' (Kd.R_new' (Kd.R_new' ho108 (Kd.R_lt HO_6.out)) (Kd.R_lt HO_7.out)) (Kd.R_lt HO_9.out)) (below_size HB.out)); have n4_ := Aside0.mk (IsS59.below HI181.out hb); have n5_ := Aside0.mk (below_step HB.out hb); clear HO_6; clear HO_7; clear HO_9; clear HI181; clear HB; have HO_6 := n0_; have HO_7 := n1_; have HO_9 := n2_; have HO263 := n3_; have HI181 := n4_; have HB := n5_; clear n0_ n1_ n2_ n3_ n4_ n5_; clear hb ho108) | ((with_reducible refine gate_builtin (b := .append) (xs := #[.tmp 99, .tmp 100]) rfl ?_); at_builtin; refine Kd.R_append_rows (Kd.int .i64) (w0 := w) w.heap.size rfl (.tmp 99) (.tmp 100) 30 2 (.int .i64 0) 8 rfl Try.underlying30 info2 rfl (by decide) (by omega) v262 y261 t182 _ _ _ (fun k_ => some k_ ≠ (.slice Ao20 t182.length co20 : Value).ownBlock ∧ some k_ ≠ (u7 : Value).ownBlock ∧ some k_ ≠ (u9 : Value).ownBlock) (fun _ => False) rfl rfl ?aO ?aR (fun _ _ h => h) (fun _ h => h.elim) ?aF ?aB ?aS ?aL ?_; (case aR => repeat (first | exact (Kd.R_reads' HO_6.out).2.2 | (with_reducible refine Kd.C_alloc ?_ _) | (with_reducible refine Kd.C_drewN ?_ _) | (with_reducible refine Kd.C_drew ?_))); (case aB => exact HB.out); (case aF => exact (fun k_ hk => ⟨Kd.fresh' (Kd.R_lt HO_6.out) k_ hk, Kd.fresh' (Kd.R_lt HO_7.out) k_ hk, Kd.fresh' (Kd.R_lt HO_9.out) k_ hk⟩)); (case aO => exact (Kd.R_mono HO263.out (fun _ hk => ⟨hk.1.1.2, ⟨hk.1.2, hk.2⟩⟩))); (case aS => exact (below_size HB.out)); (case aL => have := LMc106.out; omega); intro v265 w109 ho hb hg hat; rw [← Ny264.out] at ho; have n0_ := Aside0.mk (Kd.R_after (ok := (fun k_ => some k_ ≠ (u7 : Value).ownBlock ∧ some k_ ≠ (u9 : Value).ownBlock)) HO_6.out hg hat); have n1_ := Aside0.mk (Kd.R_after (ok := (fun k_ => some k_ ≠ (.slice Ao20 t182.length co20 : Value).ownBlock ∧ some k_ ≠ (u9 : Value).ownBlock)) HO_7.out hg hat); have n2_ := Aside0.mk (Kd.R_after (ok := (fun k_ => some k_ ≠ (.slice Ao20 t182.length co20 : Value).ownBlock ∧ some k_ ≠ (u7 : Value).ownBlock)) HO_9.out hg hat); have n3_ := Aside0.mk (IsS59.grown HI181.out hg (IsS59.own_ne HI181.out HO263.out (by decide))); have n4_ := Aside0.mk (hb); have n5_ := Aside0.mk (ho); clear HO_6; clear HO_7; clear HO_9; clear HI181; clear HB; clear HO263; have HO_6 := n0_; have HO_7 := n1_; have HO_9 := n2_; have HI181 := n3_; have HB := n4_; have HO266 := n5_; clear n0_ n1_ n2_ n3_ n4_ n5_; clear ho hb hg hat))
              go_meet
              case rel => exact ⟨_, (t182), (x7_1), (y264), H', ⟨by have := HK1.out; have := HJ18.out; first | omega | exact Nat.le_refl _⟩, ⟨by (with_reducible repeat (first | apply Kd.R_alloc | apply Kd.R_drewN | apply Kd.R_drew)); exact Kd.R_mono HO_6.out (fun _ hk => ⟨hk.1.1, hk.2⟩)⟩, ⟨by (with_reducible repeat (first | apply Kd.R_alloc | apply Kd.R_drewN | apply Kd.R_drew)); exact Kd.R_mono HO_7.out (fun _ hk => ⟨hk.1.1, hk.2⟩)⟩, ⟨by (with_reducible repeat (first | apply Kd.R_alloc | apply Kd.R_drewN | apply Kd.R_drew)); exact Kd.R_mono HO266.out (fun _ hk => ⟨hk.1, hk.2.1⟩)⟩, ⟨HB.out⟩⟩
             ·rw [if_neg c106] at H
              exact absurd H (by simp)
            ·rw [if_neg c105] at H
             have c105b0 : (t227 == 5) = false := beq_eq_false_iff_ne.mpr c105
             have c105b1 : (t227 != 5) = true := bne_iff_ne.mpr c105
             have H' := Aside0.mk H
             clear H
             go_wp2
             go_meet
             case rel => exact ⟨_, (t182), (x7_1), (x9_18), H', ⟨by have := HK1.out; have := HJ18.out; first | omega | exact Nat.le_refl _⟩, ⟨HO_6.out⟩, ⟨HO_7.out⟩, ⟨HO_9.out⟩, ⟨HB.out⟩⟩
      case rest =>
       clear HC48
       try clear c1
       try clear q1
       try clear p2
       try clear q2
       try clear hx2
       try clear qi2
       try clear c3
       try clear c6
       try clear p6
       try clear q6
       try clear hx6
       try clear qi6
       try clear hf6
       try clear c7
       try clear c8
       try clear p8
       try clear q8
       try clear hx8
       try clear hf8
       try clear c9
       try clear c10
       try clear q10
       try clear hx23
       try clear p24
       try clear q24
       try clear hx24
       try clear qi24
       try clear p25
       try clear q25
       try clear hx25
       try clear qi25
       try clear c35
       try clear c62
       try clear c62b0
       try clear c62b1
       try clear c63
       try clear p64
       try clear c65
       try clear c66
       try clear c67
       try clear p68
       try clear q68
       try clear hx68
       try clear qi68
       try clear hf68
       try clear c77
       try clear c77b0
       try clear c77b1
       try clear c78
       try clear c78b0
       try clear c78b1
       try clear c80
       try clear c80b0
       try clear c81
       try clear c81b0
       try clear c83
       try clear c83b0
       try clear c84
       try clear c84b0
       try clear p85
       try clear q85
       try clear hx85
       try clear hf85
       try clear c95
       try clear c95b0
       try clear c95b1
       try clear c96
       try clear c101
       try clear c101b0
       try clear c101b1
       try clear c102
       try clear c102b0
       try clear c102b1
       try clear q104
       try clear c105
       try clear c105b0
       try clear c105b1
       try clear c106
       try clear hx236_0
       try clear hx242_0
       try clear hx244_0
       try clear hx250_0
       try clear hx68_0
       try clear hx85_0
       try clear p242
       try clear p244
       try clear p250
       try clear p68
       try clear p85
       try clear q104
       try clear q242
       try clear q244
       try clear q250
       try clear q68
       try clear q85
       obtain ⟨kq, x6_47, x7_47, x9_47, HA, HJ47, HO_6, HO_7, HO_9, HB⟩ := hcut
       have hl6_47 := (Kd.R_reads' HO_6.out).1
       rw [hl6_47] at HO_6
       (try simp only [hl6_47])
       (try simp only [hl6_47] at HO_7)
       (try simp only [hl6_47] at HO_9)
       cases kq with
       | zero => exact absurd HA.out (by simp [spec_DrawRemap.j2])
       | succ kj47 =>
        have H := HA.out
        clear HA
        simp only [spec_DrawRemap.j2] at H
        simp only [Option.some.injEq, Prod.mk.injEq] at H
        obtain ⟨rfl, rfl, rfl⟩ := H
        go_wp2
        go_ret3
        exact ⟨_, _, _, by first | rfl | (simp [errW_none, errW_some] <;> rfl) | (simp [*, errW_none, errW_some] <;> rfl), by (with_reducible repeat (first | apply Kd.R_alloc | apply Kd.R_drewN | apply Kd.R_drew)); first | exact HO_6.out | exact R_okl HO_6.out, by (with_reducible repeat (first | apply Kd.R_alloc | apply Kd.R_drewN | apply Kd.R_drew)); first | exact HO_7.out | exact R_okl HO_7.out, by (with_reducible repeat (first | apply Kd.R_alloc | apply Kd.R_drewN | apply Kd.R_drew)); first | exact HO_9.out | exact R_okl HO_9.out, by repeat (first | (with_reducible first | exact HB.out | apply below_alloc | apply pw_below_drewN | apply below_drew1) | exact HB.out)⟩

end Go.Proofs.Ytmndffnjejgfoab.Q
