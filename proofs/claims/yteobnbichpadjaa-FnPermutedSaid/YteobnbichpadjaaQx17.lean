/- Plain Lean functions with the same answers as the Go functions of this seat, and a proof for each that the Go code comes to just these answers; no condition. Written by a program of this session (the kit's printer, turned). -/
import Derived.Test.YteobnbichpadjaaQx0
import Derived.Test.YteobnbichpadjaaQx15
namespace Go.Proofs.Yteobnbichpadjaa.Q
open Go.RowKit Go.Proofs.YteobnbichpadjaaW.PrintWords Go.Proofs.YteobnbichpadjaaW.PrintLast Go.Proofs.YteobnbichpadjaaW.PrintMore Go.Proofs.YteobnbichpadjaaW.PrintFlt
attribute [local go_sem] cmp_lss cmp_leq cmp_gtr cmp_geq cmp_eql cmp_neq flt_l flt_r fgt_l fgt_r feq_l feq_r fne_l fne_r ord_lt ord_gt ord_eq ord_ne conv_int conv_flt foi_fold run_store_flt
attribute [local go_sem] max2_int min2_int max_two min_two max_three min_three max_four min_four   -- for this text's walks alone
set_option linter.unusedVariables false
set_option linter.unusedSimpArgs false

/-! ### impl_Permuted: function 29 -/
def impl_Permuted.fin (want sum n w : Int) : Int × Int := (if sum ≥ want then wrap64 (n + 1) else n, wrap64 (w + 1))
def impl_Permuted.l : Nat → List Int → Int → Int → Int → Int → Int → Int → Option (Int × Int)
 | 0, _, _, _, _, _, _, _ => none
 | k + 1, xs, want, i, left, sum, n, w => if wrap64 (i + left) ≤ (xs.length : Int) then (if 0 ≤ i then (if i < (xs.length : Int) then ((if wrap64 (left - 1) = 0 then some (impl_Permuted.fin want (wrap64 (sum + rd xs i)) n w) else impl_Permuted.l k xs want (wrap64 (i + 1)) (wrap64 (left - 1)) (wrap64 (sum + rd xs i)) n w).bind fun p => impl_Permuted.l k xs want (wrap64 (i + 1)) left sum p.1 p.2) else none) else none) else some (n, w)
def impl_Permuted.c (k : Nat) (xs : List Int) (want i left sum n w : Int) : Option (Int × Int) := if left = 0 then some (impl_Permuted.fin want sum n w) else impl_Permuted.l k xs want i left sum n w
structure impl_Permuted.Fx (w : World) (gw gs gn ga gc : Nat) (A : Option Addr) (cap : Nat) (xs : List Int) (want n ways : Int) : Prop where
 hw : w.heap[gw]? = some (.cells #[.int .i64 ways] 2 (0, 0))
 hn : w.heap[gn]? = some (.cells #[.int .i64 n] 2 (0, 0))
 hs : w.heap[gs]? = some (.cells #[.int .i64 want] 2 (0, 0))
 ha : w.heap[ga]? = some (.cells #[.slice A xs.length cap] 45 (0, 0))
 hc : w.heap[gc]? = some (.cells #[.func (.func 57) #[] #[.pointer (some ⟨gw, 0, none⟩), .pointer (some ⟨gs, 0, none⟩), .pointer (some ⟨gn, 0, none⟩), .pointer (some ⟨ga, 0, none⟩), .pointer (some ⟨gc, 0, none⟩)]] 81 (0, 0))
 nw : gn ≠ gw
 sw : gs ≠ gw
 sn : gs ≠ gn
 xs_ : ∀ W', Kept w W' (fun k => k = gn ∨ k = gw) → (Kd.int .i64).C W' A xs.length xs
theorem impl_Permuted.Fx.step {w w1 : World} {gw gs gn ga gc : Nat} {A : Option Addr} {cap : Nat} {xs : List Int} {want n ways n1 ways1 : Int} (h : impl_Permuted.Fx w gw gs gn ga gc A cap xs want n ways) (hk : Kept w w1 (fun k => k = gn ∨ k = gw)) (h1 : w1.heap[gw]? = some (.cells #[.int .i64 ways1] 2 (0, 0))) (h2 : w1.heap[gn]? = some (.cells #[.int .i64 n1] 2 (0, 0))) : impl_Permuted.Fx w1 gw gs gn ga gc A cap xs want n1 ways1 := by
 have a1 := blk_ne h.ha h.hn (by decide)
 have a2 := blk_ne h.ha h.hw (by decide)
 have c1 := blk_ne h.hc h.hn (by decide)
 have c2 := blk_ne h.hc h.hw (by decide)
 exact ⟨h1, h2, blk_kept h.hs hk (fun e => e.elim h.sn h.sw), blk_kept h.ha hk (fun e => e.elim a1 a2), blk_kept h.hc hk (fun e => e.elim c1 c2), h.nw, h.sw, h.sn, Kd.C_kept_step h.xs_ hk⟩
def impl_Permuted.Post (w0 w : World) (gw gs gn ga gc : Nat) (A : Option Addr) (cap : Nat) (xs : List Int) (want : Int) (p : Int × Int) (e : Ending) (w' : World) : Prop := e = .returned (.tuple #[]) ∧ Below w0.heap.size w0 w' ∧ Kept w w' (fun k => k = gn ∨ k = gw) ∧ impl_Permuted.Fx w' gw gs gn ga gc A cap xs want p.1 p.2
set_option maxHeartbeats 8000000 in
set_option maxRecDepth 100000 in
theorem impl_Permuted.leaf (w0 : World) (gw gs gn ga gc : Nat) (A : Option Addr) (cap : Nat) (xs : List Int) (want n ways i sum : Int) (w : World) (h : impl_Permuted.Fx w gw gs gn ga gc A cap xs want n ways) (hgw : w0.heap.size ≤ gw) (hgn : w0.heap.size ≤ gn) (hB : Below w0.heap.size w0 w) :
  Calls Try.prog 57 #[.int .i64 i, .int .i64 0, .int .i64 sum, .pointer (some ⟨gw, 0, none⟩), .pointer (some ⟨gs, 0, none⟩), .pointer (some ⟨gn, 0, none⟩), .pointer (some ⟨ga, 0, none⟩), .pointer (some ⟨gc, 0, none⟩)] w (impl_Permuted.Post w0 w gw gs gn ga gc A cap xs want (impl_Permuted.fin want sum n ways)) := by
 have H := Aside0.mk h
 have HB := Aside0.mk hB
 have HG := Aside0.mk (And.intro hgw hgn)
 clear hB hgw hgn
 have hw1 := blk_cell h.hw 0
 have hw2 := blk_frozen h.hw 0
 have hn1 := blk_cell h.hn 0
 have hn2 := blk_frozen h.hn 0
 have hs1 := blk_cell h.hs 0
 have nw := h.nw
 have sw := h.sw
 have sn := h.sn
 simp only [List.getElem?_toArray, List.getElem?_cons_zero] at hw1 hn1 hs1
 clear h
 go_enter Try.func57, Try.ntmps57
 by_cases c : sum ≥ want
 ·go_wp2
  have k2 : Kept w ((w.setCell ⟨gw, 0, none⟩ (.int .i64 (wrap64 (ways + 1)))).setCell ⟨gn, 0, none⟩ (.int .i64 (wrap64 (n + 1)))) (fun k => k = gn ∨ k = gw) := Kept.setCell (Kept.setCell (Kept.refl _ _) (.inl (.inr rfl)) _) (.inl (.inl rfl)) _
  have e : impl_Permuted.fin want sum n ways = (wrap64 (n + 1), wrap64 (ways + 1)) := by unfold impl_Permuted.fin; rw [if_pos c]
  rw [e]
  exact bodyPost_ret (v := .tuple #[]) (by simp [results, Try.results57, go_sem]) rfl ⟨rfl, below_set (below_set HB.out HG.out.1) HG.out.2, k2, H.out.step k2 (blk_far (blk_put H.out.hw 0 _ rfl) (Ne.symm nw) _) (blk_put (blk_far H.out.hn nw _) 0 _ rfl)⟩
 ·go_wp2
  have k2 : Kept w (w.setCell ⟨gw, 0, none⟩ (.int .i64 (wrap64 (ways + 1)))) (fun k => k = gn ∨ k = gw) := Kept.setCell (Kept.refl _ _) (.inl (.inr rfl)) _
  have e : impl_Permuted.fin want sum n ways = (n, wrap64 (ways + 1)) := by unfold impl_Permuted.fin; rw [if_neg (by omega)]
  rw [e]
  exact bodyPost_ret (v := .tuple #[]) (by simp [results, Try.results57, go_sem]) rfl ⟨rfl, below_set HB.out HG.out.1, k2, H.out.step k2 (blk_put H.out.hw 0 _ rfl) (blk_far H.out.hn nw _)⟩
set_option maxHeartbeats 8000000 in
set_option maxRecDepth 100000 in
theorem impl_Permuted.calls2 (w0 : World) (gw gs gn ga gc : Nat) (A : Option Addr) (cap : Nat) (xs : List Int) (want : Int) (hgw : w0.heap.size ≤ gw) (hgn : w0.heap.size ≤ gn) : ∀ (k : Nat) (n ways i left sum : Int) (r : Int × Int) (w : World), impl_Permuted.Fx w gw gs gn ga gc A cap xs want n ways → Below w0.heap.size w0 w → impl_Permuted.c k xs want i left sum n ways = some r →
  Calls Try.prog 57 #[.int .i64 i, .int .i64 left, .int .i64 sum, .pointer (some ⟨gw, 0, none⟩), .pointer (some ⟨gs, 0, none⟩), .pointer (some ⟨gn, 0, none⟩), .pointer (some ⟨ga, 0, none⟩), .pointer (some ⟨gc, 0, none⟩)] w (impl_Permuted.Post w0 w gw gs gn ga gc A cap xs want r) := by
 intro k
 have w64_ : ∀ x, IntKind.i64.wrap x = wrap64 x := fun x => by rw [IntKind.wrap_i64]; unfold wrap64; rfl
 induction k using Nat.strongRecOn with
 | _ k ih =>
 intro n0 ways0 i0 left sum r w h hB hc
 by_cases hl : left = 0
 ·subst hl
  unfold impl_Permuted.c at hc
  rw [if_pos rfl] at hc
  obtain rfl := Option.some.inj hc
  exact impl_Permuted.leaf w0 gw gs gn ga gc A cap xs want n0 ways0 i0 sum w h hgw hgn hB
 have H0 := Aside0.mk (show impl_Permuted.l k xs want i0 left sum n0 ways0 = some r from by unfold impl_Permuted.c at hc; rwa [if_neg hl] at hc)
 have hl0 : (left == 0) = false := beq_eq_false_iff_ne.2 hl
 have F0 := Aside0.mk h
 have B0 := Aside0.mk hB
 clear h hc hl hB
 go_enter Try.func57, Try.ntmps57
 go_wp2
 go_loopg [11] k (fun kq v11 w' => ∃ (i n ways : Int), v11 = .int .i64 i ∧ Aside0 (impl_Permuted.l kq xs want i left sum n ways = some r) ∧ Aside0 (kq ≤ k) ∧ Aside0 (Kept w w' (fun k => k = gn ∨ k = gw)) ∧ Aside0 (Below w0.heap.size w0 w') ∧ Aside0 (impl_Permuted.Fx w' gw gs gn ga gc A cap xs want n ways))
 case atStart => exact ⟨i0, n0, ways0, rfl, H0, ⟨Nat.le_refl _⟩, ⟨Kept.refl _ _⟩, B0, F0⟩
 case round =>
  clear H0 F0 B0
  obtain ⟨i, n, ways, rfl, HA, HK1, HKp, HB, HF⟩ := hrel
  cases gk with
  | zero => exact absurd HA.out (by simp [impl_Permuted.l])
  | succ k1 =>
   have H := HA.out
   clear HA
   simp only [impl_Permuted.l] at H
   have ha1 := blk_cell HF.out.ha 0
   have hc1 := blk_cell HF.out.hc 0
   simp only [List.getElem?_toArray, List.getElem?_cons_zero] at ha1 hc1
   by_cases c1 : wrap64 (i + left) ≤ (xs.length : Int)
   ·rw [if_pos c1] at H
    by_cases c2 : 0 ≤ i
    ·rw [if_pos c2] at H
     by_cases c3 : i < (xs.length : Int)
     ·rw [if_pos c3] at H
      obtain ⟨p, hp, H2⟩ := Option.bind_eq_some_iff.mp H
      clear H
      have hp' := Aside0.mk (show impl_Permuted.c k1 xs want (wrap64 (i + 1)) (wrap64 (left - 1)) (wrap64 (sum + rd xs i)) n ways = some p from hp)
      have H' := Aside0.mk H2
      clear hp H2
      obtain ⟨ad, eA, hx⟩ := Kd.at_int (HF.out.xs_ wr (Kept.refl _ _)) i c2 c3
      subst eA
      have c2' := eq_true c2
      have c3' := eq_true c3
      go_wp2
      go_still_tail 11, (by kernel_rfl)
      change wpList _ _ _ _ _ wr.drew
      refine goesV_ (some 41) rfl rfl Try.func57 (by kernel_rfl) rfl #[.int .i64 (wrap64 (i + 1)), .int .i64 (wrap64 (left - 1)), .int .i64 (wrap64 (sum + rd xs i)), .pointer (some ⟨gw, 0, none⟩), .pointer (some ⟨gs, 0, none⟩), .pointer (some ⟨gn, 0, none⟩), .pointer (some ⟨ga, 0, none⟩), .pointer (some ⟨gc, 0, none⟩)] rfl (cap := #[.pointer (some ⟨gw, 0, none⟩), .pointer (some ⟨gs, 0, none⟩), .pointer (some ⟨gn, 0, none⟩), .pointer (some ⟨ga, 0, none⟩), .pointer (some ⟨gc, 0, none⟩)]) rfl (by simp only [List.map_toArray, List.map_cons, List.map_nil, List.append_toArray, List.cons_append, List.nil_append]; rfl) ?_
      refine (ih k1 (by have := HK1.out; omega) n ways _ _ _ p wr.drew (HF.out.step (Kept.drew (Kept.refl _ _)) HF.out.hw HF.out.hn) (below_drew1 HB.out) hp'.out).mono ?_
      rintro e w' ⟨rfl, hb, hk, hf⟩
      have HB2 := Aside0.mk hb
      clear hb
      refine ⟨_, rfl, ?_⟩
      have HF2 := Aside0.mk hf
      have HK2 := Aside0.mk hk
      clear hf hk
      go_wp2
      go_roundg k1
      case measure => have := HK1.out; omega
      case rel => exact ⟨wrap64 (i + 1), p.1, p.2, rfl, H', ⟨by have := HK1.out; omega⟩, ⟨HKp.out.then_ HK2.out (fun _ h => .inl h)⟩, HB2, HF2⟩
     ·rw [if_neg c3] at H; cases H
    ·rw [if_neg c2] at H; cases H
   ·rw [if_neg c1] at H
    obtain rfl := Option.some.inj H
    clear H
    go_wp2
    exact bodyPost_ret (v := .tuple #[]) (by simp [results, Try.results57, go_sem]) rfl ⟨rfl, HB.out, HKp.out, HF.out⟩

def impl_Permuted.W (l : List Int) (j : Nat) : Int := (l.take j).foldl (fun a x => wrap64 (a + x)) 0
theorem impl_Permuted.W_succ (l : List Int) (j : Nat) (h : j < l.length) : impl_Permuted.W l (j + 1) = wrap64 (impl_Permuted.W l j + rd l (j : Int)) := by
 unfold impl_Permuted.W rd
 rw [List.take_succ_eq_append_getElem h, List.foldl_append, Int.toNat_natCast, List.getD_eq_getElem?_getD, List.getElem?_eq_getElem h]
 rfl
def impl_Permuted.f (k : Nat) (l0 : List Int) (l1 : List Int) : Option (Int × Int) := (impl_Permuted_1.f k l0).bind fun b0 => if b0 = true then (impl_Permuted_1.f k l1).bind fun b1 => (if b1 = true then (if l0.length + l1.length < 17592186044416 then impl_Permuted.c k (l0 ++ l1) (impl_Permuted.W l0 l0.length) 0 (l0.length : Int) 0 0 0 else none) else some (0, 0)) else some (0, 0)
theorem impl_Permuted.mono_l : ∀ k, ∀ y0 y1 y2 y3 y4 y5 y6, LeO (impl_Permuted.l k y0 y1 y2 y3 y4 y5 y6) (impl_Permuted.l (k + 1) y0 y1 y2 y3 y4 y5 y6)
 | 0 => fun _ _ _ _ _ _ _ r h => by simp [impl_Permuted.l] at h
 | k + 1 => by
  have ih0 := impl_Permuted.mono_l k
  intro y0 y1 y2 y3 y4 y5 y6
  unfold impl_Permuted.l
  repeat first
   | exact LeO.refl _
   | exact ih0 _ _ _ _ _ _ _
   | exact LeO.none _
   | refine LeO.ite ?_ ?_
   | refine LeO.bind ?_ (fun _ => ?_)
theorem impl_Permuted.mono : ∀ a0 a1 k, LeO (impl_Permuted.f k a0 a1) (impl_Permuted.f (k + 1) a0 a1) := by
 intro a0 a1 k
 unfold impl_Permuted.f impl_Permuted.c
 repeat first
  | exact LeO.refl _
  | exact impl_Permuted_1.mono _ _
  | exact impl_Permuted.mono_l _ _ _ _ _ _ _ _
  | exact LeO.none _
  | refine LeO.ite ?_ ?_
  | refine LeO.bind ?_ (fun _ => ?_)
set_option maxHeartbeats 8000000 in
set_option maxRecDepth 100000 in
theorem impl_Permuted.calls (k : Nat) (A0 : Option Addr) (c0 : Nat) (l0 : List Int) (A1 : Option Addr) (c1 : Nat) (l1 : List Int) (r1 : Int) (r2 : Int) (w : World) (hr0 : Kd.C (Kd.int .i64) w A0 l0.length l0) (hc0 : l0.length ≤ c0) (hr1 : Kd.C (Kd.int .i64) w A1 l1.length l1) (hc1 : l1.length ≤ c1) (h : impl_Permuted.f k l0 l1 = some (r1, r2)) :
 Calls Try.prog 29 #[.slice A0 l0.length c0, .slice A1 l1.length c1] w fun e w' => e = .returned (.tuple #[.int .i64 r1, .int .i64 r2]) ∧ Below w.heap.size w w' := by
 have HR0 := Aside0.mk hr0
 have HC0 := Aside0.mk hc0
 have HR1 := Aside0.mk hr1
 have HC1 := Aside0.mk hc1
 have hm0 := hr0.2.1
 clear hr0 hc0 hr1 hc1
 have HB := Aside0.mk (Below.refl w.heap.size w)
 unfold impl_Permuted.f at h
 obtain ⟨b0, h0, h'⟩ := Option.bind_eq_some_iff.mp h
 clear h
 have h := h'
 clear h'
 cases b0 with
 | false =>
  rw [if_neg (by decide)] at h
  obtain ⟨rfl, rfl⟩ : 0 = r1 ∧ 0 = r2 := by simpa using h
  have A2 := Aside0.mk h0
  clear h h0
  go_enter Try.func29, Try.ntmps29
  go_wp2_with (first | ((with_reducible refine gate_calleeV (x := 14) rfl ?_); (try (refine gate_guard (by rfl) ?_; dsimp only)); refine goesV_ (some 16) rfl rfl Try.func55 (by kernel_rfl) rfl #[.slice A0 l0.length c0] rfl rfl (by (try simp only [List.map_toArray, List.map_cons, List.map_nil, List.append_toArray, List.cons_append, List.nil_append]); rfl) ?_; (with_reducible refine (impl_Permuted_1.calls k _ _ l0 false _ ?s1 ?s2 A2.out).mono ?_); (case s1 => repeat (first | exact HR0.out | (with_reducible refine Kd.C_drewN ?_ _))); (case s2 => exact HC0.out); rintro e w' ⟨rfl, ⟨nd0, rfl⟩⟩; refine ⟨_, rfl, ?_⟩))
  go_ret2
  exact ⟨rfl, by repeat (first | (with_reducible first | exact HB.out | apply below_alloc | apply pw_below_drewN | apply below_drew1) | exact HB.out)⟩
 | true =>
 rw [if_pos rfl] at h
 obtain ⟨b1, h1, h'⟩ := Option.bind_eq_some_iff.mp h
 clear h
 have h := h'
 clear h'
 cases b1 with
 | false =>
  rw [if_neg (by decide)] at h
  obtain ⟨rfl, rfl⟩ : 0 = r1 ∧ 0 = r2 := by simpa using h
  have A2 := Aside0.mk h0
  have A3 := Aside0.mk h1
  clear h h0 h1
  go_enter Try.func29, Try.ntmps29
  go_wp2_with (first | ((with_reducible refine gate_calleeV (x := 14) rfl ?_); (try (refine gate_guard (by rfl) ?_; dsimp only)); refine goesV_ (some 16) rfl rfl Try.func55 (by kernel_rfl) rfl #[.slice A0 l0.length c0] rfl rfl (by (try simp only [List.map_toArray, List.map_cons, List.map_nil, List.append_toArray, List.cons_append, List.nil_append]); rfl) ?_; (with_reducible refine (impl_Permuted_1.calls k _ _ l0 true _ ?s1 ?s2 A2.out).mono ?_); (case s1 => repeat (first | exact HR0.out | (with_reducible refine Kd.C_drewN ?_ _))); (case s2 => exact HC0.out); rintro e w' ⟨rfl, ⟨nd0, rfl⟩⟩; refine ⟨_, rfl, ?_⟩) | ((with_reducible refine gate_calleeV (x := 19) rfl ?_); (try (refine gate_guard (by rfl) ?_; dsimp only)); refine goesV_ (some 21) rfl rfl Try.func55 (by kernel_rfl) rfl #[.slice A1 l1.length c1] rfl rfl (by (try simp only [List.map_toArray, List.map_cons, List.map_nil, List.append_toArray, List.cons_append, List.nil_append]); rfl) ?_; (with_reducible refine (impl_Permuted_1.calls k _ _ l1 false _ ?s1 ?s2 A3.out).mono ?_); (case s1 => repeat (first | exact HR1.out | (with_reducible refine Kd.C_drewN ?_ _))); (case s2 => exact HC1.out); rintro e w' ⟨rfl, ⟨nd1, rfl⟩⟩; refine ⟨_, rfl, ?_⟩))
  go_ret2
  exact ⟨rfl, by repeat (first | (with_reducible first | exact HB.out | apply below_alloc | apply pw_below_drewN | apply below_drew1) | exact HB.out)⟩
 | true =>
 rw [if_pos rfl] at h
 by_cases hlen : l0.length + l1.length < 17592186044416
 rotate_left
 ·rw [if_neg hlen] at h; cases h
 rw [if_pos hlen] at h
 have A2 := Aside0.mk h0
 have A3 := Aside0.mk h1
 have A4 := Aside0.mk h
 have LM1 := Aside0.mk (show ([] : List Int).length + l0.length < 17592186044416 from by simp; omega)
 have LM2 := Aside0.mk hlen
 clear h h0 h1 hlen
 go_enter Try.func29, Try.ntmps29
 go_wp2_with (first | ((with_reducible refine gate_calleeV (x := 14) rfl ?_); (try (refine gate_guard (by rfl) ?_; dsimp only)); refine goesV_ (some 16) rfl rfl Try.func55 (by kernel_rfl) rfl #[.slice A0 l0.length c0] rfl rfl (by (try simp only [List.map_toArray, List.map_cons, List.map_nil, List.append_toArray, List.cons_append, List.nil_append]); rfl) ?_; (with_reducible refine (impl_Permuted_1.calls k _ _ l0 true _ ?s1 ?s2 A2.out).mono ?_); (case s1 => repeat (first | exact HR0.out | (with_reducible refine Kd.C_drewN ?_ _))); (case s2 => exact HC0.out); rintro e w' ⟨rfl, ⟨nd0, rfl⟩⟩; refine ⟨_, rfl, ?_⟩) | ((with_reducible refine gate_calleeV (x := 19) rfl ?_); (try (refine gate_guard (by rfl) ?_; dsimp only)); refine goesV_ (some 21) rfl rfl Try.func55 (by kernel_rfl) rfl #[.slice A1 l1.length c1] rfl rfl (by (try simp only [List.map_toArray, List.map_cons, List.map_nil, List.append_toArray, List.cons_append, List.nil_append]); rfl) ?_; (with_reducible refine (impl_Permuted_1.calls k _ _ l1 true _ ?s1 ?s2 A3.out).mono ?_); (case s1 => repeat (first | exact HR1.out | (with_reducible refine Kd.C_drewN ?_ _))); (case s2 => exact HC1.out); rintro e w' ⟨rfl, ⟨nd1, rfl⟩⟩; refine ⟨_, rfl, ?_⟩) | ((with_reducible refine gate_dst (N := 24) rfl ?_); (try (refine gate_guard (by rfl) ?_; dsimp only)); refine Kd.R_lit (Kd.int .i64) _ 2 ?hg (N := 24) ?hd (xs := ([] : List Int)) (inner := []) (ok := fun _ => True) (okp := fun _ => True) ?hr ?hp (fun _ hk => hk) trivial (Below.refl _ _) (Nat.le_refl _) (by simp) ?_; (case hd => rfl); (case hg => rfl); (case hr => first | (go_simp; done) | (go_simp; rfl)); (case hp => exact (Reps.none _ _)); intro v168 w17 ho18 hb hg_ hnew_; clear hg_ hnew_; have n0_ := Aside0.mk (Kd.R_lower ho18 (below_size (by repeat (first | (with_reducible first | exact HB.out | apply below_alloc | apply pw_below_drewN | apply below_drew1) | exact HB.out)))); have n1_ := Aside0.mk (below_step (by repeat (first | (with_reducible first | exact HB.out | apply below_alloc | apply pw_below_drewN | apply below_drew1) | exact HB.out)) hb); clear HB; have HO169 := n0_; have HB := n1_; clear n0_ n1_; clear hb ho18) | ((with_reducible refine gate_builtin (b := .append) (xs := #[.tmp 24, .tmp 25]) rfl ?_); (try (refine gate_guard (by rfl) ?_; dsimp only)); at_builtin; refine Kd.R_append_rows (Kd.int .i64) (w0 := w) w.heap.size rfl (.tmp 24) (.tmp 25) 45 2 (.int .i64 0) 8 rfl Try.underlying45 info2 rfl (by decide) (by omega) v168 ([] : List Int) l0 _ _ _ (fun _ => True) (fun _ => False) rfl rfl ?aO ?aR (fun _ _ h => h) (fun _ h => h.elim) ?aF ?aB ?aS ?aL ?_; (case aR => repeat (first | exact (Kd.C_below HR0.out HB.out) | (with_reducible refine Kd.C_alloc ?_ _) | (with_reducible refine Kd.C_drewN ?_ _) | (with_reducible refine Kd.C_drew ?_))); (case aB => exact (by repeat (first | (with_reducible first | exact HB.out | apply below_alloc | apply pw_below_drewN | apply below_drew1) | exact HB.out))); (case aF => exact (fun _ _ => trivial)); (case aO => exact (by (with_reducible repeat (first | apply Kd.R_alloc | apply Kd.R_drewN | apply Kd.R_drew)); exact HO169.out)); (case aS => exact (below_size (by repeat (first | (with_reducible first | exact HB.out | apply below_alloc | apply pw_below_drewN | apply below_drew1) | exact HB.out)))); (case aL => have := LM1.out; omega); intro v171 w19 ho hb hg hat; (rw [List.nil_append] at ho); have n0_ := Aside0.mk (hb); have n1_ := Aside0.mk (ho); clear HB; clear HO169; have HB := n0_; have HO172 := n1_; clear n0_ n1_; clear ho hb hg hat) | ((with_reducible refine gate_builtin (b := .append) (xs := #[.tmp 26, .tmp 27]) rfl ?_); (try (refine gate_guard (by rfl) ?_; dsimp only)); at_builtin; refine Kd.R_append_rows (Kd.int .i64) (w0 := w) w.heap.size rfl (.tmp 26) (.tmp 27) 45 2 (.int .i64 0) 8 rfl Try.underlying45 info2 rfl (by decide) (by omega) v171 l0 l1 _ _ _ (fun _ => True) (fun _ => False) rfl rfl ?aO ?aR (fun _ _ h => h) (fun _ h => h.elim) ?aF ?aB ?aS ?aL ?_; (case aR => repeat (first | exact (Kd.C_below HR1.out HB.out) | (with_reducible refine Kd.C_alloc ?_ _) | (with_reducible refine Kd.C_drewN ?_ _) | (with_reducible refine Kd.C_drew ?_))); (case aB => exact (by repeat (first | (with_reducible first | exact HB.out | apply below_alloc | apply pw_below_drewN | apply below_drew1) | exact HB.out))); (case aF => exact (fun _ _ => trivial)); (case aO => exact (by (with_reducible repeat (first | apply Kd.R_alloc | apply Kd.R_drewN | apply Kd.R_drew)); exact HO172.out)); (case aS => exact (below_size (by repeat (first | (with_reducible first | exact HB.out | apply below_alloc | apply pw_below_drewN | apply below_drew1) | exact HB.out)))); (case aL => have := LM2.out; omega); intro v174 w20 ho hb hg hat; have n0_ := Aside0.mk (hb); have n1_ := Aside0.mk (ho); clear HB; clear HO172; have HB := n0_; have HO175 := n1_; clear n0_ n1_; clear ho hb hg hat; obtain ⟨Ao21, co21, eo21⟩ := Kd.R_slice HO175.out; subst eo21))
 obtain ⟨g, hg⟩ : ∃ g, g = w20.heap.size := ⟨_, rfl⟩
 obtain ⟨wb, hwb⟩ : ∃ W, W = (w20.alloc (.cells #[.slice Ao21 (l0.length + l1.length) co21] 45)).alloc (.cells #[.int .i64 0] 2) := ⟨_, rfl⟩
 have hsz : wb.heap.size = g + 2 := by rw [hwb, hg]; simp
 have f7 : wb.heap[g]? = some (.cells #[.slice Ao21 (l0 ++ l1).length co21] 45 (0, 0)) := by rw [hwb, hg, List.length_append]; exact blk_alloc (blk_new _ _) _
 have f8 : wb.heap[g + 1]? = some (.cells #[.int .i64 (impl_Permuted.W l0 0)] 2 (0, 0)) := by
  rw [hwb, hg]
  have := blk_new (w20.alloc (.cells #[.slice Ao21 (l0.length + l1.length) co21] 45)) (.cells #[.int .i64 0] 2)
  simp at this
  simpa [impl_Permuted.W] using this
 have fB : Below w.heap.size w wb := by
  have := HB.out
  rw [hwb]
  exact below_alloc (below_alloc this _) _
 have fg : w.heap.size ≤ g := by rw [hg]; exact HB.out.size
 have fR : (Kd.int .i64).R 2 wb w.heap.size (fun k => k < g) (.slice Ao21 (l0 ++ l1).length co21) (l0 ++ l1) := by
  rw [hwb, hg, List.length_append]
  have := Kd.R_mono (Kd.R_bound HO175.out) (ok' := fun k => k < w20.heap.size) (fun k hk => hk.2.2.1)
  rw [List.length_append] at this
  exact Kd.R_alloc (Kd.R_alloc this _) _
 rw [← hwb, ← hg]
 have F7 := Aside0.mk f7
 have F8 := Aside0.mk f8
 have FB := Aside0.mk fB
 have FG := Aside0.mk fg
 have FR := Aside0.mk fR
 have FS := Aside0.mk hsz
 clear f7 f8 fB fg fR hsz hwb HB HO175 hg
 go_loopg [31] l0.length (fun kq v31 w' => ∃ j : Nat, v31 = .int .i64 (j : Nat) ∧ Aside0 (j + kq = l0.length) ∧ Aside0 (Below w.heap.size w w') ∧ Aside0 (w'.heap.size = g + 2) ∧ Aside0 (w'.heap[g]? = some (.cells #[.slice Ao21 (l0 ++ l1).length co21] 45 (0, 0))) ∧ Aside0 (w'.heap[g + 1]? = some (.cells #[.int .i64 (impl_Permuted.W l0 j)] 2 (0, 0))) ∧ Aside0 ((Kd.int .i64).R 2 w' w.heap.size (fun k => k < g) (.slice Ao21 (l0 ++ l1).length co21) (l0 ++ l1)))
 case atStart => exact ⟨0, rfl, ⟨by omega⟩, FB, FS, F7, F8, FR⟩
 case round =>
  clear FB FS F7 F8 FR
  obtain ⟨j, rfl, HJ, FB, FS, F7, F8, FR⟩ := hrel
  have h81 := blk_cell F8.out 0
  have h82 := blk_frozen F8.out 0
  simp only [List.getElem?_toArray, List.getElem?_cons_zero] at h81
  cases gk with
  | succ kq =>
   have hj : j < l0.length := by have := HJ.out; omega
   have hs := Aside0.mk (impl_Permuted.W_succ l0 j hj)
   obtain ⟨ad, eA, hx⟩ := Kd.at_int (Kd.C_below HR0.out FB.out) (j : Int) (by omega) (by omega)
   subst eA
   rw [Int.toNat_natCast] at hx
   have hj' : ((j : Int) < (l0.length : Int)) = True := eq_true (by omega)
   have hjd : decide ((j : Int) < (l0.length : Int)) = true := decide_eq_true (by omega)
   go_wp2
   go_roundg kq
   case measure => exact Nat.lt_succ_self _
   case rel =>
    refine ⟨j + 1, by go_num, ⟨by have := HJ.out; omega⟩, ⟨below_set FB.out (by have := FG.out; omega)⟩, ⟨by rw [← FS.out]; simp [World.setCell]⟩, ⟨blk_far F7.out (by simp) _⟩, ⟨?_⟩, ⟨Kd.R_far FR.out (fun k hk => by show k ≠ g + 1; omega) _⟩⟩
    rw [hs.out]
    exact blk_put F8.out 0 _ rfl
  | zero =>
   have hj : j = l0.length := by have := HJ.out; omega
   subst hj
   have hjd : decide ((l0.length : Int) < (l0.length : Int)) = false := decide_eq_false (by omega)
   have FX := Aside0.mk (show impl_Permuted.Fx (((wr.alloc (.cells #[.int .i64 0] 2)).alloc (.cells #[.int .i64 0] 2)).alloc (.cells #[.func (.func 57) #[] #[.pointer (some ⟨wr.heap.size + 1, 0, none⟩), .pointer (some ⟨g + 1, 0, none⟩), .pointer (some ⟨wr.heap.size, 0, none⟩), .pointer (some ⟨g, 0, none⟩), .pointer (some ⟨wr.heap.size + 1 + 1, 0, none⟩)]] 81)) (wr.heap.size + 1) (g + 1) wr.heap.size g (wr.heap.size + 1 + 1) Ao21 co21 (l0 ++ l1) (impl_Permuted.W l0 l0.length) 0 0 from by
    have hsz := FS.out
    refine ⟨?_, blk_alloc (blk_alloc (blk_new _ _) _) _, blk_alloc (blk_alloc (blk_alloc F8.out _) _) _, blk_alloc (blk_alloc (blk_alloc F7.out _) _) _, ?_, by omega, by omega, by omega, Kd.C_kept_own (Kd.R_alloc (Kd.R_alloc (Kd.R_alloc FR.out _) _) _) (fun k hk e => by rcases e with e | e <;> omega)⟩
    ·have := blk_alloc (blk_new (wr.alloc (.cells #[.int .i64 0] 2)) (.cells #[.int .i64 0] 2)) (.cells #[.func (.func 57) #[] #[.pointer (some ⟨wr.heap.size + 1, 0, none⟩), .pointer (some ⟨g + 1, 0, none⟩), .pointer (some ⟨wr.heap.size, 0, none⟩), .pointer (some ⟨g, 0, none⟩), .pointer (some ⟨wr.heap.size + 1 + 1, 0, none⟩)]] 81)
     rw [show (wr.alloc (.cells #[.int .i64 0] 2)).heap.size = wr.heap.size + 1 by simp] at this
     exact this
    ·have := blk_new ((wr.alloc (.cells #[.int .i64 0] 2)).alloc (.cells #[.int .i64 0] 2)) (.cells #[.func (.func 57) #[] #[.pointer (some ⟨wr.heap.size + 1, 0, none⟩), .pointer (some ⟨g + 1, 0, none⟩), .pointer (some ⟨wr.heap.size, 0, none⟩), .pointer (some ⟨g, 0, none⟩), .pointer (some ⟨wr.heap.size + 1 + 1, 0, none⟩)]] 81)
     rw [show ((wr.alloc (.cells #[.int .i64 0] 2)).alloc (.cells #[.int .i64 0] 2)).heap.size = wr.heap.size + 1 + 1 by simp] at this
     exact this)
   have BX := Aside0.mk (show Below w.heap.size w (((wr.alloc (.cells #[.int .i64 0] 2)).alloc (.cells #[.int .i64 0] 2)).alloc (.cells #[.func (.func 57) #[] #[.pointer (some ⟨wr.heap.size + 1, 0, none⟩), .pointer (some ⟨g + 1, 0, none⟩), .pointer (some ⟨wr.heap.size, 0, none⟩), .pointer (some ⟨g, 0, none⟩), .pointer (some ⟨wr.heap.size + 1 + 1, 0, none⟩)]] 81)) from below_alloc (below_alloc (below_alloc FB.out _) _) _)
   have HG := Aside0.mk (show w.heap.size ≤ wr.heap.size from by have := FS.out; have := FG.out; omega)
   clear h81 h82
   go_wp2_with (first | ((with_reducible refine gate_calleeV (x := 40) rfl ?_); refine goesV_ (some 43) rfl rfl Try.func57 (by kernel_rfl) rfl #[.int .i64 0, .int .i64 (l0.length : Int), .int .i64 0, .pointer (some ⟨wr.heap.size + 1, 0, none⟩), .pointer (some ⟨g + 1, 0, none⟩), .pointer (some ⟨wr.heap.size, 0, none⟩), .pointer (some ⟨g, 0, none⟩), .pointer (some ⟨wr.heap.size + 1 + 1, 0, none⟩)] rfl (cap := #[.pointer (some ⟨wr.heap.size + 1, 0, none⟩), .pointer (some ⟨g + 1, 0, none⟩), .pointer (some ⟨wr.heap.size, 0, none⟩), .pointer (some ⟨g, 0, none⟩), .pointer (some ⟨wr.heap.size + 1 + 1, 0, none⟩)]) rfl (by simp only [List.map_toArray, List.map_cons, List.map_nil, List.append_toArray, List.cons_append, List.nil_append]; rfl) ?_; refine (impl_Permuted.calls2 w (wr.heap.size + 1) (g + 1) wr.heap.size g (wr.heap.size + 1 + 1) Ao21 co21 (l0 ++ l1) (impl_Permuted.W l0 l0.length) (Nat.le_succ_of_le HG.out) HG.out k 0 0 0 (l0.length : Int) 0 (r1, r2) _ FX.out BX.out A4.out).mono ?_; rintro e w5 ⟨rfl, hb, hk, hf⟩; refine ⟨_, rfl, ?_⟩; have HB2 := Aside0.mk hb; have e1 := blk_cell hf.hn 0; have e2 := blk_cell hf.hw 0; simp only [List.getElem?_toArray, List.getElem?_cons_zero] at e1 e2; clear hb hk hf))
   go_quiet (fail)
   go_wp2
   go_ret2
   exact ⟨rfl, by repeat (first | (with_reducible first | exact HB2.out | apply below_alloc | apply pw_below_drewN | apply below_drew1) | exact HB2.out)⟩

end Go.Proofs.Yteobnbichpadjaa.Q
