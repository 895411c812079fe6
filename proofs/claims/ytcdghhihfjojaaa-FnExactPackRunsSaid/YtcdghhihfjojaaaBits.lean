/- The contract of (*bits).put, by hand: bits are told as a list, the block holds them packed; no condition. -/
import Derived.Test.YtcdghhihfjojaaaQx0
import Derived.Test.YtcdghhihfjojaaaQx8
namespace Go.Proofs.Ytcdghhihfjojaaa.Q
open Go.RowKit Go.Proofs.YtcdghhihfjojaaaW.PrintWords Go.Proofs.YtcdghhihfjojaaaW.PrintLast Go.Proofs.YtcdghhihfjojaaaW.PrintMore Go.Proofs.YtcdghhihfjojaaaW.PrintFlt
attribute [local go_sem] cmp_lss cmp_leq cmp_gtr cmp_geq cmp_eql cmp_neq flt_l flt_r fgt_l fgt_r feq_l feq_r fne_l fne_r ord_lt ord_gt ord_eq ord_ne conv_int conv_flt foi_fold run_store_flt
attribute [local go_sem] max2_int min2_int max_two min_two max_three min_three max_four min_four   -- for this text's walks alone
set_option linter.unusedVariables false
set_option linter.unusedSimpArgs false

/-! ### impl_put: function 40 -/
def pkY (xs : List Int) (n : Int) : List Int := if Int.tmod n 8 = 0 then xs ++ [0] else xs
def pkB (xs : List Int) (n b : Int) : List Int := if b = 1 then (pkY xs n).set (wrap64 (Int.tdiv n 8)).toNat (Go.bits .or .u8 (rd (pkY xs n) (wrap64 (Int.tdiv n 8))) (shl .u8 1 (wrap64 (7 - Int.tmod n 8)))) else pkY xs n
def pkR : List Int → List Int
  | [] => []
  | b :: r => pkB (pkR r) (r.length : Int) b
def pk (bits : List Int) : List Int := pkR bits.reverse
theorem pk_snoc (bits : List Int) (b : Int) : pk (bits ++ [b]) = pkB (pk bits) (bits.length : Int) b := by
  unfold pk
  rw [List.reverse_append, List.reverse_singleton, List.singleton_append, pkR, List.length_reverse]
/-- The bits, packed, at block g. -/
def Bt (w : World) (g : Nat) (bits : List Int) : Prop := ∃ v, w.heap[g]? = some (.cells #[v, .int .i64 (bits.length : Int)] 72 (0, 0)) ∧ (Kd.int .u8).R 5 w g (fun k => k ≠ g) v (pk bits)
def Bh (w : World) (g : Nat) (xs : List Int) (n : Int) : Prop := ∃ v, w.heap[g]? = some (.cells #[v, .int .i64 n] 72 (0, 0)) ∧ (Kd.int .u8).R 5 w g (fun k => k ≠ g) v xs
def impl_put.bb (v k : Int) : Int := Go.bits .and .u64 (shr .u64 v k) 1
def impl_put.l0 : Nat → List Int → Int → Int → Option (List Int)
  | 0, _, _, _ => none
  | k + 1, bits, v, x6 => if x6 ≥ 0 then (if bits.length < 1000000 then (if (pk bits).length < 1000000 then (if 0 ≤ wrap64 (Int.tdiv (bits.length : Int) 8) then (if wrap64 (Int.tdiv (bits.length : Int) 8) < ((pkY (pk bits) (bits.length : Int)).length : Int) then (if 0 ≤ wrap64 (7 - Int.tmod (bits.length : Int) 8) then impl_put.l0 k (bits ++ [impl_put.bb v x6]) v (wrap64 (x6 - 1)) else none) else none) else none) else none) else none) else some bits
def impl_put.f (k : Nat) (bits : List Int) (v wd : Int) : Option (List Int) := impl_put.l0 k bits v (wrap64 (wd - 1))
theorem impl_put.mono_l : ∀ k, ∀ y0 y1 y2, LeO (impl_put.l0 k y0 y1 y2) (impl_put.l0 (k + 1) y0 y1 y2)
  | 0 => fun _ _ _ r h => by simp [impl_put.l0] at h
  | k + 1 => by
    have ih0 := impl_put.mono_l k
    intro y0 y1 y2
    unfold impl_put.l0
    repeat first
      | exact LeO.refl _
      | exact ih0 _ _ _
      | exact LeO.none _
      | refine LeO.ite ?_ ?_
theorem impl_put.mono : ∀ a0 a1 a2 k, LeO (impl_put.f k a0 a1 a2) (impl_put.f (k + 1) a0 a1 a2) := by
  intro a0 a1 a2 k
  unfold impl_put.f
  exact impl_put.mono_l _ _ _ _
/-- The packed bits. -/
def impl_pack.f (_ : Nat) (bits : List Int) : Option (List Int) := some (pk bits)
theorem impl_pack.mono : ∀ a0 k, LeO (impl_pack.f k a0) (impl_pack.f (k + 1) a0) := fun _ _ => LeO.refl _
def impl_put.T6 : Bool × List (List Nat × List Nat) := (true, [([], []), ([0], [0]), ([1], [1]), ([2], [2]), ([], []), ([4], [4]), ([5], [5]), ([6], [6]), ([7], [7]), ([3, 8], [3, 8]), ([9], [9]), ([], []), ([11], [11]), ([12], [12]), ([13], [13]), ([14], [14]), ([15], [15]), ([16], [16]), ([10, 17], [10, 17]), ([3, 8, 0, 1, 2, 3, 4, 5, 6, 7, 8, 9, 10, 11, 12, 13, 14, 15, 16, 17, 18], [3, 8]), ([19, 18, 0, 1, 2, 3, 4, 5, 6, 7, 8, 9, 10, 11, 12, 13, 14, 15, 16, 17, 18], [18, 19])])
def impl_put.B6 : List Nat := [0, 1, 3, 7, 0, 16, 48, 112, 240, 511, 1023, 0, 2048, 6144, 14336, 30720, 63488, 129024, 262143, 524287, 1048575]
theorem impl_put.tab6 : rtab .any (opsOf Try.f40 6) = impl_put.T6 := by kernel_rfl
theorem impl_put.bits6 : waitsOk impl_put.T6.2 impl_put.B6 = true := by kernel_rfl
set_option maxHeartbeats 8000000 in
set_option maxRecDepth 100000 in
theorem impl_put.calls (k g : Nat) (bits : List Int) (v wd : Int) (r : List Int) (w : World) (h : Bt w g bits) (hf : impl_put.f k bits v wd = some r) :
    Calls Try.prog 40 #[.pointer (some ⟨g, 0, none⟩), .int .u64 v, .int .i64 wd] w fun e w' => e = .returned (.tuple #[]) ∧ Bt w' g r ∧ Below g w w' := by
  have HT := Aside0.mk h
  have HB := Aside0.mk (Below.refl g w)
  have H' := Aside0.mk (show impl_put.l0 k bits v (wrap64 (wd - 1)) = some r from hf)
  clear h hf
  go_enter Try.func40, Try.ntmps40
  go_wp2
  go_loopg [6] k (fun kq v6 w' => ∃ (bs : List Int) (x6 : Int), v6 = .int .i64 x6 ∧ Aside0 (impl_put.l0 kq bs v x6 = some r) ∧ Aside0 (kq ≤ k) ∧ Aside0 (Bt w' g bs) ∧ Aside0 (Below g w w'))
  case atStart => exact ⟨bits, wrap64 (wd - 1), rfl, H', ⟨Nat.le_refl _⟩, HT, HB⟩
  case round =>
    clear H' HT HB
    obtain ⟨bs, x6, rfl, HA, HK1, HT, HB⟩ := hrel
    cases gk with
    | zero => exact absurd HA.out (by simp [impl_put.l0])
    | succ k1 =>
      have H := HA.out
      clear HA
      simp only [impl_put.l0] at H
      by_cases c1 : x6 ≥ 0
      rotate_left
      · rw [if_neg c1] at H
        have c1b0 : decide (0 ≤ x6) = false := decide_eq_false c1
        clear c1
        obtain rfl := Option.some.inj H
        clear H
        go_wp2
        exact bodyPost_end (v := .tuple #[]) (by simp [results, Try.results40, go_sem]) rfl ⟨rfl, HT.out, HB.out⟩
      rw [if_pos c1] at H
      have c1b0 : decide (0 ≤ x6) = true := decide_eq_true c1
      by_cases c2 : bs.length < 1000000
      rotate_left
      · rw [if_neg c2] at H
        cases H
      rw [if_pos c2] at H
      by_cases c3 : (pk bs).length < 1000000
      rotate_left
      · rw [if_neg c3] at H
        cases H
      rw [if_pos c3] at H
      by_cases c4 : 0 ≤ wrap64 (Int.tdiv (bs.length : Int) 8)
      rotate_left
      · rw [if_neg c4] at H
        cases H
      rw [if_pos c4] at H
      by_cases c5 : wrap64 (Int.tdiv (bs.length : Int) 8) < ((pkY (pk bs) (bs.length : Int)).length : Int)
      rotate_left
      · rw [if_neg c5] at H
        cases H
      rw [if_pos c5] at H
      by_cases c6 : 0 ≤ wrap64 (7 - Int.tmod (bs.length : Int) 8)
      rotate_left
      · rw [if_neg c6] at H
        cases H
      rw [if_pos c6] at H
      have H' := Aside0.mk H
      have C2 := Aside0.mk c2
      have C3 := Aside0.mk c3
      have C5 := Aside0.mk (And.intro c4 c5)
      have C6 := Aside0.mk c6
      have c1e := eq_true (show 0 ≤ x6 from c1)
      clear H c1 c2 c3 c4 c5 c6
      obtain ⟨n, hn⟩ : ∃ n : Int, n = (bs.length : Int) := ⟨_, rfl⟩
      have HT := Aside0.mk (show Bh wr g (pk bs) n from hn ▸ HT.out)
      rw [← hn] at C5 C6
      have HN := Aside0.mk hn
      clear hn
      obtain ⟨jq, hjq⟩ : ∃ j : Int, wrap64 (Int.tdiv n 8) = j := ⟨_, rfl⟩
      have hjqw : (IntKind.i64.wrap (Int.tdiv n 8)) = jq := (i64_w _).trans hjq
      obtain ⟨ms, hms⟩ : ∃ j : Int, wrap64 (7 - Int.tmod n 8) = j := ⟨_, rfl⟩
      have hmsw : (IntKind.i64.wrap (7 - Int.tmod n 8)) = ms := (i64_w _).trans hms
      obtain ⟨js, hjs⟩ : ∃ j : Int, shr .u64 v x6 = j := ⟨_, rfl⟩
      have hjs_ : (v / 2 ^ min x6.toNat 64) = js := hjs
      obtain ⟨jl, hjl⟩ : ∃ j : Int, shl .u8 1 ms = j := ⟨_, rfl⟩
      have hjl_ : (IntKind.u8.wrap (2 ^ min ms.toNat 8)) = jl := by have := hjl; unfold shl at this; rw [Int.one_mul] at this; exact this
      have hjlz : ms ≤ 8 → (IntKind.u8.wrap (2 ^ ms.toNat)) = jl := fun h => by have := shl_small hjl h; rw [Int.one_mul] at this; exact this
      rw [hjq] at C5
      rw [hms] at C6
      have c6e := eq_true C6.out
      -- the byte that the bit falls into
      obtain ⟨va, hh, hR⟩ := HT.out
      have HH := Aside0.mk hh
      have HR := Aside0.mk hR
      have h0 := blk_cell hh 0
      have h1 := blk_cell hh 1
      have hf0 := blk_frozen hh 0
      simp only [List.getElem?_toArray, List.getElem?_cons_zero, List.getElem?_cons_succ] at h0 h1
      clear hh hR HT
      by_cases m : Int.tmod n 8 = 0
      · have mb : (Int.tmod n 8 == 0) = true := beq_iff_eq.mpr m
        have MY := Aside0.mk (show pkY (pk bs) n = pk bs ++ [0] from if_pos m)
        clear m
        go_upto_region 5 with (first | ((with_reducible refine gate_builtin (b := .append) (xs := #[.tmp 23, .tmp 24]) rfl ?_); at_builtin; refine Kd.R_append (Kd.int .u8) (w0 := w) g rfl (.tmp 23) (.tmp 24) 32 5 (.int .u8 0) 1 rfl Try.underlying32 info5 rfl (by decide) (by omega) va (pk bs) 0 [.int .u8 0] (fun k => k ≠ g) (fun _ => False) rfl rfl ?aP (fun _ hk => hk.elim) ?aF HR.out HB.out ?aS ?aL ?_; (case aP => exact rfl); (case aF => exact (fun k hk e => by have := blk_lt HH.out; omega)); (case aS => exact Nat.le_of_lt (blk_lt HH.out)); (case aL => have := C3.out; omega); intro v1 w2 ho hb2 hg hat; have HO := Aside0.mk ho; have HB2 := Aside0.mk hb2; have hh2 := blk_grown HH.out hg (fun e => HR.out.1 g e.symm rfl); have H2 := Aside0.mk hh2; have g1 := blk_cell hh2 1; have g0 := blk_cell hh2 0; have gf := blk_frozen hh2 0; simp only [List.getElem?_toArray, List.getElem?_cons_zero, List.getElem?_cons_succ] at g1 g0; clear ho hb2 hg hat hh2; obtain ⟨Ao, co, eo⟩ := Kd.R_slice HO.out; subst eo))
        have e1 : (pk bs ++ [(0 : Int)]).length = (pk bs).length + 1 := by simp
        have HO' := HO.out
        rw [e1] at HO'
        obtain ⟨wq, hwq⟩ : ∃ W, W = w2.setCell ⟨g, 0, none⟩ (.slice Ao ((pk bs).length + 1) co) := ⟨_, rfl⟩
        have HT5 := Aside0.mk (show Bh wq g (pkY (pk bs) n) n from by rw [hwq]; exact ⟨_, blk_put H2.out 0 _ rfl, by rw [MY.out]; exact Kd.R_far HO' (fun k h => h) _⟩)
        have HB5 := Aside0.mk (show Below g w wq from by rw [hwq]; exact HB2.out.setCell (Nat.le_refl _) _)
        rw [← hwq]
        clear hwq HO' HO e1 H2 g1 g0 gf h0 h1 hf0 HB2 HB HR HH
        obtain ⟨vb, hh, hR⟩ := HT5.out
        obtain ⟨ys, hys⟩ : ∃ l : List Int, l = pkY (pk bs) n := ⟨_, rfl⟩
        rw [← hys] at hR
        have C5b := Aside0.mk (show 0 ≤ jq ∧ jq < (ys.length : Int) from by rw [hys]; exact C5.out)
        have NY := Aside0.mk hys
        obtain ⟨Ab, cb, eb⟩ := Kd.R_slice hR
        subst eb
        have HH5 := Aside0.mk hh
        have HR5 := Aside0.mk hR
        have h0 := blk_cell hh 0
        have h1 := blk_cell hh 1
        have hf0 := blk_frozen hh 0
        have hf1 := blk_frozen hh 1
        simp only [List.getElem?_toArray, List.getElem?_cons_zero, List.getElem?_cons_succ] at h0 h1
        clear hh hR HT5 hys
        by_cases b : impl_put.bb v x6 = 1
        · have bb : (Go.bits .and .u64 js 1 == 1) = true := by rw [← hjs]; exact beq_iff_eq.mpr b
          have BB := Aside0.mk b
          clear b
          go_upto_region 6 with (fail)
          have p1 : 0 ≤ jq := C5b.out.1
          have q1 : jq < (ys.length : Int) := C5b.out.2
          obtain ⟨ad, ea, hx⟩ := Kd.at_int (Kd.R_reads' HR5.out).2.2 jq p1 q1
          cases ea
          obtain ⟨go14, co14, eo14, gb14, gl14, cl14, HG14⟩ := Kd.R_form HR5.out (by omega)
          (first | cases eo14 | (injection eo14 with ea_ en_ ec_; (first | subst ea_ | (injection ea_ with ea_; subst ea_)); subst ec_; clear en_))
          (first | simp only [add_plain] at hx | skip)
          obtain ⟨hx14, hf14⟩ := Kd.R_celln 0 HR5.out jq p1 q1
          have hgo : go14 ≠ g := HR5.out.1 go14 rfl
          have HP := Aside0.mk (Kd.R_putn HR5.out jq (Go.bits .or .u8 (rd ys jq) jl))
          have P1 := eq_true p1
          have Q1 := eq_true q1
          clear p1 q1
          refine start_ (n := 21) (S := fun w' => w'.cell? ⟨g, 0, none⟩ = some (.slice (some ⟨go14, 0, none⟩) ys.length cb) ∧ w'.cell? ⟨g, 1, none⟩ = some (.int .i64 n) ∧ w'.cell? ⟨go14, jq.toNat, none⟩ = some (.int .u8 (rd ys jq))) (ds := [20]) #[false, false, false, false, false, false, false, false, false, false, false, false, false, false, false, false, false, false, false, false, false] (by kernel_rfl) rfl rfl ⟨h0, h1, hx⟩ (fun hHeld => ?_); refine with_tabW impl_put.tab6 impl_put.bits6 (fun HT_ HW_ => ?_)
          refine pure_ (i := 0) (N := some 33) (v := ?_) (a' := ?_) #[true, false, false, false, false, false, false, false, false, false, false, false, false, false, false, false, false, false, false, false, false] rfl rfl (any_of HT_.out (by kernel_rfl)) (fun _ _ _ h => h) (Or.inl ⟨by rfl, ?_⟩) ?_ ?_
          rotate_left
          · intro w'
            go_simp
            with_reducible rfl
          rotate_left
          · simp only [Act.put, sqA, sqZ, sqS, i64_w, i32_w]
            rfl
          refine pure_ (i := 1) (N := some 34) (v := ?_) (a' := ?_) #[true, true, false, false, false, false, false, false, false, false, false, false, false, false, false, false, false, false, false, false, false] rfl rfl (any_of HT_.out (by kernel_rfl)) (fun _ _ _ h => h) (Or.inl ⟨by rfl, ?_⟩) ?_ ?_
          rotate_left
          · intro w'
            go_simp
            with_reducible rfl
          rotate_left
          · simp only [Act.put, sqA, sqZ, sqS, i64_w, i32_w]
            rfl
          refine pure_ (i := 2) (N := some 35) (v := ?_) (a' := ?_) #[true, true, true, false, false, false, false, false, false, false, false, false, false, false, false, false, false, false, false, false, false] rfl rfl (any_of HT_.out (by kernel_rfl)) (fun _ _ _ h => h) (Or.inl ⟨by rfl, ?_⟩) ?_ ?_
          rotate_left
          · intro w'
            go_simp
            with_reducible rfl
          rotate_left
          · simp only [Act.put, sqA, sqZ, sqS, i64_w, i32_w]
            rfl
          refine pure_ (i := 4) (N := some 37) (v := ?_) (a' := ?_) #[true, true, true, false, true, false, false, false, false, false, false, false, false, false, false, false, false, false, false, false, false] rfl rfl (any_of HT_.out (by kernel_rfl)) (fun _ _ _ h => h) (Or.inl ⟨by rfl, ?_⟩) ?_ ?_
          rotate_left
          · intro w'
            go_simp
            with_reducible rfl
          rotate_left
          · simp only [Act.put, sqA, sqZ, sqS, i64_w, i32_w]
            rfl
          refine pure_ (i := 5) (N := some 38) (v := ?_) (a' := ?_) #[true, true, true, false, true, true, false, false, false, false, false, false, false, false, false, false, false, false, false, false, false] rfl rfl (any_of HT_.out (by kernel_rfl)) (fun _ _ _ h => h) (Or.inl ⟨by rfl, ?_⟩) ?_ ?_
          rotate_left
          · intro w'
            go_simp
            with_reducible rfl
          rotate_left
          · simp only [Act.put, sqA, sqZ, sqS, i64_w, i32_w]
            rfl
          refine pure_ (i := 6) (N := some 39) (v := ?_) (a' := ?_) #[true, true, true, false, true, true, true, false, false, false, false, false, false, false, false, false, false, false, false, false, false] rfl rfl (any_of HT_.out (by kernel_rfl)) (fun _ _ _ h => h) (Or.inl ⟨by rfl, ?_⟩) ?_ ?_
          rotate_left
          · intro w'
            go_simp
            with_reducible rfl
          rotate_left
          · simp only [Act.put, sqA, sqZ, sqS, i64_w, i32_w]
            rfl
          refine pure_ (i := 11) (N := some 44) (v := ?_) (a' := ?_) #[true, true, true, false, true, true, true, false, false, false, false, true, false, false, false, false, false, false, false, false, false] rfl rfl (any_of HT_.out (by kernel_rfl)) (fun _ _ _ h => h) (Or.inl ⟨by rfl, ?_⟩) ?_ ?_
          rotate_left
          · intro w'
            go_simp
            with_reducible rfl
          rotate_left
          · simp only [Act.put, sqA, sqZ, sqS, i64_w, i32_w]
            rfl
          refine pure_ (i := 12) (N := some 45) (v := ?_) (a' := ?_) #[true, true, true, false, true, true, true, false, false, false, false, true, true, false, false, false, false, false, false, false, false] rfl rfl (any_of HT_.out (by kernel_rfl)) (fun _ _ _ h => h) (Or.inl ⟨by rfl, ?_⟩) ?_ ?_
          rotate_left
          · intro w'
            go_simp
            with_reducible rfl
          rotate_left
          · simp only [Act.put, sqA, sqZ, sqS, i64_w, i32_w]
            rfl
          refine pure_ (i := 13) (N := some 46) (v := ?_) (a' := ?_) #[true, true, true, false, true, true, true, false, false, false, false, true, true, true, false, false, false, false, false, false, false] rfl rfl (any_of HT_.out (by kernel_rfl)) (fun _ _ _ h => h) (Or.inl ⟨by rfl, ?_⟩) ?_ ?_
          rotate_left
          · intro w'
            go_simp
            with_reducible rfl
          rotate_left
          · simp only [Act.put, sqA, sqZ, sqS, i64_w, i32_w]
            rfl
          refine take_ (i := 3) (N := some 36) (v := ?_) (a' := ?_) #[true, true, true, true, true, true, true, false, false, false, false, true, true, true, false, false, false, false, false, false, false] rfl rfl (take_ofW HT_.out HW_.out (by kernel_rfl)) (fun _ _ _ h => h) (Or.inl ⟨by rfl, ?_⟩) hHeld ?_ ?_
          rotate_left
          · rintro w' ⟨s0, s1, s2⟩
            go_simp
            with_reducible rfl
          rotate_left
          · simp only [Act.put, sqA, sqZ, sqS, i64_w, i32_w]
            rfl
          refine take_ (i := 7) (N := some 40) (v := ?_) (a' := ?_) #[true, true, true, true, true, true, true, true, false, false, false, true, true, true, false, false, false, false, false, false, false] rfl rfl (take_ofW HT_.out HW_.out (by kernel_rfl)) (fun _ _ _ h => h) (Or.inl ⟨by rfl, ?_⟩) hHeld ?_ ?_
          rotate_left
          · rintro w' ⟨s0, s1, s2⟩
            go_simp
            with_reducible rfl
          rotate_left
          · simp only [Act.put, sqA, sqZ, sqS, i64_w, i32_w]
            rfl
          refine take_ (i := 14) (N := some 47) (v := ?_) (a' := ?_) #[true, true, true, true, true, true, true, true, false, false, false, true, true, true, true, false, false, false, false, false, false] rfl rfl (take_ofW HT_.out HW_.out (by kernel_rfl)) (fun _ _ _ h => h) (Or.inl ⟨by rfl, ?_⟩) hHeld ?_ ?_
          rotate_left
          · rintro w' ⟨s0, s1, s2⟩
            go_simp
            with_reducible rfl
          rotate_left
          · simp only [Act.put, sqA, sqZ, sqS, i64_w, i32_w]
            rfl
          refine pure_ (i := 8) (N := some 41) (v := ?_) (a' := ?_) #[true, true, true, true, true, true, true, true, true, false, false, true, true, true, true, false, false, false, false, false, false] rfl rfl (any_of HT_.out (by kernel_rfl)) (fun _ _ _ h => h) (Or.inl ⟨by rfl, ?_⟩) ?_ ?_
          rotate_left
          · intro w'
            go_simp
            with_reducible rfl
          rotate_left
          · simp only [Act.put, sqA, sqZ, sqS, i64_w, i32_w]
            rfl
          refine pure_ (i := 15) (N := some 48) (v := ?_) (a' := ?_) #[true, true, true, true, true, true, true, true, true, false, false, true, true, true, true, true, false, false, false, false, false] rfl rfl (any_of HT_.out (by kernel_rfl)) (fun _ _ _ h => h) (Or.inl ⟨by rfl, ?_⟩) ?_ ?_
          rotate_left
          · intro w'
            go_simp
            with_reducible rfl
          rotate_left
          · simp only [Act.put, sqA, sqZ, sqS, i64_w, i32_w]
            rfl
          refine pure_ (i := 16) (N := some 49) (v := ?_) (a' := ?_) #[true, true, true, true, true, true, true, true, true, false, false, true, true, true, true, true, true, false, false, false, false] rfl rfl (any_of HT_.out (by kernel_rfl)) (fun _ _ _ h => h) (Or.inl ⟨by rfl, ?_⟩) ?_ ?_
          rotate_left
          · intro w'
            go_simp
            with_reducible rfl
          rotate_left
          · simp only [Act.put, sqA, sqZ, sqS, i64_w, i32_w]
            rfl
          refine pure_ (i := 17) (N := some 50) (v := ?_) (a' := ?_) #[true, true, true, true, true, true, true, true, true, false, false, true, true, true, true, true, true, true, false, false, false] rfl rfl (any_of HT_.out (by kernel_rfl)) (fun _ _ _ h => h) (Or.inl ⟨by rfl, ?_⟩) ?_ ?_
          rotate_left
          · intro w'
            go_simp
            with_reducible rfl
          rotate_left
          · simp only [Act.put, sqA, sqZ, sqS, i64_w, i32_w]
            rfl
          refine pure_ (i := 9) (N := some 42) (v := ?_) (a' := ?_) #[true, true, true, true, true, true, true, true, true, true, false, true, true, true, true, true, true, true, false, false, false] rfl rfl (any_of HT_.out (by kernel_rfl)) (fun _ _ _ h => h) (Or.inl ⟨by rfl, ?_⟩) ?_ ?_
          rotate_left
          · intro w'
            go_simp
            with_reducible rfl
          rotate_left
          · simp only [Act.put, sqA, sqZ, sqS, i64_w, i32_w]
            rfl
          refine take_ (i := 10) (N := some 43) (v := ?_) (a' := ?_) #[true, true, true, true, true, true, true, true, true, true, true, true, true, true, true, true, true, true, false, false, false] rfl rfl (take_ofW HT_.out HW_.out (by kernel_rfl)) (fun _ _ _ h => h) (Or.inl ⟨by rfl, ?_⟩) hHeld ?_ ?_
          rotate_left
          · rintro w' ⟨s0, s1, s2⟩
            go_simp
            with_reducible rfl
          rotate_left
          · simp only [Act.put, sqA, sqZ, sqS, i64_w, i32_w]
            rfl
          refine pure_ (i := 18) (N := some 51) (v := ?_) (a' := ?_) #[true, true, true, true, true, true, true, true, true, true, true, true, true, true, true, true, true, true, true, false, false] rfl rfl (any_of HT_.out (by kernel_rfl)) (fun _ _ _ h => h) (Or.inl ⟨by rfl, ?_⟩) ?_ ?_
          rotate_left
          · intro w'
            go_simp
            with_reducible rfl
          rotate_left
          · simp only [Act.put, sqA, sqZ, sqS, i64_w, i32_w]
            rfl
          refine pure_ (i := 19) (N := some 52) (v := ?_) (a' := ?_) #[true, true, true, true, true, true, true, true, true, true, true, true, true, true, true, true, true, true, true, true, false] rfl rfl (any_of HT_.out (by kernel_rfl)) (fun _ _ _ h => h) (Or.inl ⟨by rfl, ?_⟩) ?_ ?_
          rotate_left
          · intro w'
            go_simp
            with_reducible rfl
          rotate_left
          · simp only [Act.put, sqA, sqZ, sqS, i64_w, i32_w]
            rfl
          refine last_ (i := 20) (N := none) #[true, true, true, true, true, true, true, true, true, true, true, true, true, true, true, true, true, true, true, true, true] rfl rfl (one_of HT_.out (by kernel_rfl)) (by decide) (fun K hK => ?_)
          refine skip_ (w1 := ?_) (by rfl) rfl ?_ ?_
          rotate_left
          · go_simp
            rfl
          refine hK.out _ _ ?_
          clear hK K
          refine done_ (done_of HT_.out (by kernel_rfl)) ?_
          obtain ⟨wz, hwz⟩ : ∃ W, W = (wq.setCell ⟨go14, jq.toNat, none⟩ (.int .u8 (Go.bits .or .u8 (rd ys jq) jl))).drew := ⟨_, rfl⟩
          have hz : wz.heap[g]? = some (.cells #[.slice (some ⟨go14, 0, none⟩) ys.length cb, .int .i64 n] 72 (0, 0)) := by rw [hwz]; exact (Below.heap_setCell wq ⟨go14, jq.toNat, none⟩ _ g (Ne.symm hgo)).trans HH5.out
          have HZ := Aside0.mk hz
          have HRZ := Aside0.mk (show (Kd.int .u8).R 5 wz g (fun k => k ≠ g) (.slice (some ⟨go14, 0, none⟩) ys.length cb) (ys.set jq.toNat (Go.bits .or .u8 (rd ys jq) jl)) from by rw [hwz]; exact Kd.R_drew HP.out)
          have HBZ := Aside0.mk (show Below g w wz from by rw [hwz]; exact Below.drew (HB5.out.setCell gb14 _))
          have z0 := blk_cell hz 0
          have z1 := blk_cell hz 1
          have zf0 := blk_frozen hz 0
          have zf1 := blk_frozen hz 1
          simp only [List.getElem?_toArray, List.getElem?_cons_zero, List.getElem?_cons_succ] at z0 z1
          rw [← hwz]
          clear hz hwz HP HR5 HH5 HB5 h0 h1 hf0 hf1 hx hx14 hf14 hHeld
          go_wp2
          go_roundg k1
          case measure => have := HK1.out; omega
          case rel =>
            refine ⟨bs ++ [impl_put.bb v x6], wrap64 (x6 - 1), rfl, H', ⟨by have := HK1.out; omega⟩, ⟨?_⟩, ⟨HBZ.out.setCell (Nat.le_refl _) _⟩⟩
            have e1 : pk (bs ++ [impl_put.bb v x6]) = ys.set jq.toNat (Go.bits .or .u8 (rd ys jq) jl) := by rw [pk_snoc, ← HN.out]; unfold pkB; rw [if_pos BB.out, hjq, hms, hjl, ← NY.out]
            have e2 : wrap64 (n + 1) = ((bs ++ [impl_put.bb v x6]).length : Int) := by rw [HN.out, List.length_append]; have := C2.out; unfold wrap64; simp; omega
            exact ⟨_, blk_put HZ.out 1 _ (by rw [e2]; rfl), by rw [e1]; exact Kd.R_far HRZ.out (fun k h => h) _⟩
        · have bb : (Go.bits .and .u64 js 1 == 1) = false := by rw [← hjs]; exact beq_eq_false_iff_ne.mpr b
          have BB := Aside0.mk b
          clear b
          go_wp2
          go_roundg k1
          case measure => have := HK1.out; omega
          case rel =>
            refine ⟨bs ++ [impl_put.bb v x6], wrap64 (x6 - 1), rfl, H', ⟨by have := HK1.out; omega⟩, ⟨?_⟩, ⟨HB5.out.setCell (Nat.le_refl _) _⟩⟩
            have e1 : pk (bs ++ [impl_put.bb v x6]) = ys := by rw [pk_snoc, ← HN.out]; unfold pkB; rw [if_neg BB.out]; exact NY.out.symm
            have e2 : wrap64 (n + 1) = ((bs ++ [impl_put.bb v x6]).length : Int) := by rw [HN.out, List.length_append]; have := C2.out; unfold wrap64; simp; omega
            exact ⟨_, blk_put HH5.out 1 _ (by rw [e2]; rfl), by rw [e1]; exact Kd.R_far HR5.out (fun k h => h) _⟩
      · have mb : (Int.tmod n 8 == 0) = false := beq_eq_false_iff_ne.mpr m
        have MY := Aside0.mk (show pkY (pk bs) n = pk bs from if_neg m)
        clear m
        go_upto_region 5 with (fail)
        have HT5 := Aside0.mk (show Bh wr g (pkY (pk bs) n) n from ⟨_, HH.out, by rw [MY.out]; exact HR.out⟩)
        have HB5 := HB
        clear h0 h1 hf0 HB HR HH HT
        generalize wr = wq at HT5 HB5 ⊢
        obtain ⟨vb, hh, hR⟩ := HT5.out
        obtain ⟨ys, hys⟩ : ∃ l : List Int, l = pkY (pk bs) n := ⟨_, rfl⟩
        rw [← hys] at hR
        have C5b := Aside0.mk (show 0 ≤ jq ∧ jq < (ys.length : Int) from by rw [hys]; exact C5.out)
        have NY := Aside0.mk hys
        obtain ⟨Ab, cb, eb⟩ := Kd.R_slice hR
        subst eb
        have HH5 := Aside0.mk hh
        have HR5 := Aside0.mk hR
        have h0 := blk_cell hh 0
        have h1 := blk_cell hh 1
        have hf0 := blk_frozen hh 0
        have hf1 := blk_frozen hh 1
        simp only [List.getElem?_toArray, List.getElem?_cons_zero, List.getElem?_cons_succ] at h0 h1
        clear hh hR HT5 hys
        by_cases b : impl_put.bb v x6 = 1
        · have bb : (Go.bits .and .u64 js 1 == 1) = true := by rw [← hjs]; exact beq_iff_eq.mpr b
          have BB := Aside0.mk b
          clear b
          go_upto_region 6 with (fail)
          have p1 : 0 ≤ jq := C5b.out.1
          have q1 : jq < (ys.length : Int) := C5b.out.2
          obtain ⟨ad, ea, hx⟩ := Kd.at_int (Kd.R_reads' HR5.out).2.2 jq p1 q1
          cases ea
          obtain ⟨go14, co14, eo14, gb14, gl14, cl14, HG14⟩ := Kd.R_form HR5.out (by omega)
          (first | cases eo14 | (injection eo14 with ea_ en_ ec_; (first | subst ea_ | (injection ea_ with ea_; subst ea_)); subst ec_; clear en_))
          (first | simp only [add_plain] at hx | skip)
          obtain ⟨hx14, hf14⟩ := Kd.R_celln 0 HR5.out jq p1 q1
          have hgo : go14 ≠ g := HR5.out.1 go14 rfl
          have HP := Aside0.mk (Kd.R_putn HR5.out jq (Go.bits .or .u8 (rd ys jq) jl))
          have P1 := eq_true p1
          have Q1 := eq_true q1
          clear p1 q1
          refine start_ (n := 21) (S := fun w' => w'.cell? ⟨g, 0, none⟩ = some (.slice (some ⟨go14, 0, none⟩) ys.length cb) ∧ w'.cell? ⟨g, 1, none⟩ = some (.int .i64 n) ∧ w'.cell? ⟨go14, jq.toNat, none⟩ = some (.int .u8 (rd ys jq))) (ds := [20]) #[false, false, false, false, false, false, false, false, false, false, false, false, false, false, false, false, false, false, false, false, false] (by kernel_rfl) rfl rfl ⟨h0, h1, hx⟩ (fun hHeld => ?_); refine with_tabW impl_put.tab6 impl_put.bits6 (fun HT_ HW_ => ?_)
          refine pure_ (i := 0) (N := some 33) (v := ?_) (a' := ?_) #[true, false, false, false, false, false, false, false, false, false, false, false, false, false, false, false, false, false, false, false, false] rfl rfl (any_of HT_.out (by kernel_rfl)) (fun _ _ _ h => h) (Or.inl ⟨by rfl, ?_⟩) ?_ ?_
          rotate_left
          · intro w'
            go_simp
            with_reducible rfl
          rotate_left
          · simp only [Act.put, sqA, sqZ, sqS, i64_w, i32_w]
            rfl
          refine pure_ (i := 1) (N := some 34) (v := ?_) (a' := ?_) #[true, true, false, false, false, false, false, false, false, false, false, false, false, false, false, false, false, false, false, false, false] rfl rfl (any_of HT_.out (by kernel_rfl)) (fun _ _ _ h => h) (Or.inl ⟨by rfl, ?_⟩) ?_ ?_
          rotate_left
          · intro w'
            go_simp
            with_reducible rfl
          rotate_left
          · simp only [Act.put, sqA, sqZ, sqS, i64_w, i32_w]
            rfl
          refine pure_ (i := 2) (N := some 35) (v := ?_) (a' := ?_) #[true, true, true, false, false, false, false, false, false, false, false, false, false, false, false, false, false, false, false, false, false] rfl rfl (any_of HT_.out (by kernel_rfl)) (fun _ _ _ h => h) (Or.inl ⟨by rfl, ?_⟩) ?_ ?_
          rotate_left
          · intro w'
            go_simp
            with_reducible rfl
          rotate_left
          · simp only [Act.put, sqA, sqZ, sqS, i64_w, i32_w]
            rfl
          refine pure_ (i := 4) (N := some 37) (v := ?_) (a' := ?_) #[true, true, true, false, true, false, false, false, false, false, false, false, false, false, false, false, false, false, false, false, false] rfl rfl (any_of HT_.out (by kernel_rfl)) (fun _ _ _ h => h) (Or.inl ⟨by rfl, ?_⟩) ?_ ?_
          rotate_left
          · intro w'
            go_simp
            with_reducible rfl
          rotate_left
          · simp only [Act.put, sqA, sqZ, sqS, i64_w, i32_w]
            rfl
          refine pure_ (i := 5) (N := some 38) (v := ?_) (a' := ?_) #[true, true, true, false, true, true, false, false, false, false, false, false, false, false, false, false, false, false, false, false, false] rfl rfl (any_of HT_.out (by kernel_rfl)) (fun _ _ _ h => h) (Or.inl ⟨by rfl, ?_⟩) ?_ ?_
          rotate_left
          · intro w'
            go_simp
            with_reducible rfl
          rotate_left
          · simp only [Act.put, sqA, sqZ, sqS, i64_w, i32_w]
            rfl
          refine pure_ (i := 6) (N := some 39) (v := ?_) (a' := ?_) #[true, true, true, false, true, true, true, false, false, false, false, false, false, false, false, false, false, false, false, false, false] rfl rfl (any_of HT_.out (by kernel_rfl)) (fun _ _ _ h => h) (Or.inl ⟨by rfl, ?_⟩) ?_ ?_
          rotate_left
          · intro w'
            go_simp
            with_reducible rfl
          rotate_left
          · simp only [Act.put, sqA, sqZ, sqS, i64_w, i32_w]
            rfl
          refine pure_ (i := 11) (N := some 44) (v := ?_) (a' := ?_) #[true, true, true, false, true, true, true, false, false, false, false, true, false, false, false, false, false, false, false, false, false] rfl rfl (any_of HT_.out (by kernel_rfl)) (fun _ _ _ h => h) (Or.inl ⟨by rfl, ?_⟩) ?_ ?_
          rotate_left
          · intro w'
            go_simp
            with_reducible rfl
          rotate_left
          · simp only [Act.put, sqA, sqZ, sqS, i64_w, i32_w]
            rfl
          refine pure_ (i := 12) (N := some 45) (v := ?_) (a' := ?_) #[true, true, true, false, true, true, true, false, false, false, false, true, true, false, false, false, false, false, false, false, false] rfl rfl (any_of HT_.out (by kernel_rfl)) (fun _ _ _ h => h) (Or.inl ⟨by rfl, ?_⟩) ?_ ?_
          rotate_left
          · intro w'
            go_simp
            with_reducible rfl
          rotate_left
          · simp only [Act.put, sqA, sqZ, sqS, i64_w, i32_w]
            rfl
          refine pure_ (i := 13) (N := some 46) (v := ?_) (a' := ?_) #[true, true, true, false, true, true, true, false, false, false, false, true, true, true, false, false, false, false, false, false, false] rfl rfl (any_of HT_.out (by kernel_rfl)) (fun _ _ _ h => h) (Or.inl ⟨by rfl, ?_⟩) ?_ ?_
          rotate_left
          · intro w'
            go_simp
            with_reducible rfl
          rotate_left
          · simp only [Act.put, sqA, sqZ, sqS, i64_w, i32_w]
            rfl
          refine take_ (i := 3) (N := some 36) (v := ?_) (a' := ?_) #[true, true, true, true, true, true, true, false, false, false, false, true, true, true, false, false, false, false, false, false, false] rfl rfl (take_ofW HT_.out HW_.out (by kernel_rfl)) (fun _ _ _ h => h) (Or.inl ⟨by rfl, ?_⟩) hHeld ?_ ?_
          rotate_left
          · rintro w' ⟨s0, s1, s2⟩
            go_simp
            with_reducible rfl
          rotate_left
          · simp only [Act.put, sqA, sqZ, sqS, i64_w, i32_w]
            rfl
          refine take_ (i := 7) (N := some 40) (v := ?_) (a' := ?_) #[true, true, true, true, true, true, true, true, false, false, false, true, true, true, false, false, false, false, false, false, false] rfl rfl (take_ofW HT_.out HW_.out (by kernel_rfl)) (fun _ _ _ h => h) (Or.inl ⟨by rfl, ?_⟩) hHeld ?_ ?_
          rotate_left
          · rintro w' ⟨s0, s1, s2⟩
            go_simp
            with_reducible rfl
          rotate_left
          · simp only [Act.put, sqA, sqZ, sqS, i64_w, i32_w]
            rfl
          refine take_ (i := 14) (N := some 47) (v := ?_) (a' := ?_) #[true, true, true, true, true, true, true, true, false, false, false, true, true, true, true, false, false, false, false, false, false] rfl rfl (take_ofW HT_.out HW_.out (by kernel_rfl)) (fun _ _ _ h => h) (Or.inl ⟨by rfl, ?_⟩) hHeld ?_ ?_
          rotate_left
          · rintro w' ⟨s0, s1, s2⟩
            go_simp
            with_reducible rfl
          rotate_left
          · simp only [Act.put, sqA, sqZ, sqS, i64_w, i32_w]
            rfl
          refine pure_ (i := 8) (N := some 41) (v := ?_) (a' := ?_) #[true, true, true, true, true, true, true, true, true, false, false, true, true, true, true, false, false, false, false, false, false] rfl rfl (any_of HT_.out (by kernel_rfl)) (fun _ _ _ h => h) (Or.inl ⟨by rfl, ?_⟩) ?_ ?_
          rotate_left
          · intro w'
            go_simp
            with_reducible rfl
          rotate_left
          · simp only [Act.put, sqA, sqZ, sqS, i64_w, i32_w]
            rfl
          refine pure_ (i := 15) (N := some 48) (v := ?_) (a' := ?_) #[true, true, true, true, true, true, true, true, true, false, false, true, true, true, true, true, false, false, false, false, false] rfl rfl (any_of HT_.out (by kernel_rfl)) (fun _ _ _ h => h) (Or.inl ⟨by rfl, ?_⟩) ?_ ?_
          rotate_left
          · intro w'
            go_simp
            with_reducible rfl
          rotate_left
          · simp only [Act.put, sqA, sqZ, sqS, i64_w, i32_w]
            rfl
          refine pure_ (i := 16) (N := some 49) (v := ?_) (a' := ?_) #[true, true, true, true, true, true, true, true, true, false, false, true, true, true, true, true, true, false, false, false, false] rfl rfl (any_of HT_.out (by kernel_rfl)) (fun _ _ _ h => h) (Or.inl ⟨by rfl, ?_⟩) ?_ ?_
          rotate_left
          · intro w'
            go_simp
            with_reducible rfl
          rotate_left
          · simp only [Act.put, sqA, sqZ, sqS, i64_w, i32_w]
            rfl
          refine pure_ (i := 17) (N := some 50) (v := ?_) (a' := ?_) #[true, true, true, true, true, true, true, true, true, false, false, true, true, true, true, true, true, true, false, false, false] rfl rfl (any_of HT_.out (by kernel_rfl)) (fun _ _ _ h => h) (Or.inl ⟨by rfl, ?_⟩) ?_ ?_
          rotate_left
          · intro w'
            go_simp
            with_reducible rfl
          rotate_left
          · simp only [Act.put, sqA, sqZ, sqS, i64_w, i32_w]
            rfl
          refine pure_ (i := 9) (N := some 42) (v := ?_) (a' := ?_) #[true, true, true, true, true, true, true, true, true, true, false, true, true, true, true, true, true, true, false, false, false] rfl rfl (any_of HT_.out (by kernel_rfl)) (fun _ _ _ h => h) (Or.inl ⟨by rfl, ?_⟩) ?_ ?_
          rotate_left
          · intro w'
            go_simp
            with_reducible rfl
          rotate_left
          · simp only [Act.put, sqA, sqZ, sqS, i64_w, i32_w]
            rfl
          refine take_ (i := 10) (N := some 43) (v := ?_) (a' := ?_) #[true, true, true, true, true, true, true, true, true, true, true, true, true, true, true, true, true, true, false, false, false] rfl rfl (take_ofW HT_.out HW_.out (by kernel_rfl)) (fun _ _ _ h => h) (Or.inl ⟨by rfl, ?_⟩) hHeld ?_ ?_
          rotate_left
          · rintro w' ⟨s0, s1, s2⟩
            go_simp
            with_reducible rfl
          rotate_left
          · simp only [Act.put, sqA, sqZ, sqS, i64_w, i32_w]
            rfl
          refine pure_ (i := 18) (N := some 51) (v := ?_) (a' := ?_) #[true, true, true, true, true, true, true, true, true, true, true, true, true, true, true, true, true, true, true, false, false] rfl rfl (any_of HT_.out (by kernel_rfl)) (fun _ _ _ h => h) (Or.inl ⟨by rfl, ?_⟩) ?_ ?_
          rotate_left
          · intro w'
            go_simp
            with_reducible rfl
          rotate_left
          · simp only [Act.put, sqA, sqZ, sqS, i64_w, i32_w]
            rfl
          refine pure_ (i := 19) (N := some 52) (v := ?_) (a' := ?_) #[true, true, true, true, true, true, true, true, true, true, true, true, true, true, true, true, true, true, true, true, false] rfl rfl (any_of HT_.out (by kernel_rfl)) (fun _ _ _ h => h) (Or.inl ⟨by rfl, ?_⟩) ?_ ?_
          rotate_left
          · intro w'
            go_simp
            with_reducible rfl
          rotate_left
          · simp only [Act.put, sqA, sqZ, sqS, i64_w, i32_w]
            rfl
          refine last_ (i := 20) (N := none) #[true, true, true, true, true, true, true, true, true, true, true, true, true, true, true, true, true, true, true, true, true] rfl rfl (one_of HT_.out (by kernel_rfl)) (by decide) (fun K hK => ?_)
          refine skip_ (w1 := ?_) (by rfl) rfl ?_ ?_
          rotate_left
          · go_simp
            rfl
          refine hK.out _ _ ?_
          clear hK K
          refine done_ (done_of HT_.out (by kernel_rfl)) ?_
          obtain ⟨wz, hwz⟩ : ∃ W, W = (wq.setCell ⟨go14, jq.toNat, none⟩ (.int .u8 (Go.bits .or .u8 (rd ys jq) jl))).drew := ⟨_, rfl⟩
          have hz : wz.heap[g]? = some (.cells #[.slice (some ⟨go14, 0, none⟩) ys.length cb, .int .i64 n] 72 (0, 0)) := by rw [hwz]; exact (Below.heap_setCell wq ⟨go14, jq.toNat, none⟩ _ g (Ne.symm hgo)).trans HH5.out
          have HZ := Aside0.mk hz
          have HRZ := Aside0.mk (show (Kd.int .u8).R 5 wz g (fun k => k ≠ g) (.slice (some ⟨go14, 0, none⟩) ys.length cb) (ys.set jq.toNat (Go.bits .or .u8 (rd ys jq) jl)) from by rw [hwz]; exact Kd.R_drew HP.out)
          have HBZ := Aside0.mk (show Below g w wz from by rw [hwz]; exact Below.drew (HB5.out.setCell gb14 _))
          have z0 := blk_cell hz 0
          have z1 := blk_cell hz 1
          have zf0 := blk_frozen hz 0
          have zf1 := blk_frozen hz 1
          simp only [List.getElem?_toArray, List.getElem?_cons_zero, List.getElem?_cons_succ] at z0 z1
          rw [← hwz]
          clear hz hwz HP HR5 HH5 HB5 h0 h1 hf0 hf1 hx hx14 hf14 hHeld
          go_wp2
          go_roundg k1
          case measure => have := HK1.out; omega
          case rel =>
            refine ⟨bs ++ [impl_put.bb v x6], wrap64 (x6 - 1), rfl, H', ⟨by have := HK1.out; omega⟩, ⟨?_⟩, ⟨HBZ.out.setCell (Nat.le_refl _) _⟩⟩
            have e1 : pk (bs ++ [impl_put.bb v x6]) = ys.set jq.toNat (Go.bits .or .u8 (rd ys jq) jl) := by rw [pk_snoc, ← HN.out]; unfold pkB; rw [if_pos BB.out, hjq, hms, hjl, ← NY.out]
            have e2 : wrap64 (n + 1) = ((bs ++ [impl_put.bb v x6]).length : Int) := by rw [HN.out, List.length_append]; have := C2.out; unfold wrap64; simp; omega
            exact ⟨_, blk_put HZ.out 1 _ (by rw [e2]; rfl), by rw [e1]; exact Kd.R_far HRZ.out (fun k h => h) _⟩
        · have bb : (Go.bits .and .u64 js 1 == 1) = false := by rw [← hjs]; exact beq_eq_false_iff_ne.mpr b
          have BB := Aside0.mk b
          clear b
          go_wp2
          go_roundg k1
          case measure => have := HK1.out; omega
          case rel =>
            refine ⟨bs ++ [impl_put.bb v x6], wrap64 (x6 - 1), rfl, H', ⟨by have := HK1.out; omega⟩, ⟨?_⟩, ⟨HB5.out.setCell (Nat.le_refl _) _⟩⟩
            have e1 : pk (bs ++ [impl_put.bb v x6]) = ys := by rw [pk_snoc, ← HN.out]; unfold pkB; rw [if_neg BB.out]; exact NY.out.symm
            have e2 : wrap64 (n + 1) = ((bs ++ [impl_put.bb v x6]).length : Int) := by rw [HN.out, List.length_append]; have := C2.out; unfold wrap64; simp; omega
            exact ⟨_, blk_put HH5.out 1 _ (by rw [e2]; rfl), by rw [e1]; exact Kd.R_far HR5.out (fun k h => h) _⟩
end Go.Proofs.Ytcdghhihfjojaaa.Q
