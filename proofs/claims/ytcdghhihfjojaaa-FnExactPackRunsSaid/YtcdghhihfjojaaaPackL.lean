/- Bits packed into bytes: what the program's put and the reference's two functions come to; no condition. -/
import Derived.Test.YtcdghhihfjojaaaGen
import Derived.Test.YtcdghhihfjojaaaBits
import Derived.Laws.BitsLemmas
import Derived.Test.YtcdghhihfjojaaaQx4
import Derived.Test.YtcdghhihfjojaaaQx5
set_option linter.unusedVariables false
set_option linter.unusedSimpArgs false
namespace Go.Proofs.Ytcdghhihfjojaaa.PackL
open Go.RowKit Go.Proofs.Ytcdghhihfjojaaa.Q Go.Proofs.Ytcdghhihfjojaaa.Gen Go.Proofs.YtcdghhihfjojaaaW.PrintWords Go.Proofs.YtcdghhihfjojaaaW.PrintMore
/-- The lowest bits of v, the highest of them first. -/
def bitsOf (v : Int) : Nat → List Int
  | 0 => []
  | n + 1 => (v / 2 ^ n % 2) :: bitsOf v n
theorem bitsOf_len (v : Int) (n : Nat) : (bitsOf v n).length = n := by
  induction n with
  | zero => rfl
  | succ n ih => simp [bitsOf, ih]
theorem bitsOf_01 (v : Int) (n : Nat) : ∀ b ∈ bitsOf v n, b = 0 ∨ b = 1 := by
  induction n with
  | zero => intro b hb; cases hb
  | succ n ih =>
    intro b hb
    rcases List.mem_cons.1 hb with rfl | hb
    · omega
    · exact ih b hb
theorem bitsOf_add (v : Int) (b : Nat) : ∀ a, bitsOf v (a + b) = bitsOf (v / 2 ^ b) a ++ bitsOf v b := by
  intro a
  induction a with
  | zero => simp [bitsOf]
  | succ a ih =>
    rw [show a + 1 + b = (a + b) + 1 by omega, bitsOf, ih, bitsOf, List.cons_append]
    congr 1
    rw [Nat.add_comm a b, Int.pow_add, Int.ediv_ediv_of_nonneg (by exact Int.pow_nonneg (by decide))]
theorem bitsOf_8 (v : Int) : bitsOf v 8 = bitsOf (v % 256) 8 := by
  simp only [bitsOf, List.cons.injEq, and_true, Int.reducePow]
  omega
/-! packed lists -/
theorem tm8 (n : Nat) : Int.tmod (n : Int) 8 = ((n % 8 : Nat) : Int) := by rw [Int.tmod_eq_emod_of_nonneg (by omega)]; rfl
theorem td8 (n : Nat) (h : n < 2000000) : wrap64 (Int.tdiv (n : Int) 8) = ((n / 8 : Nat) : Int) := by
  rw [Int.tdiv_eq_ediv_of_nonneg (by omega)]
  unfold wrap64
  omega
theorem sub7 (n : Nat) : wrap64 (7 - Int.tmod (n : Int) 8) = ((7 - n % 8 : Nat) : Int) := by
  rw [tm8]
  unfold wrap64
  omega
theorem pkY_len (xs : List Int) (n : Nat) (h : xs.length = (n + 7) / 8) : (pkY xs (n : Int)).length = (n + 8) / 8 := by
  unfold pkY
  rw [tm8]
  by_cases c : n % 8 = 0
  · rw [if_pos (by omega), List.length_append, h]
    simp
    omega
  · rw [if_neg (by omega), h]
    omega
theorem pkB_len (xs : List Int) (n : Nat) (b : Int) (h : xs.length = (n + 7) / 8) : (pkB xs (n : Int) b).length = (n + 1 + 7) / 8 := by
  unfold pkB
  split
  · rw [List.length_set, pkY_len xs n h]
  · rw [pkY_len xs n h]
theorem snoc_ind {P : List Int → Prop} (h0 : P []) (h1 : ∀ l b, P l → P (l ++ [b])) : ∀ l, P l := by
  intro l
  have : ∀ r : List Int, P r.reverse := by
    intro r
    induction r with
    | nil => exact h0
    | cons b r ih => rw [List.reverse_cons]; exact h1 _ _ ih
  have := this l.reverse
  rwa [List.reverse_reverse] at this
theorem pk_len (bits : List Int) : (pk bits).length = (bits.length + 7) / 8 := by
  refine snoc_ind (P := fun bits => (pk bits).length = (bits.length + 7) / 8) rfl (fun l b ih => ?_) bits
  rw [pk_snoc, pkB_len _ _ _ ih]
  simp
theorem bit8 (j : Nat) (h : j < 8) : (shl .u8 1 ((7 - j : Nat) : Int)) = ((2 ^ (7 - j) : Nat) : Int) := by
  have : ∀ j : Fin 8, (shl .u8 1 ((7 - j.1 : Nat) : Int)) = ((2 ^ (7 - j.1) : Nat) : Int) := by decide
  exact this ⟨j, h⟩
theorem or0_all : (List.range 256).all (fun x => Go.bits .or .u8 (x : Int) 0 == (x : Int)) = true := by decide +kernel
theorem or0 (x : Int) (h0 : 0 ≤ x) (h1 : x ≤ 255) : Go.bits .or .u8 x 0 = x := by
  have := List.all_eq_true.1 or0_all x.toNat (List.mem_range.2 (by omega))
  rw [beq_iff_eq, Int.toNat_of_nonneg h0] at this
  exact this
theorem or_range (x y : Int) : 0 ≤ Go.bits .or .u8 x y ∧ Go.bits .or .u8 x y ≤ 255 := by
  unfold Go.bits
  rw [IntKind.wrap_u8]
  omega
theorem pkY_range (xs : List Int) (n : Int) (h : ∀ x ∈ xs, 0 ≤ x ∧ x ≤ 255) : ∀ x ∈ pkY xs n, 0 ≤ x ∧ x ≤ 255 := by
  unfold pkY
  split
  · intro x hx
    rcases List.mem_append.1 hx with hx | hx
    · exact h x hx
    · rw [List.mem_singleton] at hx
      omega
  · exact h
theorem pk_range (bits : List Int) : ∀ x ∈ pk bits, 0 ≤ x ∧ x ≤ 255 := by
  refine snoc_ind (P := fun bits => ∀ x ∈ pk bits, 0 ≤ x ∧ x ≤ 255) (fun x hx => by cases hx) (fun l b ih => ?_) bits
  rw [pk_snoc]
  unfold pkB
  split
  · intro x hx
    rcases List.mem_or_eq_of_mem_set hx with hx | rfl
    · exact pkY_range _ _ ih x hx
    · exact or_range _ _
  · exact pkY_range _ _ ih
/-- Packing behind full bytes. -/
theorem pk_app (xs : List Int) (hx : xs.length % 8 = 0) : ∀ ys, xs.length + ys.length < 2000000 → pk (xs ++ ys) = pk xs ++ pk ys := by
  refine snoc_ind (P := fun ys => xs.length + ys.length < 2000000 → pk (xs ++ ys) = pk xs ++ pk ys) (fun _ => by simp [pk, pkR]) (fun ys b ih small0 => ?_)
  rw [List.length_append, List.length_singleton] at small0
  replace ih := ih (by omega)
  rw [← List.append_assoc, pk_snoc, pk_snoc, ih, List.length_append]
  have hl := pk_len xs
  have hy := pk_len ys
  have hY : pkY (pk xs ++ pk ys) ((xs.length + ys.length : Nat) : Int) = pk xs ++ pkY (pk ys) (ys.length : Int) := by
    unfold pkY
    rw [tm8, tm8, show (xs.length + ys.length) % 8 = ys.length % 8 by omega]
    split
    · rw [List.append_assoc]
    · rfl
  have hYl := pkY_len (pk ys) ys.length hy
  unfold pkB
  rw [hY]
  split
  · have small : xs.length + ys.length < 2000000 := by omega
    rw [td8 _ small, td8 ys.length (by omega), Int.toNat_natCast, Int.toNat_natCast, sub7, sub7, show (xs.length + ys.length) % 8 = ys.length % 8 by omega, rd_nat, rd_nat,
      show (xs.length + ys.length) / 8 = (pk xs).length + ys.length / 8 by omega, List.set_append_right _ _ (by omega), Nat.add_sub_cancel_left]
    congr 2
    simp only [List.getD_eq_getElem?_getD]
    rw [List.getElem?_append_right (by omega), Nat.add_sub_cancel_left]
  · rfl
/-! the reference's packing -/
theorem l7Bytes_ev (bits : List Int) (hn : bits.length ≤ 1000000) (hb : ∀ b ∈ bits, b = 0 ∨ b = 1) : Ev (fun k => spec_l7Bytes.f k bits) (pk bits) := by
  have key : ∀ t i, i + t = bits.length → Ev (fun k => spec_l7Bytes.l0 k bits (pk (bits.take i)) (i : Int)) (pk bits) := by
    intro t
    induction t with
    | zero =>
      intro i h
      refine Ev.step (fun k => spec_l7Bytes.l0.eq_2 _ _ _ k) (evNeg (by omega) ?_)
      rw [List.take_of_length_le (by omega)]
      exact Ev.now _
    | succ t ih =>
      intro i h
      have hi : i < bits.length := by omega
      have hl := pk_len (bits.take i)
      have hYl := pkY_len _ _ hl
      have hr := pkY_range (pk (bits.take i)) (i : Int) (pk_range _)
      rw [List.length_take, Nat.min_eq_left (by omega)] at hl hYl
      have htk : bits.take (i + 1) = bits.take i ++ [bits.getD i 0] := by
        rw [List.take_add_one, List.getElem?_eq_getElem hi]
        simp [List.getD_eq_getElem?_getD, hi]
      have hrest := ih (i + 1) (by omega)
      rw [htk, pk_snoc, List.length_take, Nat.min_eq_left (by omega)] at hrest
      have hq : wrap64 (Int.tdiv (i : Int) 8) = ((i / 8 : Nat) : Int) := td8 i (by omega)
      have hu : IntKind.u64.wrap (wrap64 (7 - Int.tmod (i : Int) 8)) = ((7 - i % 8 : Nat) : Int) := by rw [sub7]; simp [IntKind.wrap, IntKind.bits, IntKind.signed]; omega
      have hB : bits.getD i 0 = 0 ∨ bits.getD i 0 = 1 := by
        simp only [List.getD_eq_getElem?_getD, List.getElem?_eq_getElem hi, Option.getD_some]
        exact hb _ (List.getElem_mem hi)
      have hset : (pkY (pk (bits.take i)) (i : Int)).set (i / 8) (Go.bits .or .u8 (rd (pkY (pk (bits.take i)) (i : Int)) ((i / 8 : Nat) : Int)) (shl .u8 (bits.getD i 0) ((7 - i % 8 : Nat) : Int))) = pkB (pk (bits.take i)) (i : Int) (bits.getD i 0) := by
        unfold pkB
        rcases hB with e | e
        · rw [e, if_neg (by decide)]
          have z : shl .u8 0 ((7 - i % 8 : Nat) : Int) = 0 := by unfold shl; rw [Int.zero_mul, IntKind.wrap_u8]; rfl
          have hlt : i / 8 < (pkY (pk (bits.take i)) (i : Int)).length := by omega
          have hm : rd (pkY (pk (bits.take i)) (i : Int)) ((i / 8 : Nat) : Int) ∈ pkY (pk (bits.take i)) (i : Int) := by
            rw [rd_nat]
            simp only [List.getD_eq_getElem?_getD, List.getElem?_eq_getElem hlt, Option.getD_some]
            exact List.getElem_mem hlt
          rw [z, or0 _ (hr _ hm).1 (hr _ hm).2, rd_nat]
          simp only [List.getD_eq_getElem?_getD, List.getElem?_eq_getElem hlt, Option.getD_some]
          exact List.set_getElem_self hlt
        · rw [e, if_pos rfl, hq, sub7, Int.toNat_natCast]
      refine Ev.step (fun k => spec_l7Bytes.l0.eq_2 _ _ _ k) (evPos (by omega) ?_)
      rw [hq, hu, rd_nat, up1 (by omega), Int.toNat_natCast]
      replace hq := Aside0.mk hq
      replace hu := Aside0.mk hu
      by_cases c : Int.tmod (i : Int) 8 = 0
      · have hY : pkY (pk (bits.take i)) (i : Int) = pk (bits.take i) ++ [0] := if_pos c
        rw [hY] at hset hYl
        rw [← hset] at hrest
        exact evPos c (evPos (by omega) (Ev.bind (Ev.now _) (evPos (by omega) (evPos (by omega) (evPos (by omega) (evPos (by omega) hrest))))))
      · have hY : pkY (pk (bits.take i)) (i : Int) = pk (bits.take i) := if_neg c
        rw [hY] at hset hYl
        rw [← hset] at hrest
        exact evNeg c (evPos (by omega) (evPos (by omega) (evPos (by omega) (evPos (by omega) hrest))))
  have := key bits.length 0 (by omega)
  simpa [spec_l7Bytes.f, pk, pkR] using this
theorem shr_div (k : IntKind) (v : Int) (n : Nat) (h : n ≤ k.bits) : shr k v (n : Int) = v / 2 ^ n := by
  unfold shr
  rw [Int.toNat_natCast, Nat.min_eq_left h]
theorem and1 (x : Int) (h0 : 0 ≤ x) (h1 : x < 2 ^ 62) : Go.bits .and .i64 x 1 = x % 2 := bits_mask .i64 62 (by decide) (fun n a b => by rw [IntKind.wrap_i64]; omega) 1 (by decide) x h0 h1
theorem and1u (x : Int) (h0 : 0 ≤ x) (h1 : x < 2 ^ 62) : Go.bits .and .u64 x 1 = x % 2 := bits_mask .u64 62 (by decide) (fun n a b => by simp [IntKind.wrap, IntKind.bits, IntKind.signed]; omega) 1 (by decide) x h0 h1
theorem div_range (v : Int) (n : Nat) (h0 : 0 ≤ v) (h1 : v < 2 ^ 62) : 0 ≤ v / 2 ^ n ∧ v / 2 ^ n < 2 ^ 62 := by
  have hp : (0 : Int) < 2 ^ n := Int.pow_pos (by decide)
  refine ⟨Int.ediv_nonneg h0 (Int.le_of_lt hp), Int.lt_of_le_of_lt (Int.ediv_le_self _ h0) h1⟩
theorem l7Put_ev (v : Int) (h0 : 0 ≤ v) (h1 : v < 2 ^ 62) : ∀ (w : Nat) (bits : List Int), w ≤ 62 → bits.length + w ≤ 1000000 → Ev (fun k => spec_l7Put.l0 k bits v ((w : Int) - 1)) (bits ++ bitsOf v w) := by
  intro w
  induction w with
  | zero =>
    intro bits _ _
    refine Ev.step (fun k => spec_l7Put.l0.eq_2 _ _ _ k) (evNeg (by omega) ?_)
    simpa [bitsOf] using Ev.now _
  | succ w ih =>
    intro bits hw hl
    have d := div_range v w h0 h1
    have e1 : ((w + 1 : Nat) : Int) - 1 = (w : Int) := by omega
    have e2 : IntKind.u64.wrap (w : Int) = (w : Int) := by simp [IntKind.wrap, IntKind.bits, IntKind.signed]; omega
    have e3 : wrap64 ((w : Int) - 1) = (w : Int) - 1 := by unfold wrap64; omega
    rw [e1]
    refine Ev.step (fun k => spec_l7Put.l0.eq_2 _ _ _ k) (evPos (by omega) ?_)
    rw [e2, e3, shr_div .i64 v w (by show w ≤ 64; omega), and1 _ d.1 d.2]
    replace e2 := Aside0.mk e2
    replace e3 := Aside0.mk e3
    refine evPos (by omega) (evPos (by omega) ?_)
    rw [show v / 2 ^ w % 2 % 256 = v / 2 ^ w % 2 by omega]
    have := ih (bits ++ [v / 2 ^ w % 2]) (by omega) (by simp; omega)
    simpa [bitsOf] using this
theorem l7Put_f (v : Int) (h0 : 0 ≤ v) (h1 : v < 2 ^ 62) (w : Nat) (bits : List Int) (hw : w ≤ 62) (hl : bits.length + w ≤ 1000000) : Ev (fun k => spec_l7Put.f k bits v (w : Int)) (bits ++ bitsOf v w) := by
  unfold spec_l7Put.f
  rw [show wrap64 ((w : Int) - 1) = (w : Int) - 1 by unfold wrap64; omega]
  exact l7Put_ev v h0 h1 w bits hw hl
theorem put_ev (v : Int) (h0 : 0 ≤ v) (h1 : v < 2 ^ 62) : ∀ (w : Nat) (bits : List Int), w ≤ 62 → bits.length + w ≤ 900000 → Ev (fun k => impl_put.l0 k bits v ((w : Int) - 1)) (bits ++ bitsOf v w) := by
  intro w
  induction w with
  | zero =>
    intro bits _ _
    refine Ev.step (fun k => impl_put.l0.eq_2 _ _ _ k) (evNeg (by omega) ?_)
    simpa [bitsOf] using Ev.now _
  | succ w ih =>
    intro bits hw hl
    have d := div_range v w h0 h1
    have e1 : ((w + 1 : Nat) : Int) - 1 = (w : Int) := by omega
    have e3 : wrap64 ((w : Int) - 1) = (w : Int) - 1 := by unfold wrap64; omega
    have hp := pk_len bits
    have hY := pkY_len (pk bits) bits.length hp
    rw [e1]
    refine Ev.step (fun k => impl_put.l0.eq_2 _ _ _ k) (evPos (by omega) ?_)
    unfold impl_put.bb
    rw [e3, shr_div .u64 v w (by show w ≤ 64; omega), and1u _ d.1 d.2, td8 _ (by omega), sub7]
    replace e3 := Aside0.mk e3
    refine evPos (by omega) (evPos (by omega) (evPos (by omega) (evPos (by omega) (evPos (by omega) ?_))))
    have := ih (bits ++ [v / 2 ^ w % 2]) (by omega) (by simp; omega)
    simpa [bitsOf] using this
theorem put_f (v : Int) (h0 : 0 ≤ v) (h1 : v < 2 ^ 62) (w : Nat) (bits : List Int) (hw : w ≤ 62) (hl : bits.length + w ≤ 900000) : Ev (fun k => impl_put.f k bits v (w : Int)) (bits ++ bitsOf v w) := by
  unfold impl_put.f
  rw [show wrap64 ((w : Int) - 1) = (w : Int) - 1 by unfold wrap64; omega]
  exact put_ev v h0 h1 w bits hw hl
theorem byte_all : (List.range 256).all (fun b => pk (bitsOf (b : Int) 8) == [(b : Int)]) = true := by decide +kernel
theorem byte (v : Int) : pk (bitsOf v 8) = [v % 256] := by
  rw [bitsOf_8]
  have := List.all_eq_true.1 byte_all (v % 256).toNat (List.mem_range.2 (by omega))
  rw [beq_iff_eq, Int.toNat_of_nonneg (by omega)] at this
  exact this
theorem six (v : Int) : pk (bitsOf v 48) = [v / 2 ^ 40 % 256, v / 2 ^ 32 % 256, v / 2 ^ 24 % 256, v / 2 ^ 16 % 256, v / 2 ^ 8 % 256, v % 256] := by
  rw [show bitsOf v 48 = bitsOf (v / 2 ^ 40) 8 ++ (bitsOf (v / 2 ^ 32) 8 ++ (bitsOf (v / 2 ^ 24) 8 ++ (bitsOf (v / 2 ^ 16) 8 ++ (bitsOf (v / 2 ^ 8) 8 ++ bitsOf v 8)))) by
    have a0 := bitsOf_add v 8 8
    have a1 := bitsOf_add v 16 8
    have a2 := bitsOf_add v 24 8
    have a3 := bitsOf_add v 32 8
    have a4 := bitsOf_add v 40 8
    rw [show 48 = 8 + 40 from rfl, a4, show 40 = 8 + 32 from rfl, a3, show 32 = 8 + 24 from rfl, a2, show 24 = 8 + 16 from rfl, a1, show 16 = 8 + 8 from rfl, a0]]
  have l8 : ∀ v : Int, (bitsOf v 8).length % 8 = 0 := fun v => by rw [bitsOf_len]
  rw [pk_app _ (l8 _) _ (by simp [bitsOf_len]), pk_app _ (l8 _) _ (by simp [bitsOf_len]), pk_app _ (l8 _) _ (by simp [bitsOf_len]), pk_app _ (l8 _) _ (by simp [bitsOf_len]), pk_app _ (l8 _) _ (by simp [bitsOf_len])]
  simp only [byte, List.cons_append, List.nil_append]
end Go.Proofs.Ytcdghhihfjojaaa.PackL
