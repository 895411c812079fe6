/- The decoding of one rune out of a text: what the program's own function and the library's say of it; no condition. -/
import Derived.Test.YtcdghhihfjojaaaDoorGen
import Derived.Laws.BitsLemmas
import GoSem.PinnedTables
import Derived.Test.YtcdghhihfjojaaaDoorQx1
import Derived.Test.YtcdghhihfjojaaaDoorQx5
import Derived.Test.YtcdghhihfjojaaaDoorQx6
set_option linter.unusedVariables false
set_option linter.unusedSimpArgs false
namespace Go.Proofs.YtcdghhihfjojaaaDoor.Utf8L
open Go.RowKit Go.Proofs.YtcdghhihfjojaaaDoor.Q Go.Proofs.YtcdghhihfjojaaaDoor.Gen Go.Proofs.YtcdghhihfjojaaaDoorW.PrintWords Go.Proofs.YtcdghhihfjojaaaDoorW.PrintMore
def TX : List Int := Go.Pinned.utf8FirstZ.map Int.ofNat
def AX : List S55 := [⟨128, 191⟩, ⟨160, 191⟩, ⟨128, 159⟩, ⟨144, 191⟩, ⟨128, 143⟩, ⟨0, 0⟩, ⟨0, 0⟩, ⟨0, 0⟩, ⟨0, 0⟩, ⟨0, 0⟩, ⟨0, 0⟩, ⟨0, 0⟩, ⟨0, 0⟩, ⟨0, 0⟩, ⟨0, 0⟩, ⟨0, 0⟩]
def cls (b : Int) : Int := if b < 128 then 240 else if b < 194 then 241 else if b < 224 then 2 else if b = 224 then 19 else if b = 237 then 35 else if b < 240 then 3 else if b = 240 then 52 else if b < 244 then 4 else if b = 244 then 68 else 241
theorem first_all : (List.range 256).all (fun b => rd TX (b : Int) == cls (b : Int)) = true := by decide +kernel
theorem first_rd (b : Int) (h0 : 0 ≤ b) (h1 : b ≤ 255) : rd TX b = cls b := by
  have := List.all_eq_true.1 first_all b.toNat (List.mem_range.2 (by omega))
  rw [Int.toNat_of_nonneg h0] at this
  exact beq_iff_eq.1 this
def badE (b c : Int) : Int := Go.bits .or .i32 (Go.bits .andNot .i32 (wrap32 b) ((wrap32 ((wrap32 c) * 2147483648)) / 2147483648)) (Go.bits .and .i32 65533 ((wrap32 ((wrap32 c) * 2147483648)) / 2147483648))
theorem bad_all : (List.range 256).all (fun b => badE (b : Int) 241 == 65533) = true := by decide +kernel
theorem bad_is (b : Int) (h0 : 0 ≤ b) (h1 : b ≤ 255) : badE b 241 = 65533 := by
  have := List.all_eq_true.1 bad_all b.toNat (List.mem_range.2 (by omega))
  rw [Int.toNat_of_nonneg h0] at this
  exact beq_iff_eq.1 this
/-- A byte that goes on with a rune. -/
def go1 (b : Int) : Bool := decide (128 ≤ b) && decide (b ≤ 191)
def dec (n : Int) (b0 b1 b2 b3 : Int) : Int × Int :=
  if b0 < 128 then (b0, 1) else if b0 < 194 then (-1, 1)
  else if b0 < 224 then (if 2 ≤ n ∧ go1 b1 = true then ((b0 - 192) * 64 + (b1 - 128), 2) else (-1, 1))
  else if b0 < 240 then (if 3 ≤ n ∧ go1 b1 = true ∧ go1 b2 = true ∧ (b0 = 224 → 160 ≤ b1) ∧ (b0 = 237 → b1 < 160) then ((b0 - 224) * 4096 + (b1 - 128) * 64 + (b2 - 128), 3) else (-1, 1))
  else if b0 < 245 then (if 4 ≤ n ∧ go1 b1 = true ∧ go1 b2 = true ∧ go1 b3 = true ∧ (b0 = 240 → 144 ≤ b1) ∧ (b0 = 244 → b1 < 144) then ((b0 - 240) * 262144 + (b1 - 128) * 4096 + (b2 - 128) * 64 + (b3 - 128), 4) else (-1, 1))
  else (-1, 1)
def decS (s : ByteArray) (at_ : Nat) : Int × Int := dec ((s.size : Int) - at_) (bt s at_) (bt s ((at_ : Int) + 1)) (bt s ((at_ : Int) + 2)) (bt s ((at_ : Int) + 3))
theorem w32 {x : Int} (h0 : -2147483648 ≤ x) (h1 : x ≤ 2147483647) : wrap32 x = x := by unfold wrap32; omega
def lib (p : Int × Int) : Int × Int := (if p.1 = -1 then 65533 else p.1, p.2)
theorem val2 (x y : Int) (hx : 194 ≤ x) (hx' : x < 224) (hy : 128 ≤ y) (hy' : y ≤ 191) : Go.bits .or .i32 (wrap32 ((wrap32 (Go.bits .and .u8 x 31)) * 64)) (wrap32 (Go.bits .and .u8 y 63)) = (x - 192) * 64 + (y - 128) := by
  rw [u8_and31 x (by omega) (by omega), u8_and63 y (by omega) (by omega), w32 (x := x % 32) (by omega) (by omega), w32 (x := y % 64) (by omega) (by omega), w32 (x := x % 32 * 64) (by omega) (by omega), i32_or6 (x % 32 * 64) (y % 64) (by omega) (by omega) (by omega) (by omega) (by omega)]
  omega
theorem val3 (x y z : Int) (hx : 224 ≤ x) (hx' : x < 240) (hy : 128 ≤ y) (hy' : y ≤ 191) (hz : 128 ≤ z) (hz' : z ≤ 191) : Go.bits .or .i32 (Go.bits .or .i32 (wrap32 ((wrap32 (Go.bits .and .u8 x 15)) * 4096)) (wrap32 ((wrap32 (Go.bits .and .u8 y 63)) * 64))) (wrap32 (Go.bits .and .u8 z 63)) = (x - 224) * 4096 + (y - 128) * 64 + (z - 128) := by
  rw [u8_and15 x (by omega) (by omega), u8_and63 (x := y) (by omega) (by omega), u8_and63 (x := z) (by omega) (by omega), w32 (x := x % 16) (by omega) (by omega), w32 (x := y % 64) (by omega) (by omega), w32 (x := z % 64) (by omega) (by omega), w32 (x := x % 16 * 4096) (by omega) (by omega), w32 (x := y % 64 * 64) (by omega) (by omega), i32_or12 (x % 16 * 4096) (y % 64 * 64) (by omega) (by omega) (by omega) (by omega) (by omega), i32_or6 (x % 16 * 4096 + y % 64 * 64) (z % 64) (by omega) (by omega) (by omega) (by omega) (by omega)]
  omega
theorem val4 (x y z u : Int) (hx : 240 ≤ x) (hx' : x < 245) (hy : 128 ≤ y) (hy' : y ≤ 191) (hz : 128 ≤ z) (hz' : z ≤ 191) (hu : 128 ≤ u) (hu' : u ≤ 191) : Go.bits .or .i32 (Go.bits .or .i32 (Go.bits .or .i32 (wrap32 ((wrap32 (Go.bits .and .u8 x 7)) * 262144)) (wrap32 ((wrap32 (Go.bits .and .u8 y 63)) * 4096))) (wrap32 ((wrap32 (Go.bits .and .u8 z 63)) * 64))) (wrap32 (Go.bits .and .u8 u 63)) = (x - 240) * 262144 + (y - 128) * 4096 + (z - 128) * 64 + (u - 128) := by
  rw [u8_and7 x (by omega) (by omega), u8_and63 (x := y) (by omega) (by omega), u8_and63 (x := z) (by omega) (by omega), u8_and63 (x := u) (by omega) (by omega), w32 (x := x % 8) (by omega) (by omega), w32 (x := y % 64) (by omega) (by omega), w32 (x := z % 64) (by omega) (by omega), w32 (x := u % 64) (by omega) (by omega), w32 (x := x % 8 * 262144) (by omega) (by omega), w32 (x := y % 64 * 4096) (by omega) (by omega), w32 (x := z % 64 * 64) (by omega) (by omega), i32_or18 (x % 8 * 262144) (y % 64 * 4096) (by omega) (by omega) (by omega) (by omega) (by omega), i32_or12 (x % 8 * 262144 + y % 64 * 4096) (z % 64 * 64) (by omega) (by omega) (by omega) (by omega) (by omega), i32_or6 (x % 8 * 262144 + y % 64 * 4096 + z % 64 * 64) (u % 64) (by omega) (by omega) (by omega) (by omega) (by omega)]
  omega
theorem j0_bad (s : ByteArray) (b0 n b1 : Int) : Ev (fun k => utf8_decodeRuneInStringSlow.j0 k s b0 n b1 true) (65533, 1) :=
  Ev.step (fun k => utf8_decodeRuneInStringSlow.j0.eq_2 _ _ _ _ _ k) (evPos rfl (Ev.now _))
theorem j1_bad (s : ByteArray) (b0 n b1 b2 : Int) : Ev (fun k => utf8_decodeRuneInStringSlow.j1 k s b0 n b1 b2 true) (65533, 1) :=
  Ev.step (fun k => utf8_decodeRuneInStringSlow.j1.eq_2 _ _ _ _ _ _ k) (evPos rfl (Ev.now _))
/-- A second byte that is out of its range. -/
theorem tail_bad (s : ByteArray) (b0 n b1 lo hi : Int) (h : b1 < lo ∨ hi < b1) : Ev (fun k => if b1 < lo then utf8_decodeRuneInStringSlow.j0 k s b0 n b1 true else utf8_decodeRuneInStringSlow.j0 k s b0 n b1 (decide (hi < b1))) (65533, 1) := by
  by_cases c : b1 < lo
  · exact evPos c (j0_bad _ _ _ _)
  · rw [show decide (hi < b1) = true from decide_eq_true (by omega)]
    exact evNeg c (j0_bad _ _ _ _)
theorem tail_ok (s : ByteArray) (b0 n b1 lo hi : Int) (r : Int × Int) (h : lo ≤ b1 ∧ b1 ≤ hi) (k0 : Ev (fun k => utf8_decodeRuneInStringSlow.j0 k s b0 n b1 false) r) : Ev (fun k => if b1 < lo then utf8_decodeRuneInStringSlow.j0 k s b0 n b1 true else utf8_decodeRuneInStringSlow.j0 k s b0 n b1 (decide (hi < b1))) r := by
  rw [show decide (hi < b1) = false from decide_eq_false (by omega)]
  exact evNeg (by omega) k0
theorem j0_two (s : ByteArray) (b0 b1 : Int) (hx : 194 ≤ b0) (hx' : b0 < 224) (hy : 128 ≤ b1) (hy' : b1 ≤ 191) : Ev (fun k => utf8_decodeRuneInStringSlow.j0 k s b0 2 b1 false) ((b0 - 192) * 64 + (b1 - 128), 2) := by
  refine Ev.step (fun k => utf8_decodeRuneInStringSlow.j0.eq_2 _ _ _ _ _ k) (evNeg (by decide) (evPos (by omega) ?_))
  rw [val2 b0 b1 hx hx' hy hy']
  exact Ev.now _
theorem j0_three (s : ByteArray) (b0 b1 : Int) (hn : 3 ≤ s.size) (hx : 224 ≤ b0) (hx' : b0 < 240) (hy : 128 ≤ b1) (hy' : b1 ≤ 191) : Ev (fun k => utf8_decodeRuneInStringSlow.j0 k s b0 3 b1 false) (if go1 (bt s 2) = true then ((b0 - 224) * 4096 + (b1 - 128) * 64 + (bt s 2 - 128), 3) else (65533, 1)) := by
  refine Ev.step (fun k => utf8_decodeRuneInStringSlow.j0.eq_2 _ _ _ _ _ k) (evNeg (by decide) (evNeg (by omega) (evPos (by omega) ?_)))
  by_cases c : go1 (bt s 2) = true
  · rw [if_pos c]
    simp only [go1, Bool.and_eq_true, decide_eq_true_eq] at c
    rw [show decide (191 < bt s 2) = false from decide_eq_false (by omega)]
    refine evNeg (by omega) (Ev.step (fun k => utf8_decodeRuneInStringSlow.j1.eq_2 _ _ _ _ _ _ k) (evNeg (by decide) (evPos (by omega) ?_)))
    rw [val3 b0 b1 _ hx hx' hy hy' c.1 c.2]
    exact Ev.now _
  · rw [if_neg c]
    simp only [go1, Bool.and_eq_true, decide_eq_true_eq] at c
    by_cases d : bt s 2 < 128
    · exact evPos d (j1_bad _ _ _ _ _)
    · rw [show decide (191 < bt s 2) = true from decide_eq_true (by omega)]
      exact evNeg d (j1_bad _ _ _ _ _)
theorem j0_four (s : ByteArray) (b0 b1 : Int) (hn : 4 ≤ s.size) (hx : 240 ≤ b0) (hx' : b0 < 245) (hy : 128 ≤ b1) (hy' : b1 ≤ 191) : Ev (fun k => utf8_decodeRuneInStringSlow.j0 k s b0 4 b1 false) (if go1 (bt s 2) = true ∧ go1 (bt s 3) = true then ((b0 - 240) * 262144 + (b1 - 128) * 4096 + (bt s 2 - 128) * 64 + (bt s 3 - 128), 4) else (65533, 1)) := by
  refine Ev.step (fun k => utf8_decodeRuneInStringSlow.j0.eq_2 _ _ _ _ _ k) (evNeg (by decide) (evNeg (by omega) (evPos (by omega) ?_)))
  by_cases c : go1 (bt s 2) = true
  · have c2 := c
    simp only [go1, Bool.and_eq_true, decide_eq_true_eq] at c
    rw [show decide (191 < bt s 2) = false from decide_eq_false (by omega)]
    refine evNeg (by omega) (Ev.step (fun k => utf8_decodeRuneInStringSlow.j1.eq_2 _ _ _ _ _ _ k) (evNeg (by decide) (evNeg (by omega) (evPos (by omega) ?_))))
    by_cases e : go1 (bt s 3) = true
    · rw [if_pos (show go1 (bt s 2) = true ∧ go1 (bt s 3) = true from ⟨c2, e⟩)]
      simp only [go1, Bool.and_eq_true, decide_eq_true_eq] at e
      refine evNeg (by omega) (evNeg (by omega) ?_)
      rw [val4 b0 b1 _ _ hx hx' hy hy' c.1 c.2 e.1 e.2]
      exact Ev.now _
    · rw [if_neg (show ¬ (go1 (bt s 2) = true ∧ go1 (bt s 3) = true) from fun h => e h.2)]
      simp only [go1, Bool.and_eq_true, decide_eq_true_eq] at e
      by_cases d : bt s 3 < 128
      · exact evPos d (Ev.now _)
      · exact evNeg d (evPos (by omega) (Ev.now _))
  · rw [if_neg (show ¬ (go1 (bt s 2) = true ∧ go1 (bt s 3) = true) from fun h => c h.1)]
    simp only [go1, Bool.and_eq_true, decide_eq_true_eq] at c
    by_cases d : bt s 2 < 128
    · exact evPos d (j1_bad _ _ _ _ _)
    · rw [show decide (191 < bt s 2) = true from decide_eq_true (by omega)]
      exact evNeg d (j1_bad _ _ _ _ _)
theorem slow3 (s : ByteArray) (c lo hi : Int) (h128 : 128 ≤ lo) (h191 : hi ≤ 191) (hx : 224 ≤ bt s 0) (hx' : bt s 0 < 240) (h1 : ¬ c ≥ 240) (h2 : 0 ≤ c / 16) (h3 : c / 16 < 16) (hn : wrap64 (Go.bits .and .u8 c 7) = 3) (ha : rd_T55 AX (c / 16) = ⟨lo, hi⟩) :
    Ev (fun k => if c ≥ 240 then some (badE (bt s 0) c, 1) else if 0 ≤ c / 16 then (if c / 16 < 16 then (if (s.size : Int) < wrap64 (Go.bits .and .u8 c 7) then some (65533, 1) else (if 1 < (s.size : Int) then (if bt s 1 < (rd_T55 AX (c / 16)).f0 then utf8_decodeRuneInStringSlow.j0 k s (bt s 0) (wrap64 (Go.bits .and .u8 c 7)) (bt s 1) true else utf8_decodeRuneInStringSlow.j0 k s (bt s 0) (wrap64 (Go.bits .and .u8 c 7)) (bt s 1) (decide ((rd_T55 AX (c / 16)).f1 < bt s 1))) else none)) else none) else none)
      (if 3 ≤ (s.size : Int) ∧ lo ≤ bt s 1 ∧ bt s 1 ≤ hi ∧ go1 (bt s 2) = true then ((bt s 0 - 224) * 4096 + (bt s 1 - 128) * 64 + (bt s 2 - 128), 3) else (65533, 1)) := by
  refine evNeg h1 (evPos h2 (evPos h3 ?_))
  rw [hn, ha]
  by_cases d : (s.size : Int) < 3
  · rw [if_neg (show ¬ (3 ≤ (s.size : Int) ∧ lo ≤ bt s 1 ∧ bt s 1 ≤ hi ∧ go1 (bt s 2) = true) from fun h => by omega)]
    exact evPos d (Ev.now _)
  refine evNeg d (evPos (by omega) ?_)
  by_cases e : lo ≤ bt s 1 ∧ bt s 1 ≤ hi
  · have := j0_three s (bt s 0) (bt s 1) (by omega) hx hx' (by omega) (by omega)
    by_cases g : go1 (bt s 2) = true
    · rw [if_pos (show 3 ≤ (s.size : Int) ∧ lo ≤ bt s 1 ∧ bt s 1 ≤ hi ∧ go1 (bt s 2) = true from ⟨by omega, e.1, e.2, g⟩)]
      rw [if_pos g] at this
      exact tail_ok _ _ _ _ _ _ _ e this
    · rw [if_neg (show ¬ (3 ≤ (s.size : Int) ∧ lo ≤ bt s 1 ∧ bt s 1 ≤ hi ∧ go1 (bt s 2) = true) from fun h => g h.2.2.2)]
      rw [if_neg g] at this
      exact tail_ok _ _ _ _ _ _ _ e this
  · rw [if_neg (show ¬ (3 ≤ (s.size : Int) ∧ lo ≤ bt s 1 ∧ bt s 1 ≤ hi ∧ go1 (bt s 2) = true) from fun h => e ⟨h.2.1, h.2.2.1⟩)]
    exact tail_bad _ _ _ _ _ _ (show bt s 1 < lo ∨ hi < bt s 1 from by omega)
theorem slow4 (s : ByteArray) (c lo hi : Int) (h128 : 128 ≤ lo) (h191 : hi ≤ 191) (hx : 240 ≤ bt s 0) (hx' : bt s 0 < 245) (h1 : ¬ c ≥ 240) (h2 : 0 ≤ c / 16) (h3 : c / 16 < 16) (hn : wrap64 (Go.bits .and .u8 c 7) = 4) (ha : rd_T55 AX (c / 16) = ⟨lo, hi⟩) :
    Ev (fun k => if c ≥ 240 then some (badE (bt s 0) c, 1) else if 0 ≤ c / 16 then (if c / 16 < 16 then (if (s.size : Int) < wrap64 (Go.bits .and .u8 c 7) then some (65533, 1) else (if 1 < (s.size : Int) then (if bt s 1 < (rd_T55 AX (c / 16)).f0 then utf8_decodeRuneInStringSlow.j0 k s (bt s 0) (wrap64 (Go.bits .and .u8 c 7)) (bt s 1) true else utf8_decodeRuneInStringSlow.j0 k s (bt s 0) (wrap64 (Go.bits .and .u8 c 7)) (bt s 1) (decide ((rd_T55 AX (c / 16)).f1 < bt s 1))) else none)) else none) else none)
      (if 4 ≤ (s.size : Int) ∧ lo ≤ bt s 1 ∧ bt s 1 ≤ hi ∧ (go1 (bt s 2) = true ∧ go1 (bt s 3) = true) then ((bt s 0 - 240) * 262144 + (bt s 1 - 128) * 4096 + (bt s 2 - 128) * 64 + (bt s 3 - 128), 4) else (65533, 1)) := by
  refine evNeg h1 (evPos h2 (evPos h3 ?_))
  rw [hn, ha]
  by_cases d : (s.size : Int) < 4
  · rw [if_neg (show ¬ (4 ≤ (s.size : Int) ∧ lo ≤ bt s 1 ∧ bt s 1 ≤ hi ∧ (go1 (bt s 2) = true ∧ go1 (bt s 3) = true)) from fun h => by omega)]
    exact evPos d (Ev.now _)
  refine evNeg d (evPos (by omega) ?_)
  by_cases e : lo ≤ bt s 1 ∧ bt s 1 ≤ hi
  · have := j0_four s (bt s 0) (bt s 1) (by omega) hx hx' (by omega) (by omega)
    by_cases g : (go1 (bt s 2) = true ∧ go1 (bt s 3) = true)
    · rw [if_pos (show 4 ≤ (s.size : Int) ∧ lo ≤ bt s 1 ∧ bt s 1 ≤ hi ∧ (go1 (bt s 2) = true ∧ go1 (bt s 3) = true) from ⟨by omega, e.1, e.2, g⟩)]
      rw [if_pos g] at this
      exact tail_ok _ _ _ _ _ _ _ e this
    · rw [if_neg (show ¬ (4 ≤ (s.size : Int) ∧ lo ≤ bt s 1 ∧ bt s 1 ≤ hi ∧ (go1 (bt s 2) = true ∧ go1 (bt s 3) = true)) from fun h => g h.2.2.2)]
      rw [if_neg g] at this
      exact tail_ok _ _ _ _ _ _ _ e this
  · rw [if_neg (show ¬ (4 ≤ (s.size : Int) ∧ lo ≤ bt s 1 ∧ bt s 1 ≤ hi ∧ (go1 (bt s 2) = true ∧ go1 (bt s 3) = true)) from fun h => e ⟨h.2.1, h.2.2.1⟩)]
    exact tail_bad _ _ _ _ _ _ (show bt s 1 < lo ∨ hi < bt s 1 from by omega)
theorem slow_eq (s : ByteArray) (h : 0 < s.size) (hb : 128 ≤ bt s 0) : Ev (fun k => utf8_decodeRuneInStringSlow.f k s TX AX) (lib (decS s 0)) := by
  have r0 := bt_range s 0
  have r1 := bt_range s 1
  unfold utf8_decodeRuneInStringSlow.f
  refine evNeg (by omega) (evPos (by omega) (evPos r0.1 (evPos (by omega) ?_)))
  rw [first_rd _ r0.1 r0.2]
  rw [show decS s 0 = dec (s.size : Int) (bt s 0) (bt s 1) (bt s 2) (bt s 3) from by simp [decS]]
  have bad : lib (-1, 1) = (65533, 1) := rfl
  by_cases c1 : bt s 0 < 194
  · rw [show dec (s.size : Int) (bt s 0) (bt s 1) (bt s 2) (bt s 3) = (-1, 1) from by unfold dec; rw [if_neg (by omega), if_pos c1], bad, show cls (bt s 0) = 241 from by unfold cls; rw [if_neg (by omega), if_pos c1]]
    refine evPos (by decide) ?_
    rw [show (Go.bits .or .i32 (Go.bits .andNot .i32 (wrap32 (bt s 0)) ((wrap32 ((wrap32 241) * 2147483648)) / 2147483648)) (Go.bits .and .i32 65533 ((wrap32 ((wrap32 241) * 2147483648)) / 2147483648))) = 65533 from bad_is _ r0.1 r0.2]
    exact Ev.now _
  by_cases c2 : bt s 0 < 224
  · rw [show cls (bt s 0) = 2 from by unfold cls; rw [if_neg (by omega), if_neg c1, if_pos c2]]
    refine evNeg (by decide) (evPos (by decide) (evPos (by decide) ?_))
    rw [show wrap64 (Go.bits .and .u8 2 7) = 2 from by decide +kernel, show rd_T55 AX (2 / 16) = ⟨128, 191⟩ from by rfl]
    unfold dec
    rw [if_neg (by omega), if_neg c1, if_pos c2]
    by_cases d : (s.size : Int) < 2
    · rw [if_neg (show ¬ (2 ≤ (s.size : Int) ∧ go1 (bt s 1) = true) from fun h => by omega)]
      exact evPos d (Ev.now _)
    refine evNeg d (evPos (by omega) ?_)
    by_cases e : go1 (bt s 1) = true
    · rw [if_pos (show 2 ≤ (s.size : Int) ∧ go1 (bt s 1) = true from ⟨by omega, e⟩)]
      simp only [go1, Bool.and_eq_true, decide_eq_true_eq] at e
      rw [show lib ((bt s 0 - 192) * 64 + (bt s 1 - 128), 2) = ((bt s 0 - 192) * 64 + (bt s 1 - 128), 2) from by unfold lib; rw [if_neg (by omega)]]
      exact tail_ok _ _ _ _ _ _ _ e (j0_two s _ _ (by omega) c2 e.1 e.2)
    · rw [if_neg (show ¬ (2 ≤ (s.size : Int) ∧ go1 (bt s 1) = true) from fun h => e h.2)]
      simp only [go1, Bool.and_eq_true, decide_eq_true_eq] at e
      exact tail_bad _ _ _ _ _ _ (show bt s 1 < 128 ∨ 191 < bt s 1 from by omega)
  have z3 : ∀ lo hi : Int, 128 ≤ lo → (3 ≤ (s.size : Int) ∧ go1 (bt s 1) = true ∧ go1 (bt s 2) = true ∧ (bt s 0 = 224 → 160 ≤ bt s 1) ∧ (bt s 0 = 237 → bt s 1 < 160) ↔ 3 ≤ (s.size : Int) ∧ lo ≤ bt s 1 ∧ bt s 1 ≤ hi ∧ go1 (bt s 2) = true) → 224 ≤ bt s 0 → bt s 0 < 240 →
      (if 3 ≤ (s.size : Int) ∧ lo ≤ bt s 1 ∧ bt s 1 ≤ hi ∧ go1 (bt s 2) = true then ((bt s 0 - 224) * 4096 + (bt s 1 - 128) * 64 + (bt s 2 - 128), 3) else (65533, 1)) = lib (dec (s.size : Int) (bt s 0) (bt s 1) (bt s 2) (bt s 3)) := by
    intro lo hi hl hiff h1 h2
    rw [show dec (s.size : Int) (bt s 0) (bt s 1) (bt s 2) (bt s 3) = (if 3 ≤ (s.size : Int) ∧ go1 (bt s 1) = true ∧ go1 (bt s 2) = true ∧ (bt s 0 = 224 → 160 ≤ bt s 1) ∧ (bt s 0 = 237 → bt s 1 < 160) then ((bt s 0 - 224) * 4096 + (bt s 1 - 128) * 64 + (bt s 2 - 128), 3) else (-1, 1)) from by unfold dec; rw [if_neg (by omega), if_neg (by omega), if_neg (by omega), if_pos h2]]
    by_cases q : 3 ≤ (s.size : Int) ∧ lo ≤ bt s 1 ∧ bt s 1 ≤ hi ∧ go1 (bt s 2) = true
    · rw [if_pos q, if_pos (hiff.2 q)]
      have q3 := q.2.2.2
      simp only [go1, Bool.and_eq_true, decide_eq_true_eq] at q3
      unfold lib
      rw [if_neg (show ¬ ((bt s 0 - 224) * 4096 + (bt s 1 - 128) * 64 + (bt s 2 - 128) = -1) from by omega)]
    · rw [if_neg q, if_neg (fun h => q (hiff.1 h)), bad]
  have z4 : ∀ lo hi : Int, 128 ≤ lo → (4 ≤ (s.size : Int) ∧ go1 (bt s 1) = true ∧ go1 (bt s 2) = true ∧ go1 (bt s 3) = true ∧ (bt s 0 = 240 → 144 ≤ bt s 1) ∧ (bt s 0 = 244 → bt s 1 < 144) ↔ 4 ≤ (s.size : Int) ∧ lo ≤ bt s 1 ∧ bt s 1 ≤ hi ∧ (go1 (bt s 2) = true ∧ go1 (bt s 3) = true)) → 240 ≤ bt s 0 → bt s 0 < 245 →
      (if 4 ≤ (s.size : Int) ∧ lo ≤ bt s 1 ∧ bt s 1 ≤ hi ∧ (go1 (bt s 2) = true ∧ go1 (bt s 3) = true) then ((bt s 0 - 240) * 262144 + (bt s 1 - 128) * 4096 + (bt s 2 - 128) * 64 + (bt s 3 - 128), 4) else (65533, 1)) = lib (dec (s.size : Int) (bt s 0) (bt s 1) (bt s 2) (bt s 3)) := by
    intro lo hi hl hiff h1 h2
    rw [show dec (s.size : Int) (bt s 0) (bt s 1) (bt s 2) (bt s 3) = (if 4 ≤ (s.size : Int) ∧ go1 (bt s 1) = true ∧ go1 (bt s 2) = true ∧ go1 (bt s 3) = true ∧ (bt s 0 = 240 → 144 ≤ bt s 1) ∧ (bt s 0 = 244 → bt s 1 < 144) then ((bt s 0 - 240) * 262144 + (bt s 1 - 128) * 4096 + (bt s 2 - 128) * 64 + (bt s 3 - 128), 4) else (-1, 1)) from by unfold dec; rw [if_neg (by omega), if_neg (by omega), if_neg (by omega), if_neg (by omega), if_pos h2]]
    by_cases q : 4 ≤ (s.size : Int) ∧ lo ≤ bt s 1 ∧ bt s 1 ≤ hi ∧ (go1 (bt s 2) = true ∧ go1 (bt s 3) = true)
    · rw [if_pos q, if_pos (hiff.2 q)]
      have q3 := q.2.2.2
      simp only [go1, Bool.and_eq_true, decide_eq_true_eq] at q3
      unfold lib
      rw [if_neg (show ¬ ((bt s 0 - 240) * 262144 + (bt s 1 - 128) * 4096 + (bt s 2 - 128) * 64 + (bt s 3 - 128) = -1) from by omega)]
    · rw [if_neg q, if_neg (fun h => q (hiff.1 h)), bad]
  by_cases c3 : bt s 0 = 224
  · rw [show cls (bt s 0) = 19 from by unfold cls; rw [if_neg (by omega), if_neg c1, if_neg c2, if_pos c3], ← z3 160 191 (by decide) (by simp only [go1, Bool.and_eq_true, decide_eq_true_eq]; omega) (by omega) (by omega)]
    exact slow3 s 19 160 191 (by decide) (by decide) (by omega) (by omega) (by decide) (by decide) (by decide) (by decide +kernel) rfl
  by_cases c4 : bt s 0 = 237
  · rw [show cls (bt s 0) = 35 from by unfold cls; rw [if_neg (by omega), if_neg c1, if_neg c2, if_neg c3, if_pos c4], ← z3 128 159 (by decide) (by simp only [go1, Bool.and_eq_true, decide_eq_true_eq]; omega) (by omega) (by omega)]
    exact slow3 s 35 128 159 (by decide) (by decide) (by omega) (by omega) (by decide) (by decide) (by decide) (by decide +kernel) rfl
  by_cases c5 : bt s 0 < 240
  · rw [show cls (bt s 0) = 3 from by unfold cls; rw [if_neg (by omega), if_neg c1, if_neg c2, if_neg c3, if_neg c4, if_pos c5], ← z3 128 191 (by decide) (by simp only [go1, Bool.and_eq_true, decide_eq_true_eq]; omega) (by omega) (by omega)]
    exact slow3 s 3 128 191 (by decide) (by decide) (by omega) (by omega) (by decide) (by decide) (by decide) (by decide +kernel) rfl
  by_cases c6 : bt s 0 = 240
  · rw [show cls (bt s 0) = 52 from by unfold cls; rw [if_neg (by omega), if_neg c1, if_neg c2, if_neg c3, if_neg c4, if_neg c5, if_pos c6], ← z4 144 191 (by decide) (by simp only [go1, Bool.and_eq_true, decide_eq_true_eq]; omega) (by omega) (by omega)]
    exact slow4 s 52 144 191 (by decide) (by decide) (by omega) (by omega) (by decide) (by decide) (by decide) (by decide +kernel) rfl
  by_cases c7 : bt s 0 < 244
  · rw [show cls (bt s 0) = 4 from by unfold cls; rw [if_neg (by omega), if_neg c1, if_neg c2, if_neg c3, if_neg c4, if_neg c5, if_neg c6, if_pos c7], ← z4 128 191 (by decide) (by simp only [go1, Bool.and_eq_true, decide_eq_true_eq]; omega) (by omega) (by omega)]
    exact slow4 s 4 128 191 (by decide) (by decide) (by omega) (by omega) (by decide) (by decide) (by decide) (by decide +kernel) rfl
  by_cases c8 : bt s 0 = 244
  · rw [show cls (bt s 0) = 68 from by unfold cls; rw [if_neg (by omega), if_neg c1, if_neg c2, if_neg c3, if_neg c4, if_neg c5, if_neg c6, if_neg c7, if_pos c8], ← z4 128 143 (by decide) (by simp only [go1, Bool.and_eq_true, decide_eq_true_eq]; omega) (by omega) (by omega)]
    exact slow4 s 68 128 143 (by decide) (by decide) (by omega) (by omega) (by decide) (by decide) (by decide) (by decide +kernel) rfl
  rw [show dec (s.size : Int) (bt s 0) (bt s 1) (bt s 2) (bt s 3) = (-1, 1) from by unfold dec; rw [if_neg (by omega), if_neg c1, if_neg c2, if_neg c5, if_neg (by omega)], bad, show cls (bt s 0) = 241 from by unfold cls; rw [if_neg (by omega), if_neg c1, if_neg c2, if_neg c3, if_neg c4, if_neg c5, if_neg c6, if_neg c7, if_neg c8]]
  refine evPos (by decide) ?_
  rw [show (Go.bits .or .i32 (Go.bits .andNot .i32 (wrap32 (bt s 0)) ((wrap32 ((wrap32 241) * 2147483648)) / 2147483648)) (Go.bits .and .i32 65533 ((wrap32 ((wrap32 241) * 2147483648)) / 2147483648))) = 65533 from bad_is _ r0.1 r0.2]
  exact Ev.now _
/-- The library's decoding of a text that is not empty. -/
theorem decode_eq (s : ByteArray) (h : 0 < s.size) : Ev (fun k => utf8_DecodeRuneInString.f k s TX AX) (lib (decS s 0)) := by
  have r0 := bt_range s 0
  unfold utf8_DecodeRuneInString.f
  refine evNeg (fun e => ?_) (evPos (by omega) ?_)
  · have := congrArg List.length e
    rw [ByteArray.toList_eq, Array.length_toList] at this
    simp at this
    have : s.size = 0 := by rw [this]; rfl
    omega
  by_cases c : bt s 0 < 128
  · rw [w32 (by omega) (by omega), show lib (decS s 0) = (bt s 0, 1) from by simp only [decS, dec, lib, Int.natCast_zero]; rw [if_pos c, if_neg (by show ¬ bt s 0 = -1; omega)]]
    exact evPos c (Ev.now _)
  · exact evNeg c (Ev.bind (slow_eq s h (by omega)) (Ev.now _))
/-! ### the program's own decoding -/
theorem l_end (s : ByteArray) (at_ n low r i : Int) (h : n ≤ i) : Ev (fun k => spec_l4Rune.l0 k s at_ n low r i) (if low ≤ r ∧ r ≤ 1114111 ∧ ¬ (55296 ≤ r ∧ r < 57344) then (r, n) else (-1, 1)) := by
  refine Ev.step (fun k => spec_l4Rune.l0.eq_2 _ _ _ _ _ _ k) (evNeg (by omega) ?_)
  by_cases c1 : r < low
  · rw [if_neg (show ¬ (low ≤ r ∧ r ≤ 1114111 ∧ ¬ (55296 ≤ r ∧ r < 57344)) from by omega)]; exact evPos c1 (Ev.now _)
  by_cases c2 : r > 1114111
  · rw [if_neg (show ¬ (low ≤ r ∧ r ≤ 1114111 ∧ ¬ (55296 ≤ r ∧ r < 57344)) from by omega)]; exact evNeg c1 (evPos c2 (Ev.now _))
  by_cases c3 : r ≥ 55296
  · by_cases c4 : r < 57344
    · rw [if_neg (show ¬ (low ≤ r ∧ r ≤ 1114111 ∧ ¬ (55296 ≤ r ∧ r < 57344)) from by omega)]; exact evNeg c1 (evNeg c2 (evPos c3 (evPos c4 (Ev.now _))))
    · rw [if_pos (show low ≤ r ∧ r ≤ 1114111 ∧ ¬ (55296 ≤ r ∧ r < 57344) from by omega)]; exact evNeg c1 (evNeg c2 (evPos c3 (evNeg c4 (Ev.now _))))
  · rw [if_pos (show low ≤ r ∧ r ≤ 1114111 ∧ ¬ (55296 ≤ r ∧ r < 57344) from by omega)]; exact evNeg c1 (evNeg c2 (evNeg c3 (Ev.now _)))
theorem l_step (s : ByteArray) (at_ n low r i : Int) (v : Int × Int) (h : i < n) (ha : 0 ≤ at_) (hi : 0 ≤ i) (hi' : i ≤ 4) (ha' : at_ ≤ 1000000) (hr : 0 ≤ r) (hr' : r ≤ 1000000)
    (hk : at_ + i < (s.size : Int) → go1 (bt s (at_ + i)) = true → Ev (fun k => spec_l4Rune.l0 k s at_ n low (r * 64 + (bt s (at_ + i) - 128)) (i + 1)) v) : Ev (fun k => spec_l4Rune.l0 k s at_ n low r i) (if at_ + i < (s.size : Int) ∧ go1 (bt s (at_ + i)) = true then v else (-1, 1)) := by
  have r1 := bt_range s (at_ + i)
  refine Ev.step (fun k => spec_l4Rune.l0.eq_2 _ _ _ _ _ _ k) (evPos h ?_)
  rw [w64 (x := at_ + i) (by omega) (by omega)]
  by_cases c1 : at_ + i ≥ (s.size : Int)
  · rw [if_neg (show ¬ (at_ + i < (s.size : Int) ∧ go1 (bt s (at_ + i)) = true) from fun h => by omega)]; exact evPos c1 (Ev.now _)
  refine evNeg c1 (evPos (by omega) (evPos (by omega) ?_))
  by_cases g : go1 (bt s (at_ + i)) = true
  · rw [if_pos (show at_ + i < (s.size : Int) ∧ go1 (bt s (at_ + i)) = true from ⟨by omega, g⟩)]
    have g2 := g
    simp only [go1, Bool.and_eq_true, decide_eq_true_eq] at g2
    refine evNeg (by omega) (evNeg (by omega) ?_)
    rw [w64 (x := bt s (at_ + i)) (by omega) (by omega), w64 (x := r * 64) (by omega) (by omega), w64 (x := r * 64 + bt s (at_ + i)) (by omega) (by omega), w64 (by omega) (by omega), w64 (x := i + 1) (by omega) (by omega), show r * 64 + bt s (at_ + i) - 128 = r * 64 + (bt s (at_ + i) - 128) from by omega]
    exact hk (by omega) g
  · rw [if_neg (show ¬ (at_ + i < (s.size : Int) ∧ go1 (bt s (at_ + i)) = true) from fun h => g h.2)]
    simp only [go1, Bool.and_eq_true, decide_eq_true_eq] at g
    by_cases d : bt s (at_ + i) < 128
    · exact evPos d (Ev.now _)
    · exact evNeg d (evPos (by omega) (Ev.now _))
theorem ite_val {c d : Prop} [Decidable c] [Decidable d] {a a' b : Int × Int} (h : c ↔ d) (e : d → a = a') : (if c then a else b) = (if d then a' else b) := by
  by_cases q : d
  · rw [if_pos q, if_pos (h.2 q), e q]
  · rw [if_neg q, if_neg (fun z => q (h.1 z))]
theorem two_eq (s : ByteArray) (a : Nat) (ha : a ≤ 1000000) (h0 : 192 ≤ bt s a) (h1 : bt s a < 224) : Ev (fun k => spec_l4Rune.j2 k s a 2 128 (bt s a - 192)) (decS s a) := by
  have r1 := bt_range s ((a : Int) + 1)
  rw [show decS s a = (if (a : Int) + 1 < (s.size : Int) ∧ go1 (bt s ((a : Int) + 1)) = true then (if 128 ≤ (bt s a - 192) * 64 + (bt s ((a : Int) + 1) - 128) ∧ (bt s a - 192) * 64 + (bt s ((a : Int) + 1) - 128) ≤ 1114111 ∧ ¬ (55296 ≤ (bt s a - 192) * 64 + (bt s ((a : Int) + 1) - 128) ∧ (bt s a - 192) * 64 + (bt s ((a : Int) + 1) - 128) < 57344) then ((bt s a - 192) * 64 + (bt s ((a : Int) + 1) - 128), 2) else (-1, 1)) else (-1, 1)) from ?_]
  · exact Ev.step (fun k => spec_l4Rune.j2.eq_2 _ _ _ _ _ k) (l_step s a 2 128 _ 1 _ (by decide) (by omega) (by decide) (by decide) (by omega) (by omega) (by omega) (fun _ _ => l_end _ _ _ _ _ _ (by decide)))
  · unfold decS dec
    rw [if_neg (by omega)]
    by_cases c : bt s a < 194
    · rw [if_pos c]
      by_cases g : (a : Int) + 1 < (s.size : Int) ∧ go1 (bt s ((a : Int) + 1)) = true
      · rw [if_pos g]
        have g2 := g.2
        simp only [go1, Bool.and_eq_true, decide_eq_true_eq] at g2
        rw [if_neg (by omega)]
      · rw [if_neg g]
    · rw [if_neg c, if_pos h1]
      by_cases g : (a : Int) + 1 < (s.size : Int) ∧ go1 (bt s ((a : Int) + 1)) = true
      · rw [if_pos g, if_pos ⟨by omega, g.2⟩]
        have g2 := g.2
        simp only [go1, Bool.and_eq_true, decide_eq_true_eq] at g2
        rw [if_pos (by omega)]
      · rw [if_neg g, if_neg (fun z => g ⟨by omega, z.2⟩)]
theorem three_eq (s : ByteArray) (a : Nat) (ha : a ≤ 1000000) (h0 : 224 ≤ bt s a) (h1 : bt s a < 240) : Ev (fun k => spec_l4Rune.j2 k s a 3 2048 (bt s a - 224)) (decS s a) := by
  have r1 := bt_range s ((a : Int) + 1)
  have r2 := bt_range s ((a : Int) + 2)
  obtain ⟨x, hx⟩ : ∃ x, x = bt s a := ⟨_, rfl⟩
  obtain ⟨y, hy⟩ : ∃ y, y = bt s ((a : Int) + 1) := ⟨_, rfl⟩
  obtain ⟨z, hz⟩ : ∃ z, z = bt s ((a : Int) + 2) := ⟨_, rfl⟩
  rw [show decS s a = (if (a : Int) + 1 < (s.size : Int) ∧ go1 y = true then (if (a : Int) + 2 < (s.size : Int) ∧ go1 z = true then (if 2048 ≤ ((x - 224) * 64 + (y - 128)) * 64 + (z - 128) ∧ ((x - 224) * 64 + (y - 128)) * 64 + (z - 128) ≤ 1114111 ∧ ¬ (55296 ≤ ((x - 224) * 64 + (y - 128)) * 64 + (z - 128) ∧ ((x - 224) * 64 + (y - 128)) * 64 + (z - 128) < 57344) then (((x - 224) * 64 + (y - 128)) * 64 + (z - 128), 3) else (-1, 1)) else (-1, 1)) else (-1, 1)) from ?_]
  · rw [hy, hz, hx]
    refine Ev.step (fun k => spec_l4Rune.j2.eq_2 _ _ _ _ _ k) (l_step s a 3 2048 _ 1 _ (by decide) (by omega) (by decide) (by decide) (by omega) (by omega) (by omega) (fun _ g => ?_))
    simp only [go1, Bool.and_eq_true, decide_eq_true_eq] at g
    exact l_step s a 3 2048 _ 2 _ (by decide) (by omega) (by decide) (by decide) (by omega) (by omega) (by omega) (fun _ _ => l_end _ _ _ _ _ _ (by decide))
  · rw [← hx] at h0 h1
    rw [← hy] at r1
    rw [← hz] at r2
    unfold decS dec
    rw [← hx, ← hy, ← hz]
    rw [if_neg (by omega), if_neg (by omega), if_neg (by omega), if_pos h1]
    by_cases g : (a : Int) + 1 < (s.size : Int) ∧ go1 y = true
    · rw [if_pos g]
      by_cases g2 : (a : Int) + 2 < (s.size : Int) ∧ go1 z = true
      · rw [if_pos g2]
        have e1 := g.2
        have e2 := g2.2
        simp only [go1, Bool.and_eq_true, decide_eq_true_eq] at e1 e2
        refine ite_val ⟨fun q => ?_, fun q => ⟨by omega, g.2, g2.2, by omega, by omega⟩⟩ (fun q => ?_)
        · obtain ⟨_, _, _, q1, q2⟩ := q
          by_cases u : x = 224
          · have := q1 u; omega
          · by_cases v : x = 237
            · have := q2 v; omega
            · omega
        · rw [show (x - 224) * 4096 + (y - 128) * 64 + (z - 128) = ((x - 224) * 64 + (y - 128)) * 64 + (z - 128) from by omega]
      · rw [if_neg g2, if_neg (fun q => g2 ⟨by omega, q.2.2.1⟩)]
    · rw [if_neg g, if_neg (fun q => g ⟨by omega, q.2.1⟩)]
theorem four_eq (s : ByteArray) (a : Nat) (ha : a ≤ 1000000) (h0 : 240 ≤ bt s a) (h1 : bt s a < 248) : Ev (fun k => spec_l4Rune.j2 k s a 4 65536 (bt s a - 240)) (decS s a) := by
  have r1 := bt_range s ((a : Int) + 1)
  have r2 := bt_range s ((a : Int) + 2)
  have r3 := bt_range s ((a : Int) + 3)
  obtain ⟨x, hx⟩ : ∃ x, x = bt s a := ⟨_, rfl⟩
  obtain ⟨y, hy⟩ : ∃ y, y = bt s ((a : Int) + 1) := ⟨_, rfl⟩
  obtain ⟨z, hz⟩ : ∃ z, z = bt s ((a : Int) + 2) := ⟨_, rfl⟩
  obtain ⟨u, hu⟩ : ∃ u, u = bt s ((a : Int) + 3) := ⟨_, rfl⟩
  rw [show decS s a = (if (a : Int) + 1 < (s.size : Int) ∧ go1 y = true then (if (a : Int) + 2 < (s.size : Int) ∧ go1 z = true then (if (a : Int) + 3 < (s.size : Int) ∧ go1 u = true then (if 65536 ≤ (((x - 240) * 64 + (y - 128)) * 64 + (z - 128)) * 64 + (u - 128) ∧ (((x - 240) * 64 + (y - 128)) * 64 + (z - 128)) * 64 + (u - 128) ≤ 1114111 ∧ ¬ (55296 ≤ (((x - 240) * 64 + (y - 128)) * 64 + (z - 128)) * 64 + (u - 128) ∧ (((x - 240) * 64 + (y - 128)) * 64 + (z - 128)) * 64 + (u - 128) < 57344) then ((((x - 240) * 64 + (y - 128)) * 64 + (z - 128)) * 64 + (u - 128), 4) else (-1, 1)) else (-1, 1)) else (-1, 1)) else (-1, 1)) from ?_]
  · rw [hy, hz, hu, hx]
    refine Ev.step (fun k => spec_l4Rune.j2.eq_2 _ _ _ _ _ k) (l_step s a 4 65536 _ 1 _ (by decide) (by omega) (by decide) (by decide) (by omega) (by omega) (by omega) (fun _ g => ?_))
    simp only [go1, Bool.and_eq_true, decide_eq_true_eq] at g
    refine l_step s a 4 65536 _ 2 _ (by decide) (by omega) (by decide) (by decide) (by omega) (by omega) (by omega) (fun _ g' => ?_)
    simp only [go1, Bool.and_eq_true, decide_eq_true_eq] at g'
    have g2 : 128 ≤ bt s ((a : Int) + 2) ∧ bt s ((a : Int) + 2) ≤ 191 := g'
    exact l_step s a 4 65536 _ 3 _ (by decide) (by omega) (by decide) (by decide) (by omega) (by omega) (by omega) (fun _ _ => l_end _ _ _ _ _ _ (by decide))
  · rw [← hx] at h0 h1
    rw [← hy] at r1
    rw [← hz] at r2
    rw [← hu] at r3
    unfold decS dec
    rw [← hx, ← hy, ← hz, ← hu]
    rw [if_neg (by omega), if_neg (by omega), if_neg (by omega), if_neg (by omega)]
    by_cases g : (a : Int) + 1 < (s.size : Int) ∧ go1 y = true
    · rw [if_pos g]
      by_cases g2 : (a : Int) + 2 < (s.size : Int) ∧ go1 z = true
      · rw [if_pos g2]
        by_cases g3 : (a : Int) + 3 < (s.size : Int) ∧ go1 u = true
        · rw [if_pos g3]
          have e1 := g.2
          have e2 := g2.2
          have e3 := g3.2
          simp only [go1, Bool.and_eq_true, decide_eq_true_eq] at e1 e2 e3
          by_cases b : x < 245
          · rw [if_pos b]
            refine ite_val ⟨fun q => ?_, fun q => ⟨by omega, g.2, g2.2, g3.2, by omega, by omega⟩⟩ (fun q => ?_)
            · obtain ⟨_, _, _, _, q1, q2⟩ := q
              by_cases m : x = 240
              · have := q1 m; omega
              · by_cases v : x = 244
                · have := q2 v; omega
                · omega
            · rw [show (x - 240) * 262144 + (y - 128) * 4096 + (z - 128) * 64 + (u - 128) = (((x - 240) * 64 + (y - 128)) * 64 + (z - 128)) * 64 + (u - 128) from by omega]
          · rw [if_neg b, if_neg (by omega)]
        · rw [if_neg g3]
          by_cases b : x < 245
          · rw [if_pos b, if_neg (fun q => g3 ⟨by omega, q.2.2.2.1⟩)]
          · rw [if_neg b]
      · rw [if_neg g2]
        by_cases b : x < 245
        · rw [if_pos b, if_neg (fun q => g2 ⟨by omega, q.2.2.1⟩)]
        · rw [if_neg b]
    · rw [if_neg g]
      by_cases b : x < 245
      · rw [if_pos b, if_neg (fun q => g ⟨by omega, q.2.1⟩)]
      · rw [if_neg b]
/-- The program's own decoding at a place. -/
theorem rune_eq (s : ByteArray) (a : Nat) (ha : a ≤ 1000000) (h : a < s.size) : Ev (fun k => spec_l4Rune.f k s a) (decS s a) := by
  have r0 := bt_range s a
  unfold spec_l4Rune.f
  refine evPos (by omega) (evPos (by omega) ?_)
  rw [w64 (x := bt s a) (by omega) (by omega)]
  by_cases c0 : bt s a < 128
  · rw [show decS s a = (bt s a, 1) from by unfold decS dec; rw [if_pos c0]]
    exact evPos c0 (Ev.now _)
  refine evNeg c0 ?_
  have bad : bt s a < 192 ∨ 248 ≤ bt s a → decS s a = (-1, 1) := fun h => by
    unfold decS dec
    rw [if_neg c0]
    by_cases c : bt s a < 194
    · rw [if_pos c]
    · rw [if_neg c, if_neg (by omega), if_neg (by omega), if_neg (by omega)]
  have j1f : ∀ x, (240 ≤ bt s a ∨ x = false) → bt s a < 224 ∨ 240 ≤ bt s a → x = false → Ev (fun k => spec_l4Rune.j1 k s a (bt s a) x) (if 240 ≤ bt s a ∧ bt s a < 248 then decS s a else (-1, 1)) := by
    rintro x _ _ rfl
    refine Ev.step (fun k => spec_l4Rune.j1.eq_2 _ _ _ _ k) (evNeg (by decide) ?_)
    by_cases c : bt s a ≥ 240
    · refine evPos c ?_
      by_cases d : bt s a < 248
      · rw [if_pos ⟨c, d⟩, w64 (by omega) (by omega)]
        exact evPos d (four_eq s a ha c d)
      · rw [if_neg (fun z => d z.2)]
        exact evNeg d (Ev.now _)
    · rw [if_neg (fun z => c z.1)]
      exact evNeg c (Ev.now _)
  by_cases c1 : bt s a ≥ 192
  · refine evPos c1 ?_
    by_cases c2 : bt s a < 224
    · rw [show decide (bt s a < 224) = true from decide_eq_true c2]
      refine Ev.step (fun k => spec_l4Rune.j0.eq_2 _ _ _ _ k) (evPos rfl ?_)
      rw [w64 (by omega) (by omega)]
      exact two_eq s a ha c1 c2
    · rw [show decide (bt s a < 224) = false from decide_eq_false c2]
      refine Ev.step (fun k => spec_l4Rune.j0.eq_2 _ _ _ _ k) (evNeg (by decide) (evPos (by omega) ?_))
      by_cases c3 : bt s a < 240
      · rw [show decide (bt s a < 240) = true from decide_eq_true c3]
        refine Ev.step (fun k => spec_l4Rune.j1.eq_2 _ _ _ _ k) (evPos rfl ?_)
        rw [w64 (by omega) (by omega)]
        exact three_eq s a ha (by omega) c3
      · rw [show decide (bt s a < 240) = false from decide_eq_false c3]
        have := j1f false (.inr rfl) (.inr (by omega)) rfl
        by_cases c4 : bt s a < 248
        · rw [if_pos ⟨by omega, c4⟩] at this
          exact this
        · rw [if_neg (fun z => c4 z.2)] at this
          rw [bad (.inr (by omega))]
          exact this
  · refine evNeg c1 (Ev.step (fun k => spec_l4Rune.j0.eq_2 _ _ _ _ k) (evNeg (by decide) (evNeg (by omega) ?_)))
    have := j1f false (.inr rfl) (.inl (by omega)) rfl
    rw [if_neg (fun z => c1 (by omega))] at this
    rw [bad (.inl (by omega))]
    exact this
end Go.Proofs.YtcdghhihfjojaaaDoor.Utf8L
