/- The plain statement of the law FnExactUpper: program and reference write a text in capitals alike; no condition. -/
import Derived.Test.YtcdghhihfjojaaaDoorRunesL
import Derived.Test.YtcdghhihfjojaaaDoorUp
import Derived.Test.YtcdghhihfjojaaaDoorQx2
import Derived.Test.YtcdghhihfjojaaaDoorQx3
import Derived.Test.YtcdghhihfjojaaaDoorQx4
set_option linter.unusedVariables false
set_option linter.unusedSimpArgs false
namespace Go.Proofs.YtcdghhihfjojaaaDoor.Pure
open Go.RowKit Go.Proofs.YtcdghhihfjojaaaDoor.Q Go.Proofs.YtcdghhihfjojaaaDoor.Gen Go.Proofs.YtcdghhihfjojaaaDoor.Utf8L Go.Proofs.YtcdghhihfjojaaaDoorW.PrintWords Go.Proofs.YtcdghhihfjojaaaDoorW.PrintMore
/-! what the reference does with a piece -/
def r6 (l : List UInt8) (b : Bool) : ByteArray := if b = true then ⟨#[65]⟩ else if l = [195, 177] then ⟨#[78]⟩ else if l = [195, 145] then ⟨#[78]⟩ else ⟨#[63]⟩
def r5 (l : List UInt8) (b : Bool) : ByteArray := if b = true then ⟨#[69]⟩ else r6 l ((l == [195, 161]) || ((l == [195, 160]) || ((l == [195, 162]) || ((l == [195, 129]) || ((l == [195, 128]) || (l == [195, 130]))))))
def r4 (l : List UInt8) (b : Bool) : ByteArray := if b = true then ⟨#[65, 65]⟩ else if l = [195, 159] then ⟨#[83, 83]⟩ else r5 l ((l == [195, 169]) || ((l == [195, 168]) || ((l == [195, 170]) || ((l == [195, 137]) || ((l == [195, 136]) || (l == [195, 138]))))))
def r3 (l : List UInt8) (b : Bool) : ByteArray := if b = true then ⟨#[85, 69]⟩ else r4 l ((l == [195, 165]) || (l == [195, 133]))
def r2 (l : List UInt8) (b : Bool) : ByteArray := if b = true then ⟨#[79, 69]⟩ else r3 l ((l == [195, 188]) || (l == [195, 156]))
def r1 (l : List UInt8) (b : Bool) : ByteArray := if b = true then ⟨#[65, 69]⟩ else r2 l ((l == [195, 182]) || ((l == [195, 150]) || ((l == [195, 184]) || (l == [195, 152]))))
def upCh (l : List UInt8) : ByteArray := r1 l ((l == [195, 164]) || (l == [195, 132]))
theorem orStep {R : Type} (g : Nat → Bool → Option R) (v : Bool → R) (hg : ∀ b, Ev (fun k => g k b) (v b)) (l L : List UInt8) (rest : Nat → Option R) (b : Bool) (hr : Ev rest (v b)) : Ev (fun k => if l = L then g k (l == L) else rest k) (v ((l == L) || b)) := by
  by_cases c : l = L
  · rw [beq_iff_eq.2 c, Bool.true_or]
    exact evPos c (hg true)
  · rw [beq_eq_false_iff_ne.2 c, Bool.false_or]
    exact evNeg c hr
theorem j6_ev (x : ByteArray) (b : Bool) : Ev (fun k => spec_l4Up.j6 k x b) (r6 x.toList b) := by
  refine Ev_succ (fun k => ?_)
  simp only [spec_l4Up.j6, r6]
  repeat' split
  all_goals first | rfl | contradiction
theorem j5_ev (x : ByteArray) (b : Bool) : Ev (fun k => spec_l4Up.j5 k x b) (r5 x.toList b) := by
  refine Ev.step (fun k => spec_l4Up.j5.eq_2 _ _ k) ?_
  unfold r5
  by_cases c : b = true
  · rw [if_pos c]
    exact evPos c (Ev.now _)
  rw [if_neg c]
  refine evNeg c ?_
  have hg := j6_ev x
  have st := orStep (fun k b => spec_l4Up.j6 k x b) (r6 x.toList) hg x.toList
  exact st _ _ _ (st _ _ _ (st _ _ _ (st _ _ _ (st _ _ _ (hg _)))))
theorem j4_ev (x : ByteArray) (b : Bool) : Ev (fun k => spec_l4Up.j4 k x b) (r4 x.toList b) := by
  refine Ev.step (fun k => spec_l4Up.j4.eq_2 _ _ k) ?_
  unfold r4
  by_cases c : b = true
  · rw [if_pos c]
    exact evPos c (Ev.now _)
  rw [if_neg c]
  refine evNeg c ?_
  by_cases d : x.toList = [195, 159]
  · rw [if_pos d]
    exact evPos d (Ev.now _)
  rw [if_neg d]
  refine evNeg d ?_
  have hg := j5_ev x
  have st := orStep (fun k b => spec_l4Up.j5 k x b) (r5 x.toList) hg x.toList
  exact st _ _ _ (st _ _ _ (st _ _ _ (st _ _ _ (st _ _ _ (hg _)))))
theorem j3_ev (x : ByteArray) (b : Bool) : Ev (fun k => spec_l4Up.j3 k x b) (r3 x.toList b) := by
  refine Ev.step (fun k => spec_l4Up.j3.eq_2 _ _ k) ?_
  unfold r3
  by_cases c : b = true
  · rw [if_pos c]
    exact evPos c (Ev.now _)
  rw [if_neg c]
  refine evNeg c ?_
  have hg := j4_ev x
  have st := orStep (fun k b => spec_l4Up.j4 k x b) (r4 x.toList) hg x.toList
  exact st _ _ _ (hg _)
theorem j2_ev (x : ByteArray) (b : Bool) : Ev (fun k => spec_l4Up.j2 k x b) (r2 x.toList b) := by
  refine Ev.step (fun k => spec_l4Up.j2.eq_2 _ _ k) ?_
  unfold r2
  by_cases c : b = true
  · rw [if_pos c]
    exact evPos c (Ev.now _)
  rw [if_neg c]
  refine evNeg c ?_
  have hg := j3_ev x
  have st := orStep (fun k b => spec_l4Up.j3 k x b) (r3 x.toList) hg x.toList
  exact st _ _ _ (hg _)
theorem j1_ev (x : ByteArray) (b : Bool) : Ev (fun k => spec_l4Up.j1 k x b) (r1 x.toList b) := by
  refine Ev.step (fun k => spec_l4Up.j1.eq_2 _ _ k) ?_
  unfold r1
  by_cases c : b = true
  · rw [if_pos c]
    exact evPos c (Ev.now _)
  rw [if_neg c]
  refine evNeg c ?_
  have hg := j2_ev x
  have st := orStep (fun k b => spec_l4Up.j2 k x b) (r2 x.toList) hg x.toList
  exact st _ _ _ (st _ _ _ (st _ _ _ (hg _)))
theorem long_ev (x : ByteArray) (h : x.size ≠ 1) : Ev (fun k => spec_l4Up.f k x) (upCh x.toList) := by
  unfold spec_l4Up.f
  refine evNeg (by omega) ?_
  have hg := j1_ev x
  exact orStep (fun k b => spec_l4Up.j1 k x b) (r1 x.toList) hg x.toList _ _ _ (hg _)
theorem ch_all : (List.range 64).all (fun j => (upCh [195, UInt8.ofNat (128 + j)]).data.toList == upB (192 + (j : Int))) = true := by decide +kernel
theorem ch_in (y : UInt8) (h0 : 128 ≤ y.toNat) (h1 : y.toNat ≤ 191) : upCh [195, y] = ⟨(upB (192 + ((y.toNat : Int) - 128))).toArray⟩ := by
  have := List.all_eq_true.1 ch_all (y.toNat - 128) (List.mem_range.2 (by omega))
  rw [beq_iff_eq] at this
  have e1 : UInt8.ofNat (128 + (y.toNat - 128)) = y := by
    rw [show 128 + (y.toNat - 128) = y.toNat by omega]
    simp
  rw [e1, show ((y.toNat - 128 : Nat) : Int) = (y.toNat : Int) - 128 by omega] at this
  rw [← this]
theorem ch_out (l : List UInt8) (h : ∀ y, l ≠ [195, y]) : upCh l = ⟨#[63]⟩ := by
  have h' : ∀ y, (l == [195, y]) = false := fun y => beq_eq_false_iff_ne.2 (h y)
  unfold upCh r1 r2 r3 r4 r5 r6
  simp only [h', Bool.or_self, if_neg (h _)]
  rfl
theorem upHas_no (r : Int) (h : r < 192 ∨ 255 < r) : upHas r = false := by
  have key : ∀ p ∈ upTab, 192 ≤ p.1 ∧ p.1 ≤ 255 := by decide
  have : upTab.find? (fun p => p.1 == r) = none := by
    rw [List.find?_eq_none]
    intro p hp
    have := key p hp
    simp only [beq_iff_eq]
    omega
  unfold upHas upOf
  rw [this]
  rfl
theorem upB_no (r : Int) (h : ¬ (0 ≤ r ∧ r < 128)) (h' : r < 192 ∨ 255 < r) : upB r = [63] := by
  unfold upB
  rw [if_neg (by omega), if_neg h, upHas_no r h']
  rfl
/-! what a step is -/
theorem dec_form (n b0 b1 b2 b3 : Int) (h0 : 0 ≤ b0) : (dec n b0 b1 b2 b3 = (-1, 1) ∧ 128 ≤ b0) ∨ (dec n b0 b1 b2 b3 = (b0, 1) ∧ b0 < 128) ∨ (dec n b0 b1 b2 b3 = ((b0 - 192) * 64 + (b1 - 128), 2) ∧ 2 ≤ n ∧ 194 ≤ b0 ∧ 128 ≤ b1 ∧ b1 ≤ 191) ∨ (2048 ≤ (dec n b0 b1 b2 b3).1 ∧ 3 ≤ (dec n b0 b1 b2 b3).2) := by
  unfold dec
  by_cases c0 : b0 < 128
  · rw [if_pos c0]
    exact .inr (.inl ⟨rfl, c0⟩)
  rw [if_neg c0]
  by_cases c1 : b0 < 194
  · rw [if_pos c1]
    exact .inl ⟨rfl, by omega⟩
  rw [if_neg c1]
  simp only [go1_iff]
  by_cases c2 : b0 < 224
  · rw [if_pos c2]
    split
    · rename_i h
      exact .inr (.inr (.inl ⟨rfl, h.1, by omega, h.2.1, h.2.2⟩))
    · exact .inl ⟨rfl, by omega⟩
  rw [if_neg c2]
  by_cases c3 : b0 < 240
  · rw [if_pos c3]
    split
    · rename_i h
      exact .inr (.inr (.inr (by dsimp only; omega)))
    · exact .inl ⟨rfl, by omega⟩
  rw [if_neg c3]
  by_cases c4 : b0 < 245
  · rw [if_pos c4]
    split
    · rename_i h
      exact .inr (.inr (.inr (by dsimp only; omega)))
    · exact .inl ⟨rfl, by omega⟩
  rw [if_neg c4]
  exact .inl ⟨rfl, by omega⟩
theorem ext1 (s : ByteArray) (a : Nat) (h : a < s.size) : s.extract a (a + 1) = ⟨#[s[a]]⟩ := by
  apply ByteArray.ext_getElem
  · rw [ByteArray.size_extract]
    show _ = 1
    omega
  · intro i h1 h2
    have : i = 0 := by
      have : i < 1 := h2
      omega
    subst this
    rw [ByteArray.getElem_extract]
    rfl
theorem ext2 (s : ByteArray) (a : Nat) (h : a + 1 < s.size) : s.extract a (a + 2) = ⟨#[s[a], s[a + 1]]⟩ := by
  apply ByteArray.ext_getElem
  · rw [ByteArray.size_extract]
    show _ = 2
    omega
  · intro i h1 h2
    have : i < 2 := h2
    rw [ByteArray.getElem_extract]
    match i, this with
    | 0, _ => rfl
    | 1, _ => rfl
theorem bt_at (s : ByteArray) (a : Nat) (h : a < s.size) : bt s (a : Int) = (s[a].toNat : Int) := by
  unfold bt
  simp only [Int.toNat_natCast]
  rw [dif_pos h]
def Good (p : Int × ByteArray) : Prop := (p.1 = -1 ∧ ∃ x : UInt8, 128 ≤ x.toNat ∧ p.2 = ⟨#[x]⟩) ∨ (∃ x : UInt8, x.toNat < 128 ∧ p.1 = (x.toNat : Int) ∧ p.2 = ⟨#[x]⟩) ∨ (∃ x y : UInt8, 194 ≤ x.toNat ∧ 128 ≤ y.toNat ∧ y.toNat ≤ 191 ∧ p.1 = ((x.toNat : Int) - 192) * 64 + ((y.toNat : Int) - 128) ∧ p.2 = ⟨#[x, y]⟩) ∨ (2048 ≤ p.1 ∧ 3 ≤ p.2.size)
theorem good_at (s : ByteArray) (a : Nat) (h : a < s.size) : Good ((decS s a).1, s.extract a (a + (decS s a).2.toNat)) := by
  obtain ⟨n, hn, h1, h2, h3⟩ := decS_n s a h
  have hf := dec_form ((s.size : Int) - a) (bt s a) (bt s ((a : Int) + 1)) (bt s ((a : Int) + 2)) (bt s ((a : Int) + 3)) (bt_range s a).1
  change (decS s a = _ ∧ _) ∨ (decS s a = _ ∧ _) ∨ (decS s a = _ ∧ _) ∨ (2048 ≤ (decS s a).1 ∧ 3 ≤ (decS s a).2) at hf
  rcases hf with ⟨e, h4⟩ | ⟨e, h4⟩ | ⟨e, h4, h5, h6, h7⟩ | ⟨e1, e2⟩
  · rw [e]
    rw [bt_at s a h] at h4
    exact .inl ⟨rfl, s[a], by omega, ext1 s a h⟩
  · rw [e]
    rw [bt_at s a h] at h4
    exact .inr (.inl ⟨s[a], by omega, bt_at s a h, ext1 s a h⟩)
  · rw [e]
    have ha : a + 1 < s.size := by omega
    have hb : bt s ((a : Int) + 1) = (s[a + 1].toNat : Int) := bt_at s (a + 1) ha
    rw [bt_at s a h] at h5
    rw [hb] at h6 h7
    refine .inr (.inr (.inl ⟨s[a], s[a + 1], by omega, by omega, by omega, ?_, ext2 s a ha⟩))
    rw [bt_at s a h, hb]
  · refine .inr (.inr (.inr ⟨e1, ?_⟩))
    dsimp only
    rw [hn, Int.toNat_natCast, ByteArray.size_extract]
    omega
theorem steps_good (s : ByteArray) : ∀ t a, ∀ p ∈ steps s t a, Good p := by
  intro t
  induction t with
  | zero => intro a p hp; cases hp
  | succ t ih =>
    intro a p hp
    rw [steps] at hp
    split at hp
    · rename_i h
      rcases List.mem_cons.1 hp with rfl | hp
      · exact good_at s a h
      · exact ih _ p hp
    · cases hp
theorem steps_range (s : ByteArray) : ∀ t a, ∀ p ∈ steps s t a, -1 ≤ p.1 ∧ p.1 ≤ 2000000 := by
  intro t
  induction t with
  | zero => intro a p hp; cases hp
  | succ t ih =>
    intro a p hp
    rw [steps] at hp
    split at hp
    · rcases List.mem_cons.1 hp with rfl | hp
      · have := decS_sign s a
        dsimp only
        omega
      · exact ih _ p hp
    · cases hp
theorem toList_data (x : ByteArray) : x.toList = x.data.toList := by
  have : ∀ n i acc, n = x.size - i → i ≤ x.size → ByteArray.toList.loop x i acc = acc.reverse ++ x.data.toList.drop i := by
    intro n
    induction n with
    | zero =>
      intro i acc h hi
      unfold ByteArray.toList.loop
      rw [if_neg (by omega), List.drop_of_length_le (by rw [Array.length_toList]; show x.size ≤ i; omega)]
      simp
    | succ n ih =>
      intro i acc h hi
      unfold ByteArray.toList.loop
      rw [if_pos (by omega), ih (i + 1) _ (by omega) (by omega)]
      have hlt : i < x.data.toList.length := by rw [Array.length_toList]; show i < x.size; omega
      rw [List.drop_eq_getElem_cons hlt, List.reverse_cons, List.append_assoc]
      congr 2
      rw [List.singleton_append]
      congr 1
      have hi' : i < x.data.size := by simpa using hlt
      simp only [ByteArray.get!, Array.getElem_toList]
      exact getElem!_pos x.data i hi'
  have h := this x.size 0 [] (by omega) (by omega)
  unfold ByteArray.toList
  simpa using h
theorem up_piece (p : Int × ByteArray) (h : Good p) : Ev (fun k => spec_l4Up.f k p.2) ⟨(upB p.1).toArray⟩ := by
  rcases h with ⟨e, x, h1, e2⟩ | ⟨x, h1, e, e2⟩ | ⟨x, y, h1, h2, h3, e, e2⟩ | ⟨h1, h2⟩
  · rw [e, e2, upB_no (-1) (by omega) (.inl (by omega))]
    have hb : bt ⟨#[x]⟩ 0 = (x.toNat : Int) := rfl
    unfold spec_l4Up.f
    refine evPos rfl (evPos (by show (0 : Int) < 1; decide) ?_)
    rw [hb, show decide ((x.toNat : Int) ≤ 122) = false from decide_eq_false (by omega)]
    exact evPos (by omega) (Ev.step (fun k => spec_l4Up.j0.eq_2 _ _ _ k) (evNeg (by decide) (evNeg (by omega) (Ev.now _))))
  · rw [e, e2]
    have hb : bt ⟨#[x]⟩ 0 = (x.toNat : Int) := rfl
    have hx : UInt8.ofNat ((x.toNat : Int)).toNat = x := by simp
    unfold spec_l4Up.f
    refine evPos rfl (evPos (by show (0 : Int) < 1; decide) ?_)
    rw [hb]
    by_cases c : (x.toNat : Int) ≥ 97
    · refine evPos c ?_
      by_cases d : (x.toNat : Int) ≤ 122
      · rw [show decide ((x.toNat : Int) ≤ 122) = true from decide_eq_true d]
        refine Ev.step (fun k => spec_l4Up.j0.eq_2 _ _ _ k) (evPos rfl ?_)
        unfold upB
        rw [if_pos ⟨c, d⟩, show ((x.toNat : Int) - 32) % 256 = (x.toNat : Int) - 32 by omega]
        exact Ev.now _
      · rw [show decide ((x.toNat : Int) ≤ 122) = false from decide_eq_false d]
        refine Ev.step (fun k => spec_l4Up.j0.eq_2 _ _ _ k) (evNeg (by decide) (evPos (by omega) ?_))
        unfold upB
        rw [if_neg (by omega), if_pos (by omega), hx]
        exact Ev.now _
    · refine evNeg c (Ev.step (fun k => spec_l4Up.j0.eq_2 _ _ _ k) (evNeg (by decide) (evPos (by omega) ?_)))
      unfold upB
      rw [if_neg (by omega), if_pos (by omega), hx]
      exact Ev.now _
  · rw [e2]
    have := long_ev ⟨#[x, y]⟩ (by show 2 ≠ 1; decide)
    rw [toList_data] at this
    rw [e]
    by_cases c : x = 195
    · subst c
      have e3 := ch_in y h2 h3
      have e4 : (((195 : UInt8).toNat : Int) - 192) * 64 + ((y.toNat : Int) - 128) = 192 + ((y.toNat : Int) - 128) := by
        have : ((195 : UInt8).toNat : Int) = 195 := rfl
        omega
      rw [e4, ← e3]
      exact this
    · have hx : x.toNat ≠ 195 := fun e => c (UInt8.toNat_inj.1 e)
      rw [ch_out _ (fun z e => c (by injection e))] at this
      have hlt := x.toNat_lt
      rw [upB_no _ (by omega) (by omega)]
      exact this
  · have := long_ev p.2 (by omega)
    rw [ch_out _ (fun z e => by
      have := congrArg List.length e
      rw [toList_data, Array.length_toList] at this
      have h3 : p.2.size = 2 := this
      omega)] at this
    rw [upB_no _ (by omega) (by omega)]
    exact this
theorem l4Runes_l0 (s : ByteArray) (hs : s.size ≤ 20000) : ∀ t a, a ≤ s.size → s.size ≤ a + t → ∀ ps, ps.length + t ≤ 1000000 →
    Ev (fun k => spec_l4Runes.l0 k s ps (a : Int)) (ps ++ (steps s t a).map (·.2)) := by
  intro t
  induction t with
  | zero =>
    intro a h1 h2 ps hp
    refine Ev.step (fun k => spec_l4Runes.l0.eq_2 _ _ _ k) (evNeg (by omega) ?_)
    rw [steps_end _ _ _ (by omega)]
    simpa using Ev.now _
  | succ t ih =>
    intro a h1 h2 ps hp
    by_cases c : a < s.size
    rotate_left
    · refine Ev.step (fun k => spec_l4Runes.l0.eq_2 _ _ _ k) (evNeg (by omega) ?_)
      rw [steps_end _ _ _ (by omega)]
      simpa using Ev.now _
    obtain ⟨n, hn, hn1, hn2, hn4⟩ := decS_n s a c
    have hw : wrap64 ((a : Int) + (n : Int)) = ((a + n : Nat) : Int) := by unfold wrap64; omega
    refine Ev.step (fun k => spec_l4Runes.l0.eq_2 _ _ _ k) (evPos (by omega) (Ev.bind (rune_eq s a (by omega) c) ?_))
    rw [hn, hw]
    replace hw := Aside0.mk hw
    refine evPos (by omega) (evPos (by omega) (evPos (by omega) (evPos (by omega) ?_)))
    rw [Int.toNat_natCast, Int.toNat_natCast]
    have := ih (a + n) (by omega) (by omega) (ps ++ [s.extract a (a + n)]) (by simp; omega)
    rw [steps, if_pos c, hn, Int.toNat_natCast]
    simpa using this
theorem drop_at {α} (L : List α) (i : Nat) (d : α) (h : i < L.length) : L.drop i = L.getD i d :: L.drop (i + 1) := by
  rw [List.drop_eq_getElem_cons h]
  simp [List.getD_eq_getElem?_getD, h]
theorem upper_l0 (L : List (Int × ByteArray)) (hl : L.length ≤ 20000) (hp : ∀ p ∈ L, -1 ≤ p.1 ∧ p.1 ≤ 2000000) : ∀ t i (acc : List UInt8), i + t = L.length → acc.length + 4 * t ≤ 1000000 →
    Ev (fun k => impl_Upper.l0 k (L.map (·.1)) acc (i : Int)) ⟨(acc ++ (L.drop i).flatMap fun p => upB p.1).toArray⟩ := by
  intro t
  induction t with
  | zero =>
    intro i acc h ha
    refine Ev.step (fun k => impl_Upper.l0.eq_2 _ _ _ k) (evNeg (by simp; omega) ?_)
    rw [List.drop_of_length_le (by omega)]
    simpa using Ev.now _
  | succ t ih =>
    intro i acc h ha
    have hi : i < L.length := by omega
    have hm : L.getD i (0, ByteArray.empty) ∈ L := by
      simp only [List.getD_eq_getElem?_getD, List.getElem?_eq_getElem hi, Option.getD_some]
      exact List.getElem_mem hi
    have hs := hp _ hm
    have e1 : rd (L.map (·.1)) (i : Int) = (L.getD i (0, ByteArray.empty)).1 := by simp [rd, List.getD_eq_getElem?_getD, hi]
    rw [drop_at L i (0, ByteArray.empty) hi]
    generalize L.getD i (0, ByteArray.empty) = p at *
    have hol := upB_len p.1
    refine Ev.step (fun k => impl_Upper.l0.eq_2 _ _ _ k) (evPos (by simp; omega) (evPos (by omega) ?_))
    rw [e1, up1 (by omega)]
    refine evPos (by omega) (evPos (by omega) ?_)
    have := ih (i + 1) (acc ++ upB p.1) (by omega) (by simp; omega)
    simpa using this
theorem upper_spec (L : List (Int × ByteArray)) (hl : L.length ≤ 20000) (hp : ∀ p ∈ L, Good p) : ∀ t i (acc : List UInt8), i + t = L.length → acc.length + 4 * t ≤ 1000000 →
    Ev (fun k => spec_Upper.l0 k (acc.map fun x => (x.toNat : Int)) (L.map (·.2)) (i : Int)) (strOfNums ((acc ++ (L.drop i).flatMap fun p => upB p.1).map fun x => (x.toNat : Int))) := by
  intro t
  induction t with
  | zero =>
    intro i acc h ha
    refine Ev.step (fun k => spec_Upper.l0.eq_2 _ _ _ k) (evNeg (by simp; omega) ?_)
    rw [List.drop_of_length_le (by omega)]
    simpa using Ev.now _
  | succ t ih =>
    intro i acc h ha
    have hi : i < L.length := by omega
    have hm : L.getD i (0, ByteArray.empty) ∈ L := by
      simp only [List.getD_eq_getElem?_getD, List.getElem?_eq_getElem hi, Option.getD_some]
      exact List.getElem_mem hi
    have hs := hp _ hm
    have e1 : rdOf ByteArray.empty (L.map (·.2)) (i : Int) = (L.getD i (0, ByteArray.empty)).2 := by simp [rdOf, List.getD_eq_getElem?_getD, hi]
    rw [drop_at L i (0, ByteArray.empty) hi]
    generalize L.getD i (0, ByteArray.empty) = p at *
    have hol := upB_len p.1
    refine Ev.step (fun k => spec_Upper.l0.eq_2 _ _ _ k) (evPos (by simp; omega) (evPos (by omega) ?_))
    rw [e1, up1 (by omega)]
    refine Ev.bind (up_piece p hs) (evPos ?_ ?_)
    · have : (⟨(upB p.1).toArray⟩ : ByteArray).size = (upB p.1).length := by simp [ByteArray.size]
      rw [this]
      simp
      omega
    have := ih (i + 1) (acc ++ upB p.1) (by omega) (by simp; omega)
    simpa [bytesOf] using this
theorem str_nums (l : List UInt8) : strOfNums (l.map fun x => (x.toNat : Int)) = ⟨l.toArray⟩ := by
  unfold strOfNums
  congr 2
  rw [List.map_map]
  conv => rhs; rw [← List.map_id l]
  apply List.map_congr_left
  intro x _
  simp
theorem FnExactUpper : ∀ (s : ByteArray), ∃ k, laws_FnExactUpper.f k s (Go.Pinned.utf8FirstZ.map Int.ofNat) [⟨128, 191⟩, ⟨160, 191⟩, ⟨128, 159⟩, ⟨144, 191⟩, ⟨128, 143⟩, ⟨0, 0⟩, ⟨0, 0⟩, ⟨0, 0⟩, ⟨0, 0⟩, ⟨0, 0⟩, ⟨0, 0⟩, ⟨0, 0⟩, ⟨0, 0⟩, ⟨0, 0⟩, ⟨0, 0⟩, ⟨0, 0⟩] = some true := by
  intro s
  have fin : ∀ (T : List Int) (A : List S55), T = TX → A = AX → Ev (fun k => laws_FnExactUpper.f k s T A) true := by
    rintro _ _ rfl rfl
    unfold laws_FnExactUpper.f
    by_cases c : (s.size : Int) > 1048576
    · exact evPos c (Ev.now _)
    refine evNeg c ?_
    have both : ∃ r : ByteArray, Ev (fun k => spec_Upper.f k s) r ∧ Ev (fun k => impl_Upper.f k s TX AX) r := by
      unfold spec_Upper.f impl_Upper.f
      by_cases d : (s.size : Int) > 20000
      · exact ⟨⟨#[]⟩, evPos d (Ev.now _), evPos d (Ev.now _)⟩
      have hsz : s.size ≤ 20000 := by omega
      have hlen := steps_len s s.size 0
      refine ⟨⟨((steps s s.size 0).flatMap fun p => upB p.1).toArray⟩, evNeg d (Ev.bind (show Ev (fun k => spec_l4Runes.f k s) ((steps s s.size 0).map (·.2)) from ?_) ?_), evNeg d (Ev.bind (runes_ev _ hsz) ?_)⟩
      · have := l4Runes_l0 s hsz s.size 0 (by omega) (by omega) [] (by simp; omega)
        simpa [spec_l4Runes.f] using this
      · have := upper_spec (steps s s.size 0) (by omega) (steps_good _ _ _) _ 0 [] (Nat.zero_add _) (by simp; omega)
        rw [str_nums] at this
        simpa using this
      · have := upper_l0 (steps s s.size 0) (by omega) (steps_range _ _ _) _ 0 [] (Nat.zero_add _) (by simp; omega)
        simpa using this
    obtain ⟨r, h1, h2⟩ := both
    exact Ev.bind h1 (Ev.bind h2 (evPos rfl (Ev.now _)))
  obtain ⟨K, h⟩ := fin _ _ rfl rfl
  exact ⟨K, h K (Nat.le_refl _)⟩
end Go.Proofs.YtcdghhihfjojaaaDoor.Pure
