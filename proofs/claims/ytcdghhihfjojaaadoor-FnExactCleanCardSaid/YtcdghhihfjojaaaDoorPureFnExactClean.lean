/- The plain statement of the law FnExactClean: program and reference clean a text alike; no condition. -/
import Derived.Test.YtcdghhihfjojaaaDoorRunesL
import Derived.Test.YtcdghhihfjojaaaDoorQx12
import Derived.Test.YtcdghhihfjojaaaDoorQx13
import Derived.Test.YtcdghhihfjojaaaDoorQx14
import Derived.Test.YtcdghhihfjojaaaDoorQx2
import Derived.Test.YtcdghhihfjojaaaDoorQx3
set_option linter.unusedVariables false
set_option linter.unusedSimpArgs false
namespace Go.Proofs.YtcdghhihfjojaaaDoor.Pure
open Go.RowKit Go.Proofs.YtcdghhihfjojaaaDoor.Q Go.Proofs.YtcdghhihfjojaaaDoor.Gen Go.Proofs.YtcdghhihfjojaaaDoor.Utf8L Go.Proofs.YtcdghhihfjojaaaDoorW.PrintWords Go.Proofs.YtcdghhihfjojaaaDoorW.PrintMore
theorem toByteS_ev (l : List Int) (h : l.length ≤ 1048576) : Ev (fun k => laws_toByteS.f k l) l := by
  simp only [laws_toByteS.f]
  refine evPos (by omega) (evPos (by simp; omega) ?_)
  have := count (fun k i (s : List Int) => laws_toByteS.l0 k l s i) l.length (fun j => mixed l (List.replicate l.length 0) j) l ?_ ?_ 0 (by omega)
  · simpa [mixed_zero] using this
  · intro j hj
    refine ⟨0, fun k _ => ?_⟩
    simp only [laws_toByteS.l0]
    rw [if_pos (by omega), if_pos (by omega), if_pos (by rw [mixed_length _ _ _ (by simp)]; omega), up1 (by omega), Int.toNat_natCast, rd_nat, mixed_set _ _ _ _ (by simp) hj]
  · refine Ev_succ (fun k => ?_)
    simp only [laws_toByteS.l0]
    rw [if_neg (by omega), mixed_all _ _ (by simp)]
theorem eqByteS_ev (l : List Int) (h : l.length ≤ 1099511627776) : Ev (fun k => laws_eqByteS.f k l l) true := by
  simp only [laws_eqByteS.f]
  refine evPos (by trivial) ?_
  refine count (fun k i (_ : Unit) => laws_eqByteS.l0 k l l i) l.length (fun _ => ()) true ?_ ?_ 0 (by omega)
  · intro j hj
    refine ⟨0, fun k _ => ?_⟩
    simp only [laws_eqByteS.l0]
    rw [if_pos (by omega), if_pos (by omega), if_pos (by omega), if_pos trivial, up1 (by omega)]
  · refine Ev_succ (fun k => ?_)
    simp only [laws_eqByteS.l0]
    rw [if_neg (by omega)]
def out (p : Int × ByteArray) : List UInt8 := if p.1 = -1 then [63] else if p.1 = 13 then [] else if impl_Clean.odd p.1 = true then [32] else p.2.data.toList
theorem out_len (p : Int × ByteArray) (h : p.2.size ≤ 4) : (out p).length ≤ 4 := by
  unfold out
  repeat' split
  all_goals simp
  exact h
theorem drop_at {α} (L : List α) (i : Nat) (d : α) (h : i < L.length) : L.drop i = L.getD i d :: L.drop (i + 1) := by
  rw [List.drop_eq_getElem_cons h]
  simp [List.getD_eq_getElem?_getD, h]
theorem clean_l0 (L : List (Int × ByteArray)) (hl : L.length ≤ 20000) (hp : ∀ p ∈ L, p.2.size ≤ 4) : ∀ t i (acc : List UInt8), i + t = L.length → acc.length + 4 * t ≤ 1000000 →
    Ev (fun k => impl_Clean.l0 k (L.map (·.1)) (L.map (·.2)) acc (i : Int)) ⟨(acc ++ (L.drop i).flatMap out).toArray⟩ := by
  intro t
  induction t with
  | zero =>
    intro i acc h ha
    refine Ev.step (fun k => impl_Clean.l0.eq_2 _ _ _ _ k) (evNeg (by simp; omega) ?_)
    rw [List.drop_of_length_le (by omega)]
    simpa using Ev.now _
  | succ t ih =>
    intro i acc h ha
    have hi : i < L.length := by omega
    have hm : L.getD i (0, ByteArray.empty) ∈ L := by
      simp only [List.getD_eq_getElem?_getD, List.getElem?_eq_getElem hi, Option.getD_some]
      exact List.getElem_mem hi
    have hs := hp _ hm
    have hol := out_len _ hs
    have e1 : rd (L.map (·.1)) (i : Int) = (L.getD i (0, ByteArray.empty)).1 := by simp [rd, List.getD_eq_getElem?_getD, hi]
    have e2 : rdOf ByteArray.empty (L.map (·.2)) (i : Int) = (L.getD i (0, ByteArray.empty)).2 := by simp [rdOf, List.getD_eq_getElem?_getD, hi]
    rw [drop_at L i (0, ByteArray.empty) hi]
    generalize L.getD i (0, ByteArray.empty) = p at *
    have fin : ∀ o, o = out p → Ev (fun k => impl_Clean.l0 k (L.map (·.1)) (L.map (·.2)) (acc ++ o) ((i + 1 : Nat) : Int)) ⟨(acc ++ (p :: L.drop (i + 1)).flatMap out).toArray⟩ := by
      intro o ho
      subst ho
      have := ih (i + 1) (acc ++ out p) (by omega) (by simp; omega)
      simpa using this
    refine Ev.step (fun k => impl_Clean.l0.eq_2 _ _ _ _ k) (evPos (by simp; omega) (evPos (by omega) ?_))
    rw [e1, e2, up1 (by omega)]
    by_cases c1 : p.1 = -1
    · exact evPos c1 (evPos (by omega) (fin _ (by unfold out; rw [if_pos c1])))
    refine evNeg c1 ?_
    by_cases c2 : p.1 = 13
    · have := fin [] (by unfold out; rw [if_neg c1, if_pos c2])
      rw [List.append_nil] at this
      exact evPos c2 this
    refine evNeg c2 ?_
    by_cases c3 : impl_Clean.odd p.1 = true
    · exact evPos c3 (evPos (by omega) (fin _ (by unfold out; rw [if_neg c1, if_neg c2, if_pos c3])))
    · exact evNeg c3 (evPos (by simp; omega) (evPos (by omega) (fin _ (by unfold out; rw [if_neg c1, if_neg c2, if_neg c3]))))
theorem clean_spec (s : ByteArray) (hs : s.size ≤ 20000) : ∀ t a (acc : List UInt8), a ≤ s.size → s.size ≤ a + t → acc.length + 4 * t ≤ 1000000 →
    Ev (fun k => spec_Clean.l0 k s (acc.map fun x => (x.toNat : Int)) (a : Int)) (strOfNums ((acc ++ (steps s t a).flatMap out).map fun x => (x.toNat : Int))) := by
  intro t
  induction t with
  | zero =>
    intro a acc h1 h2 ha
    refine Ev.step (fun k => spec_Clean.l0.eq_2 _ _ _ k) (evNeg (by omega) ?_)
    rw [steps_end _ _ _ (by omega)]
    simpa using Ev.now _
  | succ t ih =>
    intro a acc h1 h2 ha
    by_cases c : a < s.size
    rotate_left
    · refine Ev.step (fun k => spec_Clean.l0.eq_2 _ _ _ k) (evNeg (by omega) ?_)
      rw [steps_end _ _ _ (by omega)]
      simpa using Ev.now _
    obtain ⟨n, hn, hn1, hn2, hn4⟩ := decS_n s a c
    have hsg := decS_sign s a
    have hst : steps s (t + 1) a = ((decS s a).1, s.extract a (a + n)) :: steps s t (a + n) := by rw [steps, if_pos c, hn, Int.toNat_natCast]
    rw [hst]
    have hol := out_len ((decS s a).1, s.extract a (a + n)) (by dsimp only; rw [ByteArray.size_extract]; omega)
    refine Ev.step (fun k => spec_Clean.l0.eq_2 _ _ _ k) (evPos (by omega) (Ev.bind (rune_eq s a (by omega) c) ?_))
    generalize decS s a = q at *
    obtain ⟨r, m⟩ := q
    dsimp only at hn hsg hol ⊢
    subst hn
    have hw : wrap64 ((a : Int) + (n : Int)) = ((a + n : Nat) : Int) := by unfold wrap64; omega
    rw [hw, Int.toNat_natCast, Int.toNat_natCast]
    replace hw := Aside0.mk hw
    have fin : ∀ o, o = out (r, s.extract a (a + n)) → Ev (fun k => spec_Clean.l0 k s ((acc.map fun x => (x.toNat : Int)) ++ (o.map fun x => (x.toNat : Int))) ((a + n : Nat) : Int)) (strOfNums ((acc ++ ((r, s.extract a (a + n)) :: steps s t (a + n)).flatMap out).map fun x => (x.toNat : Int))) := by
      intro o ho
      subst ho
      have := ih (a + n) (acc ++ out (r, s.extract a (a + n))) (by omega) (by omega) (by simp; omega)
      simpa using this
    have piece : r ≠ -1 → r ≠ 13 → ¬ impl_Clean.odd r = true → Ev (fun k => (if 0 ≤ (a : Int) then (if (a : Int) ≤ ((a + n : Nat) : Int) then (if ((a + n : Nat) : Int) ≤ (s.size : Int) then (if (acc.map fun x => (x.toNat : Int)).length + (s.extract a (a + n)).size < 140737488355328 then (spec_Clean.l0 k s ((acc.map fun x => (x.toNat : Int)) ++ bytesOf (s.extract a (a + n))) ((a + n : Nat) : Int)) else (none)) else (none)) else (none)) else (none))) (strOfNums ((acc ++ ((r, s.extract a (a + n)) :: steps s t (a + n)).flatMap out).map fun x => (x.toNat : Int))) := by
      intro d1 d2 d3
      refine evPos (by omega) (evPos (by omega) (evPos (by omega) (evPos (by simp; omega) (fin _ ?_))))
      unfold out
      rw [if_neg d1, if_neg d2, if_neg d3]
    have gap : r ≠ -1 → r ≠ 13 → impl_Clean.odd r = true → Ev (fun k => (if (acc.map fun x => (x.toNat : Int)).length < 140737488355328 then (spec_Clean.l0 k s ((acc.map fun x => (x.toNat : Int)) ++ [32]) ((a + n : Nat) : Int)) else (none))) (strOfNums ((acc ++ ((r, s.extract a (a + n)) :: steps s t (a + n)).flatMap out).map fun x => (x.toNat : Int))) := by
      intro d1 d2 d3
      refine evPos (by simp; omega) (fin [32] ?_)
      unfold out
      rw [if_neg d1, if_neg d2, if_pos d3]
    have odd_yes : (r ≠ 10 ∧ r < 32) ∨ (127 ≤ r ∧ r < 160) → impl_Clean.odd r = true := by
      intro h
      simp [impl_Clean.odd]
      omega
    have odd_no : ¬ ((r ≠ 10 ∧ r < 32) ∨ (127 ≤ r ∧ r < 160)) → ¬ impl_Clean.odd r = true := by
      intro h
      simp [impl_Clean.odd]
      omega
    by_cases c1 : r < 0
    · have e : r = -1 := by omega
      refine evPos c1 (evPos (by simp; omega) (fin [63] ?_))
      unfold out
      rw [if_pos e]
    refine evNeg c1 ?_
    have d1 : r ≠ -1 := by omega
    by_cases c2 : r = 13
    · have := fin [] (by unfold out; rw [if_neg d1, if_pos c2])
      rw [List.map_nil, List.append_nil] at this
      exact evPos c2 this
    refine evNeg c2 ?_
    by_cases c3 : r = 10
    · exact evPos c3 (evNeg (by omega) (piece d1 c2 (odd_no (by omega))))
    refine evNeg c3 ?_
    by_cases c4 : r < 32
    · exact evPos c4 (gap d1 c2 (odd_yes (by omega)))
    refine evNeg c4 ?_
    by_cases c5 : r ≥ 127
    · refine evPos c5 ?_
      by_cases c6 : r < 160
      · exact evPos c6 (gap d1 c2 (odd_yes (by omega)))
      · exact evNeg c6 (piece d1 c2 (odd_no (by omega)))
    · exact evNeg c5 (piece d1 c2 (odd_no (by omega)))
theorem str_nums (l : List UInt8) : strOfNums (l.map fun x => (x.toNat : Int)) = ⟨l.toArray⟩ := by
  unfold strOfNums
  congr 2
  rw [List.map_map]
  conv => rhs; rw [← List.map_id l]
  apply List.map_congr_left
  intro x _
  simp
theorem size_nums (l : List Int) : (strOfNums l).size = l.length := by
  simp [strOfNums, ByteArray.size]
theorem FnExactClean : ∀ (l0 : List Int), l0.length ≤ 9223372036854775807 → (∀ x ∈ l0, (Lit.int .u8 x).wf = true) → ∃ k, laws_FnExactClean.f k l0 (Go.Pinned.utf8FirstZ.map Int.ofNat) [⟨128, 191⟩, ⟨160, 191⟩, ⟨128, 159⟩, ⟨144, 191⟩, ⟨128, 143⟩, ⟨0, 0⟩, ⟨0, 0⟩, ⟨0, 0⟩, ⟨0, 0⟩, ⟨0, 0⟩, ⟨0, 0⟩, ⟨0, 0⟩, ⟨0, 0⟩, ⟨0, 0⟩, ⟨0, 0⟩, ⟨0, 0⟩] = some true := by
  intro l _ _
  have fin : ∀ (T : List Int) (A : List S55), T = TX → A = AX → Ev (fun k => laws_FnExactClean.f k l T A) true := by
    rintro _ _ rfl rfl
    unfold laws_FnExactClean.f
    by_cases c : (l.length : Int) > 1048576
    · exact evPos c (Ev.now _)
    refine evNeg c (Ev.bind (toByteS_ev l (by omega)) ?_)
    have both : ∃ r : ByteArray, Ev (fun k => spec_Clean.f k l) r ∧ Ev (fun k => impl_Clean.f k l TX AX) r := by
      unfold spec_Clean.f impl_Clean.f
      by_cases d : (l.length : Int) > 20000
      · exact ⟨⟨#[]⟩, evPos d (Ev.now _), evPos d (Ev.now _)⟩
      have hs := size_nums l
      have hsz : (strOfNums l).size ≤ 20000 := by omega
      refine ⟨⟨((steps (strOfNums l) (strOfNums l).size 0).flatMap out).toArray⟩, evNeg d ?_, evNeg d (Ev.bind (runes_ev _ hsz) ?_)⟩
      · have := clean_spec (strOfNums l) hsz (strOfNums l).size 0 [] (by omega) (by omega) (by simp; omega)
        rw [str_nums] at this
        simpa using this
      · have := clean_l0 (steps (strOfNums l) (strOfNums l).size 0) (by have := steps_len (strOfNums l) (strOfNums l).size 0; omega) (steps_small _ _ _) _ 0 [] (Nat.zero_add _) (by have := steps_len (strOfNums l) (strOfNums l).size 0; simp; omega)
        simpa using this
    obtain ⟨r, h1, h2⟩ := both
    exact Ev.bind h1 (Ev.bind (toByteS_ev l (by omega)) (Ev.bind h2 (evPos rfl (Ev.bind (toByteS_ev l (by omega)) (Ev.bind (eqByteS_ev l (by omega)) (evPos rfl (Ev.now _)))))))
  obtain ⟨K, h⟩ := fin _ _ rfl rfl
  exact ⟨K, h K (Nat.le_refl _)⟩
end Go.Proofs.YtcdghhihfjojaaaDoor.Pure
