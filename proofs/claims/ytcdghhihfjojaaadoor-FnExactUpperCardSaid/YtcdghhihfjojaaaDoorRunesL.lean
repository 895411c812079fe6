/- A text cut into its runes: the program's list of runes and pieces, told by steps; no condition. -/
import Derived.Test.YtcdghhihfjojaaaDoorUtf8L
import Derived.Test.YtcdghhihfjojaaaDoorQx1
import Derived.Test.YtcdghhihfjojaaaDoorQx6
import Derived.Test.YtcdghhihfjojaaaDoorQx7
set_option linter.unusedVariables false
set_option linter.unusedSimpArgs false
namespace Go.Proofs.YtcdghhihfjojaaaDoor.Utf8L
open Go.RowKit Go.Proofs.YtcdghhihfjojaaaDoor.Q Go.Proofs.YtcdghhihfjojaaaDoor.Gen Go.Proofs.YtcdghhihfjojaaaDoorW.PrintWords Go.Proofs.YtcdghhihfjojaaaDoorW.PrintMore
theorem dec_n (n b0 b1 b2 b3 : Int) (hn : 1 ≤ n) : 1 ≤ (dec n b0 b1 b2 b3).2 ∧ (dec n b0 b1 b2 b3).2 ≤ n ∧ (dec n b0 b1 b2 b3).2 ≤ 4 := by
  unfold dec
  repeat' split
  all_goals (dsimp only; omega)
theorem go1_iff (b : Int) : go1 b = true ↔ 128 ≤ b ∧ b ≤ 191 := by simp [go1]
theorem dec_sign (n b0 b1 b2 b3 : Int) (h0 : 0 ≤ b0) : ((dec n b0 b1 b2 b3).1 = -1 ∧ (dec n b0 b1 b2 b3).2 = 1) ∨ (0 ≤ (dec n b0 b1 b2 b3).1 ∧ (dec n b0 b1 b2 b3).1 < 128 ∧ (dec n b0 b1 b2 b3).2 = 1 ∧ (dec n b0 b1 b2 b3).1 = b0) ∨ (128 ≤ (dec n b0 b1 b2 b3).1 ∧ (dec n b0 b1 b2 b3).1 ≤ 2000000 ∧ 2 ≤ (dec n b0 b1 b2 b3).2) := by
  unfold dec
  by_cases c0 : b0 < 128
  · rw [if_pos c0]
    exact .inr (.inl ⟨h0, c0, rfl, rfl⟩)
  rw [if_neg c0]
  by_cases c1 : b0 < 194
  · rw [if_pos c1]
    exact .inl ⟨rfl, rfl⟩
  rw [if_neg c1]
  simp only [go1_iff]
  by_cases c2 : b0 < 224
  · rw [if_pos c2]
    split
    · rename_i h
      exact .inr (.inr (by dsimp only; omega))
    · exact .inl ⟨rfl, rfl⟩
  rw [if_neg c2]
  by_cases c3 : b0 < 240
  · rw [if_pos c3]
    split
    · rename_i h
      exact .inr (.inr (by dsimp only; omega))
    · exact .inl ⟨rfl, rfl⟩
  rw [if_neg c3]
  by_cases c4 : b0 < 245
  · rw [if_pos c4]
    split
    · rename_i h
      exact .inr (.inr (by dsimp only; omega))
    · exact .inl ⟨rfl, rfl⟩
  rw [if_neg c4]
  exact .inl ⟨rfl, rfl⟩
theorem bt_ext (s : ByteArray) (a i : Nat) : bt (s.extract a s.size) (i : Int) = bt s ((a + i : Nat) : Int) := by
  unfold bt
  simp only [Int.toNat_natCast, ByteArray.size_extract, Nat.min_self]
  by_cases h : a + i < s.size
  · rw [dif_pos h, dif_pos (show i < s.size - a by omega), ByteArray.getElem_extract]
  · rw [dif_neg h, dif_neg (show ¬ i < s.size - a by omega)]
theorem decS_ext (s : ByteArray) (a : Nat) (h : a ≤ s.size) : decS (s.extract a s.size) 0 = decS s a := by
  have b0 := bt_ext s a 0
  have b1 := bt_ext s a 1
  have b2 := bt_ext s a 2
  have b3 := bt_ext s a 3
  unfold decS
  simp only [ByteArray.size_extract, Nat.min_self]
  rw [show ((s.size - a : Nat) : Int) - ((0 : Nat) : Int) = (s.size : Int) - (a : Int) by omega, show (((0 : Nat) : Int) + 1) = ((1 : Nat) : Int) from rfl, show (((0 : Nat) : Int) + 2) = ((2 : Nat) : Int) from rfl, show (((0 : Nat) : Int) + 3) = ((3 : Nat) : Int) from rfl, b0, b1, b2, b3]
  rfl
theorem decS_n (s : ByteArray) (a : Nat) (h : a < s.size) : ∃ n : Nat, (decS s a).2 = (n : Int) ∧ 1 ≤ n ∧ a + n ≤ s.size ∧ n ≤ 4 := by
  obtain ⟨h1, h2, h3⟩ := dec_n ((s.size : Int) - a) (bt s a) (bt s ((a : Int) + 1)) (bt s ((a : Int) + 2)) (bt s ((a : Int) + 3)) (by omega)
  refine ⟨(decS s a).2.toNat, ?_, ?_, ?_, ?_⟩ <;> unfold decS <;> omega
theorem decS_sign (s : ByteArray) (a : Nat) : ((decS s a).1 = -1 ∧ (decS s a).2 = 1) ∨ (0 ≤ (decS s a).1 ∧ (decS s a).1 < 128 ∧ (decS s a).2 = 1 ∧ (decS s a).1 = bt s a) ∨ (128 ≤ (decS s a).1 ∧ (decS s a).1 ≤ 2000000 ∧ 2 ≤ (decS s a).2) :=
  dec_sign _ _ _ _ _ (bt_range s a).1
/-- The runes from a place on, each with its piece. -/
def steps (s : ByteArray) : Nat → Nat → List (Int × ByteArray)
  | 0, _ => []
  | t + 1, a => if a < s.size then ((decS s a).1, s.extract a (a + (decS s a).2.toNat)) :: steps s t (a + (decS s a).2.toNat) else []
theorem steps_end (s : ByteArray) (t a : Nat) (h : s.size ≤ a) : steps s t a = [] := by
  cases t with
  | zero => rfl
  | succ t => rw [steps, if_neg (by omega)]
theorem steps_len (s : ByteArray) : ∀ t a, (steps s t a).length ≤ t := by
  intro t
  induction t with
  | zero => intro a; exact Nat.le_refl _
  | succ t ih =>
    intro a
    rw [steps]
    split
    · have := ih (a + (decS s a).2.toNat)
      simpa using this
    · simp
theorem steps_small (s : ByteArray) : ∀ t a, ∀ p ∈ steps s t a, p.2.size ≤ 4 := by
  intro t
  induction t with
  | zero => intro a p hp; cases hp
  | succ t ih =>
    intro a p hp
    rw [steps] at hp
    split at hp
    · rename_i h
      rcases List.mem_cons.1 hp with rfl | hp
      · obtain ⟨n, hn, _, h2, h4⟩ := decS_n s a h
        dsimp only
        rw [hn, Int.toNat_natCast, ByteArray.size_extract]
        omega
      · exact ih _ p hp
    · cases hp
theorem runes_l0 (s : ByteArray) (hs : s.size ≤ 20000) : ∀ t a, a ≤ s.size → s.size ≤ a + t → ∀ xs ps, xs.length + t ≤ 1000000 → ps.length + t ≤ 1000000 →
    Ev (fun k => impl_runes.l0 k (s.extract a s.size) xs ps TX AX) (xs ++ (steps s t a).map (·.1), ps ++ (steps s t a).map (·.2)) := by
  intro t
  induction t with
  | zero =>
    intro a h1 h2 xs ps hx hp
    refine Ev.step (fun k => impl_runes.l0.eq_2 _ _ _ _ _ k) (evNeg (by rw [ByteArray.size_extract]; omega) ?_)
    rw [steps_end _ _ _ (by omega)]
    simpa using Ev.now _
  | succ t ih =>
    intro a h1 h2 xs ps hx hp
    by_cases c : a < s.size
    rotate_left
    · refine Ev.step (fun k => impl_runes.l0.eq_2 _ _ _ _ _ k) (evNeg (by rw [ByteArray.size_extract]; omega) ?_)
      rw [steps_end _ _ _ (by omega)]
      simpa using Ev.now _
    have hsz : (s.extract a s.size).size = s.size - a := by rw [ByteArray.size_extract]; omega
    obtain ⟨n, hn, hn1, hn2, hn4⟩ := decS_n s a c
    have tail : ∀ r : Int, r = (decS s a).1 → Ev (fun k => (some (([r] : List Int) : List Int)).bind fun y150 => (if xs.length + y150.length < 35184372088832 then (if 0 ≤ (n : Int) then (if (n : Int) ≤ ((s.extract a s.size).size : Int) then ((some (([(s.extract a s.size).extract 0 (n : Int).toNat] : List ByteArray) : List ByteArray)).bind fun y156 => (if ps.length + y156.length < 8796093022208 then (impl_runes.l0 k ((s.extract a s.size).extract (n : Int).toNat (s.extract a s.size).size) (xs ++ y150) (ps ++ y156) TX AX) else (none))) else (none)) else (none)) else (none))) (xs ++ (steps s (t + 1) a).map (·.1), ps ++ (steps s (t + 1) a).map (·.2)) := by
      intro r hr
      refine Ev.bind (Ev.now _) (evPos (by simp; omega) (evPos (by omega) (evPos (by rw [hsz]; omega) (Ev.bind (Ev.now _) (evPos (by simp; omega) ?_)))))
      rw [Int.toNat_natCast, hsz, ByteArray.extract_extract, ByteArray.extract_extract, show min (a + (s.size - a)) s.size = s.size by omega, Nat.add_zero, show min (a + n) s.size = a + n by omega]
      have := ih (a + n) (by omega) (by omega) (xs ++ [r]) (ps ++ [s.extract a (a + n)]) (by simp; omega) (by simp; omega)
      rw [steps, if_pos c, hn, Int.toNat_natCast, ← hr]
      simpa using this
    refine Ev.step (fun k => impl_runes.l0.eq_2 _ _ _ _ _ k) (evPos (by rw [hsz]; omega) ?_)
    have hd := decode_eq (s.extract a s.size) (by omega)
    rw [decS_ext s a h1] at hd
    refine Ev.bind hd ?_
    rcases decS_sign s a with ⟨e1, e2⟩ | ⟨e1, e2, e3, e4⟩ | ⟨e1, e2, e3⟩
    · have e : lib (decS s a) = (65533, (n : Int)) := by unfold lib; rw [if_pos e1, hn]
      rw [e]
      exact evPos rfl (evPos (by dsimp only; omega) (tail (-1) e1.symm))
    · have e : lib (decS s a) = ((decS s a).1, (n : Int)) := by unfold lib; rw [if_neg (by omega), hn]
      rw [e]
      exact evNeg (by dsimp only; omega) (tail _ rfl)
    · have e : lib (decS s a) = ((decS s a).1, (n : Int)) := by unfold lib; rw [if_neg (by omega), hn]
      rw [e]
      by_cases d : (decS s a).1 = 65533
      · exact evPos d (evNeg (by dsimp only; omega) (tail _ rfl))
      · exact evNeg d (tail _ rfl)
theorem runes_ev (s : ByteArray) (hs : s.size ≤ 20000) : Ev (fun k => impl_runes.f k s TX AX) ((steps s s.size 0).map (·.1), (steps s s.size 0).map (·.2)) := by
  have := runes_l0 s hs s.size 0 (by omega) (by omega) [] [] (by simp; omega) (by simp; omega)
  rw [ByteArray.extract_zero_size] at this
  simpa [impl_runes.f] using this
end Go.Proofs.YtcdghhihfjojaaaDoor.Utf8L
