/- Skies: when one is right, and how one is laid over another: program and reference say the same; no condition. -/
import Derived.Test.YtcdghhihfjojaabDoorInS
import Derived.Test.YtcdghhihfjojaabDoorQx10
import Derived.Test.YtcdghhihfjojaabDoorQx11
import Derived.Test.YtcdghhihfjojaabDoorQx12
import Derived.Test.YtcdghhihfjojaabDoorQx14
import Derived.Test.YtcdghhihfjojaabDoorQx3
import Derived.Test.YtcdghhihfjojaabDoorQx4
import Derived.Test.YtcdghhihfjojaabDoorQx5
import Derived.Test.YtcdghhihfjojaabDoorQx6
import Derived.Test.YtcdghhihfjojaabDoorQx7
set_option linter.unusedVariables false
set_option linter.unusedSimpArgs false
namespace Go.Proofs.YtcdghhihfjojaabDoor.Gen
open Go.RowKit Go.Proofs.YtcdghhihfjojaabDoor.Q Go.Proofs.YtcdghhihfjojaabDoor.Gen Go.Proofs.YtcdghhihfjojaabDoorW.PrintWords Go.Proofs.YtcdghhihfjojaabDoorW.PrintMore

abbrev WT : List ByteArray := [(⟨#[78, 83, 87]⟩ : ByteArray), (⟨#[82, 65]⟩ : ByteArray), (⟨#[45, 82, 65]⟩ : ByteArray), (⟨#[43, 82, 65]⟩ : ByteArray), (⟨#[83, 78]⟩ : ByteArray), (⟨#[45, 83, 78]⟩ : ByteArray), (⟨#[43, 83, 78]⟩ : ByteArray), (⟨#[84, 83, 82, 65]⟩ : ByteArray), (⟨#[70, 71]⟩ : ByteArray), (⟨#[66, 82]⟩ : ByteArray)]
abbrev CT : List ByteArray := [(⟨#[70, 69, 87]⟩ : ByteArray), (⟨#[83, 67, 84]⟩ : ByteArray), (⟨#[66, 75, 78]⟩ : ByteArray), (⟨#[79, 86, 67]⟩ : ByteArray)]
def wT : List (List UInt8) := [[78, 83, 87], [82, 65], [45, 82, 65], [43, 82, 65], [83, 78], [45, 83, 78], [43, 83, 78], [84, 83, 82, 65], [70, 71], [66, 82]]
def cT : List (List UInt8) := [[70, 69, 87], [83, 67, 84], [66, 75, 78], [79, 86, 67]]
theorem wT_is : WT.map ByteArray.toList = wT := by decide +kernel
theorem cT_is : CT.map ByteArray.toList = cT := by decide +kernel
def isIn (s : List UInt8) (l : List (List UInt8)) : Bool := l.any fun y => decide (s = y)
theorem index_ev (l : List ByteArray) (s : ByteArray) (hl : l.length ≤ 1000) : ∀ t i, i + t = l.length → ∃ r, Ev (fun k => slices_Index_string_string.l0 k l s (l.length : Int) (i : Int)) r ∧ decide (r ≥ 0) = isIn s.toList ((l.drop i).map ByteArray.toList) := by
  intro t
  induction t with
  | zero =>
    intro i h
    refine ⟨-1, Ev.step (fun k => slices_Index_string_string.l0.eq_2 _ _ _ _ k) (evNeg (by omega) (Ev.now _)), ?_⟩
    rw [List.drop_of_length_le (by omega)]
    rfl
  | succ t ih =>
    intro i h
    have hd : l.drop i = rdOf ByteArray.empty l (i : Int) :: l.drop (i + 1) := by
      rw [List.drop_eq_getElem_cons (by omega)]
      simp [rdOf, show i < l.length by omega]
    rw [hd, List.map_cons]
    unfold isIn
    rw [List.any_cons]
    by_cases c : s.toList = (rdOf ByteArray.empty l (i : Int)).toList
    · refine ⟨(i : Int), Ev.step (fun k => slices_Index_string_string.l0.eq_2 _ _ _ _ k) (evPos (by omega) (evPos (by omega) (evPos (by omega) (evPos c (Ev.now _))))), ?_⟩
      rw [decide_eq_true c, Bool.true_or]
      exact decide_eq_true (by omega)
    · obtain ⟨r, h1, h2⟩ := ih (i + 1) (by omega)
      refine ⟨r, Ev.step (fun k => slices_Index_string_string.l0.eq_2 _ _ _ _ k) (evPos (by omega) (evPos (by omega) (evPos (by omega) (evNeg c (by rw [up1 (by omega)]; exact h1))))), ?_⟩
      rw [decide_eq_false c, Bool.false_or]
      exact h2
theorem contains_ev (l : List ByteArray) (s : ByteArray) (hl : l.length ≤ 1000) : Ev (fun k => slices_Contains_string_string.f k l s) (isIn s.toList (l.map ByteArray.toList)) := by
  simp only [slices_Contains_string_string.f, slices_Index_string_string.f]
  obtain ⟨r, h1, h2⟩ := index_ev l s hl l.length 0 (by omega)
  rw [List.drop_zero] at h2
  rw [← h2]
  exact Ev.bind h1 (Ev.now _)

theorem iteOr (p : Prop) [Decidable p] (e : Option Bool) (b : Bool) (h : e = some b) : (if p then some true else e) = some (decide p || b) := by
  by_cases c : p
  · rw [if_pos c, decide_eq_true c, Bool.true_or]
  · rw [if_neg c, decide_eq_false c, Bool.false_or, h]
def weatherB (s : List UInt8) : Bool := s.isEmpty || isIn s wT
theorem weather_spec (s : ByteArray) : spec_l21WeatherOk.f s = some (weatherB s.toList) := by
  unfold spec_l21WeatherOk.f weatherB isIn wT
  generalize s.toList = x
  simp only [List.any_cons, List.any_nil, Bool.or_false]
  by_cases h : x = []
  · rw [if_pos h, h]; rfl
  rw [if_neg h, show x.isEmpty = false by simpa using h, Bool.false_or]
  repeat (refine iteOr _ _ _ ?_)
  by_cases h2 : x = [66, 82] <;> simp [h2]
def windB (d s : Int) : Bool := if d = -1 ∨ d = 0 then s == 0 else if inS d 1 36 = true ∨ d = 99 then inS s 1 99 else false
def cloudB (c : List UInt8) (b : Int) : Bool := if c = [] ∨ c = [83, 75, 67] then b == 0 else if isIn c cT = true then inS b 1 200 else false
theorem wind_a {d s : Int} (h : d = -1 ∨ d = 0) : windB d s = (s == 0) := if_pos h
theorem wind_b {d s : Int} (h : ¬ (d = -1 ∨ d = 0)) (h2 : inS d 1 36 = true ∨ d = 99) : windB d s = inS s 1 99 := (if_neg h).trans (if_pos h2)
theorem wind_c {d s : Int} (h : ¬ (d = -1 ∨ d = 0)) (h2 : ¬ (inS d 1 36 = true ∨ d = 99)) : windB d s = false := (if_neg h).trans (if_neg h2)
theorem cloud_a {c : List UInt8} {b : Int} (h : c = [] ∨ c = [83, 75, 67]) : cloudB c b = (b == 0) := if_pos h
theorem cloud_b {c : List UInt8} {b : Int} (h : ¬ (c = [] ∨ c = [83, 75, 67])) (h2 : isIn c cT = true) : cloudB c b = inS b 1 200 := (if_neg h).trans (if_pos h2)
theorem cloud_c {c : List UInt8} {b : Int} (h : ¬ (c = [] ∨ c = [83, 75, 67])) (h2 : ¬ isIn c cT = true) : cloudB c b = false := (if_neg h).trans (if_neg h2)
def skyB (d s v : Int) (w c : ByteArray) (b : Int) : Bool := windB d s && (inS v (-1) 9999 && (weatherB w.toList && cloudB c.toList b))
theorem wind_spec (d s v : Int) (w c : ByteArray) (b : Int) : Ev (fun k => spec_l21WindOk.f k d s v w c b) (windB d s) := by
  simp only [spec_l21WindOk.f]
  have J : ∀ x : Bool, (x = true ↔ d = -1 ∨ d = 0) → Ev (fun k => spec_l21WindOk.j0 k x d s v w c b) (windB d s) := by
    intro x hx
    refine Ev.step (fun k => spec_l21WindOk.j0.eq_2 _ _ _ _ _ _ _ k) ?_
    cases x with
    | true => rw [wind_a (hx.1 rfl)]; exact evPos rfl (Ev.now _)
    | false =>
      have hn : ¬ (d = -1 ∨ d = 0) := fun h => by have := hx.2 h; cases this
      rw [l2In_s, l2In_s]
      refine evNeg (by decide) (Ev.bind (Ev.now _) ?_)
      by_cases c1 : inS d 1 36 = true
      · rw [wind_b hn (.inl c1)]; exact evPos c1 (Ev.bind (Ev.now _) (Ev.now _))
      · refine evNeg c1 ?_
        by_cases c2 : d = 99
        · rw [wind_b hn (.inr c2)]; exact evPos c2 (Ev.bind (Ev.now _) (Ev.now _))
        · rw [wind_c hn (fun h => h.elim c1 c2)]; exact evNeg c2 (Ev.now _)
  by_cases h : d = -1
  · exact evPos h (J true ⟨fun _ => .inl h, fun _ => rfl⟩)
  · exact evNeg h (J _ (by rw [beq_iff_eq]; exact ⟨.inr, fun h' => h'.resolve_left h⟩))
theorem cloud_spec (d s v : Int) (w c : ByteArray) (b : Int) : Ev (fun k => spec_l21CloudOk.f k d s v w c b) (cloudB c.toList b) := by
  simp only [spec_l21CloudOk.f]
  have J : ∀ x : Bool, (x = true ↔ c.toList = [] ∨ c.toList = [83, 75, 67]) → Ev (fun k => spec_l21CloudOk.j0 k c x d s v w c b) (cloudB c.toList b) := by
    intro x hx
    refine Ev.step (fun k => spec_l21CloudOk.j0.eq_2 _ _ _ _ _ _ _ _ k) ?_
    generalize c.toList = y at hx ⊢
    cases x with
    | true => rw [cloud_a (hx.1 rfl)]; exact evPos rfl (Ev.now _)
    | false =>
      have hn : ¬ (y = [] ∨ y = [83, 75, 67]) := fun h => by have := hx.2 h; cases this
      rw [l2In_s]
      refine evNeg (by decide) ?_
      have hit : isIn y cT = true → Ev (fun _ : Nat => (some (inS b 1 200)).bind fun t => some t) (cloudB y b) := fun h => by rw [cloud_b hn h]; exact Ev.bind (Ev.now _) (Ev.now _)
      by_cases c1 : y = [70, 69, 87]
      · exact evPos c1 (hit (by rw [c1]; decide))
      refine evNeg c1 ?_
      by_cases c2 : y = [83, 67, 84]
      · exact evPos c2 (hit (by rw [c2]; decide))
      refine evNeg c2 ?_
      by_cases c3 : y = [66, 75, 78]
      · exact evPos c3 (hit (by rw [c3]; decide))
      refine evNeg c3 ?_
      by_cases c4 : y = [79, 86, 67]
      · exact evPos c4 (hit (by rw [c4]; decide))
      refine evNeg c4 ?_
      rw [cloud_c hn (by unfold isIn cT; simp [c1, c2, c3, c4])]
      exact Ev.now _
  by_cases h : c.toList = []
  · exact evPos h (J _ ⟨fun _ => .inl h, fun _ => by rw [h]; rfl⟩)
  · exact evNeg h (J _ (by rw [beq_iff_eq]; exact ⟨.inr, fun h' => h'.resolve_left h⟩))
theorem sky_spec (d s v : Int) (w c : ByteArray) (b : Int) : Ev (fun k => spec_SkyOk.f k d s v w c b) (skyB d s v w c b) := by
  simp only [spec_SkyOk.f, l2In_s, weather_spec]
  unfold skyB
  refine Ev.bind (wind_spec d s v w c b) ?_
  cases windB d s with
  | false => exact evNeg (by decide) (Ev.now _)
  | true =>
    refine evPos rfl (Ev.bind (Ev.now _) ?_)
    cases inS v (-1) 9999 with
    | false => exact evNeg (by decide) (Ev.now _)
    | true =>
      refine evPos rfl (Ev.bind (Ev.now _) ?_)
      cases weatherB w.toList with
      | false => exact evNeg (by decide) (Ev.now _)
      | true => exact evPos rfl (Ev.bind (cloud_spec d s v w c b) (Ev.now _))
theorem sky_j3 (d s v : Int) (w c : ByteArray) (b : Int) (x : Bool) (hx : x = true ↔ c.toList = [] ∨ c.toList = [83, 75, 67]) : Ev (fun k => impl_SkyOk.j3 k x [CT] d s v w c b) (cloudB c.toList b) := by
  refine Ev.step (fun k => impl_SkyOk.j3.eq_2 _ _ _ _ _ _ _ _ k) ?_
  cases x with
  | true => rw [cloud_a (hx.1 rfl)]; exact evPos rfl (Ev.now _)
  | false =>
    have hn : ¬ (c.toList = [] ∨ c.toList = [83, 75, 67]) := fun h => by have := hx.2 h; cases this
    have hc := contains_ev CT c (by decide)
    rw [cT_is] at hc
    rw [in_s]
    refine evNeg (by decide) (evPos (by decide) (Ev.bind hc ?_))
    by_cases h : isIn c.toList cT = true
    · rw [cloud_b hn h]; exact evPos h (Ev.bind (Ev.now _) (Ev.now _))
    · rw [cloud_c hn h]; exact evNeg h (Ev.now _)
theorem sky_j2 (d s v : Int) (w c : ByteArray) (b : Int) (x : Bool) : Ev (fun k => impl_SkyOk.j2 k x [CT] d s v w c b) (!x && cloudB c.toList b) := by
  refine Ev.step (fun k => impl_SkyOk.j2.eq_2 _ _ _ _ _ _ _ _ k) ?_
  cases x with
  | true => exact evPos rfl (Ev.now _)
  | false =>
    refine evNeg (by decide) ?_
    rw [Bool.not_false, Bool.true_and]
    by_cases h : c.toList = []
    · exact evPos h (sky_j3 d s v w c b true ⟨fun _ => .inl h, fun _ => rfl⟩)
    · exact evNeg h (sky_j3 d s v w c b _ (by rw [beq_iff_eq]; exact ⟨.inr, fun h' => h'.resolve_left h⟩))
theorem sky_j1 (d s v : Int) (w c : ByteArray) (b : Int) : Ev (fun k => impl_SkyOk.j1 k [WT] [CT] d s v w c b) (inS v (-1) 9999 && (weatherB w.toList && cloudB c.toList b)) := by
  refine Ev.step (fun k => impl_SkyOk.j1.eq_2 _ _ _ _ _ _ _ _ k) ?_
  rw [in_s]
  refine Ev.bind (Ev.now _) ?_
  cases inS v (-1) 9999 with
  | false => exact evNeg (by decide) (sky_j2 d s v w c b true)
  | true =>
    refine evPos rfl ?_
    rw [Bool.true_and]
    unfold weatherB
    by_cases h : w.toList = []
    · rw [h]
      exact evPos rfl (sky_j2 d s v w c b false)
    · have hw := contains_ev WT w (by decide)
      rw [wT_is] at hw
      have hj := sky_j2 d s v w c b (!isIn w.toList wT)
      rw [Bool.not_not] at hj
      rw [show w.toList.isEmpty = false by simpa using h, Bool.false_or]
      exact evNeg h (evPos (by decide) (Ev.bind hw hj))
theorem sky_impl (d s v : Int) (w c : ByteArray) (b : Int) : Ev (fun k => impl_SkyOk.f k d s v w c b [WT] [CT]) (skyB d s v w c b) := by
  simp only [impl_SkyOk.f]
  have j1 := sky_j1 d s v w c b
  have J : ∀ x : Bool, (x = true ↔ d = -1 ∨ d = 0) → Ev (fun k => impl_SkyOk.j0 k x [WT] [CT] d s v w c b) (skyB d s v w c b) := by
    intro x hx
    refine Ev.step (fun k => impl_SkyOk.j0.eq_2 _ _ _ _ _ _ _ _ _ k) ?_
    unfold skyB
    cases x with
    | true =>
      rw [wind_a (hx.1 rfl)]
      refine evPos rfl ?_
      by_cases h : s = 0
      · rw [show (s == 0) = true from beq_iff_eq.2 h, Bool.true_and]; exact evPos h j1
      · rw [show (s == 0) = false from beq_eq_false_iff_ne.2 h, Bool.false_and]; exact evNeg h (Ev.now _)
    | false =>
      have hn : ¬ (d = -1 ∨ d = 0) := fun h => by have := hx.2 h; cases this
      rw [in_s, in_s]
      refine evNeg (by decide) (Ev.bind (Ev.now _) ?_)
      by_cases c1 : inS d 1 36 = true
      · rw [wind_b hn (.inl c1)]
        refine evPos c1 (Ev.bind (Ev.now _) ?_)
        cases inS s 1 99 with
        | true => rw [Bool.true_and]; exact evPos rfl j1
        | false => exact evNeg (by decide) (Ev.now _)
      · refine evNeg c1 ?_
        by_cases c2 : d = 99
        · rw [wind_b hn (.inr c2)]
          refine evPos c2 (Ev.bind (Ev.now _) ?_)
          cases inS s 1 99 with
          | true => rw [Bool.true_and]; exact evPos rfl j1
          | false => exact evNeg (by decide) (Ev.now _)
        · rw [wind_c hn (fun h => h.elim c1 c2)]; exact evNeg c2 (Ev.now _)
  by_cases h : d = -1
  · exact evPos h (J true ⟨fun _ => .inl h, fun _ => rfl⟩)
  · exact evNeg h (J _ (by rw [beq_iff_eq]; exact ⟨.inr, fun h' => h'.resolve_left h⟩))

/-! one laid over another -/
def lay (d s v : Int) (w c : ByteArray) (b d' s' v' : Int) (w' c' : ByteArray) (b' : Int) : Int × Int × Int × ByteArray × ByteArray × Int :=
  (if d' = -1 then d else d', if d' = -1 then s else s', if v' = -1 then v else v', if w'.toList = [] then w else w', if c'.toList = [] then c else c', if c'.toList = [] then b else b')
def none_ : Int × Int × Int × ByteArray × ByteArray × Int := (0, 0, 0, (⟨#[]⟩ : ByteArray), (⟨#[]⟩ : ByteArray), 0)
def laidB (d s v : Int) (w c : ByteArray) (b d' s' v' : Int) (w' c' : ByteArray) (b' : Int) : Int × Int × Int × ByteArray × ByteArray × Int := if skyB d s v w c b = true ∧ skyB d' s' v' w' c' b' = true then lay d s v w c b d' s' v' w' c' b' else none_
theorem laid_spec (d s v : Int) (w c : ByteArray) (b d' s' v' : Int) (w' c' : ByteArray) (b' : Int) : Ev (fun k => spec_Laid.f k d s v w c b d' s' v' w' c' b') (laidB d s v w c b d' s' v' w' c' b') := by
  have J2 : ∀ d s v : Int, Ev (fun k => spec_Laid.j2 k d s v w c b d' s' v' w' c' b') (d, s, v, if w'.toList = [] then w else w', if c'.toList = [] then c else c', if c'.toList = [] then b else b') := by
    intro d s v
    refine Ev.step (fun k => spec_Laid.j2.eq_2 _ _ _ _ _ _ _ _ _ _ _ _ k) ?_
    by_cases h1 : w'.toList = []
    · by_cases h2 : c'.toList = []
      · rw [show (if w'.toList = [] then w else w') = w from if_pos h1, show (if c'.toList = [] then c else c') = c from if_pos h2, show (if c'.toList = [] then b else b') = b from if_pos h2]
        exact evPos h1 (evPos h2 (Ev.now _))
      · rw [show (if w'.toList = [] then w else w') = w from if_pos h1, show (if c'.toList = [] then c else c') = c' from if_neg h2, show (if c'.toList = [] then b else b') = b' from if_neg h2]
        exact evPos h1 (evNeg h2 (Ev.now _))
    · by_cases h2 : c'.toList = []
      · rw [show (if w'.toList = [] then w else w') = w' from if_neg h1, show (if c'.toList = [] then c else c') = c from if_pos h2, show (if c'.toList = [] then b else b') = b from if_pos h2]
        exact evNeg h1 (evPos h2 (Ev.now _))
      · rw [show (if w'.toList = [] then w else w') = w' from if_neg h1, show (if c'.toList = [] then c else c') = c' from if_neg h2, show (if c'.toList = [] then b else b') = b' from if_neg h2]
        exact evNeg h1 (evNeg h2 (Ev.now _))
  have J1 : ∀ d s : Int, Ev (fun k => spec_Laid.j1 k d s v w c b d' s' v' w' c' b') (d, s, if v' = -1 then v else v', if w'.toList = [] then w else w', if c'.toList = [] then c else c', if c'.toList = [] then b else b') := by
    intro d s
    refine Ev.step (fun k => spec_Laid.j1.eq_2 _ _ _ _ _ _ _ _ _ _ _ _ k) ?_
    by_cases h : v' = -1
    · rw [show (if v' = -1 then v else v') = v from if_pos h]; exact evPos h (J2 d s v)
    · rw [show (if v' = -1 then v else v') = v' from if_neg h]; exact evNeg h (J2 d s v')
  have off : Ev (fun k => spec_Laid.j0 k true d s v w c b d' s' v' w' c' b') none_ := Ev.step (fun k => spec_Laid.j0.eq_2 _ _ _ _ _ _ _ _ _ _ _ _ _ k) (evPos rfl (Ev.now _))
  simp only [spec_Laid.f]
  unfold laidB
  refine Ev.bind (sky_spec d s v w c b) ?_
  by_cases c1 : skyB d s v w c b = true
  rotate_left
  · rw [if_neg (fun h => c1 h.1)]; exact evNeg c1 off
  refine evPos c1 (Ev.bind (sky_spec d' s' v' w' c' b') ?_)
  by_cases c2 : skyB d' s' v' w' c' b' = true
  rotate_left
  · rw [if_neg (fun h => c2 h.2)]
    rw [Bool.not_eq_true] at c2
    rw [c2]
    exact off
  rw [if_pos ⟨c1, c2⟩, c2]
  refine Ev.step (fun k => spec_Laid.j0.eq_2 _ _ _ _ _ _ _ _ _ _ _ _ _ k) (evNeg (by decide) ?_)
  unfold lay
  by_cases h : d' = -1
  · rw [show (if d' = -1 then d else d') = d from if_pos h, show (if d' = -1 then s else s') = s from if_pos h]; exact evPos h (J1 d s)
  · rw [show (if d' = -1 then d else d') = d' from if_neg h, show (if d' = -1 then s else s') = s' from if_neg h]; exact evNeg h (J1 d' s')
theorem laid_impl (d s v : Int) (w c : ByteArray) (b d' s' v' : Int) (w' c' : ByteArray) (b' : Int) : Ev (fun k => impl_Laid.f k d s v w c b d' s' v' w' c' b' [WT] [CT]) (laidB d s v w c b d' s' v' w' c' b') := by
  have J2 : ∀ d s v : Int, ∀ x y : Bool, Ev (fun k => impl_Laid.j2 k d s v w c b d' s' v' w' c' b' x y (!w'.toList.isEmpty) (!c'.toList.isEmpty)) (d, s, v, if w'.toList = [] then w else w', if c'.toList = [] then c else c', if c'.toList = [] then b else b') := by
    intro d s v x y
    refine Ev.step (fun k => impl_Laid.j2.eq_2 _ _ _ _ _ _ _ _ _ _ _ _ _ _ _ _ k) ?_
    by_cases h1 : w'.toList = []
    · have e1 : (!w'.toList.isEmpty) = false := by rw [h1]; rfl
      by_cases h2 : c'.toList = []
      · have e2 : (!c'.toList.isEmpty) = false := by rw [h2]; rfl
        rw [show (if w'.toList = [] then w else w') = w from if_pos h1, show (if c'.toList = [] then c else c') = c from if_pos h2, show (if c'.toList = [] then b else b') = b from if_pos h2, e1, e2]
        exact evNeg (by decide) (evNeg (by decide) (Ev.now _))
      · have e2 : (!c'.toList.isEmpty) = true := by simpa using h2
        rw [show (if w'.toList = [] then w else w') = w from if_pos h1, show (if c'.toList = [] then c else c') = c' from if_neg h2, show (if c'.toList = [] then b else b') = b' from if_neg h2, e1, e2]
        exact evNeg (by decide) (evPos rfl (Ev.now _))
    · have e1 : (!w'.toList.isEmpty) = true := by simpa using h1
      by_cases h2 : c'.toList = []
      · have e2 : (!c'.toList.isEmpty) = false := by rw [h2]; rfl
        rw [show (if w'.toList = [] then w else w') = w' from if_neg h1, show (if c'.toList = [] then c else c') = c from if_pos h2, show (if c'.toList = [] then b else b') = b from if_pos h2, e1, e2]
        exact evPos rfl (evNeg (by decide) (Ev.now _))
      · have e2 : (!c'.toList.isEmpty) = true := by simpa using h2
        rw [show (if w'.toList = [] then w else w') = w' from if_neg h1, show (if c'.toList = [] then c else c') = c' from if_neg h2, show (if c'.toList = [] then b else b') = b' from if_neg h2, e1, e2]
        exact evPos rfl (evPos rfl (Ev.now _))
  have J1 : ∀ d s : Int, ∀ x : Bool, Ev (fun k => impl_Laid.j1 k d s v w c b d' s' v' w' c' b' x (v' != -1) (!w'.toList.isEmpty) (!c'.toList.isEmpty)) (d, s, if v' = -1 then v else v', if w'.toList = [] then w else w', if c'.toList = [] then c else c', if c'.toList = [] then b else b') := by
    intro d s x
    refine Ev.step (fun k => impl_Laid.j1.eq_2 _ _ _ _ _ _ _ _ _ _ _ _ _ _ _ _ k) ?_
    by_cases h : v' = -1
    · rw [show (if v' = -1 then v else v') = v from if_pos h, show (v' != -1) = false from bne_eq_false_iff_eq.2 h]; exact evNeg (by decide) (J2 d s v _ _)
    · rw [show (if v' = -1 then v else v') = v' from if_neg h, show (v' != -1) = true from bne_iff_ne.2 h]; exact evPos rfl (J2 d s v' _ _)
  have off : Ev (fun k => impl_Laid.j0 k true d s v w c b d' s' v' w' c' b') none_ := Ev.step (fun k => impl_Laid.j0.eq_2 _ _ _ _ _ _ _ _ _ _ _ _ _ k) (evPos rfl (Ev.now _))
  simp only [impl_Laid.f]
  unfold laidB
  refine Ev.bind (sky_impl d s v w c b) ?_
  by_cases c1 : skyB d s v w c b = true
  rotate_left
  · rw [if_neg (fun h => c1 h.1)]; exact evNeg c1 off
  refine evPos c1 (Ev.bind (sky_impl d' s' v' w' c' b') ?_)
  by_cases c2 : skyB d' s' v' w' c' b' = true
  rotate_left
  · rw [if_neg (fun h => c2 h.2)]
    rw [Bool.not_eq_true] at c2
    rw [c2]
    exact off
  rw [if_pos ⟨c1, c2⟩, c2]
  refine Ev.step (fun k => impl_Laid.j0.eq_2 _ _ _ _ _ _ _ _ _ _ _ _ _ k) (evNeg (by decide) (Ev.bind (Ev.now _) ?_))
  unfold lay
  dsimp only
  by_cases h : d' = -1
  · rw [show (if d' = -1 then d else d') = d from if_pos h, show (if d' = -1 then s else s') = s from if_pos h, show (d' != -1) = false from bne_eq_false_iff_eq.2 h]; exact evNeg (by decide) (J1 d s _)
  · rw [show (if d' = -1 then d else d') = d' from if_neg h, show (if d' = -1 then s else s') = s' from if_neg h, show (d' != -1) = true from bne_iff_ne.2 h]; exact evPos rfl (J1 d' s' _)
end Go.Proofs.YtcdghhihfjojaabDoor.Gen
