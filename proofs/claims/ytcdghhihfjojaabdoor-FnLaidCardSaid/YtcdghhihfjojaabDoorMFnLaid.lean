/- The plain statement of the law FnLaid: what holds of drawn skies laid over one another; no condition. -/
import Derived.Test.YtcdghhihfjojaabDoorInS
import Derived.Test.YtcdghhihfjojaabDoorQx10
import Derived.Test.YtcdghhihfjojaabDoorQx11
import Derived.Test.YtcdghhihfjojaabDoorQx13
import Derived.Test.YtcdghhihfjojaabDoorQx3
import Derived.Test.YtcdghhihfjojaabDoorQx4
import Derived.Test.YtcdghhihfjojaabDoorQx5
import Derived.Test.YtcdghhihfjojaabDoorQx6
import Derived.Test.YtcdghhihfjojaabDoorQx7
import Derived.Test.YtcdghhihfjojaabDoorQx9
import Derived.Test.YtcdghhihfjojaabDoorDraw
import Derived.Test.YtcdghhihfjojaabDoorQx14
import Derived.Test.YtcdghhihfjojaabDoorQx15
import Derived.Test.YtcdghhihfjojaabDoorQx19
import Derived.Test.YtcdghhihfjojaabDoorQx20
import Derived.Test.YtcdghhihfjojaabDoorQx21
import Derived.Test.YtcdghhihfjojaabDoorQx22
import Derived.Test.YtcdghhihfjojaabDoorRows
import Derived.Test.YtcdghhihfjojaabDoorOpen
import Derived.Test.YtcdghhihfjojaabDoorFltO
import Derived.LaidByTextLater
import Derived.SevenTiedAt
import Derived.LaidMore
import Derived.OpenVars
import Derived.Test.YtcdghhihfjojaabDoorTie
import Derived.Test.YtcdghhihfjojaabDoorCards
import Derived.Test.YtcdghhihfjojaabDoorTabsS
import Derived.WalkKit
import Derived.ProofKit
import Derived.OpenShut
import Derived.ShutString
import Derived.ChangeOld
import Derived.Below
import Derived.SizedLaws
import Derived.Laws.Cover2

section
/- Skies: when one is right, and how one is laid over another: program and reference say the same; no condition. -/
set_option linter.unusedVariables false
set_option linter.unusedSimpArgs false
namespace Go.Proofs.YtcdghhihfjojaabDoor.Gen
open Go.RowKit Go.Proofs.YtcdghhihfjojaabDoor.Q Go.Proofs.YtcdghhihfjojaabDoor.Gen Go.Proofs.YtcdghhihfjojaabDoorW.PrintWords Go.Proofs.YtcdghhihfjojaabDoorW.PrintMore

abbrev WT : List ByteArray := [(⟨#[78, 83, 87]⟩ : ByteArray), (⟨#[82, 65]⟩ : ByteArray), (⟨#[45, 82, 65]⟩ : ByteArray), (⟨#[43, 82, 65]⟩ : ByteArray), (⟨#[83, 78]⟩ : ByteArray), (⟨#[45, 83, 78]⟩ : ByteArray), (⟨#[43, 83, 78]⟩ : ByteArray), (⟨#[84, 83, 82, 65]⟩ : ByteArray), (⟨#[70, 71]⟩ : ByteArray), (⟨#[66, 82]⟩ : ByteArray)]
abbrev CT : List ByteArray := [(⟨#[70, 69, 87]⟩ : ByteArray), (⟨#[83, 67, 84]⟩ : ByteArray), (⟨#[66, 75, 78]⟩ : ByteArray), (⟨#[79, 86, 67]⟩ : ByteArray)]
def wT : List (List UInt8) := [[78, 83, 87], [82, 65], [45, 82, 65], [43, 82, 65], [83, 78], [45, 83, 78], [43, 83, 78], [84, 83, 82, 65], [70, 71], [66, 82]]
def cT : List (List UInt8) := [[70, 69, 87], [83, 67, 84], [66, 75, 78], [79, 86, 67]]
theorem wT_is : WT.map ByteArray.toList = wT := by decide +kernel
theorem cT_is : CT.map ByteArray.toList = cT := by decide +kernel
def isIn (s : List UInt8) (l : List (List UInt8)) : Bool := l.any fun y => decide (s = y)
theorem index_ev (l : List ByteArray) (s : ByteArray) (hl : l.length ≤ 1000) : ∀ t i, i + t = l.length → ∃ r, Ev (fun k => slices_Index_string_string.l0 k l s (l.length : Int) (i : Int)) r ∧ decide (r ≥ 0) = isIn s.toList ((l.drop i).map ByteArray.toList) := by
  intro t
  induction t with
  | zero =>
    intro i h
    refine ⟨-1, Ev.step (fun k => slices_Index_string_string.l0.eq_2 _ _ _ _ k) (evNeg (by omega) (Ev.now _)), ?_⟩
    rw [List.drop_of_length_le (by omega)]
    rfl
  | succ t ih =>
    intro i h
    have hd : l.drop i = rdOf ByteArray.empty l (i : Int) :: l.drop (i + 1) := by
      rw [List.drop_eq_getElem_cons (by omega)]
      simp [rdOf, show i < l.length by omega]
    rw [hd, List.map_cons]
    unfold isIn
    rw [List.any_cons]
    by_cases c : s.toList = (rdOf ByteArray.empty l (i : Int)).toList
    · refine ⟨(i : Int), Ev.step (fun k => slices_Index_string_string.l0.eq_2 _ _ _ _ k) (evPos (by omega) (evPos (by omega) (evPos (by omega) (evPos c (Ev.now _))))), ?_⟩
      rw [decide_eq_true c, Bool.true_or]
      exact decide_eq_true (by omega)
    · obtain ⟨r, h1, h2⟩ := ih (i + 1) (by omega)
      refine ⟨r, Ev.step (fun k => slices_Index_string_string.l0.eq_2 _ _ _ _ k) (evPos (by omega) (evPos (by omega) (evPos (by omega) (evNeg c (by rw [up1 (by omega)]; exact h1))))), ?_⟩
      rw [decide_eq_false c, Bool.false_or]
      exact h2
theorem contains_ev (l : List ByteArray) (s : ByteArray) (hl : l.length ≤ 1000) : Ev (fun k => slices_Contains_string_string.f k l s) (isIn s.toList (l.map ByteArray.toList)) := by
  simp only [slices_Contains_string_string.f, slices_Index_string_string.f]
  obtain ⟨r, h1, h2⟩ := index_ev l s hl l.length 0 (by omega)
  rw [List.drop_zero] at h2
  rw [← h2]
  exact Ev.bind h1 (Ev.now _)

theorem iteOr (p : Prop) [Decidable p] (e : Option Bool) (b : Bool) (h : e = some b) : (if p then some true else e) = some (decide p || b) := by
  by_cases c : p
  · rw [if_pos c, decide_eq_true c, Bool.true_or]
  · rw [if_neg c, decide_eq_false c, Bool.false_or, h]
def weatherB (s : List UInt8) : Bool := s.isEmpty || isIn s wT
theorem weather_spec (s : ByteArray) : spec_l21WeatherOk.f s = some (weatherB s.toList) := by
  unfold spec_l21WeatherOk.f weatherB isIn wT
  generalize s.toList = x
  simp only [List.any_cons, List.any_nil, Bool.or_false]
  by_cases h : x = []
  · rw [if_pos h, h]; rfl
  rw [if_neg h, show x.isEmpty = false by simpa using h, Bool.false_or]
  repeat (refine iteOr _ _ _ ?_)
  by_cases h2 : x = [66, 82] <;> simp [h2]
def windB (d s : Int) : Bool := if d = -1 ∨ d = 0 then s == 0 else if inS d 1 36 = true ∨ d = 99 then inS s 1 99 else false
def cloudB (c : List UInt8) (b : Int) : Bool := if c = [] ∨ c = [83, 75, 67] then b == 0 else if isIn c cT = true then inS b 1 200 else false
theorem wind_a {d s : Int} (h : d = -1 ∨ d = 0) : windB d s = (s == 0) := if_pos h
theorem wind_b {d s : Int} (h : ¬ (d = -1 ∨ d = 0)) (h2 : inS d 1 36 = true ∨ d = 99) : windB d s = inS s 1 99 := (if_neg h).trans (if_pos h2)
theorem wind_c {d s : Int} (h : ¬ (d = -1 ∨ d = 0)) (h2 : ¬ (inS d 1 36 = true ∨ d = 99)) : windB d s = false := (if_neg h).trans (if_neg h2)
theorem cloud_a {c : List UInt8} {b : Int} (h : c = [] ∨ c = [83, 75, 67]) : cloudB c b = (b == 0) := if_pos h
theorem cloud_b {c : List UInt8} {b : Int} (h : ¬ (c = [] ∨ c = [83, 75, 67])) (h2 : isIn c cT = true) : cloudB c b = inS b 1 200 := (if_neg h).trans (if_pos h2)
theorem cloud_c {c : List UInt8} {b : Int} (h : ¬ (c = [] ∨ c = [83, 75, 67])) (h2 : ¬ isIn c cT = true) : cloudB c b = false := (if_neg h).trans (if_neg h2)
def skyB (d s v : Int) (w c : ByteArray) (b : Int) : Bool := windB d s && (inS v (-1) 9999 && (weatherB w.toList && cloudB c.toList b))
theorem wind_spec (d s v : Int) (w c : ByteArray) (b : Int) : Ev (fun k => spec_l21WindOk.f k d s v w c b) (windB d s) := by
  simp only [spec_l21WindOk.f]
  have J : ∀ x : Bool, (x = true ↔ d = -1 ∨ d = 0) → Ev (fun k => spec_l21WindOk.j0 k x d s v w c b) (windB d s) := by
    intro x hx
    refine Ev.step (fun k => spec_l21WindOk.j0.eq_2 _ _ _ _ _ _ _ k) ?_
    cases x with
    | true => rw [wind_a (hx.1 rfl)]; exact evPos rfl (Ev.now _)
    | false =>
      have hn : ¬ (d = -1 ∨ d = 0) := fun h => by have := hx.2 h; cases this
      rw [l2In_s, l2In_s]
      refine evNeg (by decide) (Ev.bind (Ev.now _) ?_)
      by_cases c1 : inS d 1 36 = true
      · rw [wind_b hn (.inl c1)]; exact evPos c1 (Ev.bind (Ev.now _) (Ev.now _))
      · refine evNeg c1 ?_
        by_cases c2 : d = 99
        · rw [wind_b hn (.inr c2)]; exact evPos c2 (Ev.bind (Ev.now _) (Ev.now _))
        · rw [wind_c hn (fun h => h.elim c1 c2)]; exact evNeg c2 (Ev.now _)
  by_cases h : d = -1
  · exact evPos h (J true ⟨fun _ => .inl h, fun _ => rfl⟩)
  · exact evNeg h (J _ (by rw [beq_iff_eq]; exact ⟨.inr, fun h' => h'.resolve_left h⟩))
theorem cloud_spec (d s v : Int) (w c : ByteArray) (b : Int) : Ev (fun k => spec_l21CloudOk.f k d s v w c b) (cloudB c.toList b) := by
  simp only [spec_l21CloudOk.f]
  have J : ∀ x : Bool, (x = true ↔ c.toList = [] ∨ c.toList = [83, 75, 67]) → Ev (fun k => spec_l21CloudOk.j0 k c x d s v w c b) (cloudB c.toList b) := by
    intro x hx
    refine Ev.step (fun k => spec_l21CloudOk.j0.eq_2 _ _ _ _ _ _ _ _ k) ?_
    generalize c.toList = y at hx ⊢
    cases x with
    | true => rw [cloud_a (hx.1 rfl)]; exact evPos rfl (Ev.now _)
    | false =>
      have hn : ¬ (y = [] ∨ y = [83, 75, 67]) := fun h => by have := hx.2 h; cases this
      rw [l2In_s]
      refine evNeg (by decide) ?_
      have hit : isIn y cT = true → Ev (fun _ : Nat => (some (inS b 1 200)).bind fun t => some t) (cloudB y b) := fun h => by rw [cloud_b hn h]; exact Ev.bind (Ev.now _) (Ev.now _)
      by_cases c1 : y = [70, 69, 87]
      · exact evPos c1 (hit (by rw [c1]; decide))
      refine evNeg c1 ?_
      by_cases c2 : y = [83, 67, 84]
      · exact evPos c2 (hit (by rw [c2]; decide))
      refine evNeg c2 ?_
      by_cases c3 : y = [66, 75, 78]
      · exact evPos c3 (hit (by rw [c3]; decide))
      refine evNeg c3 ?_
      by_cases c4 : y = [79, 86, 67]
      · exact evPos c4 (hit (by rw [c4]; decide))
      refine evNeg c4 ?_
      rw [cloud_c hn (by unfold isIn cT; simp [c1, c2, c3, c4])]
      exact Ev.now _
  by_cases h : c.toList = []
  · exact evPos h (J _ ⟨fun _ => .inl h, fun _ => by rw [h]; rfl⟩)
  · exact evNeg h (J _ (by rw [beq_iff_eq]; exact ⟨.inr, fun h' => h'.resolve_left h⟩))
theorem sky_spec (d s v : Int) (w c : ByteArray) (b : Int) : Ev (fun k => spec_SkyOk.f k d s v w c b) (skyB d s v w c b) := by
  simp only [spec_SkyOk.f, l2In_s, weather_spec]
  unfold skyB
  refine Ev.bind (wind_spec d s v w c b) ?_
  cases windB d s with
  | false => exact evNeg (by decide) (Ev.now _)
  | true =>
    refine evPos rfl (Ev.bind (Ev.now _) ?_)
    cases inS v (-1) 9999 with
    | false => exact evNeg (by decide) (Ev.now _)
    | true =>
      refine evPos rfl (Ev.bind (Ev.now _) ?_)
      cases weatherB w.toList with
      | false => exact evNeg (by decide) (Ev.now _)
      | true => exact evPos rfl (Ev.bind (cloud_spec d s v w c b) (Ev.now _))
theorem sky_j3 (d s v : Int) (w c : ByteArray) (b : Int) (x : Bool) (hx : x = true ↔ c.toList = [] ∨ c.toList = [83, 75, 67]) : Ev (fun k => impl_SkyOk.j3 k x [CT] d s v w c b) (cloudB c.toList b) := by
  refine Ev.step (fun k => impl_SkyOk.j3.eq_2 _ _ _ _ _ _ _ _ k) ?_
  cases x with
  | true => rw [cloud_a (hx.1 rfl)]; exact evPos rfl (Ev.now _)
  | false =>
    have hn : ¬ (c.toList = [] ∨ c.toList = [83, 75, 67]) := fun h => by have := hx.2 h; cases this
    have hc := contains_ev CT c (by decide)
    rw [cT_is] at hc
    rw [in_s]
    refine evNeg (by decide) (evPos (by decide) (Ev.bind hc ?_))
    by_cases h : isIn c.toList cT = true
    · rw [cloud_b hn h]; exact evPos h (Ev.bind (Ev.now _) (Ev.now _))
    · rw [cloud_c hn h]; exact evNeg h (Ev.now _)
theorem sky_j2 (d s v : Int) (w c : ByteArray) (b : Int) (x : Bool) : Ev (fun k => impl_SkyOk.j2 k x [CT] d s v w c b) (!x && cloudB c.toList b) := by
  refine Ev.step (fun k => impl_SkyOk.j2.eq_2 _ _ _ _ _ _ _ _ k) ?_
  cases x with
  | true => exact evPos rfl (Ev.now _)
  | false =>
    refine evNeg (by decide) ?_
    rw [Bool.not_false, Bool.true_and]
    by_cases h : c.toList = []
    · exact evPos h (sky_j3 d s v w c b true ⟨fun _ => .inl h, fun _ => rfl⟩)
    · exact evNeg h (sky_j3 d s v w c b _ (by rw [beq_iff_eq]; exact ⟨.inr, fun h' => h'.resolve_left h⟩))
theorem sky_j1 (d s v : Int) (w c : ByteArray) (b : Int) : Ev (fun k => impl_SkyOk.j1 k [WT] [CT] d s v w c b) (inS v (-1) 9999 && (weatherB w.toList && cloudB c.toList b)) := by
  refine Ev.step (fun k => impl_SkyOk.j1.eq_2 _ _ _ _ _ _ _ _ k) ?_
  rw [in_s]
  refine Ev.bind (Ev.now _) ?_
  cases inS v (-1) 9999 with
  | false => exact evNeg (by decide) (sky_j2 d s v w c b true)
  | true =>
    refine evPos rfl ?_
    rw [Bool.true_and]
    unfold weatherB
    by_cases h : w.toList = []
    · rw [h]
      exact evPos rfl (sky_j2 d s v w c b false)
    · have hw := contains_ev WT w (by decide)
      rw [wT_is] at hw
      have hj := sky_j2 d s v w c b (!isIn w.toList wT)
      rw [Bool.not_not] at hj
      rw [show w.toList.isEmpty = false by simpa using h, Bool.false_or]
      exact evNeg h (evPos (by decide) (Ev.bind hw hj))
theorem sky_impl (d s v : Int) (w c : ByteArray) (b : Int) : Ev (fun k => impl_SkyOk.f k d s v w c b [WT] [CT]) (skyB d s v w c b) := by
  simp only [impl_SkyOk.f]
  have j1 := sky_j1 d s v w c b
  have J : ∀ x : Bool, (x = true ↔ d = -1 ∨ d = 0) → Ev (fun k => impl_SkyOk.j0 k x [WT] [CT] d s v w c b) (skyB d s v w c b) := by
    intro x hx
    refine Ev.step (fun k => impl_SkyOk.j0.eq_2 _ _ _ _ _ _ _ _ _ k) ?_
    unfold skyB
    cases x with
    | true =>
      rw [wind_a (hx.1 rfl)]
      refine evPos rfl ?_
      by_cases h : s = 0
      · rw [show (s == 0) = true from beq_iff_eq.2 h, Bool.true_and]; exact evPos h j1
      · rw [show (s == 0) = false from beq_eq_false_iff_ne.2 h, Bool.false_and]; exact evNeg h (Ev.now _)
    | false =>
      have hn : ¬ (d = -1 ∨ d = 0) := fun h => by have := hx.2 h; cases this
      rw [in_s, in_s]
      refine evNeg (by decide) (Ev.bind (Ev.now _) ?_)
      by_cases c1 : inS d 1 36 = true
      · rw [wind_b hn (.inl c1)]
        refine evPos c1 (Ev.bind (Ev.now _) ?_)
        cases inS s 1 99 with
        | true => rw [Bool.true_and]; exact evPos rfl j1
        | false => exact evNeg (by decide) (Ev.now _)
      · refine evNeg c1 ?_
        by_cases c2 : d = 99
        · rw [wind_b hn (.inr c2)]
          refine evPos c2 (Ev.bind (Ev.now _) ?_)
          cases inS s 1 99 with
          | true => rw [Bool.true_and]; exact evPos rfl j1
          | false => exact evNeg (by decide) (Ev.now _)
        · rw [wind_c hn (fun h => h.elim c1 c2)]; exact evNeg c2 (Ev.now _)
  by_cases h : d = -1
  · exact evPos h (J true ⟨fun _ => .inl h, fun _ => rfl⟩)
  · exact evNeg h (J _ (by rw [beq_iff_eq]; exact ⟨.inr, fun h' => h'.resolve_left h⟩))

/-! one laid over another -/
def lay (d s v : Int) (w c : ByteArray) (b d' s' v' : Int) (w' c' : ByteArray) (b' : Int) : Int × Int × Int × ByteArray × ByteArray × Int :=
  (if d' = -1 then d else d', if d' = -1 then s else s', if v' = -1 then v else v', if w'.toList = [] then w else w', if c'.toList = [] then c else c', if c'.toList = [] then b else b')
def none_ : Int × Int × Int × ByteArray × ByteArray × Int := (0, 0, 0, (⟨#[]⟩ : ByteArray), (⟨#[]⟩ : ByteArray), 0)
def laidB (d s v : Int) (w c : ByteArray) (b d' s' v' : Int) (w' c' : ByteArray) (b' : Int) : Int × Int × Int × ByteArray × ByteArray × Int := if skyB d s v w c b = true ∧ skyB d' s' v' w' c' b' = true then lay d s v w c b d' s' v' w' c' b' else none_
theorem laid_spec (d s v : Int) (w c : ByteArray) (b d' s' v' : Int) (w' c' : ByteArray) (b' : Int) : Ev (fun k => spec_Laid.f k d s v w c b d' s' v' w' c' b') (laidB d s v w c b d' s' v' w' c' b') := by
  have J2 : ∀ d s v : Int, Ev (fun k => spec_Laid.j2 k d s v w c b d' s' v' w' c' b') (d, s, v, if w'.toList = [] then w else w', if c'.toList = [] then c else c', if c'.toList = [] then b else b') := by
    intro d s v
    refine Ev.step (fun k => spec_Laid.j2.eq_2 _ _ _ _ _ _ _ _ _ _ _ _ k) ?_
    by_cases h1 : w'.toList = []
    · by_cases h2 : c'.toList = []
      · rw [show (if w'.toList = [] then w else w') = w from if_pos h1, show (if c'.toList = [] then c else c') = c from if_pos h2, show (if c'.toList = [] then b else b') = b from if_pos h2]
        exact evPos h1 (evPos h2 (Ev.now _))
      · rw [show (if w'.toList = [] then w else w') = w from if_pos h1, show (if c'.toList = [] then c else c') = c' from if_neg h2, show (if c'.toList = [] then b else b') = b' from if_neg h2]
        exact evPos h1 (evNeg h2 (Ev.now _))
    · by_cases h2 : c'.toList = []
      · rw [show (if w'.toList = [] then w else w') = w' from if_neg h1, show (if c'.toList = [] then c else c') = c from if_pos h2, show (if c'.toList = [] then b else b') = b from if_pos h2]
        exact evNeg h1 (evPos h2 (Ev.now _))
      · rw [show (if w'.toList = [] then w else w') = w' from if_neg h1, show (if c'.toList = [] then c else c') = c' from if_neg h2, show (if c'.toList = [] then b else b') = b' from if_neg h2]
        exact evNeg h1 (evNeg h2 (Ev.now _))
  have J1 : ∀ d s : Int, Ev (fun k => spec_Laid.j1 k d s v w c b d' s' v' w' c' b') (d, s, if v' = -1 then v else v', if w'.toList = [] then w else w', if c'.toList = [] then c else c', if c'.toList = [] then b else b') := by
    intro d s
    refine Ev.step (fun k => spec_Laid.j1.eq_2 _ _ _ _ _ _ _ _ _ _ _ _ k) ?_
    by_cases h : v' = -1
    · rw [show (if v' = -1 then v else v') = v from if_pos h]; exact evPos h (J2 d s v)
    · rw [show (if v' = -1 then v else v') = v' from if_neg h]; exact evNeg h (J2 d s v')
  have off : Ev (fun k => spec_Laid.j0 k true d s v w c b d' s' v' w' c' b') none_ := Ev.step (fun k => spec_Laid.j0.eq_2 _ _ _ _ _ _ _ _ _ _ _ _ _ k) (evPos rfl (Ev.now _))
  simp only [spec_Laid.f]
  unfold laidB
  refine Ev.bind (sky_spec d s v w c b) ?_
  by_cases c1 : skyB d s v w c b = true
  rotate_left
  · rw [if_neg (fun h => c1 h.1)]; exact evNeg c1 off
  refine evPos c1 (Ev.bind (sky_spec d' s' v' w' c' b') ?_)
  by_cases c2 : skyB d' s' v' w' c' b' = true
  rotate_left
  · rw [if_neg (fun h => c2 h.2)]
    rw [Bool.not_eq_true] at c2
    rw [c2]
    exact off
  rw [if_pos ⟨c1, c2⟩, c2]
  refine Ev.step (fun k => spec_Laid.j0.eq_2 _ _ _ _ _ _ _ _ _ _ _ _ _ k) (evNeg (by decide) ?_)
  unfold lay
  by_cases h : d' = -1
  · rw [show (if d' = -1 then d else d') = d from if_pos h, show (if d' = -1 then s else s') = s from if_pos h]; exact evPos h (J1 d s)
  · rw [show (if d' = -1 then d else d') = d' from if_neg h, show (if d' = -1 then s else s') = s' from if_neg h]; exact evNeg h (J1 d' s')
theorem laid_impl (d s v : Int) (w c : ByteArray) (b d' s' v' : Int) (w' c' : ByteArray) (b' : Int) : Ev (fun k => impl_Laid.f k d s v w c b d' s' v' w' c' b' [WT] [CT]) (laidB d s v w c b d' s' v' w' c' b') := by
  have J2 : ∀ d s v : Int, ∀ x y : Bool, Ev (fun k => impl_Laid.j2 k d s v w c b d' s' v' w' c' b' x y (!w'.toList.isEmpty) (!c'.toList.isEmpty)) (d, s, v, if w'.toList = [] then w else w', if c'.toList = [] then c else c', if c'.toList = [] then b else b') := by
    intro d s v x y
    refine Ev.step (fun k => impl_Laid.j2.eq_2 _ _ _ _ _ _ _ _ _ _ _ _ _ _ _ _ k) ?_
    by_cases h1 : w'.toList = []
    · have e1 : (!w'.toList.isEmpty) = false := by rw [h1]; rfl
      by_cases h2 : c'.toList = []
      · have e2 : (!c'.toList.isEmpty) = false := by rw [h2]; rfl
        rw [show (if w'.toList = [] then w else w') = w from if_pos h1, show (if c'.toList = [] then c else c') = c from if_pos h2, show (if c'.toList = [] then b else b') = b from if_pos h2, e1, e2]
        exact evNeg (by decide) (evNeg (by decide) (Ev.now _))
      · have e2 : (!c'.toList.isEmpty) = true := by simpa using h2
        rw [show (if w'.toList = [] then w else w') = w from if_pos h1, show (if c'.toList = [] then c else c') = c' from if_neg h2, show (if c'.toList = [] then b else b') = b' from if_neg h2, e1, e2]
        exact evNeg (by decide) (evPos rfl (Ev.now _))
    · have e1 : (!w'.toList.isEmpty) = true := by simpa using h1
      by_cases h2 : c'.toList = []
      · have e2 : (!c'.toList.isEmpty) = false := by rw [h2]; rfl
        rw [show (if w'.toList = [] then w else w') = w' from if_neg h1, show (if c'.toList = [] then c else c') = c from if_pos h2, show (if c'.toList = [] then b else b') = b from if_pos h2, e1, e2]
        exact evPos rfl (evNeg (by decide) (Ev.now _))
      · have e2 : (!c'.toList.isEmpty) = true := by simpa using h2
        rw [show (if w'.toList = [] then w else w') = w' from if_neg h1, show (if c'.toList = [] then c else c') = c' from if_neg h2, show (if c'.toList = [] then b else b') = b' from if_neg h2, e1, e2]
        exact evPos rfl (evPos rfl (Ev.now _))
  have J1 : ∀ d s : Int, ∀ x : Bool, Ev (fun k => impl_Laid.j1 k d s v w c b d' s' v' w' c' b' x (v' != -1) (!w'.toList.isEmpty) (!c'.toList.isEmpty)) (d, s, if v' = -1 then v else v', if w'.toList = [] then w else w', if c'.toList = [] then c else c', if c'.toList = [] then b else b') := by
    intro d s x
    refine Ev.step (fun k => impl_Laid.j1.eq_2 _ _ _ _ _ _ _ _ _ _ _ _ _ _ _ _ k) ?_
    by_cases h : v' = -1
    · rw [show (if v' = -1 then v else v') = v from if_pos h, show (v' != -1) = false from bne_eq_false_iff_eq.2 h]; exact evNeg (by decide) (J2 d s v _ _)
    · rw [show (if v' = -1 then v else v') = v' from if_neg h, show (v' != -1) = true from bne_iff_ne.2 h]; exact evPos rfl (J2 d s v' _ _)
  have off : Ev (fun k => impl_Laid.j0 k true d s v w c b d' s' v' w' c' b') none_ := Ev.step (fun k => impl_Laid.j0.eq_2 _ _ _ _ _ _ _ _ _ _ _ _ _ k) (evPos rfl (Ev.now _))
  simp only [impl_Laid.f]
  unfold laidB
  refine Ev.bind (sky_impl d s v w c b) ?_
  by_cases c1 : skyB d s v w c b = true
  rotate_left
  · rw [if_neg (fun h => c1 h.1)]; exact evNeg c1 off
  refine evPos c1 (Ev.bind (sky_impl d' s' v' w' c' b') ?_)
  by_cases c2 : skyB d' s' v' w' c' b' = true
  rotate_left
  · rw [if_neg (fun h => c2 h.2)]
    rw [Bool.not_eq_true] at c2
    rw [c2]
    exact off
  rw [if_pos ⟨c1, c2⟩, c2]
  refine Ev.step (fun k => impl_Laid.j0.eq_2 _ _ _ _ _ _ _ _ _ _ _ _ _ k) (evNeg (by decide) (Ev.bind (Ev.now _) ?_))
  unfold lay
  dsimp only
  by_cases h : d' = -1
  · rw [show (if d' = -1 then d else d') = d from if_pos h, show (if d' = -1 then s else s') = s from if_pos h, show (d' != -1) = false from bne_eq_false_iff_eq.2 h]; exact evNeg (by decide) (J1 d s _)
  · rw [show (if d' = -1 then d else d') = d' from if_neg h, show (if d' = -1 then s else s') = s' from if_neg h, show (d' != -1) = true from bne_iff_ne.2 h]; exact evPos rfl (J1 d' s' _)
end Go.Proofs.YtcdghhihfjojaabDoor.Gen
end

section
/- The plain statement of the law FnLaid: what holds of drawn skies laid over one another; no condition. -/
set_option linter.unusedVariables false
set_option linter.unusedSimpArgs false
namespace Go.Proofs.YtcdghhihfjojaabDoor.Pure
open Go.RowKit Go.Proofs.YtcdghhihfjojaabDoor.Q Go.Proofs.YtcdghhihfjojaabDoor.Gen Go.Proofs.YtcdghhihfjojaabDoor.Draw Go.Proofs.YtcdghhihfjojaabDoorW.PrintWords Go.Proofs.YtcdghhihfjojaabDoorW.PrintMore
theorem ev_of {α : Type} {x : Option α} {v : α} (h : x = some v) : Ev (fun _ => x) v := by rw [h]; exact Ev.now _
/-! what is drawn -/
def Done (l : List Int) (g : Nat → Option (Int × Int × Int × ByteArray × ByteArray × Int × Int)) : Prop := ∃ d s v w c b q, Ev g (d, s, v, w, c, b, q) ∧ At l q
section
variable {l : List Int} (h : Src l)
include h
theorem sk6 (x : Bool) {p : Int} (hp : At l p) (d s v : Int) (w c : ByteArray) (b : Int) : Done l (fun k => spec_l1Rd_sky.j6 k x l p d s v w c b) := by
  cases x with
  | false => exact ⟨d, s, v, w, c, b, p, Ev.step (fun k => spec_l1Rd_sky.j6.eq_2 _ _ _ _ _ _ _ _ _ k) (evNeg (by decide) (Ev.now _)), hp⟩
  | true =>
    obtain ⟨i, q1, e1, i0, i1, h1⟩ := below_ok h hp 5 (by omega)
    obtain ⟨j, q2, e2, j0, j1, h2⟩ := below_ok h h1 200 (by omega)
    generalize hY : ([(⟨#[83, 75, 67]⟩ : ByteArray), (⟨#[70, 69, 87]⟩ : ByteArray), (⟨#[83, 67, 84]⟩ : ByteArray), (⟨#[66, 75, 78]⟩ : ByteArray), (⟨#[79, 86, 67]⟩ : ByteArray)] : List ByteArray) = Y
    have hl : Y.length = 5 := by rw [← hY]; rfl
    by_cases c1 : (rdOf ByteArray.empty Y i).toList = ([83, 75, 67] : List UInt8)
    · refine ⟨d, s, v, w, rdOf ByteArray.empty Y i, b, q1, Ev.step (fun k => spec_l1Rd_sky.j6.eq_2 _ _ _ _ _ _ _ _ _ k) (evPos rfl ?_), h1⟩
      rw [hY]
      exact Ev.bind (Ev.now _) (Ev.bind (ev_of e1) (evPos i0 (evPos (by rw [hl]; exact i1) (evPos c1 (Ev.now _)))))
    · refine ⟨d, s, v, w, rdOf ByteArray.empty Y i, wrap64 (1 + j), q2, Ev.step (fun k => spec_l1Rd_sky.j6.eq_2 _ _ _ _ _ _ _ _ _ k) (evPos rfl ?_), h2⟩
      rw [hY]
      exact Ev.bind (Ev.now _) (Ev.bind (ev_of e1) (evPos i0 (evPos (by rw [hl]; exact i1) (evNeg c1 (Ev.bind (ev_of e2) (Ev.now _))))))
theorem sk5 (x : Bool) {p : Int} (hp : At l p) (d s v : Int) (w c : ByteArray) (b : Int) : Done l (fun k => spec_l1Rd_sky.j5 k x l p d s v w c b) := by
  cases x with
  | true =>
    obtain ⟨d1, s1, v1, w1, c1, b1, q, e, g⟩ := sk6 h true hp d s v w c b
    exact ⟨d1, s1, v1, w1, c1, b1, q, Ev.step (fun k => spec_l1Rd_sky.j5.eq_2 _ _ _ _ _ _ _ _ _ k) (evPos rfl e), g⟩
  | false =>
    obtain ⟨y, q1, e1, h1⟩ := once_ok h hp 2 (by omega)
    cases y with
    | true =>
      obtain ⟨d1, s1, v1, w1, c1, b1, q, e, g⟩ := sk6 h true h1 d s v w c b
      exact ⟨d1, s1, v1, w1, c1, b1, q, Ev.step (fun k => spec_l1Rd_sky.j5.eq_2 _ _ _ _ _ _ _ _ _ k) (evNeg (by decide) (Ev.bind (ev_of e1) (evPos rfl e))), g⟩
    | false =>
      obtain ⟨d1, s1, v1, w1, c1, b1, q, e, g⟩ := sk6 h (d == (-1) && (s == 0 && (v == (-1) && (w.toList == (⟨#[]⟩ : ByteArray).toList && (c.toList == (⟨#[]⟩ : ByteArray).toList && (b == 0)))))) h1 d s v w c b
      exact ⟨d1, s1, v1, w1, c1, b1, q, Ev.step (fun k => spec_l1Rd_sky.j5.eq_2 _ _ _ _ _ _ _ _ _ k) (evNeg (by decide) (Ev.bind (ev_of e1) (evNeg Bool.false_ne_true (Ev.bind (show Ev (fun _ : Nat => spec_l21Unsaid.f) ((-1), 0, (-1), (⟨#[]⟩ : ByteArray), (⟨#[]⟩ : ByteArray), 0) from Ev.now _) e)))), g⟩
theorem sk4 (a x : Bool) {p : Int} (hp : At l p) (d s v : Int) (w c : ByteArray) (b : Int) : Done l (fun k => spec_l1Rd_sky.j4 k a x l p d s v w c b) := by
  cases x with
  | false =>
    obtain ⟨d1, s1, v1, w1, c1, b1, q, e, g⟩ := sk5 h a hp d s v w c b
    exact ⟨d1, s1, v1, w1, c1, b1, q, Ev.step (fun k => spec_l1Rd_sky.j4.eq_2 _ _ _ _ _ _ _ _ _ _ k) (evNeg (by decide) e), g⟩
  | true =>
    obtain ⟨i, q1, e1, i0, i1, h1⟩ := below_ok h hp 10 (by omega)
    generalize hY : ([(⟨#[78, 83, 87]⟩ : ByteArray), (⟨#[82, 65]⟩ : ByteArray), (⟨#[45, 82, 65]⟩ : ByteArray), (⟨#[43, 82, 65]⟩ : ByteArray), (⟨#[83, 78]⟩ : ByteArray), (⟨#[45, 83, 78]⟩ : ByteArray), (⟨#[43, 83, 78]⟩ : ByteArray), (⟨#[84, 83, 82, 65]⟩ : ByteArray), (⟨#[70, 71]⟩ : ByteArray), (⟨#[66, 82]⟩ : ByteArray)] : List ByteArray) = Y
    have hl : Y.length = 10 := by rw [← hY]; rfl
    obtain ⟨d1, s1, v1, w1, c1, b1, q, e, g⟩ := sk5 h a h1 d s v (rdOf ByteArray.empty Y i) c b
    refine ⟨d1, s1, v1, w1, c1, b1, q, Ev.step (fun k => spec_l1Rd_sky.j4.eq_2 _ _ _ _ _ _ _ _ _ _ k) (evPos rfl ?_), g⟩
    rw [hY]
    exact Ev.bind (Ev.now _) (Ev.bind (ev_of e1) (evPos i0 (evPos (by rw [hl]; exact i1) e)))
theorem sk3 (a : Bool) {p : Int} (hp : At l p) (d s v : Int) (w c : ByteArray) (b : Int) : Done l (fun k => spec_l1Rd_sky.j3 k a l p d s v w c b) := by
  cases a with
  | true =>
    obtain ⟨d1, s1, v1, w1, c1, b1, q, e, g⟩ := sk4 h true true hp d s v w c b
    exact ⟨d1, s1, v1, w1, c1, b1, q, Ev.step (fun k => spec_l1Rd_sky.j3.eq_2 _ _ _ _ _ _ _ _ _ k) (evPos rfl e), g⟩
  | false =>
    obtain ⟨y, q1, e1, h1⟩ := once_ok h hp 2 (by omega)
    obtain ⟨d1, s1, v1, w1, c1, b1, q, e, g⟩ := sk4 h false y h1 d s v w c b
    exact ⟨d1, s1, v1, w1, c1, b1, q, Ev.step (fun k => spec_l1Rd_sky.j3.eq_2 _ _ _ _ _ _ _ _ _ k) (evNeg (by decide) (Ev.bind (ev_of e1) e)), g⟩
theorem sk2 (a x : Bool) {p : Int} (hp : At l p) (d s v : Int) (w c : ByteArray) (b : Int) : Done l (fun k => spec_l1Rd_sky.j2 k a x l p d s v w c b) := by
  cases x with
  | false =>
    obtain ⟨d1, s1, v1, w1, c1, b1, q, e, g⟩ := sk3 h a hp d s v w c b
    exact ⟨d1, s1, v1, w1, c1, b1, q, Ev.step (fun k => spec_l1Rd_sky.j2.eq_2 _ _ _ _ _ _ _ _ _ _ k) (evNeg (by decide) e), g⟩
  | true =>
    obtain ⟨i, q1, e1, i0, i1, h1⟩ := below_ok h hp 100 (by omega)
    obtain ⟨y, q2, e2, h2⟩ := once_ok h h1 3 (by omega)
    cases y with
    | true =>
      obtain ⟨d1, s1, v1, w1, c1, b1, q, e, g⟩ := sk3 h a h2 d s 9999 w c b
      exact ⟨d1, s1, v1, w1, c1, b1, q, Ev.step (fun k => spec_l1Rd_sky.j2.eq_2 _ _ _ _ _ _ _ _ _ _ k) (evPos rfl (Ev.bind (ev_of e1) (Ev.bind (ev_of e2) (evPos rfl e)))), g⟩
    | false =>
      obtain ⟨d1, s1, v1, w1, c1, b1, q, e, g⟩ := sk3 h a h2 d s (wrap64 (i * 100)) w c b
      exact ⟨d1, s1, v1, w1, c1, b1, q, Ev.step (fun k => spec_l1Rd_sky.j2.eq_2 _ _ _ _ _ _ _ _ _ _ k) (evPos rfl (Ev.bind (ev_of e1) (Ev.bind (ev_of e2) (evNeg Bool.false_ne_true e)))), g⟩
theorem sk1 (a : Bool) {p : Int} (hp : At l p) (d s v : Int) (w c : ByteArray) (b : Int) : Done l (fun k => spec_l1Rd_sky.j1 k a l p d s v w c b) := by
  cases a with
  | true =>
    obtain ⟨d1, s1, v1, w1, c1, b1, q, e, g⟩ := sk2 h true true hp d s v w c b
    exact ⟨d1, s1, v1, w1, c1, b1, q, Ev.step (fun k => spec_l1Rd_sky.j1.eq_2 _ _ _ _ _ _ _ _ _ k) (evPos rfl e), g⟩
  | false =>
    obtain ⟨y, q1, e1, h1⟩ := once_ok h hp 2 (by omega)
    obtain ⟨d1, s1, v1, w1, c1, b1, q, e, g⟩ := sk2 h false y h1 d s v w c b
    exact ⟨d1, s1, v1, w1, c1, b1, q, Ev.step (fun k => spec_l1Rd_sky.j1.eq_2 _ _ _ _ _ _ _ _ _ k) (evNeg (by decide) (Ev.bind (ev_of e1) e)), g⟩
theorem sk0 (a x : Bool) {p : Int} (hp : At l p) (d s v : Int) (w c : ByteArray) (b : Int) : Done l (fun k => spec_l1Rd_sky.j0 k a x l p d s v w c b) := by
  cases x with
  | false =>
    obtain ⟨d1, s1, v1, w1, c1, b1, q, e, g⟩ := sk1 h a hp d s v w c b
    exact ⟨d1, s1, v1, w1, c1, b1, q, Ev.step (fun k => spec_l1Rd_sky.j0.eq_2 _ _ _ _ _ _ _ _ _ _ k) (evNeg (by decide) e), g⟩
  | true =>
    obtain ⟨i, q1, e1, i0, i1, h1⟩ := below_ok h hp 36 (by omega)
    obtain ⟨j, q2, e2, j0, j1, h2⟩ := below_ok h h1 3 (by omega)
    obtain ⟨m, q3, e3, m0, m1, h3⟩ := below_ok h h2 60 (by omega)
    by_cases c0 : rd [wrap64 (1 + i), 99, 0] j = 0
    · obtain ⟨d1, s1, v1, w1, c1, b1, q, e, g⟩ := sk1 h a h3 (rd [wrap64 (1 + i), 99, 0] j) 0 v w c b
      exact ⟨d1, s1, v1, w1, c1, b1, q, Ev.step (fun k => spec_l1Rd_sky.j0.eq_2 _ _ _ _ _ _ _ _ _ _ k) (evPos rfl (Ev.bind (ev_of e1) (Ev.bind (Ev.now _) (Ev.bind (ev_of e2) (evPos j0 (evPos (show j < 3 from j1) (Ev.bind (ev_of e3) (evPos c0 e)))))))), g⟩
    · obtain ⟨d1, s1, v1, w1, c1, b1, q, e, g⟩ := sk1 h a h3 (rd [wrap64 (1 + i), 99, 0] j) (wrap64 (1 + m)) v w c b
      exact ⟨d1, s1, v1, w1, c1, b1, q, Ev.step (fun k => spec_l1Rd_sky.j0.eq_2 _ _ _ _ _ _ _ _ _ _ k) (evPos rfl (Ev.bind (ev_of e1) (Ev.bind (Ev.now _) (Ev.bind (ev_of e2) (evPos j0 (evPos (show j < 3 from j1) (Ev.bind (ev_of e3) (evNeg c0 e)))))))), g⟩
theorem sky_ok (a : Bool) {p : Int} (hp : At l p) : Done l (fun k => spec_l1Rd_sky.f k l p a) := by
  unfold spec_l1Rd_sky.f
  have e0 : Ev (fun _ : Nat => spec_l21Unsaid.f) ((-1), 0, (-1), (⟨#[]⟩ : ByteArray), (⟨#[]⟩ : ByteArray), 0) := Ev.now _
  cases a with
  | true =>
    obtain ⟨d1, s1, v1, w1, c1, b1, q, e, g⟩ := sk0 h true true hp (-1) 0 (-1) (⟨#[]⟩ : ByteArray) (⟨#[]⟩ : ByteArray) 0
    exact ⟨d1, s1, v1, w1, c1, b1, q, Ev.bind e0 (evPos rfl e), g⟩
  | false =>
    obtain ⟨y, q1, e1, h1⟩ := once_ok h hp 2 (by omega)
    obtain ⟨d1, s1, v1, w1, c1, b1, q, e, g⟩ := sk0 h false y h1 (-1) 0 (-1) (⟨#[]⟩ : ByteArray) (⟨#[]⟩ : ByteArray) 0
    exact ⟨d1, s1, v1, w1, c1, b1, q, Ev.bind e0 (evNeg (by decide) (Ev.bind (ev_of e1) e)), g⟩
theorem draw_ok : ∃ d s v w c b d' s' v' w' c' b', Ev (fun k => spec_DrawLaid.f k l) (d, s, v, w, c, b, d', s', v', w', c', b') := by
  unfold spec_DrawLaid.f
  have e0 : Ev (fun _ : Nat => spec_l1Open.f l) (l, 0) := Ev.now _
  obtain ⟨y1, q1, e1, h1⟩ := once_ok h (p := 0) ⟨by omega, by omega⟩ 3 (by omega)
  obtain ⟨d, s, v, w, c, b, q2, e2, h2⟩ := sky_ok h (!y1) h1
  obtain ⟨y3, q3, e3, h3⟩ := once_ok h h2 5 (by omega)
  obtain ⟨d', s', v', w', c', b', q4, e4, h4⟩ := sky_ok h y3 h3
  obtain ⟨y5, q5, e5, h5⟩ := once_ok h h4 9 (by omega)
  cases y5 with
  | true => exact ⟨d, s, v, w, c, b, d', s', 10000, w', c', b', Ev.bind e0 (Ev.bind (ev_of e1) (Ev.bind e2 (Ev.bind (ev_of e3) (Ev.bind e4 (Ev.bind (ev_of e5) (evPos rfl (Ev.now _)))))))⟩
  | false => exact ⟨d, s, v, w, c, b, d', s', v', w', c', b', Ev.bind e0 (Ev.bind (ev_of e1) (Ev.bind e2 (Ev.bind (ev_of e3) (Ev.bind e4 (Ev.bind (ev_of e5) (evNeg Bool.false_ne_true (Ev.now _)))))))⟩
end
/-! what holds of skies laid over one another -/
def neB (p q : Int × Int × Int × ByteArray × ByteArray × Int) : Bool := !(p.1 == q.1) || (!(p.2.1 == q.2.1) || (!(p.2.2.1 == q.2.2.1) || (!(p.2.2.2.1.toList == q.2.2.2.1.toList) || (!(p.2.2.2.2.1.toList == q.2.2.2.2.1.toList) || (!(p.2.2.2.2.2 == q.2.2.2.2.2))))))
theorem ne_no {p q : Int × Int × Int × ByteArray × ByteArray × Int} (h1 : p.1 = q.1) (h2 : p.2.1 = q.2.1) (h3 : p.2.2.1 = q.2.2.1) (h4 : p.2.2.2.1.toList = q.2.2.2.1.toList) (h5 : p.2.2.2.2.1.toList = q.2.2.2.2.1.toList) (h6 : p.2.2.2.2.2 = q.2.2.2.2.2) : ¬ neB p q = true := by
  unfold neB
  rw [h1, h2, h3, h4, h5, h6]
  simp
theorem wind_none {s : Int} (h : windB (-1) s = true) : s = 0 := by
  rw [wind_a (.inl rfl)] at h
  exact beq_iff_eq.1 h
theorem cloud_none {c : List UInt8} {b : Int} (hc : c = []) (h : cloudB c b = true) : b = 0 := by
  rw [cloud_a (.inl hc)] at h
  exact beq_iff_eq.1 h
theorem sky_parts {d s v : Int} {w c : ByteArray} {b : Int} (h : skyB d s v w c b = true) : windB d s = true ∧ inS v (-1) 9999 = true ∧ weatherB w.toList = true ∧ cloudB c.toList b = true := by
  unfold skyB at h
  simpa only [Bool.and_eq_true] using h
theorem sky_mk {d s v : Int} {w c : ByteArray} {b : Int} (h1 : windB d s = true) (h2 : inS v (-1) 9999 = true) (h3 : weatherB w.toList = true) (h4 : cloudB c.toList b = true) : skyB d s v w c b = true := by
  unfold skyB
  rw [h1, h2, h3, h4]
  rfl
theorem nil_list : (⟨#[]⟩ : ByteArray).toList = [] := by decide +kernel
theorem none_nil : (none_.1 == 0 && (none_.2.1 == 0 && (none_.2.2.1 == 0 && (none_.2.2.2.1.toList == ([] : List UInt8) && (none_.2.2.2.2.1.toList == ([] : List UInt8) && (none_.2.2.2.2.2 == 0)))))) = true := by decide +kernel
theorem none_sky : skyB (-1) 0 (-1) (⟨#[]⟩ : ByteArray) (⟨#[]⟩ : ByteArray) 0 = true := sky_mk (by decide) (by decide) (by rw [nil_list]; rfl) (by rw [nil_list, cloud_a (.inl rfl)]; rfl)
section
variable {d s v : Int} {w c : ByteArray} {b d' s' v' : Int} {w' c' : ByteArray} {b' : Int} (ha : skyB d s v w c b = true) (hb : skyB d' s' v' w' c' b' = true)
include ha hb
theorem lay_sky : skyB (lay d s v w c b d' s' v' w' c' b').1 (lay d s v w c b d' s' v' w' c' b').2.1 (lay d s v w c b d' s' v' w' c' b').2.2.1 (lay d s v w c b d' s' v' w' c' b').2.2.2.1 (lay d s v w c b d' s' v' w' c' b').2.2.2.2.1 (lay d s v w c b d' s' v' w' c' b').2.2.2.2.2 = true := by
  obtain ⟨a1, a2, a3, a4⟩ := sky_parts ha
  obtain ⟨b1, b2, b3, b4⟩ := sky_parts hb
  refine sky_mk ?_ ?_ ?_ ?_ <;> dsimp only [lay] <;> split <;> assumption
end
theorem FnLaid : ∀ (l0 : List Int), l0.length ≤ 9223372036854775807 → (∀ x ∈ l0, (Lit.int .u8 x).wf = true) → ∃ k, laws_FnLaid.f k l0 [WT] [CT] = some true := by
  intro l _ hb8
  refine Ev.rounds ?_
  unfold laws_FnLaid.f
  have eb : Ev (fun _ : Nat => laws_big.f l) (decide ((l.length : Int) > 1048576)) := Ev.now _
  refine Ev.bind eb ?_
  by_cases big : decide ((l.length : Int) > 1048576) = true
  · exact evPos big (Ev.now _)
  refine evNeg big ?_
  have h : Src l := ⟨by have := big; simp at this; omega, fun x hx => by have := hb8 x hx; simp [Lit.wf] at this; exact this⟩
  obtain ⟨d, s, v, w, c, b, d', s', v', w', c', b', e⟩ := draw_ok h
  refine Ev.bind e (Ev.bind (laid_impl d s v w c b d' s' v' w' c' b') (Ev.bind (laid_spec d s v w c b d' s' v' w' c' b') (evNeg (ne_no rfl rfl rfl rfl rfl rfl) (Ev.bind (sky_spec d s v w c b) ?_))))
  by_cases ha : skyB d s v w c b = true
  rotate_left
  · have hx : laidB d s v w c b d' s' v' w' c' b' = none_ := if_neg (fun q => ha q.1)
    refine evNeg ha ?_
    rw [hx]
    exact Ev.step (fun k => laws_FnLaid.j0.eq_2 _ _ _ _ _ _ _ _ _ _ _ _ _ _ _ _ _ _ _ _ _ k) (evPos rfl (by rw [none_nil]; exact Ev.now _))
  refine evPos ha (Ev.bind (sky_spec d' s' v' w' c' b') ?_)
  by_cases hb : skyB d' s' v' w' c' b' = true
  rotate_left
  · have hx : laidB d s v w c b d' s' v' w' c' b' = none_ := if_neg (fun q => hb q.2)
    rw [Bool.not_eq_true] at hb
    rw [hx, hb]
    exact Ev.step (fun k => laws_FnLaid.j0.eq_2 _ _ _ _ _ _ _ _ _ _ _ _ _ _ _ _ _ _ _ _ _ k) (evPos rfl (by rw [none_nil]; exact Ev.now _))
  have hx : laidB d s v w c b d' s' v' w' c' b' = lay d s v w c b d' s' v' w' c' b' := if_pos ⟨ha, hb⟩
  have hsk := lay_sky ha hb
  obtain ⟨a1, a2, a3, a4⟩ := sky_parts ha
  rw [hx, hb]
  -- the sky that comes of it
  have x1 : (lay d s v w c b d' s' v' w' c' b').1 = if d' = -1 then d else d' := rfl
  have x2 : (lay d s v w c b d' s' v' w' c' b').2.1 = if d' = -1 then s else s' := rfl
  have x3 : (lay d s v w c b d' s' v' w' c' b').2.2.1 = if v' = -1 then v else v' := rfl
  have x4 : (lay d s v w c b d' s' v' w' c' b').2.2.2.1 = if w'.toList = [] then w else w' := rfl
  have x5 : (lay d s v w c b d' s' v' w' c' b').2.2.2.2.1 = if c'.toList = [] then c else c' := rfl
  have x6 : (lay d s v w c b d' s' v' w' c' b').2.2.2.2.2 = if c'.toList = [] then b else b' := rfl
  generalize lay d s v w c b d' s' v' w' c' b' = X at *
  obtain ⟨xd, xs, xv, xw, xc, xb⟩ := X
  dsimp only at x1 x2 x3 x4 x5 x6 hsk ⊢
  have L1 : laidB xd xs xv xw xc xb d' s' v' w' c' b' = lay xd xs xv xw xc xb d' s' v' w' c' b' := if_pos ⟨hsk, hb⟩
  have L2 : laidB d s v w c b (-1) 0 (-1) (⟨#[]⟩ : ByteArray) (⟨#[]⟩ : ByteArray) 0 = lay d s v w c b (-1) 0 (-1) (⟨#[]⟩ : ByteArray) (⟨#[]⟩ : ByteArray) 0 := if_pos ⟨ha, none_sky⟩
  have L3 : laidB (-1) 0 (-1) (⟨#[]⟩ : ByteArray) (⟨#[]⟩ : ByteArray) 0 d s v w c b = lay (-1) 0 (-1) (⟨#[]⟩ : ByteArray) (⟨#[]⟩ : ByteArray) 0 d s v w c b := if_pos ⟨none_sky, ha⟩
  have L4 : laidB d' s' v' w' c' b' xd xs xv xw xc xb = lay d' s' v' w' c' b' xd xs xv xw xc xb := if_pos ⟨hb, hsk⟩
  have i1 := laid_impl xd xs xv xw xc xb d' s' v' w' c' b'
  have i2 := laid_impl d s v w c b (-1) 0 (-1) (⟨#[]⟩ : ByteArray) (⟨#[]⟩ : ByteArray) 0
  have i3 := laid_impl (-1) 0 (-1) (⟨#[]⟩ : ByteArray) (⟨#[]⟩ : ByteArray) 0 d s v w c b
  have i4 := laid_impl d' s' v' w' c' b' xd xs xv xw xc xb
  rw [L1] at i1
  rw [L2] at i2
  rw [L3] at i3
  rw [L4] at i4
  have n1 : ¬ neB (lay xd xs xv xw xc xb d' s' v' w' c' b') (xd, xs, xv, xw, xc, xb) = true := by
    refine ne_no ?_ ?_ ?_ ?_ ?_ ?_ <;> dsimp only [lay] <;> split <;> first | rfl | (rename_i q; simp only [x1, x2, x3, x4, x5, x6, if_neg q])
  have n2 : ¬ neB (lay d s v w c b (-1) 0 (-1) (⟨#[]⟩ : ByteArray) (⟨#[]⟩ : ByteArray) 0) (d, s, v, w, c, b) = true := by
    refine ne_no ?_ ?_ ?_ ?_ ?_ ?_ <;> dsimp only [lay] <;> first | rw [if_pos rfl] | rw [if_pos nil_list]
  have n3 : ¬ neB (lay (-1) 0 (-1) (⟨#[]⟩ : ByteArray) (⟨#[]⟩ : ByteArray) 0 d s v w c b) (d, s, v, w, c, b) = true := by
    refine ne_no ?_ ?_ ?_ ?_ ?_ ?_ <;> dsimp only [lay] <;> split
    · rename_i q; exact q.symm
    · rfl
    · rename_i q; rw [q] at a1; exact (wind_none a1).symm
    · rfl
    · rename_i q; exact q.symm
    · rfl
    · rename_i q; rw [nil_list, q]
    · rfl
    · rename_i q; rw [nil_list, q]
    · rfl
    · rename_i q; exact (cloud_none q a4).symm
    · rfl
  have J1 : Ev (fun k => laws_FnLaid.j1 k false d' s' v' w' c' b' xd xs xv xw xc xb) true := by
    refine Ev_succ (fun k => ?_)
    simp only [laws_FnLaid.j1]
    rw [if_neg (by decide)]
    have y1 : d' ≠ -1 → xd = d' := fun q => by rw [x1, if_neg q]
    have y2 : d' ≠ -1 → xs = s' := fun q => by rw [x2, if_neg q]
    have y3 : v' ≠ -1 → xv = v' := fun q => by rw [x3, if_neg q]
    have y4 : w'.toList ≠ [] → xw.toList = w'.toList := fun q => by rw [x4, if_neg q]
    have y5 : c'.toList ≠ [] → xc.toList = c'.toList := fun q => by rw [x5, if_neg q]
    have y6 : c'.toList ≠ [] → xb = b' := fun q => by rw [x6, if_neg q]
    have last : (if c'.toList = ([] : List UInt8) then some true else if xc.toList = c'.toList then some (xb == b') else none) = some true := by
      by_cases q : c'.toList = []
      · rw [if_pos q]
      · rw [if_neg q, if_pos (y5 q), y6 q, beq_self_eq_true]
    have mid : (if w'.toList = ([] : List UInt8) then (if c'.toList = ([] : List UInt8) then some true else if xc.toList = c'.toList then some (xb == b') else none) else if xw.toList = w'.toList then (if c'.toList = ([] : List UInt8) then some true else if xc.toList = c'.toList then some (xb == b') else none) else none) = some true := by
      rw [last]
      by_cases q : w'.toList = []
      · rw [if_pos q]
      · rw [if_neg q, if_pos (y4 q)]
    rw [mid]
    have wnd : (if d' = -1 then some true else if xd = d' then (if xs = s' then some true else none) else none) = some true := by
      by_cases q : d' = -1
      · rw [if_pos q]
      · rw [if_neg q, if_pos (y1 q), if_pos (y2 q)]
    rw [wnd]
    by_cases q : v' = -1
    · rw [if_pos q]
    · rw [if_neg q, if_pos (y3 q)]
  refine Ev.step (fun k => laws_FnLaid.j0.eq_2 _ _ _ _ _ _ _ _ _ _ _ _ _ _ _ _ _ _ _ _ _ k) (evNeg (by decide) (Ev.bind (sky_impl xd xs xv xw xc xb) (evPos hsk (Ev.bind i1 (evNeg n1 (Ev.bind i2 (evNeg n2 (Ev.bind i3 (evNeg n3 (Ev.bind i4 ?_))))))))))
  by_cases n4 : neB (lay d' s' v' w' c' b' xd xs xv xw xc xb) (xd, xs, xv, xw, xc, xb) = true
  · refine evPos n4 ?_
    by_cases z1 : xd = -1
    · exact evPos z1 J1
    refine evNeg z1 ?_
    by_cases z3 : xv = -1
    · exact evPos z3 J1
    refine evNeg z3 ?_
    by_cases z4 : xw.toList = []
    · exact evPos z4 J1
    refine evNeg z4 ?_
    by_cases z5 : xc.toList = []
    · rw [z5]
      exact J1
    · refine absurd n4 (ne_no ?_ ?_ ?_ ?_ ?_ ?_) <;> dsimp only [lay]
      · rw [if_neg z1]
      · rw [if_neg z1]
      · rw [if_neg z3]
      · rw [if_neg z4]
      · rw [if_neg z5]
      · rw [if_neg z5]
  · exact evNeg n4 J1
end Go.Proofs.YtcdghhihfjojaabDoor.Pure
end

section
/- The law FnLaid of this seat holds for all arguments: the row, out of its plain statement and the contract of its Go function; no condition. -/
namespace Go.Proofs.YtcdghhihfjojaabDoor.fnLaid
open Go.ChangeShapes Go.WideShapes Go.ChangeAt Go.RowKit Go.Proofs.YtcdghhihfjojaabDoor.Opens Go.Proofs.YtcdghhihfjojaabDoor.Q Go.Proofs.YtcdghhihfjojaabDoorW.PrintWords Go.Proofs.YtcdghhihfjojaabDoorW.PrintFlt
open Go.ChangeMaps (open_string shut_string)
set_option linter.unusedVariables false
theorem own : ownKnob Tryd.prog.godebug = none := by kernel_rfl
theorem laidOut : laidOutB Tryd.prog = true := by kernel_rfl
theorem tab0 {W : World} (h : laidMetH Tryd.prog Rows.fnLaidRow.laid W) : ((Kd.slice 9 Kd.string)).C W (some ⟨0, 0, none⟩) ([[(⟨#[78, 83, 87]⟩ : ByteArray), (⟨#[82, 65]⟩ : ByteArray), (⟨#[45, 82, 65]⟩ : ByteArray), (⟨#[43, 82, 65]⟩ : ByteArray), (⟨#[83, 78]⟩ : ByteArray), (⟨#[45, 83, 78]⟩ : ByteArray), (⟨#[43, 83, 78]⟩ : ByteArray), (⟨#[84, 83, 82, 65]⟩ : ByteArray), (⟨#[70, 71]⟩ : ByteArray), (⟨#[66, 82]⟩ : ByteArray)]] : List (List ByteArray)).length [[(⟨#[78, 83, 87]⟩ : ByteArray), (⟨#[82, 65]⟩ : ByteArray), (⟨#[45, 82, 65]⟩ : ByteArray), (⟨#[43, 82, 65]⟩ : ByteArray), (⟨#[83, 78]⟩ : ByteArray), (⟨#[45, 83, 78]⟩ : ByteArray), (⟨#[43, 83, 78]⟩ : ByteArray), (⟨#[84, 83, 82, 65]⟩ : ByteArray), (⟨#[70, 71]⟩ : ByteArray), (⟨#[66, 82]⟩ : ByteArray)]] := by
  rw [MakeChecks.laidMetH_plain _ _ _ (by kernel_rfl)] at h
  exact tab_strs (by kernel_rfl) (by kernel_rfl) (t := 44) (e := 9) (by kernel_rfl) (by kernel_rfl) (by kernel_rfl) (by decide) (laid_rd h (n := "loop.example/g00051/impl.weathers") (d := Rows.laid_loop_example_g00051_impl_weathers) (by simp [Rows.fnLaidRow]))
theorem tab1 {W : World} (h : laidMetH Tryd.prog Rows.fnLaidRow.laid W) : ((Kd.slice 9 Kd.string)).C W (some ⟨1, 0, none⟩) ([[(⟨#[70, 69, 87]⟩ : ByteArray), (⟨#[83, 67, 84]⟩ : ByteArray), (⟨#[66, 75, 78]⟩ : ByteArray), (⟨#[79, 86, 67]⟩ : ByteArray)]] : List (List ByteArray)).length [[(⟨#[70, 69, 87]⟩ : ByteArray), (⟨#[83, 67, 84]⟩ : ByteArray), (⟨#[66, 75, 78]⟩ : ByteArray), (⟨#[79, 86, 67]⟩ : ByteArray)]] := by
  rw [MakeChecks.laidMetH_plain _ _ _ (by kernel_rfl)] at h
  exact tab_strs (by kernel_rfl) (by kernel_rfl) (t := 44) (e := 9) (by kernel_rfl) (by kernel_rfl) (by kernel_rfl) (by decide) (laid_rd h (n := "loop.example/g00051/impl.covers") (d := Rows.laid_loop_example_g00051_impl_covers) (by simp [Rows.fnLaidRow]))
theorem door_met (os : Os) (args : Array Value) : laidMetH Tryd.prog Rows.fnLaidRow.laid ((World.doorLaid Tryd.prog 400 os).forCall (fun _ _ => 0) ⟨#[], args, []⟩).memory :=
  laidMetH_of_parts3 (fuel := 8) (laidMet_of_run' 8 (by kernel_rfl) (by kernel_rfl)) (by kernel_rfl) (by kernel_rfl)
set_option maxRecDepth 100000 in
theorem lifted (os : Os) (started : os.Started) (H : Type) (enc : TypeId × Value → H) :
    ReturnsInHanded {} Tryd.checked os 4 .any (fun w args => (Rows.fnLaidSpec.pre enc Tryd.prog Tryd.f4 Rows.fnLaidRow.domain false w args ∧ laidMetH Tryd.prog Rows.fnLaidRow.laid w) ∧ sizedMet enc Tryd.prog Tryd.f4 (OpenSpec.ofChange Rows.fnLaidSpec) false w args) (Rows.fnLaidSpec.post enc Tryd.prog Tryd.f4 false true false false) := by
  refine returnsInHanded_of_change_and (C := Tryd.checked) (X := fun w _ => laidMetH Tryd.prog Rows.fnLaidRow.laid w) (fun _ _ _ hh h => h.of_heap hh) own started (by kernel_rfl) Tryd.func4
    (ChangeSpec.witness_shaped (enc := enc) (C := Tryd.checked) (os := os) (X := fun w _ => laidMetH Tryd.prog Rows.fnLaidRow.laid w) false (World.doorLaid Tryd.prog 400 os) #[.slice none 0 0] 8 rfl (World.shaped_of_RefB (by kernel_rfl) (by kernel_rfl)) (by kernel_rfl) (by kernel_rfl) (by kernel_rfl) (door_met os _)) ?_
  intro W base args ds gs before hval0 hW hcnd hsz0 hL _
  have hsz : (DataW.weightsEach Tryd.prog (Tryd.f4.params.toList ++ Rows.fnLaidSpec.plain.varTypes Tryd.prog) (ds ++ gs)).all (· ≤ reachBytes) = true := hsz0
  have hval : ∀ (j : Nat) t v, Tryd.f4.params[j]? = some t → args[j]? = some v → Value.okWide Tryd.prog W .any base t v := hval0
  have hW' := hW
  obtain ⟨p, q, hA0, hV, rfl, hfz, hnd⟩ := hW
  have hA : DataW.TrodAll enc Tryd.prog W 0 (fun _ => true) true Tryd.f4.params.toList args.toList ds p := hA0
  rw [Tryd.params4] at hA hval hsz
  obtain ⟨v0, vs0, d0, ds0, p0, q0, hargs, rfl, rfl, h0, r0⟩ := trodAll_cons hA
  obtain ⟨rfl, rfl, rfl⟩ := trodAll_nil r0
  obtain rfl : args = #[v0] := by cases args; simp_all
  obtain ⟨g0_, r0_, rfl⟩ : ∃ g r, gs = g :: r := by
    cases gs with
    | nil => exact (show False from hV).elim
    | cons a b => exact ⟨a, b, rfl⟩
  have hV0_ := hV
  obtain ⟨_, _, _, _, _, _, _, _, _, _, hs0_, _⟩ := hV0_
  obtain ⟨g1_, r1_, rfl⟩ : ∃ g r, r0_ = g :: r := by
    cases r0_ with
    | nil => exact (show False from hs0_).elim
    | cons a b => exact ⟨a, b, rfl⟩
  have hV1_ := hs0_
  obtain ⟨_, _, _, _, _, _, _, _, _, _, hs1_, _⟩ := hV1_
  obtain rfl : r1_ = [] := by
    cases r1_ with
    | nil => rfl
    | cons a b => exact (show False from hs1_).elim
  obtain ⟨a0, len0, cap0, rfl⟩ := okWide_slice Tryd.underlying30 (hval 0 30 v0 rfl rfl)
  have k0 := h0
  have lt0 : ∀ x ∈ p0, x.block < W.heap.size := by obtain ⟨m, hm⟩ := k0; exact DataW.trod_lt m _ _ _ hm
  obtain ⟨l0, e0, hc0, hm0, hr0⟩ := slice_in (opn_slice 0 Tryd.underlying30 (by kernel_rfl) (opn_int Tryd.underlying5)) h0
  subst e0
  clear hA0 hval0 hsz0 hsz
  have tC1 := tab0 hL
  have tC2 := tab1 hL
  obtain ⟨k, hk⟩ := Pure.FnLaid l0 hm0 (slice_wf Tryd.underlying30 Tryd.underlying5 h0 hr0)
  refine (laws_FnLaid.calls k _ _ l0 [[(⟨#[78, 83, 87]⟩ : ByteArray), (⟨#[82, 65]⟩ : ByteArray), (⟨#[45, 82, 65]⟩ : ByteArray), (⟨#[43, 82, 65]⟩ : ByteArray), (⟨#[83, 78]⟩ : ByteArray), (⟨#[45, 83, 78]⟩ : ByteArray), (⟨#[43, 83, 78]⟩ : ByteArray), (⟨#[84, 83, 82, 65]⟩ : ByteArray), (⟨#[70, 71]⟩ : ByteArray), (⟨#[66, 82]⟩ : ByteArray)]] [[(⟨#[70, 69, 87]⟩ : ByteArray), (⟨#[83, 67, 84]⟩ : ByteArray), (⟨#[66, 75, 78]⟩ : ByteArray), (⟨#[79, 86, 67]⟩ : ByteArray)]] true W hr0 hc0 tC1 (Nat.le_refl _) tC2 (Nat.le_refl _) hk).mono fun e W' hp_ => ?_
  obtain ⟨rfl, hb_⟩ := hp_
  have bel : Below W.heap.size W W' := hb_
  exact ⟨_, rfl, _, _, _, [], _, q, hW', trodAll_mk1 (shut_bool Tryd.underlying4 _), (trodAll_cons_mk (Below.trod laidOut (by kernel_rfl) (of_decide_eq_true (by kernel_rfl)) k0 bel lt0) trodAll_mk0), bel.trodVars laidOut (by kernel_rfl) hV, bel.frame _, fun h => by cases h⟩
theorem over : Rows.fnLaidRow.holds Tryd.pinned (OpenSpec.ofChange Rows.fnLaidSpec) :=
  OpenClaim.holds_of_wide 4 Tryd.f4 rfl rfl rfl rfl rfl rfl rfl ⟨rfl, rfl, rfl, rfl, rfl⟩ rfl rfl rfl rfl rfl (by kernel_rfl) Tryd.func4 (by kernel_rfl)
    (of_decide_eq_true (by kernel_rfl)) (by unfold Func.isWrapper; first | (rw [if_pos (by decide +kernel)]; kernel_rfl) | (rw [if_neg (by decide +kernel)]; exact ⟨rfl, rfl⟩))
    (fun os started H enc _ => lifted os started H enc)
theorem proved : Rows.FnLaidSaid := over
theorem card : Rows.FnLaidCardSaid :=
  Claim7.holds_tied_plain_at .later [] [.widerDeep, .widerDeep] true (true, "8228b5d1701f036e2e5089cbc8f9ebd395e89adb8dd09b1c6a491e87c186b89c") false proved (fun _ h => by cases h) (by kernel_rfl) (fun _ h => by cases h) fnLaid_row_tie rfl ⟨rfl, rfl⟩ (by kernel_rfl) rfl
    (fun f fn hf hfn => by
      obtain rfl : f = 4 := Option.some.inj ((show Tryd.prog.funcNamed "loop.example/g00051/laws.FnLaid" = some 4 by kernel_rfl).symm.trans hf) |>.symm
      obtain rfl : fn = Tryd.f4 := (Option.some.inj (Tryd.func4.symm.trans hfn)).symm
      exact ⟨by kernel_rfl, fun j t ht => by
        rw [Tryd.params4] at ht
        have hm : t ∈ [30] := by simpa using Array.mem_of_getElem? ht
        have hall : ([30].all fun u => !Tryd.prog.wantsStandIn u) = true := by kernel_rfl
        exact (show Tryd.prog.wantsStandIn t = false by simpa using List.all_eq_true.1 hall t hm)⟩)
    (by kernel_rfl)
end Go.Proofs.YtcdghhihfjojaabDoor.fnLaid
namespace Go.Proofs.YtcdghhihfjojaabDoor
/-- The row, under a short name, for the claim. -/
theorem fnLaid_holds : Rows.FnLaidCardSaid := fnLaid.card
#print axioms fnLaid_holds
end Go.Proofs.YtcdghhihfjojaabDoor
end
