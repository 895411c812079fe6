/- Package variables that the row lists as slices of strings: what a walk reads of them; no condition. -/
import Derived.Test.YtcdghhihfjojaabDoorTabs
set_option linter.unusedVariables false
set_option linter.unusedSimpArgs false
namespace Go.Proofs.YtcdghhihfjojaabDoor.Opens
open Go.RowKit Go.Proofs.YtcdghhihfjojaabDoorW.PrintWords Go.Deep
theorem bytes_ext {a b : ByteArray} (h : a.data.toList = b.data.toList) : a = b := by
  obtain ⟨⟨x⟩⟩ := a
  obtain ⟨⟨y⟩⟩ := b
  simp at h
  rw [h]
theorem tab_strs {P : Program} {w : World} {name : String} {g t e : Nat} {xs : List ByteArray} (hg : P.globalNamed name = some g) (hty : (P.globals[g]?).map (·.type) = some t) (ht : P.underlying t = some (.slice e)) (he : P.underlying e = some .string) (hce : P.cellsOf e = 1) (hm : xs.length ≤ 9223372036854775807)
    (h : VarRd P w name (.slice (xs.map fun s => .lit (.string s.data.toList)) [])) : (Kd.slice e Kd.string).C w (some ⟨g, 0, none⟩) [xs].length [xs] := by
  obtain ⟨g', t', cs, fuel, p, hg', ht', hv, hd⟩ := h
  obtain rfl := Option.some.inj (hg.symm.trans hg')
  obtain rfl := Option.some.inj (hty.symm.trans ht')
  rcases DataW.trod_slice ht hd with ⟨_, hx⟩ | ⟨a, len, cap, elems, rest, n, _, hcs, hx, _, hlc, hcm, hel, hall, _⟩
  · cases (congrArg Prod.fst hx)
  have hx1 := congrArg Prod.fst hx
  injection hx1 with hx1 _
  have hlen : len = xs.length := by
    have := congrArg List.length hx1
    simp at this
    omega
  subst hlen
  refine ⟨rfl, by show (1 : Nat) ≤ _; decide, fun _ => ⟨_, rfl, fun j q hj => ?_⟩⟩
  have hj0 : j = 0 := by
    rcases j with _ | j
    · rfl
    · exact absurd hj (by simp)
  subst hj0
  obtain rfl : xs = q := Option.some.inj hj
  refine ⟨[.slice (some a) xs.length cap], rfl, ⟨some a, cap, rfl, hlc, rfl, hm, fun hp => ⟨a, rfl, fun i s hs => ?_⟩⟩, fun i u hu => ?_⟩
  · have hi : i < xs.length := (List.getElem?_eq_some_iff.1 hs).1
    have h1 := hall i hi
    have h2 : (elems.map (·.1))[i]? = some (DataW.lit (.string s.data.toList)) := by rw [← hx1, List.getElem?_map, hs]; rfl
    rw [List.getElem?_map] at h2
    obtain ⟨y, hy1, hy2⟩ := Option.map_eq_some_iff.1 h2
    rw [hy1] at h1
    obtain ⟨cs', h3, h4⟩ := Option.bind_eq_some_iff.1 h1
    obtain ⟨s', rfl, e5, _⟩ := DataW.trod_string he h4
    have hs' : s' = s := by
      rw [e5] at hy2
      have h6 : (DataW.lit (.string s'.data.toList) : DataW Unit) = .lit (.string s.data.toList) := hy2
      injection h6 with h6
      injection h6 with h6
      exact bytes_ext h6
    subst hs'
    refine ⟨[.string s'], rfl, rfl, fun k u hu => ?_⟩
    obtain ⟨_, hl2, hc2⟩ := World.cells?_some h3
    have hk : k = 0 := by
      have := (List.getElem?_eq_some_iff.1 hu).1
      simp at this
      exact this
    subst hk
    have h7 := hc2 0 (by rw [hce]; decide)
    rw [hce] at h7
    have e8 : a.add (i * Kd.string.sz + 0) = (a.add (i * 1)).add 0 := by rw [Go.Deep.add_add]; rfl
    rw [e8, h7]
    exact hu
  · have hi : i = 0 := by
      have := (List.getElem?_eq_some_iff.1 hu).1
      simp at this
      exact this
    subst hi
    have e1 : Addr.add ⟨g, 0, none⟩ (0 * (Kd.slice e Kd.string).sz + 0) = ⟨g, 0, none⟩ := by rw [Nat.zero_mul]; rfl
    rw [e1, World.var?_cell hg hv 0]
    have : cs.toList[0]? = some u := by rw [hcs]; exact hu
    simpa using this
end Go.Proofs.YtcdghhihfjojaabDoor.Opens
