/- Package variables that the row lists as tables of whole numbers or floats: what a walk reads of them; no condition. -/
import Derived.Test.YtcdghhihfjojaabDoorOpen
import Derived.OpenShut
import Derived.LaidLaws
import Derived.FnData
import Derived.OpenVars
import Derived.LaidMore
set_option linter.unusedVariables false
set_option linter.unusedSimpArgs false
namespace Go.Proofs.YtcdghhihfjojaabDoor.Opens
open Go.RowKit Go.Proofs.YtcdghhihfjojaabDoorW.PrintWords Go.Deep

/-- One listed variable's reading. -/
def VarRd (P : Program) (w : World) (n : String) (d : DataW Unit) : Prop :=
  ∃ g t cs fuel p, P.globalNamed n = some g ∧ (P.globals[g]?).map (·.type) = some t ∧ w.var? P n = some cs ∧ DataW.trod (fun _ => ()) P w 0 (fun _ => true) false fuel t cs.toList = some (d, p)
theorem laidVars_rd {P : Program} {w : World} : ∀ {l : List (String × DataW Unit)} {ps : List MemPlace}, DataW.LaidVars P w l ps → ∀ n d, (n, d) ∈ l → VarRd P w n d
  | [], _, _, _, _, h => absurd h (by simp)
  | (n', d') :: r, _, ⟨g, t, cs, fuel, p, q, h1, h2, h3, h4, h5, _⟩, n, d, h => by
    rcases List.mem_cons.1 h with e | e
    · obtain ⟨rfl, rfl⟩ := Prod.mk.inj e
      exact ⟨g, t, cs, fuel, p, h1, h2, h3, h4⟩
    · exact laidVars_rd h5 n d e
theorem laid_rd {P : Program} {w : World} {l : List (String × DataW Unit)} (h : laidMet P l w) {n : String} {d : DataW Unit} (hm : (n, d) ∈ l) : VarRd P w n d :=
  let ⟨_, hv, _⟩ := h
  laidVars_rd hv n d hm

/-- A table of elements of one cell: its row of elements. -/
theorem tab_C {α : Type} {d : Kd α} {P : Program} {w : World} {name : String} {g t e n : Nat} {lit : α → Lit} {xs : List α} (one : d.sz = 1)
    (cell : ∀ fuel cs p x, DataW.trod (fun _ => ()) P w 0 (fun _ => true) false fuel e cs = some (.lit (lit x), p) → d.K w x cs)
    (hg : P.globalNamed name = some g) (hty : (P.globals[g]?).map (·.type) = some t) (ht : P.underlying t = some (.array n e)) (hce : P.cellsOf e = 1)
    (hm : xs.length ≤ 9223372036854775807) (h : VarRd P w name (.agg (xs.map fun x => .lit (lit x)))) : d.C w (some ⟨g, 0, none⟩) xs.length xs ∧ xs.length = n := by
  obtain ⟨g', t', cs, fuel, p, hg', ht', hv, hd⟩ := h
  obtain rfl := Option.some.inj (hg.symm.trans hg')
  obtain rfl := Option.some.inj (hty.symm.trans ht')
  obtain ⟨ys, m, _, hx, hl, hn, hel⟩ := DataW.trod_array ht hd
  have hx1 : ys.map (·.1) = xs.map fun x => (DataW.lit (lit x) : DataW Unit) := by
    have := congrArg Prod.fst hx
    simpa using this.symm
  have hlen : xs.length = n := by
    have := congrArg List.length hx1
    simp at this
    omega
  refine ⟨⟨rfl, hm, fun hp => ⟨_, rfl, fun j x hj => ?_⟩⟩, hlen⟩
  have hjn : j < n := by rw [← hlen]; exact (List.getElem?_eq_some_iff.1 hj).1
  have he := hel j hjn
  have hy : (ys.map (·.1))[j]? = some (DataW.lit (lit x)) := by rw [hx1, List.getElem?_map, hj]; rfl
  rw [List.getElem?_map] at hy
  obtain ⟨y, hy1, hy2⟩ := Option.map_eq_some_iff.1 hy
  rw [hy1] at he
  obtain ⟨y1, y2⟩ := y
  obtain rfl : y1 = .lit (lit x) := hy2
  have hK := cell _ _ _ _ he
  refine ⟨_, d.K_len hK, hK, fun i u hu => ?_⟩
  rw [hce] at hu
  have hi : i = 0 := by
    have h1 := (List.getElem?_eq_some_iff.1 hu).1
    simp at h1
    omega
  subst hi
  rw [one]
  have e1 : Addr.add ⟨g, 0, none⟩ (j * 1 + 0) = ⟨g, j, none⟩ := by simp [Addr.add]; exact fun h => h.symm
  rw [e1, World.var?_cell hg hv j]
  have : (cs.toList.drop (j * 1)).take 1 = [u] ∨ True := .inr trivial
  have hu2 : cs.toList[j]? = some u := by
    rw [List.getElem?_take_of_lt (by omega), List.getElem?_drop] at hu
    simpa using hu
  simpa using hu2
theorem tab_int {P : Program} {w : World} {name : String} {g t e n : Nat} {k : IntKind} {xs : List Int} (hg : P.globalNamed name = some g) (hty : (P.globals[g]?).map (·.type) = some t) (ht : P.underlying t = some (.array n e)) (he : P.underlying e = some (.int k)) (hce : P.cellsOf e = 1)
    (hm : xs.length ≤ 9223372036854775807) (h : VarRd P w name (.agg (xs.map fun x => .lit (.int k x)))) : (Kd.int k).C w (some ⟨g, 0, none⟩) xs.length xs ∧ xs.length = n :=
  tab_C (d := Kd.int k) (lit := fun x => .int k x) rfl (fun fuel cs p x hx => by
    obtain ⟨n, rfl, e1, _⟩ := DataW.trod_int he hx
    have : n = x := by simpa using (congrArg Prod.fst e1).symm
    rw [this]
    rfl) hg hty ht hce hm h
/-- The numbers of a slice that came in are of their kind. -/
theorem slice_wf {H : Type} {enc : TypeId × Value → H} {P : Program} {w : World} {base : Nat} {spare : Nat → Bool} {held : Bool} {t e : TypeId} {k : IntKind} {a : Option Addr} {cap : Nat} {D : DataW H} {p : List MemPlace} {l : List Int}
    (ht : P.underlying t = some (.slice e)) (he : P.underlying e = some (.int k)) (hd : DataW.Trod enc P w base spare held t (.slice a l.length cap) D p) (hC : (Kd.int k).C w a l.length l) : ∀ x ∈ l, (Lit.int k x).wf = true := by
  intro x hx
  obtain ⟨fuel, hf⟩ := hd
  obtain ⟨j, hj, rfl⟩ := List.mem_iff_getElem.mp hx
  obtain ⟨ad, rfl, hc⟩ := hC.2.2 (by omega)
  obtain ⟨cs, hl, hK, hcell⟩ := hc j _ (List.getElem?_eq_getElem hj)
  have hcs : cs = [.int k l[j]] := hK
  subst hcs
  have h0 := hcell 0 _ rfl
  rcases DataW.trod_slice ht hf with ⟨h, _⟩ | ⟨a', len, cap', elems, rest, n, _, h, _, _, _, _, _, hel, _⟩
  · simp [Value.cells] at h
  · simp [Value.cells] at h
    obtain ⟨rfl, rfl, rfl⟩ := h
    have h1 := hel j hj
    have hlen : elems.length = l.length := by assumption
    rw [List.getElem?_eq_getElem (by omega)] at h1
    obtain ⟨cs', h2, h3⟩ := Option.bind_eq_some_iff.1 h1
    obtain ⟨m, rfl, _, hw⟩ := DataW.trod_int he h3
    obtain ⟨_, hlen2, hc2⟩ := World.cells?_some h2
    have hc3 := hc2 0 (by rw [← hlen2]; simp)
    have e1 : P.cellsOf e = 1 := by rw [← hlen2]; rfl
    rw [e1] at hc3
    have : (some (Value.int k l[j]) : Option Value) = some (.int k m) := by
      rw [← h0]
      have : ((ad.add (j * 1)).add 0) = ad.add (j * (Kd.int k).sz + 0) := by rw [Go.Deep.add_add]; rfl
      rw [← this]
      simpa using hc3
    have hm : l[j] = m := by simpa using this
    rw [hm]
    exact hw
end Go.Proofs.YtcdghhihfjojaabDoor.Opens
