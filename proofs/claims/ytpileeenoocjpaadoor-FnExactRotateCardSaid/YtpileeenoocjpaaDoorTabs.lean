/- Package variables that the row lists as tables of whole numbers or floats: what a walk reads of them; no condition. -/
import Derived.Test.YtpileeenoocjpaaDoorOpen
import Derived.OpenShut
import Derived.LaidLaws
import Derived.FnData
import Derived.OpenVars
import Derived.LaidMore
set_option linter.unusedVariables false
set_option linter.unusedSimpArgs false
namespace Go.Proofs.YtpileeenoocjpaaDoor.Opens
open Go.RowKit Go.Proofs.YtpileeenoocjpaaDoorW.PrintWords Go.Deep

/-- One listed variable's reading. -/
def VarRd (P : Program) (w : World) (n : String) (d : DataW Unit) : Prop :=
  ∃ g t cs fuel p, P.globalNamed n = some g ∧ (P.globals[g]?).map (·.type) = some t ∧ w.var? P n = some cs ∧ DataW.trod (fun _ => ()) P w 0 (fun _ => true) false fuel t cs.toList = some (d, p)
theorem laidVars_rd {P : Program} {w : World} : ∀ {l : List (String × DataW Unit)} {ps : List MemPlace}, DataW.LaidVars P w l ps → ∀ n d, (n, d) ∈ l → VarRd P w n d
  | [], _, _, _, _, h => absurd h (by simp)
  | (n', d') :: r, _, ⟨g, t, cs, fuel, p, q, h1, h2, h3, h4, h5, _⟩, n, d, h => by
    rcases List.mem_cons.1 h with e | e
    · obtain ⟨rfl, rfl⟩ := Prod.mk.inj e
      exact ⟨g, t, cs, fuel, p, h1, h2, h3, h4⟩
    · exact laidVars_rd h5 n d e
theorem laid_rd {P : Program} {w : World} {l : List (String × DataW Unit)} (h : laidMet P l w) {n : String} {d : DataW Unit} (hm : (n, d) ∈ l) : VarRd P w n d :=
  let ⟨_, hv, _⟩ := h
  laidVars_rd hv n d hm

/-- A table of elements of one cell: its row of elements. -/
theorem tab_C {α : Type} {d : Kd α} {P : Program} {w : World} {name : String} {g t e n : Nat} {lit : α → Lit} {xs : List α} (one : d.sz = 1)
    (cell : ∀ fuel cs p x, DataW.trod (fun _ => ()) P w 0 (fun _ => true) false fuel e cs = some (.lit (lit x), p) → d.K w x cs)
    (hg : P.globalNamed name = some g) (hty : (P.globals[g]?).map (·.type) = some t) (ht : P.underlying t = some (.array n e)) (hce : P.cellsOf e = 1)
    (hm : xs.length ≤ 9223372036854775807) (h : VarRd P w name (.agg (xs.map fun x => .lit (lit x)))) : d.C w (some ⟨g, 0, none⟩) xs.length xs ∧ xs.length = n := by
  obtain ⟨g', t', cs, fuel, p, hg', ht', hv, hd⟩ := h
  obtain rfl := Option.some.inj (hg.symm.trans hg')
  obtain rfl := Option.some.inj (hty.symm.trans ht')
  obtain ⟨ys, m, _, hx, hl, hn, hel⟩ := DataW.trod_array ht hd
  have hx1 : ys.map (·.1) = xs.map fun x => (DataW.lit (lit x) : DataW Unit) := by
    have := congrArg Prod.fst hx
    simpa using this.symm
  have hlen : xs.length = n := by
    have := congrArg List.length hx1
    simp at this
    omega
  refine ⟨⟨rfl, hm, fun hp => ⟨_, rfl, fun j x hj => ?_⟩⟩, hlen⟩
  have hjn : j < n := by rw [← hlen]; exact (List.getElem?_eq_some_iff.1 hj).1
  have he := hel j hjn
  have hy : (ys.map (·.1))[j]? = some (DataW.lit (lit x)) := by rw [hx1, List.getElem?_map, hj]; rfl
  rw [List.getElem?_map] at hy
  obtain ⟨y, hy1, hy2⟩ := Option.map_eq_some_iff.1 hy
  rw [hy1] at he
  obtain ⟨y1, y2⟩ := y
  obtain rfl : y1 = .lit (lit x) := hy2
  have hK := cell _ _ _ _ he
  refine ⟨_, d.K_len hK, hK, fun i u hu => ?_⟩
  rw [hce] at hu
  have hi : i = 0 := by
    have h1 := (List.getElem?_eq_some_iff.1 hu).1
    simp at h1
    omega
  subst hi
  rw [one]
  have e1 : Addr.add ⟨g, 0, none⟩ (j * 1 + 0) = ⟨g, j, none⟩ := by simp [Addr.add]; exact fun h => h.symm
  rw [e1, World.var?_cell hg hv j]
  have : (cs.toList.drop (j * 1)).take 1 = [u] ∨ True := .inr trivial
  have hu2 : cs.toList[j]? = some u := by
    rw [List.getElem?_take_of_lt (by omega), List.getElem?_drop] at hu
    simpa using hu
  simpa using hu2
theorem tab_int {P : Program} {w : World} {name : String} {g t e n : Nat} {k : IntKind} {xs : List Int} (hg : P.globalNamed name = some g) (hty : (P.globals[g]?).map (·.type) = some t) (ht : P.underlying t = some (.array n e)) (he : P.underlying e = some (.int k)) (hce : P.cellsOf e = 1)
    (hm : xs.length ≤ 9223372036854775807) (h : VarRd P w name (.agg (xs.map fun x => .lit (.int k x)))) : (Kd.int k).C w (some ⟨g, 0, none⟩) xs.length xs ∧ xs.length = n :=
  tab_C (d := Kd.int k) (lit := fun x => .int k x) rfl (fun fuel cs p x hx => by
    obtain ⟨n, rfl, e1, _⟩ := DataW.trod_int he hx
    have : n = x := by simpa using (congrArg Prod.fst e1).symm
    rw [this]
    rfl) hg hty ht hce hm h
end Go.Proofs.YtpileeenoocjpaaDoor.Opens
