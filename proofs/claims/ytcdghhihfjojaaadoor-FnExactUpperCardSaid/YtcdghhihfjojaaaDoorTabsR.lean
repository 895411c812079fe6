/- Package variables that the row lists as arrays of records of two whole numbers: what a walk reads of them; no condition. -/
import Derived.Test.YtcdghhihfjojaaaDoorTabs
import Derived.ChangeSame
set_option linter.unusedVariables false
set_option linter.unusedSimpArgs false
namespace Go.Proofs.YtcdghhihfjojaaaDoor.Opens
open Go.RowKit Go.Proofs.YtcdghhihfjojaaaDoorW.PrintWords Go.Deep
theorem tab_Cn {α : Type} {d : Kd α} {P : Program} {w : World} {name : String} {g t e n s : Nat} {D : α → DataW Unit} {xs : List α} (one : d.sz = s)
    (cell : ∀ fuel cs p x, DataW.trod (fun _ => ()) P w 0 (fun _ => true) false fuel e cs = some (D x, p) → d.K w x cs)
    (hg : P.globalNamed name = some g) (hty : (P.globals[g]?).map (·.type) = some t) (ht : P.underlying t = some (.array n e)) (hce : P.cellsOf e = s)
    (hm : xs.length ≤ 9223372036854775807) (h : VarRd P w name (.agg (xs.map D))) : d.C w (some ⟨g, 0, none⟩) xs.length xs ∧ xs.length = n := by
  obtain ⟨g', t', cs, fuel, p, hg', ht', hv, hd⟩ := h
  obtain rfl := Option.some.inj (hg.symm.trans hg')
  obtain rfl := Option.some.inj (hty.symm.trans ht')
  obtain ⟨ys, m, _, hx, hl, hn, hel⟩ := DataW.trod_array ht hd
  have hx1 : ys.map (·.1) = xs.map D := by
    have := congrArg Prod.fst hx
    simpa using this.symm
  have hlen : xs.length = n := by
    have := congrArg List.length hx1
    simp at this
    omega
  refine ⟨⟨rfl, hm, fun hp => ⟨_, rfl, fun j x hj => ?_⟩⟩, hlen⟩
  have hjn : j < n := by rw [← hlen]; exact (List.getElem?_eq_some_iff.1 hj).1
  have he := hel j hjn
  have hy : (ys.map (·.1))[j]? = some (D x) := by rw [hx1, List.getElem?_map, hj]; rfl
  rw [List.getElem?_map] at hy
  obtain ⟨y, hy1, hy2⟩ := Option.map_eq_some_iff.1 hy
  rw [hy1] at he
  obtain ⟨y1, y2⟩ := y
  obtain rfl : y1 = D x := hy2
  have hK := cell _ _ _ _ he
  refine ⟨_, d.K_len hK, hK, fun i u hu => ?_⟩
  rw [hce] at hu
  have hi : i < s := by
    have h1 := (List.getElem?_eq_some_iff.1 hu).1
    simp at h1
    omega
  rw [one]
  have e1 : Addr.add ⟨g, 0, none⟩ (j * s + i) = ⟨g, j * s + i, none⟩ := by simp [Addr.add]; intro a b; rw [a, b]
  rw [e1, World.var?_cell hg hv (j * s + i)]
  have hu2 : cs.toList[j * s + i]? = some u := by
    rw [List.getElem?_take_of_lt hi, List.getElem?_drop] at hu
    exact hu
  simpa using hu2
theorem pair_cells {P : Program} {w : World} {e : TypeId} {f0 f1 : Field} {k : IntKind} (ht : P.underlying e = some (.struct #[f0, f1])) (o0 : f0.offset = 0) (o1 : f1.offset = 1) (h0 : P.underlying f0.type = some (.int k)) (h1 : P.underlying f1.type = some (.int k)) (hc : P.cellsOf e = 2) (c0 : P.cellsOf f0.type = 1) (c1 : P.cellsOf f1.type = 1)
    {fuel : Nat} {cs : List Value} {p : List MemPlace} {a b : Int} (h : DataW.trod (fun _ => ()) P w 0 (fun _ => true) false fuel e cs = some (.agg [.lit (.int k a), .lit (.int k b)], p)) : cs = [.int k a, .int k b] := by
  obtain ⟨y0, y1, n, hx, hl, t0, t1⟩ := Go.ChangeShapes.trod_struct2 ht h
  have e1 := congrArg Prod.fst hx
  simp only [DataW.agg.injEq, List.cons.injEq, and_true] at e1
  obtain ⟨n0, q0, r0, _⟩ := DataW.trod_int h0 t0
  obtain ⟨n1, q1, r1, _⟩ := DataW.trod_int h1 t1
  rw [hc] at hl
  rw [o0, c0] at q0
  rw [o1, c1] at q1
  obtain ⟨u, v, rfl⟩ : ∃ u v, cs = [u, v] := by
    match cs, hl with
    | [u, v], _ => exact ⟨u, v, rfl⟩
  simp at q0 q1
  have g0 : y0.1 = .lit (.int k n0) := by rw [r0]
  have g1 : y1.1 = .lit (.int k n1) := by rw [r1]
  rw [g0, g1] at e1
  obtain ⟨ea, eb⟩ := e1
  injection ea with ea
  injection eb with eb
  injection ea with _ ea
  injection eb with _ eb
  rw [q0, q1, ea, eb]
end Go.Proofs.YtcdghhihfjojaaaDoor.Opens
