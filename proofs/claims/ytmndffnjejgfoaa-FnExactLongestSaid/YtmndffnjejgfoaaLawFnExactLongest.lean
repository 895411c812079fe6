/- The law FnExactLongest of this seat holds for all arguments: the row, out of its plain statement and the contract of its Go function; no condition. -/
import Derived.Test.YtmndffnjejgfoaaRows
import Derived.Test.YtmndffnjejgfoaaQx12
import Derived.Test.YtmndffnjejgfoaaPureFnExactLongest
import Derived.Test.YtmndffnjejgfoaaOpen
import Derived.Test.YtmndffnjejgfoaaFltO
import Derived.WalkKit
import Derived.ProofKit
import Derived.OpenShut
import Derived.ShutString
import Derived.ChangeOld
import Derived.Below
import Derived.SizedLaws
import Derived.Laws.Cover2
namespace Go.Proofs.Ytmndffnjejgfoaa.fnExactLongest
open Go.ChangeShapes Go.WideShapes Go.ChangeAt Go.RowKit Go.Proofs.Ytmndffnjejgfoaa.Opens Go.Proofs.Ytmndffnjejgfoaa.Q Go.Proofs.YtmndffnjejgfoaaW.PrintWords Go.Proofs.YtmndffnjejgfoaaW.PrintFlt
open Go.ChangeMaps (open_string shut_string)
set_option linter.unusedVariables false
theorem own : ownKnob Try.prog.godebug = none := by kernel_rfl
theorem laidOut : laidOutB Try.prog = true := by kernel_rfl
theorem opn53 {H : Type} {enc : TypeId × Value → H} {w : World} {base : Nat} {spare : Nat → Bool} {held : Bool} : Opn enc Try.prog w base spare held 53 k53 := by
  intro fuel cs x h
  obtain ⟨xs, n, _, _, hl, hlen, hf⟩ := DataW.trod_struct Try.underlying53 h
  have hs : ∀ i, i < 5 → ∃ z, xs[i]? = some z := fun i hi => ⟨xs[i]'(by rw [hlen]; exact hi), List.getElem?_eq_getElem _⟩
  rw [show Try.prog.cellsOf 53 = 5 from by kernel_rfl] at hl
  obtain ⟨a0, h0⟩ := field_at (off := 0) (s := 1) (opn_int Try.underlying2) (by kernel_rfl) (hs 0 (by decide)) (hf 0 _ rfl)
  obtain ⟨a1, h1⟩ := field_at (off := 1) (s := 1) (opn_int Try.underlying2) (by kernel_rfl) (hs 1 (by decide)) (hf 1 _ rfl)
  obtain ⟨a2, h2⟩ := field_at (off := 2) (s := 1) (opn_slice 0 Try.underlying39 (by kernel_rfl) (opn_int Try.underlying2)) (by kernel_rfl) (hs 2 (by decide)) (hf 2 _ rfl)
  obtain ⟨a3, h3⟩ := field_at (off := 3) (s := 1) (opn_int Try.underlying2) (by kernel_rfl) (hs 3 (by decide)) (hf 3 _ rfl)
  obtain ⟨a4, h4⟩ := field_at (off := 4) (s := 1) (opn_int Try.underlying2) (by kernel_rfl) (hs 4 (by decide)) (hf 4 _ rfl)
  exact ⟨⟨a0, a1, a2, a3, a4⟩, (pair_at 0 1 h0 (pair_at 1 1 h1 (pair_at 2 1 h2 (pair_at 3 1 h3 (last_at 4 1 hl h4)))))⟩
set_option maxRecDepth 100000 in
theorem lifted (os : Os) (started : os.Started) (H : Type) (enc : TypeId × Value → H) :
    ReturnsInHanded {} Try.checked os 3 .any (Rows.fnExactLongestSpec.pre6 enc Try.prog Try.f3 Rows.fnExactLongestRow.domain false) (Rows.fnExactLongestSpec.post enc Try.prog Try.f3 false true false false) := by
  refine returnsInHanded_of_change_sized (C := Try.checked) own started (by kernel_rfl) Try.func3
    (ChangeSpec.witness6 (enc := enc) (C := Try.checked) false ⟨#[], #[.slice none 0 0], []⟩ 8 (by kernel_rfl) (by kernel_rfl) (by kernel_rfl) (by kernel_rfl)) ?_
  intro W base args ds gs before hval0 hW hcnd hsz0 _
  have hsz : (DataW.weightsEach Try.prog (Try.f3.params.toList ++ Rows.fnExactLongestSpec.plain.varTypes Try.prog) (ds ++ gs)).all (· ≤ reachBytes) = true := hsz0
  have hval : ∀ (j : Nat) t v, Try.f3.params[j]? = some t → args[j]? = some v → Value.okWide Try.prog W .any base t v := hval0
  have hW' := hW
  obtain ⟨p, q, hA0, hV, rfl, hfz, hnd⟩ := hW
  have hA : DataW.TrodAll enc Try.prog W 0 (fun _ => true) true Try.f3.params.toList args.toList ds p := hA0
  rw [Try.params3] at hA hval hsz
  obtain ⟨v0, vs0, d0, ds0, p0, q0, hargs, rfl, rfl, h0, r0⟩ := trodAll_cons hA
  obtain ⟨rfl, rfl, rfl⟩ := trodAll_nil r0
  obtain rfl : args = #[v0] := by cases args; simp_all
  obtain ⟨rfl, rfl⟩ := trodVars_none hV
  obtain ⟨a0, len0, cap0, rfl⟩ := okWide_slice Try.underlying22 (hval 0 22 v0 rfl rfl)
  have k0 := h0
  have lt0 : ∀ x ∈ p0, x.block < W.heap.size := by obtain ⟨m, hm⟩ := k0; exact DataW.trod_lt m _ _ _ hm
  obtain ⟨l0, e0, hc0, hm0, hr0⟩ := slice_in (opn_slice z53 Try.underlying22 (by kernel_rfl) opn53) h0
  subst e0
  clear hA0 hval0 hsz0 hsz
  obtain ⟨k, hk⟩ := Pure.FnExactLongest l0 hm0 (fun y3 hx => by obtain ⟨_, K3⟩ := row_K hr0 hx; obtain ⟨_, _, _, _, hr3_2⟩ := k53_open K3; exact hr3_2.2.1)
  refine (laws_FnExactLongest.calls k _ _ l0 true W hr0 hc0 hk).mono fun e W' hp_ => ?_
  obtain ⟨rfl, hb_⟩ := hp_
  have bel : Below W.heap.size W W' := hb_
  exact ⟨_, rfl, _, _, _, [], _, [], hW', trodAll_mk1 (shut_bool Try.underlying4 _), (trodAll_cons_mk (Below.trod laidOut (by kernel_rfl) (of_decide_eq_true (by kernel_rfl)) k0 bel lt0) trodAll_mk0), rfl, bel.frame _, fun h => by cases h⟩
theorem over : Rows.fnExactLongestRow.holds Try.pinned (OpenSpec.ofChange Rows.fnExactLongestSpec) :=
  OpenClaim.holds_of_wide 3 Try.f3 rfl rfl rfl rfl rfl rfl rfl ⟨rfl, rfl, rfl, rfl, rfl⟩ rfl rfl rfl rfl rfl (by kernel_rfl) Try.func3 (by kernel_rfl)
    (of_decide_eq_true (by kernel_rfl)) (by unfold Func.isWrapper; first | (rw [if_pos (by decide +kernel)]; kernel_rfl) | (rw [if_neg (by decide +kernel)]; exact ⟨rfl, rfl⟩))
    (fun os started H enc _ => lifted os started H enc)
theorem proved : Rows.FnExactLongestSaid := over
end Go.Proofs.Ytmndffnjejgfoaa.fnExactLongest
namespace Go.Proofs.Ytmndffnjejgfoaa
/-- The row, under a short name, for the claim. -/
theorem fnExactLongest_holds : Rows.FnExactLongestSaid := fnExactLongest.proved
#print axioms fnExactLongest_holds
end Go.Proofs.Ytmndffnjejgfoaa
