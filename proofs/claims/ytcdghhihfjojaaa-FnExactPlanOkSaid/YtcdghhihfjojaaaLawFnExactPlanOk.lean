/- The law FnExactPlanOk of this seat holds for all arguments: the row, out of its plain statement and the contract of its Go function; no condition. -/
import Derived.Test.YtcdghhihfjojaaaRows
import Derived.Test.YtcdghhihfjojaaaQx19
import Derived.Test.YtcdghhihfjojaaaPureFnExactPlanOk
import Derived.Test.YtcdghhihfjojaaaOpen
import Derived.Test.YtcdghhihfjojaaaFltO
import Derived.WalkKit
import Derived.ProofKit
import Derived.OpenShut
import Derived.ShutString
import Derived.ChangeOld
import Derived.Below
import Derived.SizedLaws
import Derived.Laws.Cover2
namespace Go.Proofs.Ytcdghhihfjojaaa.fnExactPlanOk
open Go.ChangeShapes Go.WideShapes Go.ChangeAt Go.RowKit Go.Proofs.Ytcdghhihfjojaaa.Opens Go.Proofs.Ytcdghhihfjojaaa.Q Go.Proofs.YtcdghhihfjojaaaW.PrintWords Go.Proofs.YtcdghhihfjojaaaW.PrintFlt
open Go.ChangeMaps (open_string shut_string)
set_option linter.unusedVariables false
theorem own : ownKnob Try.prog.godebug = none := by kernel_rfl
theorem laidOut : laidOutB Try.prog = true := by kernel_rfl
theorem opn63 {H : Type} {enc : TypeId × Value → H} {w : World} {base : Nat} {spare : Nat → Bool} {held : Bool} : Opn enc Try.prog w base spare held 63 k63 := by
  intro fuel cs x h
  obtain ⟨xs, n, _, _, hl, hlen, hf⟩ := DataW.trod_struct Try.underlying63 h
  have hs : ∀ i, i < 4 → ∃ z, xs[i]? = some z := fun i hi => ⟨xs[i]'(by rw [hlen]; exact hi), List.getElem?_eq_getElem _⟩
  rw [show Try.prog.cellsOf 63 = 4 from by kernel_rfl] at hl
  obtain ⟨a0, h0⟩ := field_at (off := 0) (s := 1) (opn_int Try.underlying2) (by kernel_rfl) (hs 0 (by decide)) (hf 0 _ rfl)
  obtain ⟨a1, h1⟩ := field_at (off := 1) (s := 1) (opn_int Try.underlying2) (by kernel_rfl) (hs 1 (by decide)) (hf 1 _ rfl)
  obtain ⟨a2, h2⟩ := field_at (off := 2) (s := 1) (opn_int Try.underlying2) (by kernel_rfl) (hs 2 (by decide)) (hf 2 _ rfl)
  obtain ⟨a3, h3⟩ := field_at (off := 3) (s := 1) (opn_int Try.underlying2) (by kernel_rfl) (hs 3 (by decide)) (hf 3 _ rfl)
  exact ⟨⟨a0, a1, a2, a3⟩, (pair_at 0 1 h0 (pair_at 1 1 h1 (pair_at 2 1 h2 (last_at 3 1 hl h3))))⟩
set_option maxRecDepth 100000 in
theorem lifted (os : Os) (started : os.Started) (H : Type) (enc : TypeId × Value → H) :
    ReturnsInHanded {} Try.checked os 3 .any (Rows.fnExactPlanOkSpec.pre6 enc Try.prog Try.f3 Rows.fnExactPlanOkRow.domain false) (Rows.fnExactPlanOkSpec.post enc Try.prog Try.f3 false true false false) := by
  refine returnsInHanded_of_change_sized (C := Try.checked) own started (by kernel_rfl) Try.func3
    (ChangeSpec.witness6 (enc := enc) (C := Try.checked) false ⟨#[], #[.slice none 0 0, .slice none 0 0], []⟩ 8 (by kernel_rfl) (by kernel_rfl) (by kernel_rfl) (by kernel_rfl)) ?_
  intro W base args ds gs before hval0 hW hcnd hsz0 _
  have hsz : (DataW.weightsEach Try.prog (Try.f3.params.toList ++ Rows.fnExactPlanOkSpec.plain.varTypes Try.prog) (ds ++ gs)).all (· ≤ reachBytes) = true := hsz0
  have hval : ∀ (j : Nat) t v, Try.f3.params[j]? = some t → args[j]? = some v → Value.okWide Try.prog W .any base t v := hval0
  have hW' := hW
  obtain ⟨p, q, hA0, hV, rfl, hfz, hnd⟩ := hW
  have hA : DataW.TrodAll enc Try.prog W 0 (fun _ => true) true Try.f3.params.toList args.toList ds p := hA0
  rw [Try.params3] at hA hval hsz
  obtain ⟨v0, vs0, d0, ds0, p0, q0, hargs, rfl, rfl, h0, r0⟩ := trodAll_cons hA
  obtain ⟨v1, vs1, d1, ds1, p1, q1, rfl, rfl, rfl, h1, r1⟩ := trodAll_cons r0
  obtain ⟨rfl, rfl, rfl⟩ := trodAll_nil r1
  obtain rfl : args = #[v0, v1] := by cases args; simp_all
  obtain ⟨rfl, rfl⟩ := trodVars_none hV
  obtain ⟨a0, len0, cap0, rfl⟩ := okWide_slice Try.underlying22 (hval 0 22 v0 rfl rfl)
  have k0 := h0
  have lt0 : ∀ x ∈ p0, x.block < W.heap.size := by obtain ⟨m, hm⟩ := k0; exact DataW.trod_lt m _ _ _ hm
  obtain ⟨l0, e0, hc0, hm0, hr0⟩ := slice_in (opn_slice z63 Try.underlying22 (by kernel_rfl) opn63) h0
  subst e0
  obtain ⟨a1, len1, cap1, rfl⟩ := okWide_slice Try.underlying23 (hval 1 23 v1 rfl rfl)
  have k1 := h1
  have lt1 : ∀ x ∈ p1, x.block < W.heap.size := by obtain ⟨m, hm⟩ := k1; exact DataW.trod_lt m _ _ _ hm
  obtain ⟨l1, e1, hc1, hm1, hr1⟩ := slice_in (opn_slice 0 Try.underlying23 (by kernel_rfl) (opn_int Try.underlying2)) h1
  subst e1
  clear hA0 hval0 hsz0 hsz
  obtain ⟨k, hk⟩ := Pure.FnExactPlanOk l0 l1 hm0 hm1
  refine (laws_FnExactPlanOk.calls k _ _ l0 _ _ l1 true W hr0 hc0 hr1 hc1 hk).mono fun e W' hp_ => ?_
  obtain ⟨rfl, hb_⟩ := hp_
  have bel : Below W.heap.size W W' := hb_
  exact ⟨_, rfl, _, _, _, [], _, [], hW', trodAll_mk1 (shut_bool Try.underlying4 _), (trodAll_cons_mk (Below.trod laidOut (by kernel_rfl) (of_decide_eq_true (by kernel_rfl)) k0 bel lt0) (trodAll_cons_mk (Below.trod laidOut (by kernel_rfl) (of_decide_eq_true (by kernel_rfl)) k1 bel lt1) trodAll_mk0)), rfl, bel.frame _, fun h => by cases h⟩
theorem over : Rows.fnExactPlanOkRow.holds Try.pinned (OpenSpec.ofChange Rows.fnExactPlanOkSpec) :=
  OpenClaim.holds_of_wide 3 Try.f3 rfl rfl rfl rfl rfl rfl rfl ⟨rfl, rfl, rfl, rfl, rfl⟩ rfl rfl rfl rfl rfl (by kernel_rfl) Try.func3 (by kernel_rfl)
    (of_decide_eq_true (by kernel_rfl)) (by unfold Func.isWrapper; first | (rw [if_pos (by decide +kernel)]; kernel_rfl) | (rw [if_neg (by decide +kernel)]; exact ⟨rfl, rfl⟩))
    (fun os started H enc _ => lifted os started H enc)
theorem proved : Rows.FnExactPlanOkSaid := over
end Go.Proofs.Ytcdghhihfjojaaa.fnExactPlanOk
namespace Go.Proofs.Ytcdghhihfjojaaa
/-- The row, under a short name, for the claim. -/
theorem fnExactPlanOk_holds : Rows.FnExactPlanOkSaid := fnExactPlanOk.proved
#print axioms fnExactPlanOk_holds
end Go.Proofs.Ytcdghhihfjojaaa
