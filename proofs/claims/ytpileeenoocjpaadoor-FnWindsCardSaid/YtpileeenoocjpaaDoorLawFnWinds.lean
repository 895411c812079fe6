/- The law FnWinds of this seat holds for all arguments: the row, out of its plain statement and the contract of its Go function; no condition. -/
import Derived.Test.YtpileeenoocjpaaDoorRows
import Derived.Test.YtpileeenoocjpaaDoorQx9
import Derived.Test.YtpileeenoocjpaaDoorPureFnWinds
import Derived.Test.YtpileeenoocjpaaDoorOpen
import Derived.Test.YtpileeenoocjpaaDoorFltO
import Derived.LaidByTextLater
import Derived.SevenTiedAt
import Derived.LaidMore
import Derived.OpenVars
import Derived.Test.YtpileeenoocjpaaDoorTie
import Derived.Test.YtpileeenoocjpaaDoorCards
import Derived.Test.YtpileeenoocjpaaDoorTabsF
import Derived.WalkKit
import Derived.ProofKit
import Derived.OpenShut
import Derived.ShutString
import Derived.ChangeOld
import Derived.Below
import Derived.SizedLaws
import Derived.Laws.Cover2
namespace Go.Proofs.YtpileeenoocjpaaDoor.fnWinds
open Go.ChangeShapes Go.WideShapes Go.ChangeAt Go.RowKit Go.Proofs.YtpileeenoocjpaaDoor.Opens Go.Proofs.YtpileeenoocjpaaDoor.Q Go.Proofs.YtpileeenoocjpaaDoorW.PrintWords Go.Proofs.YtpileeenoocjpaaDoorW.PrintFlt
open Go.ChangeMaps (open_string shut_string)
set_option linter.unusedVariables false
theorem own : ownKnob Tryd.prog.godebug = none := by kernel_rfl
theorem laidOut : laidOutB Tryd.prog = true := by kernel_rfl
theorem tab1 {W : World} (h : laidMetH Tryd.prog Rows.fnWindsRow.laid W) : (Kd.flt).C W (some ⟨1, 0, none⟩) ([0, 4595424355236410249, 4599832907078044661, 4602678819172646912, 4603964935624201756, 4605075134482436153, 4605975682916830378, 4606639218218904859, 4607045579204271127, 4607182418800017408] : List (Nat)).length [0, 4595424355236410249, 4599832907078044661, 4602678819172646912, 4603964935624201756, 4605075134482436153, 4605975682916830378, 4606639218218904859, 4607045579204271127, 4607182418800017408] ∧ ([0, 4595424355236410249, 4599832907078044661, 4602678819172646912, 4603964935624201756, 4605075134482436153, 4605975682916830378, 4606639218218904859, 4607045579204271127, 4607182418800017408] : List (Nat)).length = 10 := by
  rw [MakeChecks.laidMetH_plain _ _ _ (by kernel_rfl)] at h
  exact tab_flt (by kernel_rfl) (by kernel_rfl) (t := 90) (e := 24) (n := 10) (by kernel_rfl) (by kernel_rfl) (by kernel_rfl) (by decide) (laid_rd h (n := "loop.example/g00051/impl.sines") (d := Rows.laid_loop_example_g00051_impl_sines) (by simp [Rows.fnWindsRow]))
theorem door_met (os : Os) (args : Array Value) : laidMetH Tryd.prog Rows.fnWindsRow.laid ((World.doorLaid Tryd.prog 400 os).forCall (fun _ _ => 0) ⟨#[], args, []⟩).memory :=
  laidMetH_of_parts3 (fuel := 8) (laidMet_of_run' 8 (by kernel_rfl) (by kernel_rfl)) (by kernel_rfl) (by kernel_rfl)
set_option maxRecDepth 100000 in
theorem lifted (os : Os) (started : os.Started) (H : Type) (enc : TypeId × Value → H) :
    ReturnsInHanded {} Tryd.checked os 8 .any (fun w args => (Rows.fnWindsSpec.pre enc Tryd.prog Tryd.f8 Rows.fnWindsRow.domain false w args ∧ laidMetH Tryd.prog Rows.fnWindsRow.laid w) ∧ sizedMet enc Tryd.prog Tryd.f8 (OpenSpec.ofChange Rows.fnWindsSpec) false w args) (Rows.fnWindsSpec.post enc Tryd.prog Tryd.f8 false true false false) := by
  refine returnsInHanded_of_change_and (C := Tryd.checked) (X := fun w _ => laidMetH Tryd.prog Rows.fnWindsRow.laid w) (fun _ _ _ hh h => h.of_heap hh) own started (by kernel_rfl) Tryd.func8
    (ChangeSpec.witness_shaped (enc := enc) (C := Tryd.checked) (os := os) (X := fun w _ => laidMetH Tryd.prog Rows.fnWindsRow.laid w) false (World.doorLaid Tryd.prog 400 os) #[.slice none 0 0] 8 rfl (World.shaped_of_RefB (by kernel_rfl) (by kernel_rfl)) (by kernel_rfl) (by kernel_rfl) (by kernel_rfl) (door_met os _)) ?_
  intro W base args ds gs before hval0 hW hcnd hsz0 hL _
  have hsz : (DataW.weightsEach Tryd.prog (Tryd.f8.params.toList ++ Rows.fnWindsSpec.plain.varTypes Tryd.prog) (ds ++ gs)).all (· ≤ reachBytes) = true := hsz0
  have hval : ∀ (j : Nat) t v, Tryd.f8.params[j]? = some t → args[j]? = some v → Value.okWide Tryd.prog W .any base t v := hval0
  have hW' := hW
  obtain ⟨p, q, hA0, hV, rfl, hfz, hnd⟩ := hW
  have hA : DataW.TrodAll enc Tryd.prog W 0 (fun _ => true) true Tryd.f8.params.toList args.toList ds p := hA0
  rw [Tryd.params8] at hA hval hsz
  obtain ⟨v0, vs0, d0, ds0, p0, q0, hargs, rfl, rfl, h0, r0⟩ := trodAll_cons hA
  obtain ⟨rfl, rfl, rfl⟩ := trodAll_nil r0
  obtain rfl : args = #[v0] := by cases args; simp_all
  obtain ⟨g0_, r0_, rfl⟩ : ∃ g r, gs = g :: r := by
    cases gs with
    | nil => exact (show False from hV).elim
    | cons a b => exact ⟨a, b, rfl⟩
  have hV0_ := hV
  obtain ⟨_, _, _, _, _, _, _, _, _, _, hs0_, _⟩ := hV0_
  obtain rfl : r0_ = [] := by
    cases r0_ with
    | nil => rfl
    | cons a b => exact (show False from hs0_).elim
  obtain ⟨a0, len0, cap0, rfl⟩ := okWide_slice Tryd.underlying51 (hval 0 51 v0 rfl rfl)
  have k0 := h0
  have lt0 : ∀ x ∈ p0, x.block < W.heap.size := by obtain ⟨m, hm⟩ := k0; exact DataW.trod_lt m _ _ _ hm
  obtain ⟨l0, e0, hc0, hm0, hr0⟩ := slice_in (opn_slice 0 Tryd.underlying51 (by kernel_rfl) (opn_int Tryd.underlying5)) h0
  subst e0
  clear hA0 hval0 hsz0 hsz
  obtain ⟨tC1, tN1⟩ := tab1 hL
  obtain ⟨k, hk⟩ := Pure.FnWinds l0 hm0 (slice_wf Tryd.underlying51 Tryd.underlying5 h0 hr0)
  refine (laws_FnWinds.calls k _ _ l0 [0, 4595424355236410249, 4599832907078044661, 4602678819172646912, 4603964935624201756, 4605075134482436153, 4605975682916830378, 4606639218218904859, 4607045579204271127, 4607182418800017408] true W hr0 hc0 tC1 (Nat.le_refl _) tN1 hk).mono fun e W' hp_ => ?_
  obtain ⟨rfl, hb_⟩ := hp_
  have bel : Below W.heap.size W W' := hb_
  exact ⟨_, rfl, _, _, _, [], _, q, hW', trodAll_mk1 (shut_bool Tryd.underlying4 _), (trodAll_cons_mk (Below.trod laidOut (by kernel_rfl) (of_decide_eq_true (by kernel_rfl)) k0 bel lt0) trodAll_mk0), bel.trodVars laidOut (by kernel_rfl) hV, bel.frame _, fun h => by cases h⟩
theorem over : Rows.fnWindsRow.holds Tryd.pinned (OpenSpec.ofChange Rows.fnWindsSpec) :=
  OpenClaim.holds_of_wide 8 Tryd.f8 rfl rfl rfl rfl rfl rfl rfl ⟨rfl, rfl, rfl, rfl, rfl⟩ rfl rfl rfl rfl rfl (by kernel_rfl) Tryd.func8 (by kernel_rfl)
    (of_decide_eq_true (by kernel_rfl)) (by unfold Func.isWrapper; first | (rw [if_pos (by decide +kernel)]; kernel_rfl) | (rw [if_neg (by decide +kernel)]; exact ⟨rfl, rfl⟩))
    (fun os started H enc _ => lifted os started H enc)
theorem proved : Rows.FnWindsSaid := over
theorem card : Rows.FnWindsCardSaid :=
  Claim7.holds_tied_plain_at .later [] [.data] true (true, "e401df2e013a4b1d888d48a0e180ef51190829ee4a958ff15f26577a3f48bc42") false proved (fun _ h => by cases h) (by kernel_rfl) (fun _ h => by cases h) fnWinds_row_tie rfl ⟨rfl, rfl⟩ (by kernel_rfl) rfl
    (fun f fn hf hfn => by
      obtain rfl : f = 8 := Option.some.inj ((show Tryd.prog.funcNamed "loop.example/g00051/laws.FnWinds" = some 8 by kernel_rfl).symm.trans hf) |>.symm
      obtain rfl : fn = Tryd.f8 := (Option.some.inj (Tryd.func8.symm.trans hfn)).symm
      exact ⟨by kernel_rfl, fun j t ht => by
        rw [Tryd.params8] at ht
        have hm : t ∈ [51] := by simpa using Array.mem_of_getElem? ht
        have hall : ([51].all fun u => !Tryd.prog.wantsStandIn u) = true := by kernel_rfl
        exact (show Tryd.prog.wantsStandIn t = false by simpa using List.all_eq_true.1 hall t hm)⟩)
    (by kernel_rfl)
end Go.Proofs.YtpileeenoocjpaaDoor.fnWinds
namespace Go.Proofs.YtpileeenoocjpaaDoor
/-- The row, under a short name, for the claim. -/
theorem fnWinds_holds : Rows.FnWindsCardSaid := fnWinds.card
#print axioms fnWinds_holds
end Go.Proofs.YtpileeenoocjpaaDoor
