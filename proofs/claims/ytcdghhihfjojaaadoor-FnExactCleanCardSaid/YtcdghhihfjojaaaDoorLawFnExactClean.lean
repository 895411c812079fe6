/- The law FnExactClean of this seat holds for all arguments: the row, out of its plain statement and the contract of its Go function; no condition. -/
import Derived.Test.YtcdghhihfjojaaaDoorRows
import Derived.Test.YtcdghhihfjojaaaDoorQx14
import Derived.Test.YtcdghhihfjojaaaDoorPureFnExactClean
import Derived.Test.YtcdghhihfjojaaaDoorOpen
import Derived.Test.YtcdghhihfjojaaaDoorFltO
import Derived.LaidByTextLater
import Derived.SevenTiedAt
import Derived.LaidMore
import Derived.OpenVars
import Derived.Lay
import Derived.Test.YtcdghhihfjojaaaDoorTie
import Derived.Test.YtcdghhihfjojaaaDoorCards
import Derived.Test.YtcdghhihfjojaaaDoorTabsR
import Derived.WalkKit
import Derived.ProofKit
import Derived.OpenShut
import Derived.ShutString
import Derived.ChangeOld
import Derived.Below
import Derived.SizedLaws
import Derived.Laws.Cover2
namespace Go.Proofs.YtcdghhihfjojaaaDoor.fnExactClean
open Go.ChangeShapes Go.WideShapes Go.ChangeAt Go.RowKit Go.Proofs.YtcdghhihfjojaaaDoor.Opens Go.Proofs.YtcdghhihfjojaaaDoor.Q Go.Proofs.YtcdghhihfjojaaaDoorW.PrintWords Go.Proofs.YtcdghhihfjojaaaDoorW.PrintFlt
open Go.ChangeMaps (open_string shut_string)
set_option linter.unusedVariables false
theorem own : ownKnob Tryd.prog.godebug = none := by kernel_rfl
theorem laidOut : laidOutB Tryd.prog = true := by kernel_rfl
theorem tab1 {W : World} (h : laidMetH Tryd.prog Rows.fnExactCleanRow.laid W) : ((Kd.int .u8)).C W (some ⟨1, 0, none⟩) ((Go.Pinned.utf8FirstZ.map Int.ofNat) : List Int).length (Go.Pinned.utf8FirstZ.map Int.ofNat) ∧ ((Go.Pinned.utf8FirstZ.map Int.ofNat) : List Int).length = 256 := by
  rw [MakeChecks.laidMetH_plain _ _ _ (by kernel_rfl)] at h
  have e : (Rows.laid_unicode_utf8_first : DataW Unit) = .agg (((Go.Pinned.utf8FirstZ.map Int.ofNat) : List Int).map fun x => .lit (.int .u8 x)) := by kernel_rfl
  have h2 := laid_rd h (n := "unicode/utf8.first") (d := Rows.laid_unicode_utf8_first) (by simp [Rows.fnExactCleanRow])
  rw [e] at h2
  exact tab_int (by kernel_rfl) (by kernel_rfl) (t := 52) (e := 5) (n := 256) (by kernel_rfl) (by kernel_rfl) (by kernel_rfl) (by decide +kernel) h2
theorem tab2 {W : World} (h : laidMetH Tryd.prog Rows.fnExactCleanRow.laid W) : Kd.C k55 W (some ⟨2, 0, none⟩) ([⟨128, 191⟩, ⟨160, 191⟩, ⟨128, 159⟩, ⟨144, 191⟩, ⟨128, 143⟩, ⟨0, 0⟩, ⟨0, 0⟩, ⟨0, 0⟩, ⟨0, 0⟩, ⟨0, 0⟩, ⟨0, 0⟩, ⟨0, 0⟩, ⟨0, 0⟩, ⟨0, 0⟩, ⟨0, 0⟩, ⟨0, 0⟩] : List (S55)).length [⟨128, 191⟩, ⟨160, 191⟩, ⟨128, 159⟩, ⟨144, 191⟩, ⟨128, 143⟩, ⟨0, 0⟩, ⟨0, 0⟩, ⟨0, 0⟩, ⟨0, 0⟩, ⟨0, 0⟩, ⟨0, 0⟩, ⟨0, 0⟩, ⟨0, 0⟩, ⟨0, 0⟩, ⟨0, 0⟩, ⟨0, 0⟩] ∧ ([⟨128, 191⟩, ⟨160, 191⟩, ⟨128, 159⟩, ⟨144, 191⟩, ⟨128, 143⟩, ⟨0, 0⟩, ⟨0, 0⟩, ⟨0, 0⟩, ⟨0, 0⟩, ⟨0, 0⟩, ⟨0, 0⟩, ⟨0, 0⟩, ⟨0, 0⟩, ⟨0, 0⟩, ⟨0, 0⟩, ⟨0, 0⟩] : List (S55)).length = 16 := by
  rw [MakeChecks.laidMetH_plain _ _ _ (by kernel_rfl)] at h
  have e : (Rows.laid_unicode_utf8_acceptRanges : DataW Unit) = .agg (([⟨128, 191⟩, ⟨160, 191⟩, ⟨128, 159⟩, ⟨144, 191⟩, ⟨128, 143⟩, ⟨0, 0⟩, ⟨0, 0⟩, ⟨0, 0⟩, ⟨0, 0⟩, ⟨0, 0⟩, ⟨0, 0⟩, ⟨0, 0⟩, ⟨0, 0⟩, ⟨0, 0⟩, ⟨0, 0⟩, ⟨0, 0⟩] : List (S55)).map fun x => .agg [.lit (.int .u8 x.f0), .lit (.int .u8 x.f1)]) := by kernel_rfl
  have h2 := laid_rd h (n := "unicode/utf8.acceptRanges") (d := Rows.laid_unicode_utf8_acceptRanges) (by simp [Rows.fnExactCleanRow])
  rw [e] at h2
  exact tab_Cn (s := 2) rfl (fun fuel cs p x hx => by rw [pair_cells Tryd.underlying55 rfl rfl Tryd.underlying5 Tryd.underlying5 (by kernel_rfl) (by kernel_rfl) (by kernel_rfl) hx]; exact k55_mk _ _) (by kernel_rfl) (by kernel_rfl) (t := 56) (e := 55) (n := 16) (by kernel_rfl) (by kernel_rfl) (by decide) h2
set_option maxRecDepth 100000 in
theorem lifted (os : Os) (started : os.Started) (H : Type) (enc : TypeId × Value → H) :
    ReturnsInHanded {} Tryd.checked os 3 .any (fun w args => (Rows.fnExactCleanSpec.pre enc Tryd.prog Tryd.f3 Rows.fnExactCleanRow.domain false w args ∧ laidMetH Tryd.prog Rows.fnExactCleanRow.laid w) ∧ sizedMet enc Tryd.prog Tryd.f3 (OpenSpec.ofChange Rows.fnExactCleanSpec) false w args) (Rows.fnExactCleanSpec.post enc Tryd.prog Tryd.f3 false true false false) := by
  refine returnsInHanded_of_change_and (C := Tryd.checked) (X := fun w _ => laidMetH Tryd.prog Rows.fnExactCleanRow.laid w) (fun _ _ _ hh h => h.of_heap hh) own started (by kernel_rfl) Tryd.func3
    (ChangeSpec.witness_shaped (enc := enc) (C := Tryd.checked) (os := os) (X := fun w _ => laidMetH Tryd.prog Rows.fnExactCleanRow.laid w) false (World.laidAll Tryd.prog os Rows.fnExactCleanRow.laid) #[.slice none 0 0] 8 (World.laidAll_os _ _ _) (World.shaped_of_ZipB (by kernel_rfl) (by kernel_rfl)) (by kernel_rfl) (by kernel_rfl) (by kernel_rfl)
      (by rw [MakeChecks.laidMetH_plain _ _ _ (by kernel_rfl)]; exact laidMet_laidAll _ (by kernel_rfl) (by kernel_rfl))) ?_
  intro W base args ds gs before hval0 hW hcnd hsz0 hL _
  have hsz : (DataW.weightsEach Tryd.prog (Tryd.f3.params.toList ++ Rows.fnExactCleanSpec.plain.varTypes Tryd.prog) (ds ++ gs)).all (· ≤ reachBytes) = true := hsz0
  have hval : ∀ (j : Nat) t v, Tryd.f3.params[j]? = some t → args[j]? = some v → Value.okWide Tryd.prog W .any base t v := hval0
  have hW' := hW
  obtain ⟨p, q, hA0, hV, rfl, hfz, hnd⟩ := hW
  have hA : DataW.TrodAll enc Tryd.prog W 0 (fun _ => true) true Tryd.f3.params.toList args.toList ds p := hA0
  rw [Tryd.params3] at hA hval hsz
  obtain ⟨v0, vs0, d0, ds0, p0, q0, hargs, rfl, rfl, h0, r0⟩ := trodAll_cons hA
  obtain ⟨rfl, rfl, rfl⟩ := trodAll_nil r0
  obtain rfl : args = #[v0] := by cases args; simp_all
  obtain rfl : gs = [] := by
    cases gs with
    | nil => rfl
    | cons a b => exact (show False from hV).elim
  obtain ⟨a0, len0, cap0, rfl⟩ := okWide_slice Tryd.underlying22 (hval 0 22 v0 rfl rfl)
  have k0 := h0
  have lt0 : ∀ x ∈ p0, x.block < W.heap.size := by obtain ⟨m, hm⟩ := k0; exact DataW.trod_lt m _ _ _ hm
  obtain ⟨l0, e0, hc0, hm0, hr0⟩ := slice_in (opn_slice 0 Tryd.underlying22 (by kernel_rfl) (opn_int Tryd.underlying5)) h0
  subst e0
  clear hA0 hval0 hsz0 hsz
  obtain ⟨tC1, tN1⟩ := tab1 hL
  obtain ⟨tC2, tN2⟩ := tab2 hL
  obtain ⟨k, hk⟩ := Pure.FnExactClean l0 hm0 (slice_wf Tryd.underlying22 Tryd.underlying5 h0 hr0)
  refine (laws_FnExactClean.calls k _ _ l0 (Go.Pinned.utf8FirstZ.map Int.ofNat) [⟨128, 191⟩, ⟨160, 191⟩, ⟨128, 159⟩, ⟨144, 191⟩, ⟨128, 143⟩, ⟨0, 0⟩, ⟨0, 0⟩, ⟨0, 0⟩, ⟨0, 0⟩, ⟨0, 0⟩, ⟨0, 0⟩, ⟨0, 0⟩, ⟨0, 0⟩, ⟨0, 0⟩, ⟨0, 0⟩, ⟨0, 0⟩] true W hr0 hc0 tC1 (Nat.le_refl _) tC2 (Nat.le_refl _) tN1 tN2 hk).mono fun e W' hp_ => ?_
  obtain ⟨rfl, hb_⟩ := hp_
  have bel : Below W.heap.size W W' := hb_
  exact ⟨_, rfl, _, _, _, [], _, q, hW', trodAll_mk1 (shut_bool Tryd.underlying4 _), (trodAll_cons_mk (Below.trod laidOut (by kernel_rfl) (of_decide_eq_true (by kernel_rfl)) k0 bel lt0) trodAll_mk0), bel.trodVars laidOut (by kernel_rfl) hV, bel.frame _, fun h => by cases h⟩
theorem over : Rows.fnExactCleanRow.holds Tryd.pinned (OpenSpec.ofChange Rows.fnExactCleanSpec) :=
  OpenClaim.holds_of_wide 3 Tryd.f3 rfl rfl rfl rfl rfl rfl rfl ⟨rfl, rfl, rfl, rfl, rfl⟩ rfl rfl rfl rfl rfl (by kernel_rfl) Tryd.func3 (by kernel_rfl)
    (of_decide_eq_true (by kernel_rfl)) (by unfold Func.isWrapper; first | (rw [if_pos (by decide +kernel)]; kernel_rfl) | (rw [if_neg (by decide +kernel)]; exact ⟨rfl, rfl⟩))
    (fun os started H enc _ => lifted os started H enc)
theorem proved : Rows.FnExactCleanSaid := over
theorem card : Rows.FnExactCleanCardSaid :=
  Claim7.holds_tied_plain_at .later [] [.data, .pinned] true (true, "a0f2103c5f4a0bc64353cb90476d8883aa8ce4507f5949dcd252285ae2daa14a") false proved (fun _ h => by cases h) (by kernel_rfl) (fun _ h => by cases h) fnExactClean_row_tie rfl ⟨rfl, rfl⟩ (by kernel_rfl) rfl
    (fun f fn hf hfn => by
      obtain rfl : f = 3 := Option.some.inj ((show Tryd.prog.funcNamed "loop.example/g00051/laws.FnExactClean" = some 3 by kernel_rfl).symm.trans hf) |>.symm
      obtain rfl : fn = Tryd.f3 := (Option.some.inj (Tryd.func3.symm.trans hfn)).symm
      exact ⟨by kernel_rfl, fun j t ht => by
        rw [Tryd.params3] at ht
        have hm : t ∈ [22] := by simpa using Array.mem_of_getElem? ht
        have hall : ([22].all fun u => !Tryd.prog.wantsStandIn u) = true := by kernel_rfl
        exact (show Tryd.prog.wantsStandIn t = false by simpa using List.all_eq_true.1 hall t hm)⟩)
    (by kernel_rfl)
end Go.Proofs.YtcdghhihfjojaaaDoor.fnExactClean
namespace Go.Proofs.YtcdghhihfjojaaaDoor
/-- The row, under a short name, for the claim. -/
theorem fnExactClean_holds : Rows.FnExactCleanCardSaid := fnExactClean.card
#print axioms fnExactClean_holds
end Go.Proofs.YtcdghhihfjojaaaDoor
