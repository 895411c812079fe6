/- The plain statement of the law FnExactAt: program and reference find the same cell of a grid, and tell the same value in it; no condition. -/
import Derived.Test.YtaophbkedbphnaaFltL
import Derived.Test.YtaophbkedbphnaaInAll
import Derived.Test.YtaophbkedbphnaaTAt
import Derived.Test.YtaophbkedbphnaaQx13
import Derived.Test.YtaophbkedbphnaaQx15
import Derived.Test.YtaophbkedbphnaaQx16
import Derived.Test.YtaophbkedbphnaaQx17
import Derived.Test.YtaophbkedbphnaaQx18
import Derived.Test.YtaophbkedbphnaaQx2
import Derived.Test.YtaophbkedbphnaaQx20
import Derived.Test.YtaophbkedbphnaaQx21
import Derived.Test.YtaophbkedbphnaaQx22
import Derived.Test.YtaophbkedbphnaaQx23
import Derived.Test.YtaophbkedbphnaaQx25
import Derived.Test.YtaophbkedbphnaaQx4
import Derived.Test.YtaophbkedbphnaaQx5
import Derived.Test.YtaophbkedbphnaaQx6
import Derived.Test.YtaophbkedbphnaaQx7
import Derived.Test.YtaophbkedbphnaaQx8
import Derived.Test.YtaophbkedbphnaaQx9
set_option linter.unusedVariables false
set_option linter.unusedSimpArgs false
namespace Go.Proofs.Ytaophbkedbphnaa.Pure
open Go.RowKit Go.Proofs.Ytaophbkedbphnaa.Q Go.Proofs.Ytaophbkedbphnaa.Gen Go.Proofs.YtaophbkedbphnaaW.PrintWords Go.Proofs.YtaophbkedbphnaaW.PrintMore Go.Proofs.YtaophbkedbphnaaW.PrintFlt

theorem known_spec (x : Nat) : spec_Known.f x = some (fin x) := by
  unfold spec_Known.f
  rw [known1]
theorem known_impl (x : Nat) : impl_Known.f x = some (fin x) := by
  unfold impl_Known.f impl_missing.f math_IsInf.f math_Abs.f
  rw [← known2 x, Option.bind_some, fne_self]
  by_cases h : isn x = true
  · simp [h]
  · simp [h]

theorem cell_loop (S lat : Int) (s R i : Nat) (hS : -18000 ≤ S) (hS2 : S ≤ 18000) (hs : s ≤ 3000) (hR : R ≤ 64) (hi : i + 2 ≤ R) (h1 : ∀ j, j < i → S + (((j + 1) * s : Nat) : Int) ≤ lat) (h2 : i + 2 < R → ¬ S + (((i + 1) * s : Nat) : Int) ≤ lat) :
    ∀ t j, j + t = i → Ev (fun k => spec_l11Cell.l0 k S (s : Int) (R : Int) lat (j : Int)) (i : Int) := by
  have hw : ∀ j, j + 2 ≤ R → wrap64 (S + wrap64 (((j + 1 : Nat) : Int) * (s : Int))) = S + (((j + 1) * s : Nat) : Int) := by
    intro j hj
    have hm : (j + 1) * s ≤ 64 * 3000 := Nat.mul_le_mul (by omega) hs
    have e : ((j + 1 : Nat) : Int) * (s : Int) = (((j + 1) * s : Nat) : Int) := (Int.natCast_mul _ _).symm
    rw [e]
    generalize (j + 1) * s = q at hm ⊢
    rw [w64 (x := (q : Int)) (by omega) (by omega), w64 (by omega) (by omega)]
  have hR2 : Aside0 (wrap64 ((R : Int) - 2) = (R : Int) - 2) := ⟨w64 (by omega) (by omega)⟩
  replace hw := Aside0.mk hw
  intro t
  induction t with
  | zero =>
    intro j hj
    obtain rfl : j = i := by omega
    refine Ev.step (fun k => spec_l11Cell.l0.eq_2 _ _ _ _ _ k) ?_
    rw [hR2.out]
    by_cases c : j + 2 < R
    · refine evPos (by omega) ?_
      rw [up1 (by omega), hw.out j hi]
      exact evNeg (h2 c) (Ev.now _)
    · exact evNeg (by omega) (Ev.now _)
  | succ t ih =>
    intro j hj
    refine Ev.step (fun k => spec_l11Cell.l0.eq_2 _ _ _ _ _ k) ?_
    rw [hR2.out]
    refine evPos (by omega) ?_
    rw [up1 (by omega), hw.out j (by omega)]
    exact evPos (h1 j (by omega)) (ih (j + 1) (by omega))

theorem mn_int (a b : Int) : mn a b = if b < a then b else a := rfl

theorem cell_both (S lat : Int) (s R : Nat) (hS : -18000 ≤ S) (hS2 : S ≤ 18000) (hs1 : 1 ≤ s) (hs : s ≤ 3000) (hR1 : 2 ≤ R) (hR : R ≤ 64) (h0 : S ≤ lat) (h3 : lat ≤ S + 200000) :
    ∃ i : Nat, i + 2 ≤ R ∧ Ev (fun k => spec_l11Cell.f k S (s : Int) (R : Int) lat) (i : Int) ∧ mn (wrap64 (Int.tdiv (wrap64 (lat - S)) (s : Int))) (wrap64 ((R : Int) - 2)) = (i : Int) := by
  obtain ⟨d, hd⟩ := Int.eq_ofNat_of_zero_le (show 0 ≤ lat - S by omega)
  have hdm := Nat.div_add_mod d s
  have hml := Nat.mod_lt d (show 0 < s by omega)
  have hq : d / s ≤ d := Nat.div_le_self _ _
  obtain ⟨q, hqq⟩ : ∃ q, q = d / s := ⟨_, rfl⟩
  rw [← hqq] at hdm hq
  have hdn : wrap64 (Int.tdiv (wrap64 (lat - S)) (s : Int)) = (q : Int) := by
    have e : Int.tdiv (d : Int) (s : Int) = (q : Int) := by rw [hqq]; rfl
    rw [hd, w64 (x := (d : Int)) (by omega) (by omega), e]
    clear e hqq
    exact w64 (by omega) (by omega)
  replace hdn := Aside0.mk hdn
  have hR2 : Aside0 (wrap64 ((R : Int) - 2) = ((R - 2 : Nat) : Int)) := ⟨by rw [w64 (by omega) (by omega)]; omega⟩
  have up : ∀ a b : Nat, a ≤ b → a * s ≤ b * s := fun a b h => Nat.mul_le_mul_right _ h
  clear hqq
  rw [Nat.mul_comm] at hdm
  refine ⟨min q (R - 2), by omega, ?_, ?_⟩
  · simp only [spec_l11Cell.f]
    refine cell_loop S lat s R (min q (R - 2)) hS hS2 hs hR (by omega) ?_ ?_ (min q (R - 2)) 0 (by omega)
    · intro j hj
      have := up (j + 1) q (by omega)
      omega
    · intro h
      have e : min q (R - 2) = q := by omega
      rw [e, Nat.succ_mul]
      omega
  · rw [hdn.out, hR2.out, mn_int]
    clear hdn hR2
    split <;> omega

theorem prod_lt {i j R C n : Nat} (hi : i + 2 ≤ R) (hj : j + 2 ≤ C) (hn : n = R * C) : i * C + C + j + 1 < n := by
  have h := Nat.mul_le_mul_right C hi
  rw [Nat.add_mul] at h
  omega
theorem at_read (l : List Nat) (i j R C : Nat) (S W s : Int) (hR : R ≤ 64) (hC : C ≤ 64) (hi : i < R) (hj : j < C) (hn : l.length = R * C) (z : Int) :
    impl_At_1.f (i : Int) (j : Int) [l] [(⟨z, (C : Int), S, W, s⟩ : S43)] = some (rd_F l ((i * C + j : Nat) : Int)) := by
  have h := Nat.mul_le_mul_right C (show i + 1 ≤ R by omega)
  rw [Nat.add_mul] at h
  have hb : R * C ≤ 64 * 64 := Nat.mul_le_mul hR hC
  have e : (i : Int) * (C : Int) = ((i * C : Nat) : Int) := (Int.natCast_mul _ _).symm
  have r0 : rd_L1 [l] 0 = l := rfl
  have r1 : rd_T43 [(⟨z, (C : Int), S, W, s⟩ : S43)] 0 = ⟨z, (C : Int), S, W, s⟩ := rfl
  simp only [impl_At_1.f, r0, r1, e]
  generalize i * C = p at h ⊢
  rw [w64 (x := (p : Int)) (by omega) (by omega), w64 (by omega) (by omega)]
  have e2 : (p : Int) + (j : Int) = ((p + j : Nat) : Int) := by omega
  rw [e2, if_pos (by simp), if_pos (by simp), if_pos (by omega), if_pos (by omega)]

theorem at_both (R C S W s : Int) (l : List Nat) (lat lon : Int) (hl : l.length ≤ 1048576) : ∃ r : Nat, Ev (fun k => spec_At.f k R C S W s l lat lon) r ∧ Ev (fun k => impl_At.f k R C S W s l lat lon) r := by
  have noS : Ev (fun k => spec_At.j0 k l lat lon true R C S W s) qnan := Ev.step (fun k => spec_At.j0.eq_2 _ _ _ _ _ _ _ _ _ k) (evPos rfl (by rw [show spec_l1None.f = some qnan by decide +kernel]; exact Ev.now _))
  have noI : Ev (fun k => impl_At.j0 k lat lon true R C S W s l) qnan := Ev.step (fun k => impl_At.j0.eq_2 _ _ _ _ _ _ _ _ _ k) (evPos rfl (by rw [show impl_nan.f = some qnan from rfl]; exact Ev.now _))
  have hg : impl_GridOk.f R C S W s = spec_GridOk.f R C S W s := by
    simp only [impl_GridOk.f, spec_GridOk.f, l2In_s, in_s]
  simp only [spec_At.f, impl_At.f, spec_l11Right.f, impl_fits.f, l2In_s, in_s, hg]
  obtain ⟨g, hgo, hgt⟩ : ∃ g : Bool, spec_GridOk.f R C S W s = some g ∧ (g = true → 2 ≤ R ∧ R ≤ 64 ∧ 2 ≤ C ∧ C ≤ 64 ∧ 1 ≤ s ∧ s ≤ 3000 ∧ -9000 ≤ S ∧ S ≤ 9000 ∧ -18000 ≤ W ∧ W ≤ 18000) := by
    simp only [spec_GridOk.f, l2In_s, Option.bind_some]
    by_cases c1 : inS R 2 64 = true
    · rw [if_pos c1]
      by_cases c2 : inS C 2 64 = true
      · rw [if_pos c2]
        by_cases c3 : inS s 1 3000 = true
        · rw [if_pos c3]
          by_cases c4 : inS S (-9000) 9000 = true
          · rw [if_pos c4]
            split
            · refine ⟨_, rfl, fun h => ?_⟩
              rw [inS_iff] at c1 c2 c3 c4 h
              omega
            · exact ⟨_, rfl, fun h => by cases h⟩
          · rw [if_neg c4]; exact ⟨_, rfl, fun h => by cases h⟩
        · rw [if_neg c3]; exact ⟨_, rfl, fun h => by cases h⟩
      · rw [if_neg c2]; exact ⟨_, rfl, fun h => by cases h⟩
    · rw [if_neg c1]; exact ⟨_, rfl, fun h => by cases h⟩
  simp only [hgo, Option.bind_some]
  cases g with
  | false =>
    refine ⟨qnan, ?_, ?_⟩
    · simpa using noS
    · simpa using noI
  | true =>
    obtain ⟨r1, r2, c1, c2, s1, s2, S1, S2, W1, W2⟩ := hgt rfl
    obtain ⟨Rn, rfl⟩ := Int.eq_ofNat_of_zero_le (show 0 ≤ R by omega)
    obtain ⟨Cn, rfl⟩ := Int.eq_ofNat_of_zero_le (show 0 ≤ C by omega)
    obtain ⟨sn, rfl⟩ := Int.eq_ofNat_of_zero_le (show 0 ≤ s by omega)
    have hRC : Rn * Cn ≤ 64 * 64 := Nat.mul_le_mul (by omega) (by omega)
    have eRC : (Rn : Int) * (Cn : Int) = ((Rn * Cn : Nat) : Int) := (Int.natCast_mul _ _).symm
    have m1 : (Rn - 1) * sn ≤ 63 * 3000 := Nat.mul_le_mul (by omega) (by omega)
    have m2 : (Cn - 1) * sn ≤ 63 * 3000 := Nat.mul_le_mul (by omega) (by omega)
    have e1 : Aside0 (wrap64 (wrap64 ((Rn : Int) - 1) * (sn : Int)) = (((Rn - 1) * sn : Nat) : Int)) := ⟨by
      rw [w64 (x := (Rn : Int) - 1) (by omega) (by omega), show (Rn : Int) - 1 = ((Rn - 1 : Nat) : Int) by omega, ← Int.natCast_mul, w64 (by omega) (by omega)]⟩
    have e2 : Aside0 (wrap64 (wrap64 ((Cn : Int) - 1) * (sn : Int)) = (((Cn - 1) * sn : Nat) : Int)) := ⟨by
      rw [w64 (x := (Cn : Int) - 1) (by omega) (by omega), show (Cn : Int) - 1 = ((Cn - 1 : Nat) : Int) by omega, ← Int.natCast_mul, w64 (by omega) (by omega)]⟩
    rw [e1.out, e2.out, w64 (x := S + (((Rn - 1) * sn : Nat) : Int)) (by omega) (by omega), w64 (x := W + (((Cn - 1) * sn : Nat) : Int)) (by omega) (by omega), eRC, w64 (x := ((Rn * Cn : Nat) : Int)) (by omega) (by omega)]
    simp only [if_true, Option.bind_some]
    by_cases hn : l.length = Rn * Cn
    rotate_left
    · have hq : ((l.length : Int) == ((Rn * Cn : Nat) : Int)) = false := by rw [beq_eq_false_iff_ne]; omega
      refine ⟨qnan, ?_, ?_⟩
      · rw [hq]; exact evNeg (by decide) noS
      · rw [hq]; exact evNeg (by decide) noI
    have hq : ((l.length : Int) == ((Rn * Cn : Nat) : Int)) = true := by rw [beq_iff_eq]; omega
    rw [hq]
    by_cases a1 : inS lat S (S + (((Rn - 1) * sn : Nat) : Int)) = true
    rotate_left
    · rw [Bool.not_eq_true] at a1
      refine ⟨qnan, ?_, ?_⟩
      · rw [a1]; exact evPos rfl (evNeg (by decide) noS)
      · rw [a1]; exact evPos rfl (evNeg (by decide) noI)
    by_cases a2 : inS lon W (W + (((Cn - 1) * sn : Nat) : Int)) = true
    rotate_left
    · rw [Bool.not_eq_true] at a2
      refine ⟨qnan, ?_, ?_⟩
      · rw [a1, a2]; exact evPos rfl (evPos rfl noS)
      · rw [a1, a2]; exact evPos rfl (evPos rfl noI)
    rw [a1, a2]
    have b1 := (inS_iff _ _ _).1 a1
    have b2 := (inS_iff _ _ _).1 a2
    obtain ⟨i, hi, is_, ii⟩ := cell_both S lat sn Rn (by omega) (by omega) (by omega) (by omega) (by omega) (by omega) (by omega) (by omega)
    obtain ⟨j, hj, js, ji⟩ := cell_both W lon sn Cn (by omega) (by omega) (by omega) (by omega) (by omega) (by omega) (by omega) (by omega)
    replace is_ := Aside0.mk is_
    replace js := Aside0.mk js
    replace ii := Aside0.mk ii
    replace ji := Aside0.mk ji
    clear e1 e2 hgt hgo
    have hp := prod_lt hi hj hn
    have A : ∀ (a b : Nat), a < Rn → b < Cn → impl_At_1.f (a : Int) (b : Int) [l] [(⟨(Rn : Int), (Cn : Int), S, W, (sn : Int)⟩ : S43)] = some (rd_F l ((a * Cn + b : Nat) : Int)) := fun a b ha hb => at_read l a b Rn Cn S W sn (by omega) (by omega) ha hb hn _
    have k00 : wrap64 (wrap64 ((i : Int) * (Cn : Int)) + (j : Int)) = ((i * Cn + j : Nat) : Int) := by
      rw [← Int.natCast_mul]
      generalize i * Cn = p at hp ⊢
      rw [w64 (x := (p : Int)) (by omega) (by omega), w64 (by omega) (by omega)]; omega
    have x01 : i * Cn + (j + 1) = i * Cn + j + 1 := by omega
    have x10 : (i + 1) * Cn + j = i * Cn + j + Cn := by rw [Nat.succ_mul]; omega
    have x11 : (i + 1) * Cn + (j + 1) = i * Cn + j + Cn + 1 := by rw [Nat.succ_mul]; omega
    generalize hp0 : i * Cn + j = p at k00 x01 x10 x11
    replace k00 := Aside0.mk k00
    have k01 : Aside0 (wrap64 ((p : Int) + 1) = ((p + 1 : Nat) : Int)) := ⟨up1 (by omega)⟩
    have k10 : Aside0 (wrap64 ((p : Int) + (Cn : Int)) = ((p + Cn : Nat) : Int)) := ⟨by rw [w64 (by omega) (by omega)]; omega⟩
    have k11 : Aside0 (wrap64 (((p + Cn : Nat) : Int) + 1) = ((p + Cn + 1 : Nat) : Int)) := ⟨up1 (by omega)⟩
    have ui : Aside0 (wrap64 ((i : Int) + 1) = ((i + 1 : Nat) : Int)) := ⟨up1 (by omega)⟩
    have uj : Aside0 (wrap64 ((j : Int) + 1) = ((j + 1 : Nat) : Int)) := ⟨up1 (by omega)⟩
    have A00 := A i j (by omega) (by omega)
    have A01 := A i (j + 1) (by omega) (by omega)
    have A10 := A (i + 1) j (by omega) (by omega)
    have A11 := A (i + 1) (j + 1) (by omega) (by omega)
    rw [hp0] at A00
    rw [x01] at A01
    rw [x10] at A10
    rw [x11] at A11
    have hp' : p + Cn + 1 < l.length := by omega
    have tail : ∀ b : Bool, ∀ dy dx : Int, ∃ r : Nat, Ev (fun k => spec_At.j1 k l dy dx (p : Int) (rd_F l (p : Int)) (rd_F l ((p + 1 : Nat) : Int)) (rd_F l ((p + Cn : Nat) : Int)) (rd_F l ((p + Cn + 1 : Nat) : Int)) b (Rn : Int) (Cn : Int) S W (sn : Int)) r ∧ Ev (fun k => impl_At.j1 k (i : Int) (j : Int) (rd_F l (p : Int)) (rd_F l ((p + 1 : Nat) : Int)) (rd_F l ((p + Cn : Nat) : Int)) (rd_F l ((p + Cn + 1 : Nat) : Int)) dy dx b (Rn : Int) (Cn : Int) S W (sn : Int) l) r := by
      intro b dy dx
      cases b with
      | true => exact ⟨_, Ev.step (fun k => spec_At.j1.eq_2 _ _ _ _ _ _ _ _ _ _ _ _ _ _ k) (evPos rfl (Ev.now _)), Ev.step (fun k => impl_At.j1.eq_2 _ _ _ _ _ _ _ _ _ _ _ _ _ _ _ k) (evPos rfl (Ev.now _))⟩
      | false =>
        have sj : ∀ r, Ev (fun k => if (wrap64 (2 * dy)) > (sn : Int) then (if (wrap64 (2 * dx)) > (sn : Int) then some (rd_F l ((p + Cn + 1 : Nat) : Int)) else some (rd_F l ((p + Cn : Nat) : Int))) else (if (wrap64 (2 * dx)) > (sn : Int) then some (rd_F l ((p + 1 : Nat) : Int)) else some (rd_F l (p : Int)))) r → Ev (fun k => spec_At.j1 k l dy dx (p : Int) (rd_F l (p : Int)) (rd_F l ((p + 1 : Nat) : Int)) (rd_F l ((p + Cn : Nat) : Int)) (rd_F l ((p + Cn + 1 : Nat) : Int)) false (Rn : Int) (Cn : Int) S W (sn : Int)) r := by
          intro r h
          refine Ev.step (fun k => spec_At.j1.eq_2 _ _ _ _ _ _ _ _ _ _ _ _ _ _ k) (evNeg (by decide) ?_)
          rw [k10.out, k11.out, k01.out]
          simpa only [if_pos (show (0 : Int) ≤ ((p + Cn + 1 : Nat) : Int) by omega), if_pos (show (0 : Int) ≤ ((p + Cn : Nat) : Int) by omega), if_pos (show (0 : Int) ≤ ((p + 1 : Nat) : Int) by omega), if_pos (show (0 : Int) ≤ (p : Int) by omega), if_pos (show ((p + Cn + 1 : Nat) : Int) < (l.length : Int) by omega), if_pos (show ((p + Cn : Nat) : Int) < (l.length : Int) by omega), if_pos (show ((p + 1 : Nat) : Int) < (l.length : Int) by omega), if_pos (show (p : Int) < (l.length : Int) by omega)] using h
        have ij : ∀ r, Ev (fun k => if (wrap64 (2 * dy)) > (sn : Int) then (if (wrap64 (2 * dx)) > (sn : Int) then some (rd_F l ((p + Cn + 1 : Nat) : Int)) else some (rd_F l ((p + Cn : Nat) : Int))) else (if (wrap64 (2 * dx)) > (sn : Int) then some (rd_F l ((p + 1 : Nat) : Int)) else some (rd_F l (p : Int)))) r → Ev (fun k => impl_At.j1 k (i : Int) (j : Int) (rd_F l (p : Int)) (rd_F l ((p + 1 : Nat) : Int)) (rd_F l ((p + Cn : Nat) : Int)) (rd_F l ((p + Cn + 1 : Nat) : Int)) dy dx false (Rn : Int) (Cn : Int) S W (sn : Int) l) r := by
          intro r h
          refine Ev.step (fun k => impl_At.j1.eq_2 _ _ _ _ _ _ _ _ _ _ _ _ _ _ _ k) (evNeg (by decide) ?_)
          rw [ui.out, uj.out]
          simpa only [A00, A01, A10, A11, Option.bind_some] using h
        by_cases y1 : (wrap64 (2 * dy)) > (sn : Int)
        · by_cases y2 : (wrap64 (2 * dx)) > (sn : Int)
          · exact ⟨_, sj _ (evPos y1 (evPos y2 (Ev.now _))), ij _ (evPos y1 (evPos y2 (Ev.now _)))⟩
          · exact ⟨_, sj _ (evPos y1 (evNeg y2 (Ev.now _))), ij _ (evPos y1 (evNeg y2 (Ev.now _)))⟩
        · by_cases y2 : (wrap64 (2 * dx)) > (sn : Int)
          · exact ⟨_, sj _ (evNeg y1 (evPos y2 (Ev.now _))), ij _ (evNeg y1 (evPos y2 (Ev.now _)))⟩
          · exact ⟨_, sj _ (evNeg y1 (evNeg y2 (Ev.now _))), ij _ (evNeg y1 (evNeg y2 (Ev.now _)))⟩
    have SO : ∀ r, Ev (fun k => if fin (rd_F l (p : Int)) = true then (if fin (rd_F l ((p + 1 : Nat) : Int)) = true then (if fin (rd_F l ((p + Cn : Nat) : Int)) = true then spec_At.j1 k l (wrap64 ((wrap64 (lat - S)) - (wrap64 ((i : Int) * (sn : Int))))) (wrap64 ((wrap64 (lon - W)) - (wrap64 ((j : Int) * (sn : Int))))) (p : Int) (rd_F l (p : Int)) (rd_F l ((p + 1 : Nat) : Int)) (rd_F l ((p + Cn : Nat) : Int)) (rd_F l ((p + Cn + 1 : Nat) : Int)) (fin (rd_F l ((p + Cn + 1 : Nat) : Int))) (Rn : Int) (Cn : Int) S W (sn : Int) else spec_At.j1 k l (wrap64 ((wrap64 (lat - S)) - (wrap64 ((i : Int) * (sn : Int))))) (wrap64 ((wrap64 (lon - W)) - (wrap64 ((j : Int) * (sn : Int))))) (p : Int) (rd_F l (p : Int)) (rd_F l ((p + 1 : Nat) : Int)) (rd_F l ((p + Cn : Nat) : Int)) (rd_F l ((p + Cn + 1 : Nat) : Int)) false (Rn : Int) (Cn : Int) S W (sn : Int)) else spec_At.j1 k l (wrap64 ((wrap64 (lat - S)) - (wrap64 ((i : Int) * (sn : Int))))) (wrap64 ((wrap64 (lon - W)) - (wrap64 ((j : Int) * (sn : Int))))) (p : Int) (rd_F l (p : Int)) (rd_F l ((p + 1 : Nat) : Int)) (rd_F l ((p + Cn : Nat) : Int)) (rd_F l ((p + Cn + 1 : Nat) : Int)) false (Rn : Int) (Cn : Int) S W (sn : Int)) else spec_At.j1 k l (wrap64 ((wrap64 (lat - S)) - (wrap64 ((i : Int) * (sn : Int))))) (wrap64 ((wrap64 (lon - W)) - (wrap64 ((j : Int) * (sn : Int))))) (p : Int) (rd_F l (p : Int)) (rd_F l ((p + 1 : Nat) : Int)) (rd_F l ((p + Cn : Nat) : Int)) (rd_F l ((p + Cn + 1 : Nat) : Int)) false (Rn : Int) (Cn : Int) S W (sn : Int)) r → Ev (fun k => spec_At.j0 k l lat lon (!true) (Rn : Int) (Cn : Int) S W (sn : Int)) r := by
      intro r h
      refine Ev.step (fun k => spec_At.j0.eq_2 _ _ _ _ _ _ _ _ _ k) (evNeg (by decide) (Ev.bind is_.out (Ev.bind js.out ?_)))
      rw [k00.out, k10.out, k11.out, k01.out]
      simp only [if_pos (show (0 : Int) ≤ ((p + Cn + 1 : Nat) : Int) by omega), if_pos (show (0 : Int) ≤ ((p + Cn : Nat) : Int) by omega), if_pos (show (0 : Int) ≤ ((p + 1 : Nat) : Int) by omega), if_pos (show (0 : Int) ≤ (p : Int) by omega), if_pos (show ((p + Cn + 1 : Nat) : Int) < (l.length : Int) by omega), if_pos (show ((p + Cn : Nat) : Int) < (l.length : Int) by omega), if_pos (show ((p + 1 : Nat) : Int) < (l.length : Int) by omega), if_pos (show (p : Int) < (l.length : Int) by omega), known_spec, Option.bind_some]
      exact h
    have IO : ∀ r, Ev (fun k => if fin (rd_F l (p : Int)) = true then (if fin (rd_F l ((p + 1 : Nat) : Int)) = true then (if fin (rd_F l ((p + Cn : Nat) : Int)) = true then impl_At.j1 k (i : Int) (j : Int) (rd_F l (p : Int)) (rd_F l ((p + 1 : Nat) : Int)) (rd_F l ((p + Cn : Nat) : Int)) (rd_F l ((p + Cn + 1 : Nat) : Int)) (wrap64 ((wrap64 (lat - S)) - (wrap64 ((i : Int) * (sn : Int))))) (wrap64 ((wrap64 (lon - W)) - (wrap64 ((j : Int) * (sn : Int))))) (fin (rd_F l ((p + Cn + 1 : Nat) : Int))) (Rn : Int) (Cn : Int) S W (sn : Int) l else impl_At.j1 k (i : Int) (j : Int) (rd_F l (p : Int)) (rd_F l ((p + 1 : Nat) : Int)) (rd_F l ((p + Cn : Nat) : Int)) (rd_F l ((p + Cn + 1 : Nat) : Int)) (wrap64 ((wrap64 (lat - S)) - (wrap64 ((i : Int) * (sn : Int))))) (wrap64 ((wrap64 (lon - W)) - (wrap64 ((j : Int) * (sn : Int))))) false (Rn : Int) (Cn : Int) S W (sn : Int) l) else impl_At.j1 k (i : Int) (j : Int) (rd_F l (p : Int)) (rd_F l ((p + 1 : Nat) : Int)) (rd_F l ((p + Cn : Nat) : Int)) (rd_F l ((p + Cn + 1 : Nat) : Int)) (wrap64 ((wrap64 (lat - S)) - (wrap64 ((i : Int) * (sn : Int))))) (wrap64 ((wrap64 (lon - W)) - (wrap64 ((j : Int) * (sn : Int))))) false (Rn : Int) (Cn : Int) S W (sn : Int) l) else impl_At.j1 k (i : Int) (j : Int) (rd_F l (p : Int)) (rd_F l ((p + 1 : Nat) : Int)) (rd_F l ((p + Cn : Nat) : Int)) (rd_F l ((p + Cn + 1 : Nat) : Int)) (wrap64 ((wrap64 (lat - S)) - (wrap64 ((i : Int) * (sn : Int))))) (wrap64 ((wrap64 (lon - W)) - (wrap64 ((j : Int) * (sn : Int))))) false (Rn : Int) (Cn : Int) S W (sn : Int) l) r → Ev (fun k => impl_At.j0 k lat lon (!true) (Rn : Int) (Cn : Int) S W (sn : Int) l) r := by
      intro r h
      refine Ev.step (fun k => impl_At.j0.eq_2 _ _ _ _ _ _ _ _ _ k) (evNeg (by decide) (evNeg (by omega) ?_))
      rw [ii.out, ji.out, ui.out, uj.out]
      simp only [A00, A01, A10, A11, known_impl, Option.bind_some]
      exact h
    by_cases f0 : fin (rd_F l (p : Int)) = true
    · by_cases f1 : fin (rd_F l ((p + 1 : Nat) : Int)) = true
      · by_cases f2 : fin (rd_F l ((p + Cn : Nat) : Int)) = true
        · obtain ⟨r, hs, hi⟩ := tail (fin (rd_F l ((p + Cn + 1 : Nat) : Int))) _ _
          exact ⟨r, evPos rfl (evPos rfl (SO r (evPos f0 (evPos f1 (evPos f2 hs))))), evPos rfl (evPos rfl (IO r (evPos f0 (evPos f1 (evPos f2 hi)))))⟩
        · obtain ⟨r, hs, hi⟩ := tail false _ _
          exact ⟨r, evPos rfl (evPos rfl (SO r (evPos f0 (evPos f1 (evNeg f2 hs))))), evPos rfl (evPos rfl (IO r (evPos f0 (evPos f1 (evNeg f2 hi)))))⟩
      · obtain ⟨r, hs, hi⟩ := tail false _ _
        exact ⟨r, evPos rfl (evPos rfl (SO r (evPos f0 (evNeg f1 hs)))), evPos rfl (evPos rfl (IO r (evPos f0 (evNeg f1 hi))))⟩
    · obtain ⟨r, hs, hi⟩ := tail false _ _
      exact ⟨r, evPos rfl (evPos rfl (SO r (evNeg f0 hs))), evPos rfl (evPos rfl (IO r (evNeg f0 hi)))⟩

theorem FnExactAt : laws_FnExactAt.Pure := by
  intro R C S W s l lat lon _ _ _
  refine Ev.rounds ?_
  simp only [laws_FnExactAt.f, laws_toGrid.f, Option.bind_some]
  by_cases hl : l.length ≤ 1048576
  rotate_left
  · exact evPos (by omega) (Ev.now _)
  obtain ⟨r, hs, hi⟩ := at_both R C S W s l lat lon hl
  refine evNeg (by omega) ?_
  refine Ev.bind (toFloat64S_ev _ (by omega)) ?_
  refine Ev.bind hs ?_
  refine Ev.bind (toFloat64S_ev _ (by omega)) ?_
  refine Ev.bind hi ?_
  refine Ev.bind (sameFloat_ev _) ?_
  refine evPos rfl ?_
  refine Ev.bind (toFloat64S_ev _ (by omega)) ?_
  refine Ev.bind (eqFloat64S_ev _ (by omega)) ?_
  exact evPos rfl (Ev.now _)
end Go.Proofs.Ytaophbkedbphnaa.Pure
