/- Plain Lean functions with the same answers as the Go functions of this seat, and a proof for each that the Go code comes to just these answers; no condition. Written by a program of this session (the kit's printer, turned). -/
import Derived.Test.YtcdghhihfjojaabDoorProg
import Derived.Below
import Derived.Deep.Draws
import Derived.Deep.AppendLies
import Derived.Maps.AppendAt
import Derived.OwnWalk
import Derived.Laws.BytesArg
import Derived.Laws.MakeOwn
import Derived.Laws.OwnMore
import Derived.Deep.OwnRows
import Derived.Tactics
import Derived.Lib.ConvBytes
import Derived.Laws.Slices
import Derived.WalkKit
import Derived.KernelRfl
import Derived.RowKit3
import Derived.Deep.LoopGhost
import Derived.Deep.QuietTactic
import Derived.BigQuiet
import Derived.WideLaws
import Derived.Deep.DeepCutAuto
import Derived.Deep.CutBlock
import Derived.Deep.RegionHeld3
import Derived.Laws.Rows
import Derived.Lib.AppendStr
import Derived.ArgAppend
import Derived.Laws.IdiomCopy
import Derived.OrdersHeld
import Derived.Laws.BitsLemmas
import Derived.RowKit
import Derived.Test.YtcdghhihfjojaabDoorFlt
import Derived.Test.YtcdghhihfjojaabDoorWWords
import Derived.Test.YtcdghhihfjojaabDoorWLast
import Derived.Test.YtcdghhihfjojaabDoorWTab
import Derived.Test.YtcdghhihfjojaabDoorWFour
import Derived.Test.YtcdghhihfjojaabDoorWQPut
import Derived.Test.YtcdghhihfjojaabDoorWApart
import Derived.Test.YtcdghhihfjojaabDoorWArr
import Derived.Test.YtcdghhihfjojaabDoorWZeros
import Derived.Test.YtcdghhihfjojaabDoorWFoot
import Derived.Test.YtcdghhihfjojaabDoorWKept
import Derived.Test.YtcdghhihfjojaabDoorWShare
import Derived.Test.YtcdghhihfjojaabDoorWN
import Derived.Test.YtcdghhihfjojaabDoorWFootNe
import Derived.Test.YtcdghhihfjojaabDoorWAt
import Derived.Test.YtcdghhihfjojaabDoorWEqStruct
import Derived.Test.YtcdghhihfjojaabDoorWRepsOne
import Derived.Test.YtcdghhihfjojaabDoorWInv
import Derived.Test.YtcdghhihfjojaabDoorWInvWords
import Derived.Test.YtcdghhihfjojaabDoorWGuard
import Derived.Test.YtcdghhihfjojaabDoorWNEv
import Derived.Test.YtcdghhihfjojaabDoorWMore
namespace Go.Proofs.YtcdghhihfjojaabDoor.Q
open Go.RowKit Go.Proofs.YtcdghhihfjojaabDoorW.PrintWords Go.Proofs.YtcdghhihfjojaabDoorW.PrintLast Go.Proofs.YtcdghhihfjojaabDoorW.PrintMore Go.Proofs.YtcdghhihfjojaabDoorW.PrintFlt
attribute [local go_sem] cmp_lss cmp_leq cmp_gtr cmp_geq cmp_eql cmp_neq flt_l flt_r fgt_l fgt_r feq_l feq_r fne_l fne_r ord_lt ord_gt ord_eq ord_ne conv_int conv_flt foi_fold run_store_flt
attribute [local go_sem] max2_int min2_int max_two min_two max_three min_three max_four min_four   -- for this text's walks alone
set_option linter.unusedVariables false
set_option linter.unusedSimpArgs false



def errW : Option Int → Value
 | none => .nilIface
 | some c => .iface 0 (.int .i64 c)
theorem errW_none : errW none = .nilIface := rfl
theorem errW_some (c : Int) : errW (some c) = .iface 0 (.int .i64 c) := rfl

theorem info2 : (Tryd.prog.info? 2).map (fun i => (i.zero, i.size, i.bytes)) = some (some (.int .i64 0), 1, 8) := by kernel_rfl
theorem info9 : (Tryd.prog.info? 9).map (fun i => (i.zero, i.size, i.bytes)) = some (some (.string ⟨#[]⟩), 1, 16) := by kernel_rfl
theorem C_box_ {α : Type} {d : Kd α} {w : World} {g : Nat} {t : TypeId} {cs : List Value} {x : α} (hb : w.heap[g]? = some (.cells cs.toArray t (0, 0))) (hk : d.K w x cs) : Kd.C d w (some ⟨g, 0, none⟩) [x].length [x] := ⟨rfl, Nat.le_trans (Nat.le_refl 1) (by decide), fun _ => ⟨_, rfl, fun j p hp => by
 have hj : j = 0 := by
  rcases j with _ | j
  ·rfl
  ·exact absurd hp (by simp)
 subst hj
 obtain rfl : x = p := Option.some.inj hp
 exact ⟨cs, d.K_len hk, hk, fun i u hu => by
  have h := blk_cell hb i
  have e : (Addr.add ⟨g, 0, none⟩ (0 * d.sz + i)) = ⟨g, i, none⟩ := by simp [Addr.add]; exact fun h => h.symm
  rw [e, h]
  simpa using hu⟩⟩⟩
theorem own_len_ (A : Option Addr) (n m c : Nat) : (Value.slice A n c).ownBlock = (Value.slice A m c).ownBlock := by cases A <;> rfl
theorem own_ne_len {A : Option Addr} {n m c k : Nat} (h : some k ≠ (Value.slice A n c).ownBlock) : some k ≠ (Value.slice A m c).ownBlock := by rwa [own_len_ A m n c]
theorem R_okl {α : Type} {d : Kd α} {e : Nat} {w : World} {base : Nat} {v : Value} {xs : List α} {A : Option Addr} {n m c : Nat} (h : Kd.R d e w base (fun k => some k ≠ (Value.slice A n c).ownBlock) v xs) : Kd.R d e w base (fun k => some k ≠ (Value.slice A m c).ownBlock) v xs := Kd.R_mono h (fun _ hk => own_ne_len hk)
-- the values' own types
def rd_L1 (xs : List (List ByteArray)) (i : Int) : (List ByteArray) := xs.getD i.toNat ([] : List ByteArray)
theorem at_L1 {w : World} {A : Option Addr} {n : Nat} {xs : List (List ByteArray)} (h : Kd.C (Kd.slice 9 Kd.string) w A n xs) (i : Int) (h0 : 0 ≤ i) (h1 : i < n) : ∃ ad A0 c0, A = some ad ∧ w.cell? (ad.add i.toNat) = some (.slice A0 (rd_L1 xs i).length c0) ∧ (rd_L1 xs i).length ≤ c0 ∧ Kd.string.C w A0 (rd_L1 xs i).length (rd_L1 xs i) := by
 obtain ⟨ad, c, e, _, hK, hc0⟩ := Kd.C_get h ([] : List ByteArray) i h0 h1
 have hc : ∀ j u, c[j]? = some u → w.cell? (ad.add (i.toNat * 1 + j)) = some u := hc0
 obtain ⟨A0, c0, rfl, l0, g0⟩ := hK
 exact ⟨ad, A0, c0, e, by have hq := hc 0 _ rfl; rwa [Nat.mul_one, Nat.add_zero] at hq, l0, g0⟩

end Go.Proofs.YtcdghhihfjojaabDoor.Q
