/- Plain Lean functions with the same answers as the Go functions of this seat, and a proof for each that the Go code comes to just these answers; no condition. Written by a program of this session (the kit's printer, turned). -/
import Derived.Test.YteobnbichpadjaaProg
import Derived.Below
import Derived.Deep.Draws
import Derived.Deep.AppendLies
import Derived.Maps.AppendAt
import Derived.OwnWalk
import Derived.Laws.BytesArg
import Derived.Laws.MakeOwn
import Derived.Laws.OwnMore
import Derived.Deep.OwnRows
import Derived.Tactics
import Derived.Lib.ConvBytes
import Derived.Laws.Slices
import Derived.WalkKit
import Derived.KernelRfl
import Derived.RowKit3
import Derived.Deep.LoopGhost
import Derived.Deep.QuietTactic
import Derived.BigQuiet
import Derived.WideLaws
import Derived.Deep.DeepCutAuto
import Derived.Deep.CutBlock
import Derived.Deep.RegionHeld3
import Derived.Laws.Rows
import Derived.Lib.AppendStr
import Derived.ArgAppend
import Derived.Laws.IdiomCopy
import Derived.OrdersHeld
import Derived.Laws.BitsLemmas
import Derived.RowKit
import Derived.StillTailTactics
import Derived.Laws.EntriesVeiled
import Derived.Deep.QuietTactic
import Derived.BigQuiet
import Derived.Test.YteobnbichpadjaaFlt
import Derived.Test.YteobnbichpadjaaWWords
import Derived.Test.YteobnbichpadjaaWLast
import Derived.Test.YteobnbichpadjaaWTab
import Derived.Test.YteobnbichpadjaaWFour
import Derived.Test.YteobnbichpadjaaWQPut
import Derived.Test.YteobnbichpadjaaWApart
import Derived.Test.YteobnbichpadjaaWArr
import Derived.Test.YteobnbichpadjaaWZeros
import Derived.Test.YteobnbichpadjaaWFoot
import Derived.Test.YteobnbichpadjaaWKept
import Derived.Test.YteobnbichpadjaaWShare
import Derived.Test.YteobnbichpadjaaWN
import Derived.Test.YteobnbichpadjaaWFootNe
import Derived.Test.YteobnbichpadjaaWAt
import Derived.Test.YteobnbichpadjaaWEqStruct
import Derived.Test.YteobnbichpadjaaWRepsOne
import Derived.Test.YteobnbichpadjaaWInv
import Derived.Test.YteobnbichpadjaaWInvWords
import Derived.Test.YteobnbichpadjaaWGuard
import Derived.Test.YteobnbichpadjaaWNEv
import Derived.Test.YteobnbichpadjaaWMore
namespace Go.Proofs.Yteobnbichpadjaa.Q
open Go.RowKit Go.Proofs.YteobnbichpadjaaW.PrintWords Go.Proofs.YteobnbichpadjaaW.PrintLast Go.Proofs.YteobnbichpadjaaW.PrintMore Go.Proofs.YteobnbichpadjaaW.PrintFlt
attribute [local go_sem] cmp_lss cmp_leq cmp_gtr cmp_geq cmp_eql cmp_neq flt_l flt_r fgt_l fgt_r feq_l feq_r fne_l fne_r ord_lt ord_gt ord_eq ord_ne conv_int conv_flt foi_fold run_store_flt
attribute [local go_sem] max2_int min2_int max_two min_two max_three min_three max_four min_four   -- for this text's walks alone
set_option linter.unusedVariables false
set_option linter.unusedSimpArgs false



def errW : Option Int → Value
 | none => .nilIface
 | some c => .iface 0 (.int .i64 c)
theorem errW_none : errW none = .nilIface := rfl
theorem errW_some (c : Int) : errW (some c) = .iface 0 (.int .i64 c) := rfl

theorem info2 : (Try.prog.info? 2).map (fun i => (i.zero, i.size, i.bytes)) = some (some (.int .i64 0), 1, 8) := by kernel_rfl
theorem C_box_ {α : Type} {d : Kd α} {w : World} {g : Nat} {t : TypeId} {cs : List Value} {x : α} (hb : w.heap[g]? = some (.cells cs.toArray t (0, 0))) (hk : d.K w x cs) : Kd.C d w (some ⟨g, 0, none⟩) [x].length [x] := ⟨rfl, Nat.le_trans (Nat.le_refl 1) (by decide), fun _ => ⟨_, rfl, fun j p hp => by
 have hj : j = 0 := by
  rcases j with _ | j
  ·rfl
  ·exact absurd hp (by simp)
 subst hj
 obtain rfl : x = p := Option.some.inj hp
 exact ⟨cs, d.K_len hk, hk, fun i u hu => by
  have h := blk_cell hb i
  have e : (Addr.add ⟨g, 0, none⟩ (0 * d.sz + i)) = ⟨g, i, none⟩ := by simp [Addr.add]; exact fun h => h.symm
  rw [e, h]
  simpa using hu⟩⟩⟩
theorem own_len_ (A : Option Addr) (n m c : Nat) : (Value.slice A n c).ownBlock = (Value.slice A m c).ownBlock := by cases A <;> rfl
theorem own_ne_len {A : Option Addr} {n m c k : Nat} (h : some k ≠ (Value.slice A n c).ownBlock) : some k ≠ (Value.slice A m c).ownBlock := by rwa [own_len_ A m n c]
theorem R_okl {α : Type} {d : Kd α} {e : Nat} {w : World} {base : Nat} {v : Value} {xs : List α} {A : Option Addr} {n m c : Nat} (h : Kd.R d e w base (fun k => some k ≠ (Value.slice A n c).ownBlock) v xs) : Kd.R d e w base (fun k => some k ≠ (Value.slice A m c).ownBlock) v xs := Kd.R_mono h (fun _ hk => own_ne_len hk)
-- the values' own types

end Go.Proofs.Yteobnbichpadjaa.Q
