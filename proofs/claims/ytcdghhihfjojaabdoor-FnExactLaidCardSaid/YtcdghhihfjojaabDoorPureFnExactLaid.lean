/- The plain statement of the law FnExactLaid: program and reference lay every sky over every other one alike; no condition. -/
import Derived.Test.YtcdghhihfjojaabDoorSkyL
import Derived.Test.YtcdghhihfjojaabDoorQx1
import Derived.Test.YtcdghhihfjojaabDoorQx15
import Derived.Test.YtcdghhihfjojaabDoorQx16
import Derived.Test.YtcdghhihfjojaabDoorQx8
set_option linter.unusedVariables false
set_option linter.unusedSimpArgs false
namespace Go.Proofs.YtcdghhihfjojaabDoor.Pure
open Go.RowKit Go.Proofs.YtcdghhihfjojaabDoor.Q Go.Proofs.YtcdghhihfjojaabDoor.Gen Go.Proofs.YtcdghhihfjojaabDoorW.PrintWords Go.Proofs.YtcdghhihfjojaabDoorW.PrintMore

theorem sz_some (d s v : Int) (w c : ByteArray) (b n : Int) : ∃ r, laws_szSky.f d s v w c b n = some r := by
  unfold laws_szSky.f
  split
  · exact ⟨_, rfl⟩
  · split <;> exact ⟨_, rfl⟩
theorem eq_self (p : Int × Int × Int × ByteArray × ByteArray × Int) : laws_eqSky.f p.1 p.2.1 p.2.2.1 p.2.2.2.1 p.2.2.2.2.1 p.2.2.2.2.2 p.1 p.2.1 p.2.2.1 p.2.2.2.1 p.2.2.2.2.1 p.2.2.2.2.2 = some true := by
  unfold laws_eqSky.f
  simp
theorem FnExactLaid : laws_FnExactLaid.Pure := by
  intro d s v w c b d' s' v' w' c' b'
  refine Ev.rounds ?_
  show Ev (fun k => laws_FnExactLaid.f k d s v w c b d' s' v' w' c' b' [WT] [CT]) true
  simp only [laws_FnExactLaid.f]
  obtain ⟨r1, e1⟩ := sz_some d s v w c b 1048576
  obtain ⟨r2, e2⟩ := sz_some d' s' v' w' c' b' r1
  rw [e1]
  refine Ev.bind (Ev.now _) ?_
  by_cases h1 : r1 < 0
  · exact evPos h1 (Ev.now _)
  refine evNeg h1 ?_
  rw [e2]
  refine Ev.bind (Ev.now _) ?_
  by_cases h2 : r2 < 0
  · exact evPos h2 (Ev.now _)
  refine evNeg h2 ?_
  have t1 : laws_toSky.f d s v w c b = some (d, s, v, w, c, b) := rfl
  have t2 : laws_toSky.f d' s' v' w' c' b' = some (d', s', v', w', c', b') := rfl
  rw [t1, t2]
  refine Ev.bind (Ev.now _) (Ev.bind (Ev.now _) (Ev.bind (laid_spec d s v w c b d' s' v' w' c' b') (Ev.bind (Ev.now _) (Ev.bind (Ev.now _) (Ev.bind (laid_impl d s v w c b d' s' v' w' c' b') ?_)))))
  rw [eq_self]
  exact Ev.bind (Ev.now _) (evPos rfl (Ev.now _))
end Go.Proofs.YtcdghhihfjojaabDoor.Pure
