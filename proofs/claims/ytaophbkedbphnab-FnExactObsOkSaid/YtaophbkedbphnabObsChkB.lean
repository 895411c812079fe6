/- Tenths from 719.3 to 1499.9: ten times one is whole again, and its rounding is itself; each looked at. -/
import Derived.Test.YtaophbkedbphnabObsChkA
import Derived.Test.YtaophbkedbphnabQx20
set_option linter.unusedVariables false
set_option linter.unusedSimpArgs false
namespace Go.Proofs.Ytaophbkedbphnab.Pure
open Go.RowKit Go.Proofs.Ytaophbkedbphnab.Q Go.Proofs.Ytaophbkedbphnab.Gen Go.Proofs.YtaophbkedbphnabW.PrintWords Go.Proofs.YtaophbkedbphnabW.PrintMore Go.Proofs.YtaophbkedbphnabW.PrintFlt
theorem chk8 : allB chk 10 (7193) = true := by decide +kernel
theorem chk9 : allB chk 10 (8217) = true := by decide +kernel
theorem chk10 : allB chk 10 (9241) = true := by decide +kernel
theorem chk11 : allB chk 10 (10265) = true := by decide +kernel
theorem chk12 : allB chk 10 (11289) = true := by decide +kernel
theorem chk13 : allB chk 10 (12313) = true := by decide +kernel
theorem chk14 : allB chk 10 (13337) = true := by decide +kernel
theorem chk15 : allB chk 10 (14361) = true := by decide +kernel
theorem chk_get {n : Int} (h1 : -999 ≤ n) (h2 : n ≤ 14999) : chk n = true := by
  rcases Int.lt_or_le n (25) with c0 | c0
  · exact allB_get chk 10 (-999) chk0 n (by omega) (by omega)
  rcases Int.lt_or_le n (1049) with c1 | c1
  · exact allB_get chk 10 (25) chk1 n (by omega) (by omega)
  rcases Int.lt_or_le n (2073) with c2 | c2
  · exact allB_get chk 10 (1049) chk2 n (by omega) (by omega)
  rcases Int.lt_or_le n (3097) with c3 | c3
  · exact allB_get chk 10 (2073) chk3 n (by omega) (by omega)
  rcases Int.lt_or_le n (4121) with c4 | c4
  · exact allB_get chk 10 (3097) chk4 n (by omega) (by omega)
  rcases Int.lt_or_le n (5145) with c5 | c5
  · exact allB_get chk 10 (4121) chk5 n (by omega) (by omega)
  rcases Int.lt_or_le n (6169) with c6 | c6
  · exact allB_get chk 10 (5145) chk6 n (by omega) (by omega)
  rcases Int.lt_or_le n (7193) with c7 | c7
  · exact allB_get chk 10 (6169) chk7 n (by omega) (by omega)
  rcases Int.lt_or_le n (8217) with c8 | c8
  · exact allB_get chk 10 (7193) chk8 n (by omega) (by omega)
  rcases Int.lt_or_le n (9241) with c9 | c9
  · exact allB_get chk 10 (8217) chk9 n (by omega) (by omega)
  rcases Int.lt_or_le n (10265) with c10 | c10
  · exact allB_get chk 10 (9241) chk10 n (by omega) (by omega)
  rcases Int.lt_or_le n (11289) with c11 | c11
  · exact allB_get chk 10 (10265) chk11 n (by omega) (by omega)
  rcases Int.lt_or_le n (12313) with c12 | c12
  · exact allB_get chk 10 (11289) chk12 n (by omega) (by omega)
  rcases Int.lt_or_le n (13337) with c13 | c13
  · exact allB_get chk 10 (12313) chk13 n (by omega) (by omega)
  rcases Int.lt_or_le n (14361) with c14 | c14
  · exact allB_get chk 10 (13337) chk14 n (by omega) (by omega)
  exact allB_get chk 10 (14361) chk15 n (by omega) (by omega)
end Go.Proofs.Ytaophbkedbphnab.Pure
