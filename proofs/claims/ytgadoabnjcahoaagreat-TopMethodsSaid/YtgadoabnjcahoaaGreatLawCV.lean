/- Adjustments: the program answers as its reference, for all arguments; the examples hold. -/
import Derived.Test.YtgadoabnjcahoaaGreatLawBV
import Derived.Test.YtgadoabnjcahoaaGreatDefsBV
set_option exponentiation.threshold 2000
namespace Go.Ev
set_option linter.unusedVariables false
set_option linter.unusedSimpArgs false

noncomputable def adjS (t : GTerms) (c l : GWater) (g : GRat) (d : Int) : GRat × Int :=
  if (feeS t c g d).2 = 0 then (if (feeS t l g d).2 = 0 then subR (feeS t c g d).1 (feeS t l g d).1 else (zRat, (feeS t l g d).2)) else (zRat, (feeS t c g d).2)

theorem Adjust_ok {t : GTerms} {c l : GWater} {g : GRat} {d : Int} (ht : WFT t) (hc : WFW c) (hl : WFW l) (hg : WFR g) : g_equalisation_Adjust t c l g d = some (adjS t c l g d) := by
  unfold g_equalisation_Adjust adjS
  rw [Fee_ok ht hc hg, obind, zRat_eq, bne_dec, Fee_ok ht hl hg]
  have w1 := feeS_wf t c g d
  have w2 := feeS_wf t l g d
  generalize feeS t c g d = a at *
  generalize feeS t l g d = b at *
  by_cases h : a.2 = 0
  · rw [decide_eq_false (by omega), cF, if_pos h, obind, bne_dec]
    by_cases h2 : b.2 = 0
    · rw [decide_eq_false (by omega), cF, if_pos h2, subR_ok w1 w2, obind]
    · rw [decide_eq_true h2, cT, if_neg h2]
  · rw [decide_eq_true h, cT, if_neg h]

end Go.Ev

namespace Go.Ev
set_option linter.unusedVariables false
set_option linter.unusedSimpArgs false

theorem frac9 : fracR 2 0 9 = qR 9 365 := fracR_q (g := 1) (by omega) (by omega) (by omega) (by omega) (by omega) (by omega) (by omega) ⟨by omega, by decide, by omega, by omega⟩

/-- Without a hurdle the threshold is the mark. -/
theorem thr9 {m : Int} (hm : 0 < m) (hm2 : m ≤ 1000000) (g : Int) (hg : 0 < g) (hg2 : g ≤ 1000000) : thrS (qR 1 5, (qR 0 1, 2)) (qR m 1, 0) (qR g 1) 9 = (qR m 1, 0) := by
  have q9 : QV 9 365 := ⟨by omega, by decide, by omega, by omega⟩
  have q0 : QV 0 1 := qw (by omega)
  have qm : QV m 1 := qw (by omega)
  have q1 : QV 1 1 := qw (by omega)
  refine thrS_q (chkA_q (chkT_q (part_q q1_5 (by omega) (by omega)) (part_q q0 (by omega) (by omega)) (by omega) (by omega)) (chkW_q (above_q qm hm) (by omega) (by omega)) (above_q (qw (by omega)) hg) (by omega) (by omega) (by show (0 : Int) ≤ 9; omega)) frac9 ?_
  exact thr_q _ (mulR_q (g := 365) q0 q9 (by omega) (by omega) (by omega) q0) (addR_q (g := 1) q1 q0 (by omega) (by omega) (by omega) q1) (mulR_q (g := 1) qm q1 (by omega) (by omega) (by omega) qm)

theorem fee9 {m g x : Int} (hm : 0 < m) (hm2 : m ≤ 1000000) (hg : 0 < g) (hg2 : g ≤ 1000000) (hx : g - m = 5 * x) (hlt : m < g) : feeS (qR 1 5, (qR 0 1, 2)) (qR m 1, 0) (qR g 1) 9 = (qR x 1, 0) := by
  have qm : QV m 1 := qw (by omega)
  have qg : QV g 1 := qw (by omega)
  have qd : QV (g - m) 1 := qw (by omega)
  have qx : QV x 1 := qw (by omega)
  exact feeS_q (thr9 hm hm2 g hg hg2) (by rw [cmpR_q qm qg]; dsimp only; rw [cmpZ_lt]; omega) (subR_q (g := 1) qg qm (by omega) (by omega) (by omega) qd) (mulR_q (g := 5) q1_5 qd (by omega) (by omega) (by omega) qx)

theorem adj_q {t : GTerms} {c l : GWater} {g x : GRat} {d a b : Int} (h1 : feeS t c g d = (qR a 1, 0)) (h2 : feeS t l g d = (qR b 1, 0)) (h3 : subR (qR a 1) (qR b 1) = (x, 0)) : adjS t c l g d = (x, 0) := by
  unfold adjS
  rw [h1, h2]
  dsimp only
  rw [if_pos rfl, if_pos rfl, h3]

end Go.Ev
