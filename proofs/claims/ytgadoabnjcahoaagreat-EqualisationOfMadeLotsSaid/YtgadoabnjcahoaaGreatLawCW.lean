/- Adjustments: the program answers as its reference, for all arguments; the examples hold. -/
import Derived.Test.YtgadoabnjcahoaaGreatLawBW
import Derived.Test.YtgadoabnjcahoaaGreatDefsBW
set_option exponentiation.threshold 2000
namespace Go.Ev
set_option linter.unusedVariables false
set_option linter.unusedSimpArgs false

noncomputable def adjS (t : GTerms) (c l : GWater) (g : GRat) (d : Int) : GRat × Int :=
  if (feeS t c g d).2 = 0 then (if (feeS t l g d).2 = 0 then subR (feeS t c g d).1 (feeS t l g d).1 else (zRat, (feeS t l g d).2)) else (zRat, (feeS t c g d).2)

theorem Adjust_ok {t : GTerms} {c l : GWater} {g : GRat} {d : Int} (ht : WFT t) (hc : WFW c) (hl : WFW l) (hg : WFR g) : g_equalisation_Adjust t c l g d = some (adjS t c l g d) := by
  unfold g_equalisation_Adjust adjS
  rw [Fee_ok ht hc hg, obind, zRat_eq, bne_dec, Fee_ok ht hl hg]
  have w1 := feeS_wf t c g d
  have w2 := feeS_wf t l g d
  generalize feeS t c g d = a at *
  generalize feeS t l g d = b at *
  by_cases h : a.2 = 0
  · rw [decide_eq_false (by omega), cF, if_pos h, obind, bne_dec]
    by_cases h2 : b.2 = 0
    · rw [decide_eq_false (by omega), cF, if_pos h2, subR_ok w1 w2, obind]
    · rw [decide_eq_true h2, cT, if_neg h2]
  · rw [decide_eq_true h, cT, if_neg h]

theorem refAdjust_ok {t : GTerms} {c l : GWater} {g : GRat} {d : Int} (ht : WFT t) (hc : WFW c) (hl : WFW l) (hg : WFR g) : g_ref32_Adjust t c l g d = some (adjS t c l g d) := by
  unfold g_ref32_Adjust adjS g_exact_Of
  rw [refFee_ok ht hc hg, obind, zRat_eq, bne_dec, refFee_ok ht hl hg]
  have w1 := feeS_wf t c g d
  have w2 := feeS_wf t l g d
  generalize feeS t c g d = a at *
  generalize feeS t l g d = b at *
  by_cases h : a.2 = 0
  · rw [decide_eq_false (by omega), cF, if_pos h, obind, bne_dec]
    by_cases h2 : b.2 = 0
    · rw [decide_eq_false (by omega), cF, if_pos h2, obind, obind, exactSub_ok (a := (a.1, 0)) (b := (b.1, 0)) w1 w2, obind, step2_ok]
    · rw [decide_eq_true h2, cT, if_neg h2]
  · rw [decide_eq_true h, cT, if_neg h]

theorem adjusts_law {t : GTerms} {c l : GWater} {g : GRat} {d : Int} (ht : WFT t) (hc : WFW c) (hl : WFW l) (hg : WFR g) (ha : g_law32_awake = some true) : g_law32_EqualisationAdjusts t c l g d = some true := by
  unfold g_law32_EqualisationAdjusts
  rw [Adjust_ok ht hc hl hg, obind, refAdjust_ok ht hc hl hg, obind]
  generalize adjS t c l g d = a
  simp only [eqB, beq_dec, decide_true, cT]
  rw [ha, obind]

end Go.Ev

namespace Go.Ev
set_option linter.unusedVariables false
set_option linter.unusedSimpArgs false

theorem power0 : g_decimal_power 0 = some 1 := by
  have h : loopD (g_decimal_power_L3 0) ((1, 0), ()) = some (0, ((1, 0), ())) := loopD_some (n := 1) (by rfl)
  unfold g_decimal_power
  rw [h, obind]

/-- Rounding down to whole numbers. -/
theorem floor_q {n d : Int} (h : QV n d) : g_decimal_Round (qR n d) 0 3 = some (zI (n / d), 0) := by
  have hp := h.pos
  have hm : ((n * 1).natAbs : Int) < MX := by have := h.bn; have := MX_big; omega
  have hw := qR_wf n d
  unfold g_decimal_Round g_decimal_check
  rw [valid_ok hw, obind, decide_eq_true h.valid, nT, cF]
  simp only [cond_dec]
  rw [if_neg (by omega), if_neg (by omega), obind, show ((0 : Int) != 0) = false from rfl, cF]
  unfold g_decimal_scaled
  rw [power0, obind, fromInt_ok i64_1, obind, mul_ok hw.num (zI_wf _), obind, val_I64 i64_1, h.v1]
  unfold fitR
  rw [if_pos hm, divmod_ok (zI_wf _) hw.den, obind, val_zI hm, h.v2, Int.mul_one]
  unfold divR
  rw [if_neg (by omega), obind]
  dsimp only
  rw [add_ok (zI_wf _) (zI_wf _), obind]
  have wf : ∀ z, WF 32 (fitR z).1.2 := fitR_wf
  rw [cmp_ok (wf _) hw.den, obind, sign_ok hw.num, obind]
  rw [show ((3 : Int) == 1) = false from rfl, cF, show ((3 : Int) == 2) = false from rfl, cF, show ((3 : Int) == 3) = true from rfl, cT]
  unfold g_decimal_Round_E47_3 g_decimal_between_floor
  dsimp only
  rw [sign_ok (zI_wf _), obind, beq_dec, cond_dec]
  split
  · rfl
  · rw [obind, nF, cT]

theorem small_MX {q : Int} (h : (q.natAbs : Int) < 4294967296) : (q.natAbs : Int) < MX := by have := MX_big; omega

theorem toInt_small {q : Int} (h : (q.natAbs : Int) < 2147483648) : g_bigint_ToInt (zI q) = some (q, true) := by
  have hM := small_MX (q := q) (by omega)
  have hb : bitlen q.natAbs ≤ 32 := bitlen_le.2 (by have : (2 : Nat) ^ 32 = 4294967296 := rfl; omega)
  unfold g_bigint_ToInt
  rw [split_ok (zI_wf _), obind, val_zI hM, magbits_ok (zI_wf q), obind, V_zI hM]
  dsimp only
  have e0 : (((q.natAbs : Int)).toNat) = q.natAbs := by omega
  rw [e0, cond_dec, if_neg (by omega), inb_true (by omega) (by omega), cT, show (decide ((32 : Int) < 0)) = false from rfl, cF, inb_true (by omega) (by omega), cT, zI_snd, zI_fst]
  have g1 : (toL (q.natAbs : Int)).getD (1 : Int).toNat 0 = 0 := by
    rw [toL_getD]
    show (if 1 < 32 then (q.natAbs : Int) / 4294967296 ^ 1 % 4294967296 else 0) = 0
    rw [if_pos (by omega)]; omega
  have g0 : (toL (q.natAbs : Int)).getD (0 : Int).toNat 0 = (q.natAbs : Int) := by
    rw [toL_getD]
    show (if 0 < 32 then (q.natAbs : Int) / 4294967296 ^ 0 % 4294967296 else 0) = _
    rw [if_pos (by omega)]; omega
  rw [g1, g0, wrap_u64 (n := 0) (by omega) (by omega), shl32_64 (x := 0) (by omega), wrap_u64 (n := (q.natAbs : Int)) (by omega) (by omega), or64 (a := 0) (b := (q.natAbs : Int)) (by omega) (by omega)]
  by_cases hq : q < 0
  · rw [decide_eq_true hq, cT, cond_dec, if_pos (by omega), wrap_u64_mod, wrap_i64_mod]
    have : q.natAbs = -q := by omega
    congr 2
    split <;> omega
  · rw [decide_eq_false hq, cF, nF, cT, cond_dec, if_pos (by omega), wrap_i64 (by omega) (by omega)]
    congr 2
    omega

theorem roundInt_q {n d : Int} (h : QV n d) (hq : ((n / d).natAbs : Int) < 2147483648) : g_decimal_RoundInt (qR n d) 0 3 = some (n / d, 0) := by
  unfold g_decimal_RoundInt
  rw [floor_q h, obind]
  dsimp only
  rw [show ((0 : Int) != 0) = false from rfl, cF, toInt_small hq, obind]
  dsimp only
  rw [nT, cF, cond_dec, if_neg (by omega), cond_dec, if_neg (by omega)]

theorem quo_q {a b c d g n' d' : Int} (h1 : QV a b) (h2 : QV c d) (b1 : ((a * d).natAbs : Int) ≤ 9223372036854775808) (b2 : ((b * c).natAbs : Int) ≤ 9223372036854775808) (hn : a * d = g * n') (hd : b * c = g * d') (hg : 0 < g) (h : QV n' d') :
    g_ratio_Quo (qR a b) (qR c d) = some (qR n' d', 0) := by
  have w1 := qR_wf a b
  have w2 := qR_wf c d
  have := MX_big
  unfold g_ratio_Quo g_ratio_Quo_1
  rw [valid_ok w1, obind, decide_eq_true h1.valid, nT, cF, valid_ok w2, obind, decide_eq_true h2.valid, nT, cF]
  have m1 : ((val (qR a b).1 * val (qR c d).2).natAbs : Int) < MX := by rw [h1.v1, h2.v2]; omega
  have m2 : ((val (qR a b).2 * val (qR c d).1).natAbs : Int) < MX := by rw [h1.v2, h2.v1]; omega
  rw [product_ok w1.num w2.den m1, obind, product_ok w1.den w2.num m2, obind, obind]
  dsimp only
  rw [make_ok (zI_wf _) (zI_wf _), obind, val_zI m1, val_zI m2, h1.v1, h1.v2, h2.v1, h2.v2, redR_q hn hd hg h]

theorem settle_q {u a b c d n' d' m' e' : Int} {g g2 : Int} (hu0 : 0 ≤ u) (hu1 : u ≤ 1000000) (h1 : QV a b) (h2 : QV c d) (c0 : 0 < c) (b1 : ((a * d).natAbs : Int) ≤ 9223372036854775808) (b2 : ((b * c).natAbs : Int) ≤ 9223372036854775808)
    (hn : a * d = g * n') (hd : b * c = g * d') (hg : 0 < g) (h3 : QV n' d') (hn2 : u * n' = g2 * m') (hd2 : 1 * d' = g2 * e') (hg2 : 0 < g2) (h4 : QV m' e')
    (lo : -u * e' < m') (hi : m' < u * e') : g_equalisation_Settle u (qR a b) (qR c d) = some (u + m' / e', 0) := by
  have hp := h4.pos
  have iu : I64 u := by unfold I64; omega
  have qu : QV u 1 := qw (by omega)
  have w1 := qR_wf a b
  have w2 := qR_wf c d
  have hbig : m' < (1000000000000000 - u + 1) * e' := by
    have : u * e' ≤ (1000000000000000 - u + 1) * e' := Int.mul_le_mul_of_nonneg_right (by omega) (by omega)
    omega
  have q1 : m' / e' < u := Int.ediv_lt_of_lt_mul hp hi
  have q2 : -u ≤ m' / e' := (Int.le_ediv_iff_mul_le hp).2 (by omega)
  unfold g_equalisation_Settle
  rw [cond_dec, if_neg (by omega), cond_dec, if_neg (by omega), valid_ok w1, obind, decide_eq_true h1.valid, nT, cF, signR_ok w2, obind, signR_q h2]
  dsimp only
  rw [show ((0 : Int) != 0) = false from rfl, cF, cond_dec, if_neg (by unfold sgn; split <;> (try split) <;> omega), quo_q h1 h2 b1 b2 hn hd hg h3, obind]
  dsimp only
  rw [show ((0 : Int) != 0) = false from rfl, cF, Whole_ok iu, obind, whole_q, mulR_ok (qR_wf _ _) (qR_wf _ _), obind, mulR_q qu h3 hn2 hd2 hg2 h4]
  dsimp only
  rw [show ((0 : Int) != 0) = false from rfl, cF, wrap_i64 (n := 1000000000000000 - u) (by omega) (by omega), wrap_i64 (n := 1000000000000000 - u + 1) (by omega) (by omega), Whole_ok (by unfold I64; omega), obind, whole_q,
    cmpR_ok (qR_wf _ _) (qR_wf _ _), obind, cmpR_q h4 (qw (by omega))]
  dsimp only
  have lt1 : ¬ cmpZ (m' * 1) ((1000000000000000 - u + 1) * e') ≥ 0 := by
    have := (cmpZ_lt (m' * 1) ((1000000000000000 - u + 1) * e')).2 (by omega)
    omega
  rw [cond_dec, if_neg lt1, wrap_i64 (n := 0 - u) (by omega) (by omega), Whole_ok (by unfold I64; omega), obind, whole_q, cmpR_ok (qR_wf _ _) (qR_wf _ _), obind, cmpR_q h4 (qw (by omega))]
  dsimp only
  have lt2 : ¬ cmpZ (m' * 1) ((0 - u) * e') ≤ 0 := by
    rw [cmpZ_le]
    have : (0 - u) * e' = -u * e' := by rw [show (0 - u) = -u by omega]
    omega
  rw [cond_dec, if_neg lt2, roundInt_q h4 (by omega), obind]
  dsimp only
  rw [show ((0 : Int) != 0) = false from rfl, cF, wrap_i64 (by omega) (by omega)]

theorem mark_q {n : Int} (h : n.natAbs ≤ 9223372036854775807) : g_law32_mark n = some (qR n 1, 0) := by
  unfold g_law32_mark
  rw [sceneRatio_q (g := 1) (n' := n) (d' := 1) (i64_s h) i64_1 (by omega) (by omega) (by omega) (by omega) (qw (by omega)), obind]

theorem frac9 : fracR 2 0 9 = qR 9 365 := fracR_q (g := 1) (by omega) (by omega) (by omega) (by omega) (by omega) (by omega) (by omega) ⟨by omega, by decide, by omega, by omega⟩

/-- Without a hurdle the threshold is the mark. -/
theorem thr9 {m : Int} (hm : 0 < m) (hm2 : m ≤ 1000000) (g : Int) (hg : 0 < g) (hg2 : g ≤ 1000000) : thrS (qR 1 5, (qR 0 1, 2)) (qR m 1, 0) (qR g 1) 9 = (qR m 1, 0) := by
  have q9 : QV 9 365 := ⟨by omega, by decide, by omega, by omega⟩
  have q0 : QV 0 1 := qw (by omega)
  have qm : QV m 1 := qw (by omega)
  have q1 : QV 1 1 := qw (by omega)
  refine thrS_q (chkA_q (chkT_q (part_q q1_5 (by omega) (by omega)) (part_q q0 (by omega) (by omega)) (by omega) (by omega)) (chkW_q (above_q qm hm) (by omega) (by omega)) (above_q (qw (by omega)) hg) (by omega) (by omega) (by show (0 : Int) ≤ 9; omega)) frac9 ?_
  exact thr_q _ (mulR_q (g := 365) q0 q9 (by omega) (by omega) (by omega) q0) (addR_q (g := 1) q1 q0 (by omega) (by omega) (by omega) q1) (mulR_q (g := 1) qm q1 (by omega) (by omega) (by omega) qm)

theorem fee9 {m g x : Int} (hm : 0 < m) (hm2 : m ≤ 1000000) (hg : 0 < g) (hg2 : g ≤ 1000000) (hx : g - m = 5 * x) (hlt : m < g) : feeS (qR 1 5, (qR 0 1, 2)) (qR m 1, 0) (qR g 1) 9 = (qR x 1, 0) := by
  have qm : QV m 1 := qw (by omega)
  have qg : QV g 1 := qw (by omega)
  have qd : QV (g - m) 1 := qw (by omega)
  have qx : QV x 1 := qw (by omega)
  exact feeS_q (thr9 hm hm2 g hg hg2) (by rw [cmpR_q qm qg]; dsimp only; rw [cmpZ_lt]; omega) (subR_q (g := 1) qg qm (by omega) (by omega) (by omega) qd) (mulR_q (g := 5) q1_5 qd (by omega) (by omega) (by omega) qx)

theorem fee9z {m g : Int} (hm : 0 < m) (hm2 : m ≤ 1000000) (hg : 0 < g) (hg2 : g ≤ 1000000) (hlt : g ≤ m) : feeS (qR 1 5, (qR 0 1, 2)) (qR m 1, 0) (qR g 1) 9 = (qR 0 1, 0) := by
  have qm : QV m 1 := qw (by omega)
  have qg : QV g 1 := qw (by omega)
  exact feeS_q0 (thr9 hm hm2 g hg hg2) (by rw [cmpR_q qm qg]; dsimp only; rw [cmpZ_lt]; omega)

theorem adj_q {t : GTerms} {c l : GWater} {g x : GRat} {d a b : Int} (h1 : feeS t c g d = (qR a 1, 0)) (h2 : feeS t l g d = (qR b 1, 0)) (h3 : subR (qR a 1) (qR b 1) = (x, 0)) : adjS t c l g d = (x, 0) := by
  unfold adjS
  rw [h1, h2]
  dsimp only
  rw [if_pos rfl, if_pos rfl, h3]

theorem awake32 : g_law32_awake = some true := by
  unfold g_law32_awake
  have sw : ∀ n : Int, n.natAbs ≤ 1000000 → g_scene_Ratio n 1 = some (qR n 1) := fun n h => sceneRatio_q (g := 1) (i64_s (by omega)) i64_1 (by omega) (by omega) (by omega) (by omega) (qw (by omega))
  have s1 : g_scene_Ratio 1 5 = some (qR 1 5) := sceneRatio_q (g := 1) (i64_s (by omega)) (i64_s (by omega)) (by omega) (by omega) (by omega) (by omega) q1_5
  have ht : WFT (qR 1 5, (qR 0 1, 2)) := ⟨qR_wf _ _, qR_wf _ _, i64_s (by decide)⟩
  have hw : ∀ n : Int, WFW (qR n 1, 0) := fun n => ⟨qR_wf _ _, i64_0⟩
  have a1 : adjS (qR 1 5, (qR 0 1, 2)) (qR 100 1, 0) (qR 120 1, 0) (qR 130 1) 9 = (qR 4 1, 0) :=
    adj_q (fee9 (x := 6) (by omega) (by omega) (by omega) (by omega) (by omega) (by omega)) (fee9 (x := 2) (by omega) (by omega) (by omega) (by omega) (by omega) (by omega)) (subR_q (g := 1) (qw (by omega)) (qw (by omega)) (by omega) (by omega) (by omega) (qw (by omega)))
  have a2 : adjS (qR 1 5, (qR 0 1, 2)) (qR 100 1, 0) (qR 80 1, 0) (qR 90 1) 9 = (qR (-2) 1, 0) :=
    adj_q (fee9z (by omega) (by omega) (by omega) (by omega) (by omega)) (fee9 (x := 2) (by omega) (by omega) (by omega) (by omega) (by omega) (by omega)) (subR_q (g := 1) (qw (by omega)) (qw (by omega)) (by omega) (by omega) (by omega) (qw (by omega)))
  have e1 : g_equalisation_Settle 1000 (qR 4 1) (qR 124 1) = some (1032, 0) :=
    settle_q (n' := 1) (d' := 31) (g := 4) (m' := 1000) (e' := 31) (g2 := 1) (by omega) (by omega) (qw (by omega)) (qw (by omega)) (by omega) (by omega) (by omega) (by omega) (by omega) (by omega) ⟨by omega, by decide, by omega, by omega⟩ (by omega) (by omega) (by omega) ⟨by omega, by decide, by omega, by omega⟩ (by omega) (by omega)
  have e2 : g_equalisation_Settle 1000 (qR (-2) 1) (qR 90 1) = some (977, 0) :=
    settle_q (n' := -1) (d' := 45) (g := 2) (m' := -200) (e' := 9) (g2 := 5) (by omega) (by omega) (qw (by omega)) (qw (by omega)) (by omega) (by omega) (by omega) (by omega) (by omega) (by omega) ⟨by omega, by decide, by omega, by omega⟩ (by omega) (by omega) (by omega) ⟨by omega, by decide, by omega, by omega⟩ (by omega) (by omega)
  rw [s1, obind, sw 0 (by omega), obind, mark_q (n := 100) (by omega), obind, mark_q (n := 120) (by omega), obind, sw 130 (by omega), obind, Adjust_ok ht (hw _) (hw _) (qR_wf _ _), obind, mark_q (n := 80) (by omega), obind, obind, sw 90 (by omega), obind,
    Adjust_ok ht (hw _) (hw _) (qR_wf _ _), obind, sw 124 (by omega), obind, a1, a2]
  dsimp only
  rw [e1, obind, obind, e2, obind, sw 4 (by omega), sw (-2) (by omega)]
  dsimp only
  simp only [obind, eqB, beq_dec, decide_true, cT]

end Go.Ev
