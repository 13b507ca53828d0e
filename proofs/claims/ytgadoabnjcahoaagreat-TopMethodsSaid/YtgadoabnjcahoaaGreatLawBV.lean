/- Ratios, dates, decimals and high water: the program answers as its reference, for all arguments. -/
import Derived.Test.YtgadoabnjcahoaaGreatLawAV
set_option exponentiation.threshold 2000
namespace Go.Ev
set_option linter.unusedVariables false
set_option linter.unusedSimpArgs false

abbrev GRat := GInt × GInt

structure WFR (r : GRat) : Prop where
  num : WF 32 r.1.2
  den : WF 32 r.2.2

structure ValidR (r : GRat) : Prop where
  canon : r.1.1 = true → val r.1 ≠ 0
  pos : 0 < val r.2
  bn : bitsZ (val r.1) ≤ 480
  bd : bitsZ (val r.2) ≤ 480
  co : Nat.gcd (val r.1).natAbs (val r.2).natAbs = 1

def zRat : GRat := (zI 0, zI 0)

theorem zRat_eq : (((false, List.replicate 32 (0 : Int)), (false, List.replicate 32 (0 : Int))) : GRat) = zRat := by
  unfold zRat; rw [zI_zero]

theorem wfr_zRat : WFR zRat := ⟨zI_wf 0, zI_wf 0⟩

theorem is_one {g : Nat} (h : (g : Int) < MX) : ((zI (g : Int)).1 == (zI 1).1 && List.isEqv (zI (g : Int)).2 (zI 1).2 (eqv (.int .u32))) = decide (g = 1) := by
  rw [isEqv_u32, zI_fst, zI_fst, zI_snd, zI_snd]
  rw [decide_eq_false (by omega : ¬ ((g : Int) < 0)), decide_eq_false (by omega : ¬ ((1 : Int) < 0))]
  simp only [BEq.rfl, Bool.true_and, decide_eq_decide]
  constructor
  · intro e
    have e2 : V (toL ((g : Int).natAbs : Int)) 32 = V (toL (((1 : Int).natAbs : Nat) : Int)) 32 := by rw [e]
    rw [V_toL_nat (by omega), V_toL_nat (by have := MX_big; omega)] at e2
    omega
  · intro e; subst e; rfl

theorem sgn_neg (z : Int) : sgn z < 0 ↔ z < 0 := by unfold sgn; split <;> (try split) <;> omega
theorem sgn_pos (z : Int) : 0 < sgn z ↔ 0 < z := by unfold sgn; split <;> (try split) <;> omega
theorem sgn_zero (z : Int) : sgn z = 0 ↔ z = 0 := by unfold sgn; split <;> (try split) <;> omega

theorem val_nonpos {x : GInt} (h : WF 32 x.2) (hx : x.1 = true) : val x ≤ 0 := by
  have := (V_MX h).1
  unfold val; rw [if_pos hx]; omega

theorem fits_ok {r : GRat} (h : WFR r) : g_ratio_fits r = some (decide (bitsZ (val r.1) ≤ 480 ∧ bitsZ (val r.2) ≤ 480)) := by
  unfold g_ratio_fits
  rw [bits_ok h.num, obind]
  by_cases h1 : bitsZ (val r.1) ≤ 480
  · rw [decide_eq_true h1, cT, bits_ok h.den, obind]
    simp [-List.getD_eq_getElem?_getD, h1]
  · rw [decide_eq_false h1, cF]
    simp [-List.getD_eq_getElem?_getD, h1]

theorem isCanon_ok {x : GInt} (h : WF 32 x.2) : g_ratio_canonical x = some (decide (x.1 = true → val x ≠ 0)) := by
  unfold g_ratio_canonical
  cases hx : x.1 with
  | false => rw [nF, cT]; simp [-List.getD_eq_getElem?_getD]
  | true =>
    rw [nT, cF, sign_ok h, obind]
    have := val_nonpos h hx
    have := sgn_neg (val x)
    simp only [true_implies, Option.some.injEq, decide_eq_decide]
    omega

theorem valid_ok {r : GRat} (h : WFR r) [Decidable (ValidR r)] : g_ratio_Valid r = some (decide (ValidR r)) := by
  unfold g_ratio_Valid
  rw [fits_ok h, obind]
  by_cases h1 : bitsZ (val r.1) ≤ 480 ∧ bitsZ (val r.2) ≤ 480
  · rw [decide_eq_true h1, cT, isCanon_ok h.num, obind]
    by_cases h2 : r.1.1 = true → val r.1 ≠ 0
    · rw [decide_eq_true h2, cT, isCanon_ok h.den, obind]
      by_cases h4 : 0 < val r.2
      · have h3 : r.2.1 = true → val r.2 ≠ 0 := fun _ => by omega
        rw [decide_eq_true h3, cT, sign_ok h.den, obind, decide_eq_true ((sgn_pos _).2 h4 : sgn (val r.2) > 0), cT, gcd_ok h.num h.den, obind, fromInt_ok (by unfold I64; omega), obind]
        simp only
        rw [is_one (gcd_lt (val_rng h.num) (val_rng h.den))]
        simp only [Option.some.injEq, decide_eq_decide]
        exact ⟨fun e => ⟨h2, h4, h1.1, h1.2, e⟩, fun v => v.co⟩
      · have hv : ¬ ValidR r := fun v => h4 v.pos
        rw [decide_eq_false hv]
        by_cases h3 : r.2.1 = true → val r.2 ≠ 0
        · rw [decide_eq_true h3, cT, sign_ok h.den, obind, decide_eq_false (fun z => h4 ((sgn_pos _).1 z) : ¬ sgn (val r.2) > 0), cF]
        · rw [decide_eq_false h3, cF]
    · have hv : ¬ ValidR r := fun v => h2 v.canon
      rw [decide_eq_false h2, cF, decide_eq_false hv]
  · have hv : ¬ ValidR r := fun v => h1 ⟨v.bn, v.bd⟩
    rw [decide_eq_false h1, cF, decide_eq_false hv]

theorem refvalid_ok {r : GRat} (h : WFR r) [Decidable (ValidR r)] : g_ref02_Valid r = some (decide (ValidR r)) := by
  have tail : (r.1.1 = true → val r.1 ≠ 0) → 0 < val r.2 → g_ref02_Valid_E17 r = some (decide (ValidR r)) := by
    intro h2 h4
    unfold g_ref02_Valid_E17
    rw [refbits_ok h.num, obind]
    by_cases b1 : bitsZ (val r.1) ≤ 480
    · rw [decide_eq_true b1, cT, refbits_ok h.den, obind]
      by_cases b2 : bitsZ (val r.2) ≤ 480
      · rw [decide_eq_true b2, cT, refgcd_ok h.num h.den, obind, reffromInt_ok (by unfold I64; omega), obind]
        simp only
        rw [is_one (gcd_lt (val_rng h.num) (val_rng h.den))]
        simp only [Option.some.injEq, decide_eq_decide]
        exact ⟨fun e => ⟨h2, h4, b1, b2, e⟩, fun v => v.co⟩
      · rw [decide_eq_false b2, cF, decide_eq_false (fun v => b2 v.bd)]
    · rw [decide_eq_false b1, cF, decide_eq_false (fun v => b1 v.bn)]
  have mid : (r.1.1 = true → val r.1 ≠ 0) → ((g_ref01_Sign r.2).bind fun r8 => (bif decide (r8 ≤ 0) then some false else g_ref02_Valid_E17 r)) = some (decide (ValidR r)) := by
    intro h2
    rw [refsign_ok h.den, obind]
    by_cases h4 : 0 < val r.2
    · have := (sgn_pos (val r.2)).2 h4
      rw [decide_eq_false (by omega : ¬ sgn (val r.2) ≤ 0), cF]
      exact tail h2 h4
    · have h5 : ¬ 0 < sgn (val r.2) := fun z => h4 ((sgn_pos (val r.2)).1 z)
      rw [decide_eq_true (by omega : sgn (val r.2) ≤ 0), cT, decide_eq_false (fun v => h4 v.pos)]
  unfold g_ref02_Valid
  cases hx : r.1.1 with
  | false => rw [cF]; exact mid (fun e => by rw [hx] at e; simp [-List.getD_eq_getElem?_getD] at e)
  | true =>
    rw [cT, refsign_ok h.num, obind, beq_dec]
    by_cases hz : val r.1 = 0
    · rw [decide_eq_true ((sgn_zero _).2 hz), cT, decide_eq_false (fun v => v.canon hx hz)]
    · rw [decide_eq_false (fun e => hz ((sgn_zero _).1 e)), cF]
      exact mid (fun _ => hz)

/-! ### Making a ratio -/
/-- The ratio in lowest terms. -/
noncomputable def redR (n d : Int) : GRat × Int :=
  if d = 0 then (zRat, 11) else
    let g := ((Nat.gcd n.natAbs d.natAbs : Nat) : Int)
    let n' := if d < 0 then -(n / g) else n / g
    let d' := if d < 0 then -(d / g) else d / g
    if bitsZ n' ≤ 480 ∧ bitsZ d' ≤ 480 then ((zI n', zI d'), 0) else (zRat, 10)

theorem exact_abs {n g : Int} (hg : 0 < g) (h : g ∣ n) : ((n / g).natAbs : Int) ≤ (n.natAbs : Int) := by
  obtain ⟨c, rfl⟩ := h
  rw [Int.mul_ediv_cancel_left _ (by omega), abs_mul]
  have : 1 * (c.natAbs : Int) ≤ (g.natAbs : Int) * (c.natAbs : Int) := Int.mul_le_mul_of_nonneg_right (by omega) (by omega)
  omega

theorem gcd_dvd_int (n d : Int) : ((Nat.gcd n.natAbs d.natAbs : Nat) : Int) ∣ n ∧ ((Nat.gcd n.natAbs d.natAbs : Nat) : Int) ∣ d :=
  ⟨Int.ofNat_dvd_left.2 (Nat.gcd_dvd_left _ _), Int.ofNat_dvd_left.2 (Nat.gcd_dvd_right _ _)⟩

end Go.Ev

namespace Go.Ev
set_option linter.unusedVariables false
set_option linter.unusedSimpArgs false

theorem gcd_pos' {n d : Int} (h : d ≠ 0) : 0 < ((Nat.gcd n.natAbs d.natAbs : Nat) : Int) := by
  have := Nat.gcd_pos_of_pos_right n.natAbs (show 0 < d.natAbs by omega)
  omega

theorem whole_ok {x y : GInt} (hx : WF 32 x.2) (hy : WF 32 y.2) (h : val y ≠ 0) : g_ratio_whole x y = some (zI (val x / val y)) := by
  unfold g_ratio_whole
  rw [divmod_ok hx hy, obind]
  unfold divR
  rw [if_neg h]

theorem make_tail {n d : Int} (hn : (n.natAbs : Int) < MX) (hd : (d.natAbs : Int) < MX) :
    ((g_ratio_fits (zI n, zI d)).bind fun r7 => (bif (!r7) then some (((false, List.replicate 32 (0 : Int)), (false, List.replicate 32 (0 : Int))), (10 : Int)) else some ((zI n, zI d), (0 : Int)))) =
      some (if bitsZ n ≤ 480 ∧ bitsZ d ≤ 480 then ((zI n, zI d), 0) else (zRat, 10)) := by
  rw [fits_ok ⟨zI_wf n, zI_wf d⟩, obind]
  simp only [val_zI hn, val_zI hd]
  by_cases h : bitsZ n ≤ 480 ∧ bitsZ d ≤ 480
  · rw [decide_eq_true h, nT, cF, if_pos h]
  · rw [decide_eq_false h, nF, cT, if_neg h, ← zRat_eq]

theorem make_ok {x y : GInt} (hx : WF 32 x.2) (hy : WF 32 y.2) : g_ratio_Make x y = some (redR (val x) (val y)) := by
  have hr := val_rng hx
  have hr' := val_rng hy
  unfold g_ratio_Make redR
  rw [sign_ok hy, obind, beq_dec]
  by_cases h0 : val y = 0
  · rw [decide_eq_true ((sgn_zero _).2 h0), cT, if_pos h0, ← zRat_eq]
  · rw [decide_eq_false (fun e => h0 ((sgn_zero _).1 e)), cF, if_neg h0, gcd_ok hx hy, obind]
    have hg := gcd_pos' (n := val x) h0
    have hgM := gcd_lt hr hr'
    obtain ⟨dv1, dv2⟩ := gcd_dvd_int (val x) (val y)
    have a1 := exact_abs hg dv1
    have a2 := exact_abs hg dv2
    rw [obind]
    generalize ((Nat.gcd (val x).natAbs (val y).natAbs : Nat) : Int) = g at *
    have vg : val (zI g) = g := val_zI (by omega)
    by_cases hneg : val y < 0
    · have vg' : val (zI (-g)) = -g := val_zI (by omega)
      rw [decide_eq_true ((sgn_neg _).2 hneg), cT, neg_ok (zI_wf _), obind, vg, whole_ok hx (zI_wf _) (by rw [vg']; omega), obind, whole_ok hy (zI_wf _) (by rw [vg']; omega), obind, vg', Int.ediv_neg, Int.ediv_neg]
      rw [make_tail (by omega) (by omega)]
      simp only [if_pos hneg]
    · rw [decide_eq_false (fun z => hneg ((sgn_neg _).1 z)), cF, whole_ok hx (zI_wf _) (by rw [vg]; omega), obind, whole_ok hy (zI_wf _) (by rw [vg]; omega), obind, vg]
      rw [make_tail (by omega) (by omega)]
      simp only [if_neg hneg]

theorem refmake_tail {n d : Int} (hn : (n.natAbs : Int) < MX) (hd : (d.natAbs : Int) < MX) :
    ((g_ref01_Bits (zI n)).bind fun r8 => (bif decide (r8 > 480) then some (((false, List.replicate 32 (0 : Int)), (false, List.replicate 32 (0 : Int))), (10 : Int)) else
      (g_ref01_Bits (zI d)).bind fun r9 => (bif decide (r9 > 480) then some (((false, List.replicate 32 (0 : Int)), (false, List.replicate 32 (0 : Int))), (10 : Int)) else some ((zI n, zI d), (0 : Int))))) =
      some (if bitsZ n ≤ 480 ∧ bitsZ d ≤ 480 then ((zI n, zI d), 0) else (zRat, 10)) := by
  rw [refbits_ok (zI_wf n), obind, val_zI hn]
  by_cases h1 : bitsZ n > 480
  · rw [decide_eq_true h1, cT, if_neg (by omega), ← zRat_eq]
  · rw [decide_eq_false h1, cF, refbits_ok (zI_wf d), obind, val_zI hd]
    by_cases h2 : bitsZ d > 480
    · rw [decide_eq_true h2, cT, if_neg (by omega), ← zRat_eq]
    · rw [decide_eq_false h2, cF, if_pos ⟨by omega, by omega⟩]

theorem refmake_ok {x y : GInt} (hx : WF 32 x.2) (hy : WF 32 y.2) : g_ref02_Make x y = some (redR (val x) (val y)) := by
  have hr := val_rng hx
  have hr' := val_rng hy
  unfold g_ref02_Make redR
  rw [refsign_ok hy, obind, beq_dec]
  by_cases h0 : val y = 0
  · rw [decide_eq_true ((sgn_zero _).2 h0), cT, if_pos h0, ← zRat_eq]
  · rw [decide_eq_false (fun e => h0 ((sgn_zero _).1 e)), cF, if_neg h0, refgcd_ok hx hy, obind]
    have hg := gcd_pos' (n := val x) h0
    have hgM := gcd_lt hr hr'
    obtain ⟨dv1, dv2⟩ := gcd_dvd_int (val x) (val y)
    have a1 := exact_abs hg dv1
    have a2 := exact_abs hg dv2
    generalize ((Nat.gcd (val x).natAbs (val y).natAbs : Nat) : Int) = g at *
    have vg : val (zI g) = g := val_zI (by omega)
    rw [refdivmod_ok hx (zI_wf _), obind, refdivmod_ok hy (zI_wf _), obind, vg]
    unfold divR
    rw [if_neg (by omega), if_neg (by omega)]
    have vn : val (zI (val x / g)) = val x / g := val_zI (by omega)
    have vd : val (zI (val y / g)) = val y / g := val_zI (by omega)
    simp only
    rw [refsign_ok (zI_wf _), obind, vd]
    have hs : val y / g < 0 ↔ val y < 0 := by
      constructor
      · intro h
        rcases Int.lt_or_le (val y) 0 with q | q
        · exact q
        · have := Int.ediv_nonneg q (Int.le_of_lt hg); omega
      · intro h; exact Int.ediv_neg_of_neg_of_pos h hg
    by_cases hneg : val y < 0
    · rw [decide_eq_true ((sgn_neg _).2 (hs.2 hneg)), cT, refneg_ok (zI_wf _), obind, refneg_ok (zI_wf _), obind, vn, vd]
      rw [refmake_tail (by omega) (by omega)]
      simp only [if_pos hneg]
    · rw [decide_eq_false (fun z => hneg (hs.1 ((sgn_neg _).1 z))), cF]
      rw [refmake_tail (by omega) (by omega)]
      simp only [if_neg hneg]

end Go.Ev

namespace Go.Ev
set_option linter.unusedVariables false
set_option linter.unusedSimpArgs false

noncomputable instance (r : GRat) : Decidable (ValidR r) := Classical.propDecidable _

def KM : Int := 4294967296 ^ 15

theorem KM_nat : KM = ((2 ^ 480 : Nat) : Int) := by unfold KM; rw [powB]

theorem KK : 4 * (KM * KM) ≤ MX := by
  have h : 4 * ((4294967296 : Int) ^ 15 * 4294967296 ^ 15) ≤ 4294967296 ^ 32 := by
    rw [← Int.pow_add, show (32 : Nat) = 15 + 15 + 2 from rfl, Int.pow_add _ (15 + 15) 2, Int.mul_comm]
    exact Int.mul_le_mul_of_nonneg_left (by decide) (Int.le_of_lt (Bpos _))
  exact h

theorem bits_lt {z : Int} (h : bitsZ z ≤ 480) : (z.natAbs : Int) < KM := by
  unfold bitsZ at h
  rw [KM_nat]
  exact Int.ofNat_lt.2 (bitlen_le.1 (by omega))

theorem prod_lt {a b : Int} (ha : (a.natAbs : Int) < KM) (hb : (b.natAbs : Int) < KM) : ((a * b).natAbs : Int) < KM * KM := by
  rw [abs_mul]
  have h1 : (a.natAbs : Int) * (b.natAbs : Int) ≤ (a.natAbs : Int) * KM := Int.mul_le_mul_of_nonneg_left (Int.le_of_lt hb) (by omega)
  have h2 : (a.natAbs : Int) * KM < KM * KM := Int.mul_lt_mul_of_pos_right ha (by omega)
  omega

theorem prod_MX {a b : Int} (ha : (a.natAbs : Int) < KM) (hb : (b.natAbs : Int) < KM) : ((a * b).natAbs : Int) < MX := by
  have := prod_lt ha hb
  have := KK
  omega

theorem product_ok {x y : GInt} (hx : WF 32 x.2) (hy : WF 32 y.2) (h : ((val x * val y).natAbs : Int) < MX) : g_ratio_product x y = some (zI (val x * val y)) := by
  unfold g_ratio_product
  rw [mul_ok hx hy, obind]
  unfold fitR
  rw [if_pos h]

theorem refproduct_ok {x y : GInt} (hx : WF 32 x.2) (hy : WF 32 y.2) (h : ((val x * val y).natAbs : Int) < MX) : g_ref02_product x y = some (zI (val x * val y)) := by
  unfold g_ref02_product
  rw [refmul_ok hx hy, obind]
  unfold fitR
  rw [if_pos h]

theorem ValidR.kn {r : GRat} (h : ValidR r) : ((val r.1).natAbs : Int) < KM := bits_lt h.bn
theorem ValidR.kd {r : GRat} (h : ValidR r) : ((val r.2).natAbs : Int) < KM := bits_lt h.bd

/-! ### Whole numbers and quotients of the machine's -/
def wholeR (n : Int) : GRat := (zI n, zI 1)

theorem whole1 : g_bigint_FromInt 1 = some (zI 1) := fromInt_ok (by unfold I64; omega)
theorem Whole_ok {n : Int} (h : I64 n) : g_ratio_Whole n = some (wholeR n) := by
  unfold g_ratio_Whole
  rw [fromInt_ok h, obind, whole1, obind]; rfl

theorem Of_ok {n d : Int} (h : I64 n) (h' : I64 d) : g_ratio_Of n d = some (redR n d) := by
  unfold g_ratio_Of
  rw [fromInt_ok h, obind, fromInt_ok h', obind, make_ok (zI_wf _) (zI_wf _), obind, val_zI (abs64 h), val_zI (abs64 h')]

theorem refOf_ok {n d : Int} (h : I64 n) (h' : I64 d) : g_ref02_Of n d = some (redR n d) := by
  unfold g_ref02_Of
  rw [reffromInt_ok h, obind, reffromInt_ok h', obind, refmake_ok (zI_wf _) (zI_wf _), obind, val_zI (abs64 h), val_zI (abs64 h')]

/-! ### The operations -/
noncomputable def op2 (F : GRat → GRat → GRat × Int) (a b : GRat) : GRat × Int := if ValidR a ∧ ValidR b then F a b else (zRat, 20)

noncomputable def mulR : GRat → GRat → GRat × Int := op2 fun a b => redR (val a.1 * val b.1) (val a.2 * val b.2)
noncomputable def addR : GRat → GRat → GRat × Int := op2 fun a b => redR (val a.1 * val b.2 + val b.1 * val a.2) (val a.2 * val b.2)
noncomputable def subR : GRat → GRat → GRat × Int := op2 fun a b => redR (val a.1 * val b.2 + -(val b.1 * val a.2)) (val a.2 * val b.2)

theorem mulR_ok {a b : GRat} (ha : WFR a) (hb : WFR b) : g_ratio_Mul a b = some (mulR a b) := by
  unfold g_ratio_Mul mulR op2
  rw [valid_ok ha, obind]
  by_cases va : ValidR a
  · rw [decide_eq_true va, nT, cF, valid_ok hb, obind]
    by_cases vb : ValidR b
    · rw [decide_eq_true vb, nT, cF, if_pos ⟨va, vb⟩, product_ok ha.num hb.num (prod_MX va.kn vb.kn), obind, product_ok ha.den hb.den (prod_MX va.kd vb.kd), obind, make_ok (zI_wf _) (zI_wf _), obind, val_zI (prod_MX va.kn vb.kn), val_zI (prod_MX va.kd vb.kd)]
    · rw [decide_eq_false vb, nF, cT, if_neg (fun h => vb h.2), ← zRat_eq]
  · rw [decide_eq_false va, nF, cT, if_neg (fun h => va h.1), ← zRat_eq]

theorem refmulR_ok {a b : GRat} (ha : WFR a) (hb : WFR b) : g_ref02_Mul a b = some (mulR a b) := by
  unfold g_ref02_Mul mulR op2
  rw [refvalid_ok ha, obind]
  by_cases va : ValidR a
  · rw [decide_eq_true va, nT, cF, refvalid_ok hb, obind]
    by_cases vb : ValidR b
    · rw [decide_eq_true vb, nT, cF, if_pos ⟨va, vb⟩, refproduct_ok ha.num hb.num (prod_MX va.kn vb.kn), obind, refproduct_ok ha.den hb.den (prod_MX va.kd vb.kd), obind, refmake_ok (zI_wf _) (zI_wf _), obind, val_zI (prod_MX va.kn vb.kn), val_zI (prod_MX va.kd vb.kd)]
    · rw [decide_eq_false vb, nF, cT, if_neg (fun h => vb h.2), ← zRat_eq]
  · rw [decide_eq_false va, nF, cT, if_neg (fun h => va h.1), ← zRat_eq]

theorem sum_MX {a b c d : Int} (ha : (a.natAbs : Int) < KM) (hb : (b.natAbs : Int) < KM) (hc : (c.natAbs : Int) < KM) (hd : (d.natAbs : Int) < KM) : ((a * b + c * d).natAbs : Int) < MX := by
  have := prod_lt ha hb
  have := prod_lt hc hd
  have := KK
  omega

theorem addR_ok {a b : GRat} (ha : WFR a) (hb : WFR b) : g_ratio_Add a b = some (addR a b) := by
  unfold g_ratio_Add addR op2
  rw [valid_ok ha, obind]
  by_cases va : ValidR a
  · rw [decide_eq_true va, nT, cF, valid_ok hb, obind]
    by_cases vb : ValidR b
    · have p1 := prod_MX vb.kn va.kd
      have p2 := prod_MX va.kn vb.kd
      have p3 := prod_MX va.kd vb.kd
      have p4 := sum_MX va.kn vb.kd vb.kn va.kd
      rw [decide_eq_true vb, nT, cF, if_pos ⟨va, vb⟩, product_ok hb.num ha.den p1, obind, product_ok ha.num hb.den p2, obind, add_ok (zI_wf _) (zI_wf _), obind, val_zI p1, val_zI p2, product_ok ha.den hb.den p3, obind]
      unfold fitR
      rw [if_pos p4, make_ok (zI_wf _) (zI_wf _), obind, val_zI p4, val_zI p3]
    · rw [decide_eq_false vb, nF, cT, if_neg (fun h => vb h.2), ← zRat_eq]
  · rw [decide_eq_false va, nF, cT, if_neg (fun h => va h.1), ← zRat_eq]

theorem refaddR_ok {a b : GRat} (ha : WFR a) (hb : WFR b) : g_ref02_Add a b = some (addR a b) := by
  unfold g_ref02_Add addR op2
  rw [refvalid_ok ha, obind]
  by_cases va : ValidR a
  · rw [decide_eq_true va, nT, cF, refvalid_ok hb, obind]
    by_cases vb : ValidR b
    · have p1 := prod_MX vb.kn va.kd
      have p2 := prod_MX va.kn vb.kd
      have p3 := prod_MX va.kd vb.kd
      have p4 := sum_MX va.kn vb.kd vb.kn va.kd
      rw [decide_eq_true vb, nT, cF, if_pos ⟨va, vb⟩, refproduct_ok ha.num hb.den p2, obind, refproduct_ok hb.num ha.den p1, obind, refadd_ok (zI_wf _) (zI_wf _), obind, val_zI p1, val_zI p2, refproduct_ok ha.den hb.den p3, obind]
      unfold fitR
      rw [if_pos p4, refmake_ok (zI_wf _) (zI_wf _), obind, val_zI p4, val_zI p3]
    · rw [decide_eq_false vb, nF, cT, if_neg (fun h => vb h.2), ← zRat_eq]
  · rw [decide_eq_false va, nF, cT, if_neg (fun h => va h.1), ← zRat_eq]

theorem dif_MX {a b c d : Int} (ha : (a.natAbs : Int) < KM) (hb : (b.natAbs : Int) < KM) (hc : (c.natAbs : Int) < KM) (hd : (d.natAbs : Int) < KM) : ((a * b + -(c * d)).natAbs : Int) < MX := by
  have := prod_lt ha hb
  have := prod_lt hc hd
  have := KK
  omega

theorem subR_ok {a b : GRat} (ha : WFR a) (hb : WFR b) : g_ratio_Sub a b = some (subR a b) := by
  unfold g_ratio_Sub subR op2
  rw [valid_ok ha, obind]
  by_cases va : ValidR a
  · rw [decide_eq_true va, nT, cF, valid_ok hb, obind]
    by_cases vb : ValidR b
    · have p1 := prod_MX vb.kn va.kd
      have p2 := prod_MX va.kn vb.kd
      have p3 := prod_MX va.kd vb.kd
      have p4 := dif_MX va.kn vb.kd vb.kn va.kd
      have p5 : ((-(val b.1 * val a.2)).natAbs : Int) < MX := by omega
      rw [decide_eq_true vb, nT, cF, if_pos ⟨va, vb⟩, product_ok hb.num ha.den p1, obind, neg_ok (zI_wf _), obind, val_zI p1, product_ok ha.num hb.den p2, obind, add_ok (zI_wf _) (zI_wf _), obind, val_zI p5, val_zI p2, product_ok ha.den hb.den p3, obind]
      unfold fitR
      rw [if_pos p4, make_ok (zI_wf _) (zI_wf _), obind, val_zI p4, val_zI p3]
    · rw [decide_eq_false vb, nF, cT, if_neg (fun h => vb h.2), ← zRat_eq]
  · rw [decide_eq_false va, nF, cT, if_neg (fun h => va h.1), ← zRat_eq]

theorem bitsZ_neg (z : Int) : bitsZ (-z) = bitsZ z := by unfold bitsZ; rw [Int.natAbs_neg]

theorem valid_neg {b : GRat} (hb : WFR b) (vb : ValidR b) : ValidR (zI (-val b.1), b.2) := by
  have h := val_rng hb.num
  have hv : val (zI (-val b.1)) = -val b.1 := val_zI (by omega)
  refine ⟨fun e => ?_, vb.pos, ?_, vb.bd, ?_⟩
  · simp only [hv]
    have := of_decide_eq_true (show decide (-val b.1 < 0) = true from e)
    omega
  · simp only [hv, bitsZ_neg]; exact vb.bn
  · simp only [hv, Int.natAbs_neg]; exact vb.co

theorem refsubR_ok {a b : GRat} (ha : WFR a) (hb : WFR b) : g_ref02_Sub a b = some (subR a b) := by
  unfold g_ref02_Sub subR op2
  rw [refvalid_ok ha, obind]
  by_cases va : ValidR a
  · rw [decide_eq_true va, nT, cF, refvalid_ok hb, obind]
    by_cases vb : ValidR b
    · rw [decide_eq_true vb, nT, cF, if_pos ⟨va, vb⟩]
      unfold g_ref02_negative
      have h := val_rng hb.num
      have hv : val (zI (-val b.1)) = -val b.1 := val_zI (by omega)
      rw [refneg_ok hb.num, obind, obind, refaddR_ok (b := (zI (-val b.1), b.2)) ha ⟨zI_wf _, hb.den⟩, obind]
      unfold addR op2
      rw [if_pos ⟨va, valid_neg hb vb⟩]
      simp only [hv, Int.neg_mul]
    · rw [decide_eq_false vb, nF, cT, if_neg (fun h => vb h.2), ← zRat_eq]
  · rw [decide_eq_false va, nF, cT, if_neg (fun h => va h.1), ← zRat_eq]

/-! ### Comparison -/
noncomputable def cmpR (a b : GRat) : Int × Int := if ValidR a ∧ ValidR b then (cmpZ (val a.1 * val b.2) (val b.1 * val a.2), 0) else (0, 20)
noncomputable def signR (a : GRat) : Int × Int := if ValidR a then (sgn (val a.1), 0) else (0, 20)

theorem cmpR_ok {a b : GRat} (ha : WFR a) (hb : WFR b) : g_ratio_Cmp a b = some (cmpR a b) := by
  unfold g_ratio_Cmp cmpR
  rw [valid_ok ha, obind]
  by_cases va : ValidR a
  · rw [decide_eq_true va, nT, cF, valid_ok hb, obind]
    by_cases vb : ValidR b
    · have p1 := prod_MX vb.kn va.kd
      have p2 := prod_MX va.kn vb.kd
      rw [decide_eq_true vb, nT, cF, if_pos ⟨va, vb⟩, product_ok ha.num hb.den p2, obind, product_ok hb.num ha.den p1, obind, cmp_ok (zI_wf _) (zI_wf _), obind, val_zI p1, val_zI p2]
    · rw [decide_eq_false vb, nF, cT, if_neg (fun h => vb h.2)]
  · rw [decide_eq_false va, nF, cT, if_neg (fun h => va h.1)]

theorem signR_ok {a : GRat} (ha : WFR a) : g_ratio_Sign a = some (signR a) := by
  unfold g_ratio_Sign signR
  rw [valid_ok ha, obind]
  by_cases va : ValidR a
  · rw [decide_eq_true va, nT, cF, if_pos va, sign_ok ha.num, obind]
  · rw [decide_eq_false va, nF, cT, if_neg va]

end Go.Ev

namespace Go.Ev
set_option linter.unusedVariables false
set_option linter.unusedSimpArgs false

theorem wfr_whole (n : Int) : WFR (wholeR n) := ⟨zI_wf n, zI_wf 1⟩

/-- A step that keeps the first error. -/
noncomputable def step2 (F : GRat → GRat → GRat × Int) (a b : GRat × Int) : GRat × Int :=
  if a.2 ≠ 0 then (zRat, a.2) else if b.2 ≠ 0 then (zRat, b.2) else F a.1 b.1

end Go.Ev

namespace Go.Ev
set_option linter.unusedVariables false
set_option linter.unusedSimpArgs false

theorem val_I64 {n : Int} (h : I64 n) : val (zI n) = n := val_zI (abs64 h)
theorem i64_0 : I64 0 := by unfold I64; omega
theorem i64_1 : I64 1 := by unfold I64; omega

theorem bits64 {n : Int} (h : I64 n) : bitsZ n ≤ 480 := by
  have : bitlen n.natAbs ≤ 64 := by
    refine bitlen_le.2 ?_
    have : (2 : Nat) ^ 64 = 18446744073709551616 := rfl
    unfold I64 at h; omega
  unfold bitsZ; omega

theorem valid_whole {n : Int} (h : I64 n) : ValidR (wholeR n) := by
  have hv : val (wholeR n).1 = n := val_I64 h
  have h1 : val (wholeR n).2 = 1 := val_I64 i64_1
  refine ⟨fun e => ?_, by omega, by rw [hv]; exact bits64 h, by rw [h1]; exact bits64 i64_1, by rw [hv, h1]; simp [-List.getD_eq_getElem?_getD]⟩
  rw [hv]
  have := of_decide_eq_true (show decide (n < 0) = true from e)
  omega

theorem cmpZ_le (a b : Int) : cmpZ a b ≤ 0 ↔ a ≤ b := by unfold cmpZ; split <;> (try split) <;> omega

theorem cmpR_whole {r : GRat} {n : Int} (hr : ValidR r) (h : I64 n) : cmpR r (wholeR n) = (cmpZ (val r.1) (n * val r.2), 0) := by
  unfold cmpR
  have e1 : val (wholeR n).1 = n := val_I64 h
  have e2 : val (wholeR n).2 = 1 := val_I64 i64_1
  rw [if_pos ⟨hr, valid_whole h⟩, e1, e2, Int.mul_one]

/-- A ratio from 0 to 1. -/
structure PartR (r : GRat) : Prop where
  v : ValidR r
  lo : 0 ≤ val r.1
  hi : val r.1 ≤ val r.2

noncomputable instance (r : GRat) : Decidable (PartR r) := Classical.propDecidable _

structure AboveR (r : GRat) : Prop where
  v : ValidR r
  lo : 0 < val r.1

noncomputable instance (r : GRat) : Decidable (AboveR r) := Classical.propDecidable _

theorem part_ok {r : GRat} (h : WFR r) : g_highwater_part r = some (decide (PartR r)) := by
  unfold g_highwater_part
  rw [signR_ok h, obind]
  unfold signR
  by_cases hv : ValidR r
  · rw [if_pos hv]
    simp only [bne_dec, ne_eq, not_true_eq_false, decide_false, cF]
    by_cases hn : val r.1 < 0
    · rw [decide_eq_true ((sgn_neg _).2 hn), cT, decide_eq_false (fun p => by have := p.lo; omega)]
    · rw [decide_eq_false (fun z => hn ((sgn_neg _).1 z)), cF, Whole_ok i64_1, obind, cmpR_ok h (wfr_whole 1), obind, cmpR_whole hv i64_1]
      simp only [Option.some.injEq, decide_eq_decide, cmpZ_le, Int.one_mul]
      exact ⟨fun e => ⟨hv, by omega, e⟩, fun p => p.hi⟩
  · rw [if_neg hv]
    simp only [bne_dec]
    rw [decide_eq_true (by omega : (20 : Int) ≠ 0), cT, decide_eq_false (fun p => hv p.v)]

theorem above_ok {r : GRat} (h : WFR r) : g_highwater_above r = some (decide (AboveR r)) := by
  unfold g_highwater_above
  rw [signR_ok h, obind]
  unfold signR
  by_cases hv : ValidR r
  · rw [if_pos hv]
    simp only [BEq.rfl, cT, Option.some.injEq, decide_eq_decide]
    have := sgn_pos (val r.1)
    exact ⟨fun e => ⟨hv, this.1 e⟩, fun p => this.2 p.lo⟩
  · rw [if_neg hv]
    simp only [beq_dec]
    rw [decide_eq_false (by omega : ¬ (20 : Int) = 0), cF, decide_eq_false (fun p => hv p.v)]

abbrev GTerms := GRat × (GRat × Int)
abbrev GWater := GRat × Int

structure WFT (t : GTerms) : Prop where
  rate : WFR t.1
  hurdle : WFR t.2.1
  basis : I64 t.2.2

structure WFW (w : GWater) : Prop where
  mark : WFR w.1
  since : I64 w.2

end Go.Ev

namespace Go.Ev
set_option linter.unusedVariables false
set_option linter.unusedSimpArgs false

theorem KM_pos : 0 < KM := Bpos 15

theorem KM_MX : KM < MX := by
  have h1 := KK
  have h2 := KM_pos
  have h3 : KM * 1 ≤ KM * KM := Int.mul_le_mul_of_nonneg_left (by omega) (by omega)
  omega

theorem lowest {n d : Int} (hd : d ≠ 0) : Nat.gcd (n / ((Nat.gcd n.natAbs d.natAbs : Nat) : Int)).natAbs (d / ((Nat.gcd n.natAbs d.natAbs : Nat) : Int)).natAbs = 1 := by
  have hg := gcd_pos' (n := n) hd
  obtain ⟨⟨c, hc⟩, ⟨e, he⟩⟩ := gcd_dvd_int n d
  have hgd : Nat.gcd n.natAbs d.natAbs = Nat.gcd n.natAbs d.natAbs := rfl
  generalize hG : Nat.gcd n.natAbs d.natAbs = g at *
  rw [hc, he, Int.mul_ediv_cancel_left _ (by omega), Int.mul_ediv_cancel_left _ (by omega)]
  have h1 : n.natAbs = g * c.natAbs := by rw [hc, Int.natAbs_mul]; simp [-List.getD_eq_getElem?_getD]
  have h2 : d.natAbs = g * e.natAbs := by rw [he, Int.natAbs_mul]; simp [-List.getD_eq_getElem?_getD]
  rw [h1, h2, Nat.gcd_mul_left] at hG
  have hg' : 0 < g := by omega
  exact Nat.eq_of_mul_eq_mul_left hg' (by omega)

theorem red_tail (p q : Int) : WFR (if bitsZ p ≤ 480 ∧ bitsZ q ≤ 480 then (((zI p, zI q) : GRat), (0 : Int)) else (zRat, 10)).1 := by
  split
  · exact ⟨zI_wf _, zI_wf _⟩
  · exact wfr_zRat

theorem redR_wf (n d : Int) : WFR (redR n d).1 := by
  unfold redR
  by_cases hd : d = 0
  · rw [if_pos hd]; exact wfr_zRat
  · rw [if_neg hd]; exact red_tail _ _

theorem redR_valid {n d : Int} (h : (redR n d).2 = 0) : ValidR (redR n d).1 := by
  unfold redR at h ⊢
  by_cases hd : d = 0
  · rw [if_pos hd] at h; simp [-List.getD_eq_getElem?_getD] at h
  · rw [if_neg hd] at h ⊢
    simp only at h ⊢
    have hl := lowest (n := n) hd
    have hg := gcd_pos' (n := n) hd
    obtain ⟨dv1, ⟨e, he⟩⟩ := gcd_dvd_int n d
    generalize ((Nat.gcd n.natAbs d.natAbs : Nat) : Int) = g at *
    by_cases hb : bitsZ (if d < 0 then -(n / g) else n / g) ≤ 480 ∧ bitsZ (if d < 0 then -(d / g) else d / g) ≤ 480
    · rw [if_pos hb]
      have hde : d / g = e := by rw [he, Int.mul_ediv_cancel_left _ (by omega)]
      have hpos : 0 < (if d < 0 then -(d / g) else d / g) := by
        rw [hde]
        split
        · rename_i q
          rcases Int.lt_or_le e 0 with w | w
          · omega
          · have := Int.mul_nonneg (Int.le_of_lt hg) w; omega
        · rename_i q
          rcases Int.lt_or_le 0 e with w | w
          · exact w
          · have := Int.mul_nonneg (Int.le_of_lt hg) (show 0 ≤ -e by omega)
            rw [Int.mul_neg] at this
            have hz : d = 0 ∨ d ≠ 0 := by omega
            omega
      have hco : Nat.gcd (if d < 0 then -(n / g) else n / g).natAbs (if d < 0 then -(d / g) else d / g).natAbs = 1 := by
        split
        · rw [Int.natAbs_neg, Int.natAbs_neg]; exact hl
        · exact hl
      generalize (if d < 0 then -(n / g) else n / g) = n' at *
      generalize (if d < 0 then -(d / g) else d / g) = d' at *
      have b1 := bits_lt hb.1
      have b2 := bits_lt hb.2
      have := KM_MX
      have v1 : val (zI n') = n' := val_zI (by omega)
      have v2 : val (zI d') = d' := val_zI (by omega)
      refine ⟨fun q => ?_, by simp only [v2]; exact hpos, by simp only [v1]; exact hb.1, by simp only [v2]; exact hb.2, by simp only [v1, v2]; exact hco⟩
      simp only [v1]
      have := of_decide_eq_true (show decide (n' < 0) = true from q)
      omega
    · rw [if_neg hb] at h; simp [-List.getD_eq_getElem?_getD] at h

theorem op2_wf {F : GRat → GRat → GRat × Int} (h : ∀ a b, WFR (F a b).1) (a b : GRat) : WFR (op2 F a b).1 := by
  unfold op2; split
  · exact h a b
  · exact wfr_zRat

theorem mulR_wf (a b : GRat) : WFR (mulR a b).1 := op2_wf (fun _ _ => redR_wf _ _) a b
theorem addR_wf (a b : GRat) : WFR (addR a b).1 := op2_wf (fun _ _ => redR_wf _ _) a b
theorem subR_wf (a b : GRat) : WFR (subR a b).1 := op2_wf (fun _ _ => redR_wf _ _) a b

theorem op2_valid {F : GRat → GRat → GRat × Int} (h : ∀ a b, (F a b).2 = 0 → ValidR (F a b).1) {a b : GRat} (e : (op2 F a b).2 = 0) : ValidR (op2 F a b).1 := by
  unfold op2 at e ⊢
  split
  · rename_i hv; rw [if_pos hv] at e; exact h a b e
  · rename_i hv; rw [if_neg hv] at e; simp [-List.getD_eq_getElem?_getD] at e

theorem addR_valid {a b : GRat} (e : (addR a b).2 = 0) : ValidR (addR a b).1 := op2_valid (fun _ _ => redR_valid) e
end Go.Ev

namespace Go.Ev
set_option linter.unusedVariables false
set_option linter.unusedSimpArgs false

def leapP (y : Int) : Prop := y % 4 = 0 ∧ (y % 100 ≠ 0 ∨ y % 400 = 0)
instance (y : Int) : Decidable (leapP y) := by unfold leapP; infer_instance

def daysZ (y : Int) : Int := if leapP y then 366 else 365
def startZ (y : Int) : Int := 365 * (y - 2000) + (y - 2000 + 3) / 4 - (if y > 2100 then 1 else 0)

theorem start_succ {y : Int} (h : 2000 ≤ y) (h' : y ≤ 2199) : startZ (y + 1) = startZ y + daysZ y := by
  unfold startZ daysZ
  by_cases hl : leapP y
  · rw [if_pos hl]; unfold leapP at hl
    split <;> split <;> omega
  · rw [if_neg hl]; unfold leapP at hl
    split <;> split <;> omega

theorem tmod_pos {y m : Int} (h : 0 ≤ y) : y.tmod m = y % m := Int.tmod_eq_emod_of_nonneg h

theorem leap_ok {y : Int} (h : 0 ≤ y) : g_date_Leap y = some (decide (leapP y)) := by
  unfold g_date_Leap
  simp only [tmod_pos h, beq_dec, bne_dec]
  rw [decide_eq_false (by omega : ¬ (4 : Int) = 0), decide_eq_false (by omega : ¬ (100 : Int) = 0), decide_eq_false (by omega : ¬ (400 : Int) = 0), cF, cF, cF]
  by_cases a : y % 4 = 0
  · rw [decide_eq_true a, cT]
    by_cases b : y % 100 ≠ 0
    · rw [decide_eq_true b, cT, decide_eq_true (show leapP y from ⟨a, .inl b⟩)]
    · rw [decide_eq_false b, cF]
      simp only [Option.some.injEq, decide_eq_decide]
      exact ⟨fun e => (show leapP y from ⟨a, .inr e⟩), fun e => (show y % 4 = 0 ∧ (y % 100 ≠ 0 ∨ y % 400 = 0) from e).2.resolve_left b⟩
  · rw [decide_eq_false a, cF, decide_eq_false (p := leapP y) (fun e => a e.1)]

theorem refleap_ok {y : Int} (h : 0 ≤ y) : g_ref05_Leap y = some (decide (leapP y)) := leap_ok h

theorem refdays_ok {y : Int} (h : 0 ≤ y) : g_ref05_days y = some (daysZ y) := by
  unfold g_ref05_days daysZ
  rw [refleap_ok h, obind, cond_dec]
  split <;> rfl

theorem yearStart_ok {y : Int} (h : 2000 ≤ y) (h' : y ≤ 3000) : g_date_yearStart y = some (startZ y) := by
  unfold g_date_yearStart startZ
  have e1 : IntKind.i64.wrap (y - 2000) = y - 2000 := wrap_i64 (by omega) (by omega)
  have e2 : IntKind.i64.wrap (365 * (y - 2000)) = 365 * (y - 2000) := wrap_i64 (by omega) (by omega)
  have e3 : IntKind.i64.wrap (y - 2000 + 3) = y - 2000 + 3 := wrap_i64 (by omega) (by omega)
  have e4 : IntKind.i64.wrap ((y - 2000 + 3).tdiv 4) = (y - 2000 + 3) / 4 := by
    rw [Int.tdiv_eq_ediv_of_nonneg (by omega), wrap_i64 (by omega) (by omega)]
  have e5 : IntKind.i64.wrap (365 * (y - 2000) + (y - 2000 + 3) / 4) = 365 * (y - 2000) + (y - 2000 + 3) / 4 := wrap_i64 (by omega) (by omega)
  simp only [e1, e2, e3, e4, e5, cond_dec]
  rw [if_neg (by omega)]
  split
  · rw [wrap_i64 (by omega) (by omega)]
  · simp

/-- The year of a day. -/
theorem year_loop {n : Int} (h0 : 0 ≤ n) (h1 : n ≤ 73048) : ∀ (k : Nat) (y : Int), 2000 ≤ y → y ≤ 2199 → startZ y ≤ n → 2199 - y ≤ k →
    ∃ z, loopD (g_date_Civil_L4 n) (y, ()) = some (0, (z, ())) ∧ 2000 ≤ z ∧ z ≤ 2199 ∧ startZ z ≤ n ∧ n < startZ z + daysZ z := by
  intro k
  induction k with
  | zero =>
    intro y hy hy' hs hk
    have : y = 2199 := by omega
    subst this
    have e : startZ (2199 + 1) = 73049 := by decide
    refine ⟨2199, loopD_out ?_, by omega, by omega, hs, by rw [← start_succ (by omega) (by omega), e]; omega⟩
    unfold g_date_Civil_L4
    rw [wrap_i64 (by omega) (by omega), yearStart_ok (by omega) (by omega), obind, e, cond_dec, if_neg (by omega)]
  | succ k ih =>
    intro y hy hy' hs hk
    by_cases hn : startZ (y + 1) ≤ n
    · have hy2 : y ≤ 2198 := by
        rcases Int.lt_or_le y 2199 with q | q
        · omega
        · exfalso
          have : y = 2199 := by omega
          subst this
          have e : startZ (2199 + 1) = 73049 := by decide
          omega
      obtain ⟨z, q1, q2⟩ := ih (y + 1) (by omega) (by omega) hn (by omega)
      refine ⟨z, loopD_more ?_ q1, q2⟩
      unfold g_date_Civil_L4
      rw [wrap_i64 (by omega) (by omega), yearStart_ok (by omega) (by omega), obind, cond_dec, if_pos hn]
    · refine ⟨y, loopD_out ?_, hy, hy', hs, by rw [← start_succ hy hy']; omega⟩
      unfold g_date_Civil_L4
      rw [wrap_i64 (by omega) (by omega), yearStart_ok (by omega) (by omega), obind, cond_dec, if_neg hn]

theorem refyear_loop : ∀ (k : Nat) (n y : Int), 2000 ≤ y → y ≤ 2199 → 0 ≤ n → startZ y + n ≤ 73048 → 2199 - y ≤ k →
    ∃ z m, loopD g_ref05_Civil_L4 ((n, y), ()) = some (0, ((m, z), ())) ∧ 2000 ≤ z ∧ z ≤ 2199 ∧ 0 ≤ m ∧ m < daysZ z ∧ startZ z + m = startZ y + n := by
  intro k
  induction k with
  | zero =>
    intro n y hy hy' hn hs hk
    have : y = 2199 := by omega
    subst this
    have e : startZ (2199 + 1) = 73049 := by decide
    have e2 := start_succ (y := 2199) (by omega) (by omega)
    refine ⟨2199, n, loopD_out ?_, by omega, by omega, hn, by omega, rfl⟩
    unfold g_ref05_Civil_L4
    dsimp only
    rw [refdays_ok (by omega), obind, cond_dec, if_neg (by omega)]
  | succ k ih =>
    intro n y hy hy' hn hs hk
    have e2 := start_succ hy hy'
    have hd : daysZ y = 365 ∨ daysZ y = 366 := by unfold daysZ; split <;> simp
    by_cases hc : daysZ y ≤ n
    · have hy2 : y ≤ 2198 := by
        rcases Int.lt_or_le y 2199 with q | q
        · omega
        · exfalso
          have : y = 2199 := by omega
          subst this
          have e : startZ (2199 + 1) = 73049 := by decide
          omega
      obtain ⟨z, m, q1, q2, q3, q4, q5, q6⟩ := ih (n - daysZ y) (y + 1) (by omega) (by omega) (by omega) (by omega) (by omega)
      refine ⟨z, m, loopD_more ?_ q1, q2, q3, q4, q5, by omega⟩
      unfold g_ref05_Civil_L4
      dsimp only
      rw [refdays_ok (by omega), obind, cond_dec, if_pos (show n ≥ daysZ y from hc), obind]
      have hb : n < 100000 := by
        have : 0 ≤ startZ y := by unfold startZ; split <;> omega
        omega
      rw [wrap_i64 (by omega) (by omega), wrap_i64 (by omega) (by omega)]
    · refine ⟨y, n, loopD_out ?_, hy, hy', hn, by omega, rfl⟩
      unfold g_ref05_Civil_L4
      dsimp only
      rw [refdays_ok (by omega), obind, cond_dec, if_neg (show ¬ n ≥ daysZ y by omega)]

end Go.Ev

namespace Go.Ev
set_option linter.unusedVariables false
set_option linter.unusedSimpArgs false

/-- Days ahead of a month, by the number that a leap day adds. -/
def aheadT (l m : Int) : Int :=
  if m = 12 then 334 + l else if m = 11 then 304 + l else if m = 10 then 273 + l else if m = 9 then 243 + l else if m = 8 then 212 + l else if m = 7 then 181 + l
  else if m = 6 then 151 + l else if m = 5 then 120 + l else if m = 4 then 90 + l else if m = 3 then 59 + l else if m = 2 then 31 else 0

def leapN (y : Int) : Int := if leapP y then 1 else 0

theorem month_cases {m : Int} (h : 1 ≤ m) (h' : m ≤ 12) : m = 1 ∨ m = 2 ∨ m = 3 ∨ m = 4 ∨ m = 5 ∨ m = 6 ∨ m = 7 ∨ m = 8 ∨ m = 9 ∨ m = 10 ∨ m = 11 ∨ m = 12 := by omega

theorem ahead_ok {y m : Int} (hy : 0 ≤ y) (h : 1 ≤ m) (h' : m ≤ 12) : g_date_ahead y m = some (aheadT (leapN y) m) := by
  unfold leapN
  by_cases hl : leapP y
  · have hL : g_date_Leap y = some true := by rw [leap_ok hy, decide_eq_true hl]
    rw [if_pos hl]
    rcases month_cases h h' with e | e | e | e | e | e | e | e | e | e | e | e <;> subst e <;> simp only [g_date_ahead, hL, obind] <;> rfl
  · have hL : g_date_Leap y = some false := by rw [leap_ok hy, decide_eq_false hl]
    rw [if_neg hl]
    rcases month_cases h h' with e | e | e | e | e | e | e | e | e | e | e | e <;> subst e <;> simp only [g_date_ahead, hL, obind] <;> rfl

def lenT (l m : Int) : Int := if m = 2 then 28 + l else if m = 4 then 30 else if m = 6 then 30 else if m = 9 then 30 else if m = 11 then 30 else 31

theorem reflength_ok {y m : Int} (hy : 0 ≤ y) : g_ref05_length y m = some (lenT (leapN y) m) := by
  unfold g_ref05_length lenT leapN
  rw [refdays_ok hy, obind]
  unfold daysZ
  simp only [beq_dec, cond_dec]
  split
  · by_cases hl : leapP y
    · rw [if_pos hl, if_pos hl]; rfl
    · rw [if_neg hl, if_neg hl]; rfl
  · split
    · rfl
    · split
      · rfl
      · split
        · rfl
        · split <;> rfl

theorem ahead_succ {l m : Int} (h : 1 ≤ m) (h' : m ≤ 11) : aheadT l (m + 1) = aheadT l m + lenT l m := by
  rcases month_cases h (by omega) with e | e | e | e | e | e | e | e | e | e | e | e <;> subst e <;> simp [aheadT, lenT] <;> omega

end Go.Ev

namespace Go.Ev
set_option linter.unusedVariables false
set_option linter.unusedSimpArgs false

theorem leapN_01 (y : Int) : leapN y = 0 ∨ leapN y = 1 := by unfold leapN; split <;> simp
theorem daysZ_l (y : Int) : daysZ y = 365 + leapN y := by unfold daysZ leapN; split <;> rfl

structure IsDate (n y m d : Int) : Prop where
  y0 : 2000 ≤ y
  y1 : y ≤ 2199
  m0 : 1 ≤ m
  m1 : m ≤ 12
  lo : startZ y ≤ n
  hi : n < startZ y + daysZ y
  mlo : aheadT (leapN y) m ≤ n - startZ y
  mhi : n - startZ y < aheadT (leapN y) m + lenT (leapN y) m
  day : d = n - startZ y - aheadT (leapN y) m + 1

theorem start_mono {a b : Int} (h : 2000 ≤ a) (h' : a ≤ b) : startZ a ≤ startZ b := by
  unfold startZ
  split <;> split <;> omega

theorem ahead_mono {l m m' : Int} (hl : l = 0 ∨ l = 1) (h : 1 ≤ m) (h' : m < m') (h2 : m' ≤ 12) : aheadT l m + lenT l m ≤ aheadT l m' := by
  have key : ∀ k : Nat, m + 1 + k ≤ 12 → aheadT l m + lenT l m ≤ aheadT l (m + 1 + k) := by
    intro k
    induction k with
    | zero => intro hk; rw [show m + 1 + ((0 : Nat) : Int) = m + 1 by omega, ahead_succ h (by omega)]; omega
    | succ k ih =>
      intro hk
      have h1 := ih (by omega)
      rw [show m + 1 + ((k + 1 : Nat) : Int) = (m + 1 + k) + 1 by omega, ahead_succ (by omega) (by omega)]
      have : 0 ≤ lenT l (m + 1 + k) := by unfold lenT; (repeat' split) <;> omega
      omega
  have := key (m' - (m + 1)).toNat (by omega)
  rw [show m + 1 + ((m' - (m + 1)).toNat : Int) = m' by omega] at this
  exact this

theorem isDate_uniq {n y m d y' m' d' : Int} (h : IsDate n y m d) (h' : IsDate n y' m' d') : y = y' ∧ m = m' ∧ d = d' := by
  have hy : y = y' := by
    rcases Int.lt_trichotomy y y' with q | q | q
    · have h1 := start_mono (a := y + 1) (b := y') (by have := h.y0; omega) (by omega)
      rw [start_succ h.y0 h.y1] at h1
      have := h.hi; have := h'.lo; omega
    · exact q
    · have h1 := start_mono (a := y' + 1) (b := y) (by have := h'.y0; omega) (by omega)
      rw [start_succ h'.y0 h'.y1] at h1
      have := h'.hi; have := h.lo; omega
  subst hy
  have hm : m = m' := by
    rcases Int.lt_trichotomy m m' with q | q | q
    · have h1 := ahead_mono (leapN_01 y) h.m0 q h'.m1
      have := h.mhi; have := h'.mlo; omega
    · exact q
    · have h1 := ahead_mono (leapN_01 y) h'.m0 q h.m1
      have := h'.mhi; have := h.mlo; omega
  subst hm
  exact ⟨rfl, rfl, by rw [h.day, h'.day]⟩

/-- The month of a day of the year. -/
theorem month_of {l r : Int} (hl : l = 0 ∨ l = 1) (h0 : 0 ≤ r) (h1 : r < 365 + l) :
    (1 + r / 31 < 12 → (aheadT l (1 + r / 31 + 1) ≤ r → aheadT l (1 + r / 31 + 1) ≤ r ∧ r < aheadT l (1 + r / 31 + 1) + lenT l (1 + r / 31 + 1)) ∧
      (¬ aheadT l (1 + r / 31 + 1) ≤ r → aheadT l (1 + r / 31) ≤ r ∧ r < aheadT l (1 + r / 31) + lenT l (1 + r / 31))) ∧
    (¬ 1 + r / 31 < 12 → 1 + r / 31 = 12 ∧ aheadT l (1 + r / 31) ≤ r ∧ r < aheadT l (1 + r / 31) + lenT l (1 + r / 31)) := by
  have hm : 1 ≤ 1 + r / 31 := by omega
  have hm' : 1 + r / 31 ≤ 12 := by omega
  generalize hq : 1 + r / 31 = q at *
  rcases month_cases hm hm' with e | e | e | e | e | e | e | e | e | e | e | e <;> subst e <;> simp [aheadT, lenT] <;> omega

end Go.Ev

namespace Go.Ev
set_option linter.unusedVariables false
set_option linter.unusedSimpArgs false

theorem civil_ok {n : Int} (h0 : 0 ≤ n) (h1 : n ≤ 73048) : ∃ y m d, g_date_Civil n = some (y, (m, (d, 0))) ∧ IsDate n y m d := by
  have hstart : startZ (2000 + n / 366) ≤ n := by unfold startZ; split <;> omega
  obtain ⟨y, l1, y0, y1, lo, hi⟩ := year_loop h0 h1 2000 (2000 + n / 366) (by omega) (by omega) hstart (by omega)
  have hl := leapN_01 y
  have hd := daysZ_l y
  have hr0 : 0 ≤ n - startZ y := by omega
  have hr1 : n - startZ y < 365 + leapN y := by omega
  obtain ⟨k1, k2⟩ := month_of hl hr0 hr1
  have hs0 : 0 ≤ startZ y := by unfold startZ; split <;> omega
  have e1 : IntKind.i64.wrap ((2000 : Int) + IntKind.i64.wrap (n.tdiv 366)) = 2000 + n / 366 := by
    rw [Int.tdiv_eq_ediv_of_nonneg h0, wrap_i64 (n := n / 366) (by omega) (by omega), wrap_i64 (by omega) (by omega)]
  have e2 : IntKind.i64.wrap (n - startZ y) = n - startZ y := wrap_i64 (by omega) (by omega)
  have e3 : IntKind.i64.wrap ((n - startZ y).tdiv 31) = (n - startZ y) / 31 := by
    rw [Int.tdiv_eq_ediv_of_nonneg hr0, wrap_i64 (by omega) (by omega)]
  have e4 : IntKind.i64.wrap (1 + (n - startZ y) / 31) = 1 + (n - startZ y) / 31 := wrap_i64 (by omega) (by omega)
  have e5 : IntKind.i64.wrap (1 + (n - startZ y) / 31 + 1) = 1 + (n - startZ y) / 31 + 1 := wrap_i64 (by omega) (by omega)
  have hv : g_date_valid n = some true := by
    unfold g_date_valid
    rw [cond_dec, if_pos (show n ≥ 0 from h0), decide_eq_true h1]
  have fin : ∀ m, 1 ≤ m → m ≤ 12 → aheadT (leapN y) m ≤ n - startZ y → n - startZ y < aheadT (leapN y) m + lenT (leapN y) m →
      IntKind.i64.wrap (IntKind.i64.wrap (n - startZ y - aheadT (leapN y) m) + 1) = n - startZ y - aheadT (leapN y) m + 1 ∧ IsDate n y m (n - startZ y - aheadT (leapN y) m + 1) := by
    intro m m0 m1 a b
    have hlen : lenT (leapN y) m ≤ 31 := by unfold lenT; (repeat' split) <;> omega
    exact ⟨by rw [wrap_i64 (n := n - startZ y - aheadT (leapN y) m) (by omega) (by omega), wrap_i64 (by omega) (by omega)], y0, y1, m0, m1, lo, hi, a, b, rfl⟩
  unfold g_date_Civil
  rw [hv, obind, nT, cF, cond_dec, if_neg (by omega)]
  simp only [e1]
  rw [l1, obind]
  simp only
  rw [yearStart_ok (by omega) (by omega), obind, cond_dec, if_neg (by omega)]
  simp only [e2, e3, e4, e5, cond_dec]
  by_cases hc : 1 + (n - startZ y) / 31 < 12
  · rw [if_pos hc, ahead_ok (by omega) (by omega) (by omega), obind]
    by_cases ha : aheadT (leapN y) (1 + (n - startZ y) / 31 + 1) ≤ n - startZ y
    · obtain ⟨a, b⟩ := (k1 hc).1 ha
      obtain ⟨w, d⟩ := fin _ (by omega) (by omega) a b
      rw [if_pos ha, obind, w]
      exact ⟨_, _, _, rfl, d⟩
    · obtain ⟨a, b⟩ := (k1 hc).2 ha
      obtain ⟨w, d⟩ := fin _ (by omega) (by omega) a b
      rw [if_neg ha, ahead_ok (by omega) (by omega) (by omega), obind, w]
      exact ⟨_, _, _, rfl, d⟩
  · obtain ⟨c, a, b⟩ := k2 hc
    obtain ⟨w, d⟩ := fin _ (by omega) (by omega) a b
    rw [if_neg hc, ahead_ok (by omega) (by omega) (by omega), obind, w]
    exact ⟨_, _, _, rfl, d⟩

theorem ahead_nonneg {l m : Int} (hl : l = 0 ∨ l = 1) (h : 1 ≤ m) (h' : m ≤ 12) : 0 ≤ aheadT l m ∧ 0 ≤ lenT l m := by
  rcases month_cases h h' with e | e | e | e | e | e | e | e | e | e | e | e <;> subst e <;> simp [aheadT, lenT] <;> omega

theorem refmonth_loop {y r w : Int} (hy : 0 ≤ y) (hr : r < 365 + leapN y) : ∀ (k : Nat) (x m : Int), 1 ≤ m → m ≤ 12 → 0 ≤ x → aheadT (leapN y) m + x = r → 12 - m ≤ k →
    ∃ x' m', loopD (g_ref05_Civil_L7 (0, ((w, y), ()))) ((x, m), ()) = some (0, ((x', m'), ())) ∧ 1 ≤ m' ∧ m' ≤ 12 ∧ 0 ≤ x' ∧ x' < lenT (leapN y) m' ∧ aheadT (leapN y) m' + x' = r := by
  intro k
  induction k with
  | zero =>
    intro x m m0 m1 hx he hk
    have : m = 12 := by omega
    subst this
    have e : aheadT (leapN y) 12 = 334 + leapN y := rfl
    have e2 : lenT (leapN y) 12 = 31 := rfl
    refine ⟨x, 12, loopD_out ?_, m0, m1, hx, by omega, he⟩
    unfold g_ref05_Civil_L7
    dsimp only
    rw [reflength_ok hy, obind, cond_dec, if_neg (by omega)]
  | succ k ih =>
    intro x m m0 m1 hx he hk
    by_cases hc : lenT (leapN y) m ≤ x
    · have hm : m ≤ 11 := by
        rcases Int.lt_or_le m 12 with q | q
        · omega
        · exfalso
          have : m = 12 := by omega
          subst this
          have e : aheadT (leapN y) 12 = 334 + leapN y := rfl
          have e2 : lenT (leapN y) 12 = 31 := rfl
          omega
      obtain ⟨x', m', q1, q2⟩ := ih (x - lenT (leapN y) m) (m + 1) (by omega) (by omega) (by omega) (by rw [ahead_succ m0 hm]; omega) (by omega)
      refine ⟨x', m', loopD_more ?_ q1, q2⟩
      obtain ⟨ha, hlen⟩ := ahead_nonneg (leapN_01 y) m0 m1
      have := leapN_01 y
      unfold g_ref05_Civil_L7
      dsimp only
      rw [reflength_ok hy, obind, cond_dec, if_pos (show x ≥ lenT (leapN y) m from hc), obind, wrap_i64 (by omega) (by omega), wrap_i64 (by omega) (by omega)]
    · refine ⟨x, m, loopD_out ?_, m0, m1, hx, by omega, he⟩
      unfold g_ref05_Civil_L7
      dsimp only
      rw [reflength_ok hy, obind, cond_dec, if_neg (show ¬ x ≥ lenT (leapN y) m by omega)]

end Go.Ev

namespace Go.Ev
set_option linter.unusedVariables false
set_option linter.unusedSimpArgs false

theorem refcivil_ok {n : Int} (h0 : 0 ≤ n) (h1 : n ≤ 73048) : ∃ y m d, g_ref05_Civil n = some (y, (m, (d, 0))) ∧ IsDate n y m d := by
  have s0 : startZ 2000 = 0 := by decide
  obtain ⟨y, r, l1, y0, y1, r0, r1, hs⟩ := refyear_loop 200 n 2000 (by omega) (by omega) h0 (by omega) (by omega)
  rw [s0, Int.zero_add] at hs
  have hd := daysZ_l y
  have a1 : aheadT (leapN y) 1 = 0 := rfl
  obtain ⟨x', m, l2, m0, m1, x0, x1, hx⟩ := refmonth_loop (y := y) (r := r) (w := r) (by omega) (by omega) 12 r 1 (by omega) (by omega) r0 (by omega) (by omega)
  have hout : g_ref05_Out n = some false := by
    unfold g_ref05_Out
    rw [cond_dec, if_neg (by omega), decide_eq_false (by omega : ¬ n > 73048)]
  unfold g_ref05_Civil
  rw [hout, obind, cF, l1, obind]
  dsimp only
  rw [l2, obind]
  dsimp only
  have hl31 : lenT (leapN y) m ≤ 31 := by
    have := leapN_01 y
    rcases month_cases m0 m1 with e | e | e | e | e | e | e | e | e | e | e | e <;> subst e <;> simp [lenT] <;> omega
  rw [wrap_i64 (by omega) (by omega)]
  exact ⟨y, m, x' + 1, rfl, y0, y1, m0, m1, by omega, by omega, by omega, by omega, by omega⟩

theorem civil_same (n : Int) : g_date_Civil n = g_ref05_Civil n := by
  by_cases h : 0 ≤ n ∧ n ≤ 73048
  · obtain ⟨y, m, d, e, i⟩ := civil_ok h.1 h.2
    obtain ⟨y', m', d', e', i'⟩ := refcivil_ok h.1 h.2
    obtain ⟨a, b, c⟩ := isDate_uniq i i'
    subst a; subst b; subst c
    rw [e, e']
  · have hv : g_date_valid n = some false := by
      unfold g_date_valid
      rw [cond_dec]
      split
      · rw [decide_eq_false (by omega)]
      · rfl
    have hout : g_ref05_Out n = some true := by
      unfold g_ref05_Out
      rw [cond_dec]
      split
      · rfl
      · rw [decide_eq_true (by omega : n > 73048)]
    unfold g_date_Civil g_ref05_Civil
    rw [hv, hout, obind, obind, nF, cT, cT]

end Go.Ev

namespace Go.Ev
set_option linter.unusedVariables false
set_option linter.unusedSimpArgs false

/-- The first day of a year, as the program asks for it. -/
theorem newYear_ok {y : Int} (h : 2000 ≤ y) (h' : y ≤ 2199) : g_date_FromCivil y 1 1 = some (startZ y, 0) := by
  have hl : g_date_Length y 1 = some (31, 0) := by
    unfold g_date_Length
    simp only [cond_dec]
    rw [if_neg (by omega), if_neg (by omega), if_neg (by omega), if_neg (by omega)]
    rw [show ((1 : Int) == 12) = false from rfl, cF, show IntKind.i64.wrap ((1 : Int) + 1) = 2 from rfl, ahead_ok (by omega) (by omega) (by omega), obind, ahead_ok (by omega) (by omega) (by omega), obind]
    rfl
  have hs : 0 ≤ startZ y ∧ startZ y ≤ 100000 := by unfold startZ; split <;> omega
  have a1 : aheadT (leapN y) 1 = 0 := rfl
  unfold g_date_FromCivil
  rw [hl, obind]
  dsimp only
  rw [show ((0 : Int) != 0) = false from rfl, cF, cond_dec, if_neg (by omega), cond_dec, if_neg (by omega), yearStart_ok h (by omega), obind, ahead_ok (by omega) (by omega) (by omega), obind, a1, Int.add_zero]
  rw [wrap_i64 (n := startZ y) (by omega) (by omega), wrap_i64 (n := startZ y + 1) (by omega) (by omega), wrap_i64 (by omega) (by omega)]
  congr 2
  omega

theorem newYear_late : g_date_FromCivil 2200 1 1 = some (0, 51) := by
  have hl : g_date_Length 2200 1 = some (0, 51) := by
    unfold g_date_Length
    simp only [cond_dec]
    rw [if_neg (by omega), if_pos (by omega)]
  unfold g_date_FromCivil
  rw [hl, obind]
  rfl

end Go.Ev

namespace Go.Ev
set_option linter.unusedVariables false
set_option linter.unusedSimpArgs false

theorem years_loop {y : Int} (h : 2000 ≤ y) (h' : y ≤ 2199) : ∀ (k : Nat) (z d : Int), 2000 ≤ z → z ≤ y → y - z ≤ k → 0 ≤ d → d ≤ 31 →
    loopD (g_ref05_FromCivil_L6 y) ((d + startZ z, z), ()) = some (0, ((d + startZ y, y), ())) := by
  have hsy : ∀ z, 2000 ≤ z → z ≤ 2200 → 0 ≤ startZ z ∧ startZ z ≤ 100000 := fun z a b => by unfold startZ; split <;> omega
  intro k
  induction k with
  | zero =>
    intro z d hz hzy hk hd hd'
    have : z = y := by omega
    subst this
    refine loopD_out ?_
    unfold g_ref05_FromCivil_L6
    dsimp only
    rw [cond_dec, if_neg (by omega)]
  | succ k ih =>
    intro z d hz hzy hk hd hd'
    by_cases e : z = y
    · subst e
      refine loopD_out ?_
      unfold g_ref05_FromCivil_L6
      dsimp only
      rw [cond_dec, if_neg (by omega)]
    · refine loopD_more ?_ (ih (z + 1) d (by omega) (by omega) (by omega) hd hd')
      have hs := start_succ hz (by omega)
      have b1 := hsy z hz (by omega)
      have b2 := hsy (z + 1) (by omega) (by omega)
      unfold g_ref05_FromCivil_L6
      dsimp only
      rw [cond_dec, if_pos (by omega), refdays_ok (by omega), obind, wrap_i64 (n := d + startZ z + daysZ z) (by omega) (by omega), wrap_i64 (by omega) (by omega), hs]
      rw [show d + startZ z + daysZ z = d + (startZ z + daysZ z) by omega]

theorem months_loop {y s : Int} (h : 0 ≤ y) (hs : 0 ≤ s ∧ s ≤ 200000) : ∀ (k : Nat) (m : Int), 1 ≤ m → m ≤ 12 → 12 - m ≤ k →
    loopD (g_ref05_FromCivil_L10 y 12) ((s + aheadT (leapN y) m, m), ()) = some (0, ((s + aheadT (leapN y) 12, 12), ())) := by
  intro k
  induction k with
  | zero =>
    intro m h0 h1 hk
    have : m = 12 := by omega
    subst this
    refine loopD_out ?_
    unfold g_ref05_FromCivil_L10
    dsimp only
    rw [cond_dec, if_neg (by omega)]
  | succ k ih =>
    intro m h0 h1 hk
    by_cases e : m = 12
    · subst e
      refine loopD_out ?_
      unfold g_ref05_FromCivil_L10
      dsimp only
      rw [cond_dec, if_neg (by omega)]
    · refine loopD_more ?_ (ih (m + 1) (by omega) (by omega) (by omega))
      have ha := ahead_succ (l := leapN y) h0 (by omega)
      have hb : aheadT (leapN y) m + lenT (leapN y) m ≤ 400 ∧ 0 ≤ aheadT (leapN y) m := by
        have := leapN_01 y
        rcases month_cases h0 h1 with e | e | e | e | e | e | e | e | e | e | e | e <;> subst e <;> simp [aheadT, lenT] <;> omega
      have hn := (ahead_nonneg (leapN_01 y) h0 h1).2
      unfold g_ref05_FromCivil_L10
      dsimp only
      rw [cond_dec, if_pos (by omega), reflength_ok h, obind, wrap_i64 (by omega) (by omega), wrap_i64 (by omega) (by omega), ha]
      rw [show s + aheadT (leapN y) m + lenT (leapN y) m = s + (aheadT (leapN y) m + lenT (leapN y) m) by omega]

theorem yearEnd_ok {y : Int} (h : 2000 ≤ y) (h' : y ≤ 2199) : g_ref05_FromCivil y 12 31 = some (startZ (y + 1) - 1, 0) := by
  have hl : g_ref05_Length y 12 = some (31, 0) := by
    unfold g_ref05_Length
    simp only [cond_dec]
    rw [if_neg (by omega), if_neg (by omega), if_neg (by omega), if_neg (by omega), reflength_ok (by omega), obind]
    rfl
  have s0 : startZ 2000 = 0 := by decide
  have l1 := years_loop h h' 200 2000 30 (by omega) h (by omega) (by omega) (by omega)
  rw [s0, Int.add_zero] at l1
  have hsy : 0 ≤ startZ y ∧ startZ y ≤ 100000 := by unfold startZ; split <;> omega
  have l2 := months_loop (y := y) (s := 30 + startZ y) (by omega) (by omega) 12 1 (by omega) (by omega) (by omega)
  have a1 : aheadT (leapN y) 1 = 0 := rfl
  have a12 : aheadT (leapN y) 12 = 334 + leapN y := rfl
  rw [a1, Int.add_zero] at l2
  have hs := start_succ h h'
  have hd := daysZ_l y
  unfold g_ref05_FromCivil
  rw [hl, obind]
  dsimp only
  rw [show ((0 : Int) != 0) = false from rfl, cF, cond_dec, if_neg (by omega), cond_dec, if_neg (by omega), show IntKind.i64.wrap ((31 : Int) - 1) = 30 from rfl, l1, obind]
  dsimp only
  rw [l2, obind, a12]
  dsimp only
  rw [show 30 + startZ y + (334 + leapN y) = startZ (y + 1) - 1 by omega]

end Go.Ev

namespace Go.Ev
set_option linter.unusedVariables false
set_option linter.unusedSimpArgs false

theorem actual_step {f t c l y m d : Int} (ht : t ≤ 73048) (hft : f < t) (h0 : 0 ≤ f) (hc : 0 ≤ c) (hl : 0 ≤ l) (hcl : c + l ≤ f) (he : g_date_Civil f = some (y, (m, (d, 0)))) (i : IsDate f y m d) :
    g_daycount_actual_L2 t ((f, (c, l)), ()) = some (.more ((min t (startZ (y + 1)), (if leapP y then (c, l + (min t (startZ (y + 1)) - f)) else (c + (min t (startZ (y + 1)) - f), l))), ())) ∧
    g_ref06_actual_L3 t ((c, (l, f)), ()) = some (.more ((if leapP y then (c, (l + (min t (startZ (y + 1)) - f), min t (startZ (y + 1)))) else (c + (min t (startZ (y + 1)) - f), (l, min t (startZ (y + 1))))), ())) := by
  have y0 := i.y0
  have y1 := i.y1
  have hs := start_succ y0 y1
  have hhi := i.hi
  have hlo := i.lo
  have hb : startZ (y + 1) ≤ 73049 := by
    have e : startZ 2200 = 73049 := by decide
    have := start_mono (a := y + 1) (b := 2200) (by omega) (by omega)
    omega
  have lp : g_date_Leap y = some (decide (leapP y)) := leap_ok (by omega)
  have lr : g_ref05_Leap y = some (decide (leapP y)) := refleap_ok (by omega)
  have wy : IntKind.i64.wrap (y + 1) = y + 1 := wrap_i64 (by omega) (by omega)
  constructor
  · unfold g_daycount_actual_L2
    dsimp only
    rw [cond_dec, if_pos hft, he, obind]
    dsimp only
    rw [wy]
    have w1 : IntKind.i64.wrap (t - f) = t - f := wrap_i64 (by omega) (by omega)
    have w2 : IntKind.i64.wrap (l + (t - f)) = l + (t - f) := wrap_i64 (by omega) (by omega)
    have w3 : IntKind.i64.wrap (c + (t - f)) = c + (t - f) := wrap_i64 (by omega) (by omega)
    have w4 : IntKind.i64.wrap (startZ (y + 1) - f) = startZ (y + 1) - f := wrap_i64 (by omega) (by omega)
    have w5 : IntKind.i64.wrap (l + (startZ (y + 1) - f)) = l + (startZ (y + 1) - f) := wrap_i64 (by omega) (by omega)
    have w6 : IntKind.i64.wrap (c + (startZ (y + 1) - f)) = c + (startZ (y + 1) - f) := wrap_i64 (by omega) (by omega)
    by_cases hy : y = 2199
    · subst hy
      have e : startZ (2199 + 1) = 73049 := by decide
      rw [show (2199 : Int) + 1 = 2200 from rfl, newYear_late, obind]
      dsimp only
      rw [show ((51 : Int) != 0) = true from rfl, cT, lp, obind, w1, w2, w3, show (2200 : Int) = 2199 + 1 from rfl, Int.min_eq_left (by omega)]
      by_cases hlp : leapP 2199
      · rw [decide_eq_true hlp, cT, if_pos hlp]
      · rw [decide_eq_false hlp, cF, if_neg hlp]
    · rw [newYear_ok (by omega) (by omega), obind]
      dsimp only
      rw [show ((0 : Int) != 0) = false from rfl, cF, cond_dec]
      by_cases hgt : startZ (y + 1) > t
      · rw [if_pos hgt, lp, obind, w1, w2, w3, Int.min_eq_left (by omega)]
        by_cases hlp : leapP y
        · rw [decide_eq_true hlp, cT, if_pos hlp]
        · rw [decide_eq_false hlp, cF, if_neg hlp]
      · rw [if_neg hgt, lp, obind, w4, w5, w6, Int.min_eq_right (by omega)]
        by_cases hlp : leapP y
        · rw [decide_eq_true hlp, cT, if_pos hlp]
        · rw [decide_eq_false hlp, cF, if_neg hlp]
  · unfold g_ref06_actual_L3
    dsimp only
    rw [cond_dec, if_pos hft, ← civil_same, he, obind]
    dsimp only
    rw [yearEnd_ok y0 y1, obind, lr, obind]
    dsimp only
    have w0 : IntKind.i64.wrap (startZ (y + 1) - 1 + 1) = startZ (y + 1) := by rw [wrap_i64 (by omega) (by omega)]; omega
    rw [w0]
    have hm : f < min t (startZ (y + 1)) ∧ min t (startZ (y + 1)) ≤ 73048 := by omega
    generalize min t (startZ (y + 1)) = nx at *
    rw [wrap_i64 (n := nx - f) (by omega) (by omega), wrap_i64 (n := l + (nx - f)) (by omega) (by omega), wrap_i64 (n := c + (nx - f)) (by omega) (by omega)]
    by_cases hlp : leapP y
    · rw [decide_eq_true hlp, cT, if_pos hlp]
    · rw [decide_eq_false hlp, cF, if_neg hlp]

end Go.Ev

namespace Go.Ev
set_option linter.unusedVariables false
set_option linter.unusedSimpArgs false

theorem actual_loop {t : Int} (ht : t ≤ 73048) : ∀ (k : Nat) (f c l : Int), 0 ≤ f → t - f ≤ k → 0 ≤ c → 0 ≤ l → c + l ≤ f → f ≤ 73048 →
    ∃ c' l' d d', loopD (g_daycount_actual_L2 t) ((f, (c, l)), ()) = some (0, ((d, (c', l')), ())) ∧ loopD (g_ref06_actual_L3 t) ((c, (l, f)), ()) = some (0, ((c', (l', d')), ())) ∧ 0 ≤ c' ∧ 0 ≤ l' ∧ c' + l' ≤ 73048 := by
  intro k
  induction k with
  | zero =>
    intro f c l h0 hk hc hl hcl hf
    refine ⟨c, l, f, f, loopD_out ?_, loopD_out ?_, hc, hl, by omega⟩
    · unfold g_daycount_actual_L2
      dsimp only
      rw [cond_dec, if_neg (by omega)]
    · unfold g_ref06_actual_L3
      dsimp only
      rw [cond_dec, if_neg (by omega)]
  | succ k ih =>
    intro f c l h0 hk hc hl hcl hf
    by_cases hft : f < t
    · obtain ⟨y, m, d, he, i⟩ := civil_ok h0 hf
      obtain ⟨s1, s2⟩ := actual_step ht hft h0 hc hl hcl he i
      have hs := start_succ i.y0 i.y1
      have hhi := i.hi
      have hm : f < min t (startZ (y + 1)) ∧ min t (startZ (y + 1)) ≤ t := by omega
      generalize min t (startZ (y + 1)) = nx at *
      by_cases hlp : leapP y
      · rw [if_pos hlp] at s1 s2
        obtain ⟨c', l', d1, d2, q1, q2, q3⟩ := ih nx c (l + (nx - f)) (by omega) (by omega) hc (by omega) (by omega) (by omega)
        exact ⟨c', l', d1, d2, loopD_more s1 q1, loopD_more s2 q2, q3⟩
      · rw [if_neg hlp] at s1 s2
        obtain ⟨c', l', d1, d2, q1, q2, q3⟩ := ih nx (c + (nx - f)) l (by omega) (by omega) (by omega) hl (by omega) (by omega)
        exact ⟨c', l', d1, d2, loopD_more s1 q1, loopD_more s2 q2, q3⟩
    · refine ⟨c, l, f, f, loopD_out ?_, loopD_out ?_, hc, hl, by omega⟩
      · unfold g_daycount_actual_L2
        dsimp only
        rw [cond_dec, if_neg hft]
      · unfold g_ref06_actual_L3
        dsimp only
        rw [cond_dec, if_neg hft]

theorem actual_ok {f t : Int} (h0 : 0 ≤ f) (hf : f ≤ 73048) (ht : t ≤ 73048) : ∃ c l : Int, 0 ≤ c ∧ 0 ≤ l ∧ c + l ≤ 73048 ∧
    g_daycount_actual f t = some (addR (redR c 365).1 (redR l 366).1) ∧ g_ref06_actual f t = some (addR (redR c 365).1 (redR l 366).1).1 := by
  obtain ⟨c, l, d, d', q1, q2, c0, l0, cl⟩ := actual_loop ht (t - f).toNat f 0 0 h0 (by omega) (by omega) (by omega) (by omega) hf
  have ic : I64 c := by unfold I64; omega
  have il : I64 l := by unfold I64; omega
  have i5 : I64 365 := by unfold I64; omega
  have i6 : I64 366 := by unfold I64; omega
  refine ⟨c, l, c0, l0, cl, ?_, ?_⟩
  · unfold g_daycount_actual
    rw [q1, obind]
    dsimp only
    rw [Of_ok ic i5, obind, Of_ok il i6, obind, addR_ok (redR_wf _ _) (redR_wf _ _), obind]
  · unfold g_ref06_actual
    rw [q2, obind]
    dsimp only
    rw [refOf_ok ic i5, obind, refOf_ok il i6, obind, refaddR_ok (redR_wf _ _) (redR_wf _ _), obind]

end Go.Ev

namespace Go.Ev
set_option linter.unusedVariables false
set_option linter.unusedSimpArgs false

theorem bits_small {z : Int} (h : (z.natAbs : Int) < 9223372036854775808) : bitsZ z ≤ 480 := by
  have : bitlen z.natAbs ≤ 63 := by
    refine bitlen_le.2 ?_
    have : (2 : Nat) ^ 63 = 9223372036854775808 := rfl
    omega
  unfold bitsZ; omega

theorem redR_small {n d : Int} (hn : (n.natAbs : Int) < 9223372036854775808) (hd : (d.natAbs : Int) < 9223372036854775808) (h0 : d ≠ 0) :
    (redR n d).2 = 0 ∧ ((val (redR n d).1.1).natAbs : Int) ≤ n.natAbs ∧ ((val (redR n d).1.2).natAbs : Int) ≤ d.natAbs := by
  have hg := gcd_pos' (n := n) h0
  obtain ⟨dv1, dv2⟩ := gcd_dvd_int n d
  have a1 := exact_abs hg dv1
  have a2 := exact_abs hg dv2
  unfold redR
  rw [if_neg h0]
  dsimp only
  generalize ((Nat.gcd n.natAbs d.natAbs : Nat) : Int) = g at *
  have b1 : ((if d < 0 then -(n / g) else n / g).natAbs : Int) ≤ n.natAbs := by split <;> omega
  have b2 : ((if d < 0 then -(d / g) else d / g).natAbs : Int) ≤ d.natAbs := by split <;> omega
  generalize (if d < 0 then -(n / g) else n / g) = n' at *
  generalize (if d < 0 then -(d / g) else d / g) = d' at *
  have := MX_big
  rw [if_pos ⟨bits_small (by omega), bits_small (by omega)⟩]
  dsimp only
  rw [val_zI (by omega), val_zI (by omega)]
  exact ⟨rfl, b1, b2⟩

theorem sum_fits {c l : Int} (h0 : 0 ≤ c) (h1 : 0 ≤ l) (h2 : c + l ≤ 73048) : (addR (redR c 365).1 (redR l 366).1).2 = 0 := by
  obtain ⟨a1, a2, a3⟩ := redR_small (n := c) (d := 365) (by omega) (by omega) (by omega)
  obtain ⟨b1, b2, b3⟩ := redR_small (n := l) (d := 366) (by omega) (by omega) (by omega)
  have va := redR_valid a1
  have vb := redR_valid b1
  have p1 := va.pos
  have p2 := vb.pos
  unfold addR op2
  rw [if_pos ⟨va, vb⟩]
  dsimp only
  generalize val (redR c 365).1.1 = x at *
  generalize val (redR c 365).1.2 = y at *
  generalize val (redR l 366).1.1 = z at *
  generalize val (redR l 366).1.2 = w at *
  have m1 : ((x * w).natAbs : Int) ≤ 73048 * 366 := by rw [abs_mul]; exact Int.mul_le_mul (by omega) (by omega) (by omega) (by omega)
  have m2 : ((z * y).natAbs : Int) ≤ 73048 * 365 := by rw [abs_mul]; exact Int.mul_le_mul (by omega) (by omega) (by omega) (by omega)
  have m3 : ((y * w).natAbs : Int) ≤ 365 * 366 := by rw [abs_mul]; exact Int.mul_le_mul (by omega) (by omega) (by omega) (by omega)
  have m4 : 0 < y * w := Int.mul_pos p1 p2
  exact (redR_small (by omega) (by omega) (by omega)).1


end Go.Ev

namespace Go.Ev
set_option linter.unusedVariables false
set_option linter.unusedSimpArgs false

theorem days_cases {b f t : Int} : (∃ e, e ≠ 0 ∧ g_daycount_Days b f t = some (0, e)) ∨ (1 ≤ b ∧ b ≤ 4 ∧ 0 ≤ f ∧ f ≤ 73048 ∧ 0 ≤ t ∧ t ≤ 73048 ∧ f ≤ t ∧ ∃ n, I64 n ∧ g_daycount_Days b f t = some (n, 0)) := by
  have hw : ∀ z, I64 (IntKind.i64.wrap z) := fun z => by
    unfold I64; rw [wrap_i64_mod]; split <;> omega
  unfold g_daycount_Days
  simp only [cond_dec]
  split
  · exact .inl ⟨60, by omega, rfl⟩
  · split
    · exact .inl ⟨60, by omega, rfl⟩
    · split
      · exact .inl ⟨50, by omega, rfl⟩
      · split
        · exact .inl ⟨50, by omega, rfl⟩
        · split
          · exact .inl ⟨50, by omega, rfl⟩
          · split
            · exact .inl ⟨50, by omega, rfl⟩
            · split
              · exact .inl ⟨61, by omega, rfl⟩
              · right
                refine ⟨by omega, by omega, by omega, by omega, by omega, by omega, by omega, ?_⟩
                cases hb : (b == 4) with
                | true =>
                  rw [cT]
                  obtain ⟨y, m, d, e, i⟩ := civil_ok (n := t) (by omega) (by omega)
                  obtain ⟨y', m', d', e', i'⟩ := civil_ok (n := f) (by omega) (by omega)
                  unfold g_daycount_position
                  rw [e, e', obind, obind, obind, obind]
                  exact ⟨_, hw _, rfl⟩
                | false => rw [cF]; exact ⟨_, hw _, rfl⟩

end Go.Ev

namespace Go.Ev
set_option linter.unusedVariables false
set_option linter.unusedSimpArgs false

theorem power9 : g_decimal_power 9 = some 1000000000 := by
  have h : loopD (g_decimal_power_L3 9) ((1, 0), ()) = some (0, ((1000000000, 9), ())) := loopD_some (n := 10) (by rfl)
  unfold g_decimal_power
  rw [h, obind]

end Go.Ev

namespace Go.Ev
set_option linter.unusedVariables false
set_option linter.unusedSimpArgs false

theorem i64_9 : I64 1000000000 := by unfold I64; omega

theorem scale_MX {r : GRat} (hv : ValidR r) : ((val r.1 * 1000000000).natAbs : Int) < MX := by
  refine prod_MX hv.kn ?_
  exact bits_lt (bits64 i64_9)

noncomputable def ceilR (r : GRat) : GInt × Int :=
  if ValidR r then (if val r.1 * 1000000000 % val r.2 = 0 then (zI (val r.1 * 1000000000 / val r.2), 0) else ((fitR (val (zI (val r.1 * 1000000000 / val r.2)) + 1)).1, 0)) else (zI 0, 20)

theorem ceil_ok {r : GRat} (h : WFR r) : g_decimal_Round r 9 4 = some (ceilR r) := by
  unfold g_decimal_Round g_decimal_check ceilR
  rw [valid_ok h, obind]
  by_cases hv : ValidR r
  · rw [decide_eq_true hv, nT, cF, if_pos hv]
    simp only [cond_dec]
    rw [if_neg (by omega), if_neg (by omega), obind, show ((0 : Int) != 0) = false from rfl, cF]
    have hp := hv.pos
    have hm := scale_MX hv
    have h0 : ¬ val r.2 = 0 := by omega
    have r0 := Int.emod_nonneg (val r.1 * 1000000000) h0
    have r1 := Int.emod_lt_of_pos (val r.1 * 1000000000) hp
    have rM : ((val r.1 * 1000000000 % val r.2).natAbs : Int) < MX := by have := hv.kd; have := KM_MX; omega
    unfold g_decimal_scaled
    rw [power9, obind, fromInt_ok i64_9, obind, mul_ok h.num (zI_wf _), obind, val_I64 i64_9]
    unfold fitR
    rw [if_pos hm, divmod_ok (zI_wf _) h.den, obind, val_zI hm]
    unfold divR
    rw [if_neg h0, obind]
    dsimp only
    rw [add_ok (zI_wf _) (zI_wf _), obind]
    have wf : ∀ z, WF 32 (fitR z).1.2 := fun z => by unfold fitR; split <;> exact zI_wf _
    rw [cmp_ok (wf _) h.den, obind, sign_ok h.num, obind]
    rw [show ((4 : Int) == 1) = false from rfl, cF, show ((4 : Int) == 2) = false from rfl, cF, show ((4 : Int) == 3) = false from rfl, cF, show ((4 : Int) == 4) = true from rfl, cT]
    unfold g_decimal_Round_E47_4 g_decimal_between_ceil
    dsimp only
    rw [sign_ok (zI_wf _), obind, val_zI rM, beq_dec, cond_dec]
    by_cases hz : val r.1 * 1000000000 % val r.2 = 0
    · rw [if_pos ((sgn_zero _).2 hz), if_pos hz]
    · rw [if_neg (fun e => hz ((sgn_zero _).1 e)), if_neg hz, obind, nT, cF, whole1, obind, add_ok (zI_wf _) (zI_wf _), obind, val_I64 i64_1]
      unfold fitR
      rfl
  · rw [decide_eq_false hv, nF, cT, obind, if_neg hv, zI_zero]
    rfl

end Go.Ev

namespace Go.Ev
set_option linter.unusedVariables false
set_option linter.unusedSimpArgs false

theorem fitR_wf (z : Int) : WF 32 (fitR z).1.2 := by unfold fitR; split <;> exact zI_wf _

theorem ite3_wf {p q : Prop} [Decidable p] [Decidable q] {a b c : GInt × Int} (ha : WF 32 a.1.2) (hb : WF 32 b.1.2) (hc : WF 32 c.1.2) : WF 32 (if p then (if q then a else b) else c).1.2 := by
  by_cases hp : p
  · rw [if_pos hp]
    by_cases hq : q
    · rw [if_pos hq]; exact ha
    · rw [if_neg hq]; exact hb
  · rw [if_neg hp]; exact hc

theorem pr_wf {x : GInt} (e : Int) (h : WF 32 x.2) : WF 32 ((x, e) : GInt × Int).1.2 := h

theorem ceilR_wf (r : GRat) : WF 32 (ceilR r).1.2 := by
  unfold ceilR
  exact ite3_wf (pr_wf _ (zI_wf _)) (pr_wf _ (fitR_wf _)) (pr_wf _ (zI_wf _))

noncomputable def quantR (r : GRat) : GRat × Int := if (ceilR r).2 = 0 then redR (val (ceilR r).1) 1000000000 else (zRat, (ceilR r).2)

theorem quant_a {q : GInt × Int} {p : Int} (hw : WF 32 q.1.2) (hp : I64 p) :
    (bif (q.2 != 0) then some (zRat, q.2) else (some p).bind fun r2 => (g_bigint_FromInt r2).bind fun r3 => (g_ratio_Make q.1 r3).bind fun r4 => some (r4.1, r4.2)) =
    some (if q.2 = 0 then redR (val q.1) p else (zRat, q.2)) := by
  rw [bne_dec]
  by_cases h : q.2 = 0
  · rw [decide_eq_false (by omega), cF, if_pos h, obind, fromInt_ok hp, obind, make_ok hw (zI_wf _), obind, val_I64 hp]
  · rw [decide_eq_true h, cT, if_neg h]

theorem quantize_ok {r : GRat} (h : WFR r) : g_decimal_Quantize r 9 4 = some (quantR r) := by
  unfold g_decimal_Quantize quantR
  rw [ceil_ok h, obind, power9, zRat_eq]
  exact quant_a (ceilR_wf r) i64_9

end Go.Ev

namespace Go.Ev
set_option linter.unusedVariables false
set_option linter.unusedSimpArgs false

/-! ### Fractions -/
theorem bits_64 {z : Int} (h : (z.natAbs : Int) ≤ 9223372036854775808) : bitsZ z ≤ 480 := by
  have : bitlen z.natAbs ≤ 64 := by
    refine bitlen_le.2 ?_
    have : (2 : Nat) ^ 64 = 18446744073709551616 := rfl
    omega
  unfold bitsZ; omega

theorem redR_64 {n d : Int} (hn : I64 n) (hd : I64 d) (h0 : d ≠ 0) : (redR n d).2 = 0 := by
  have hn' : (n.natAbs : Int) ≤ 9223372036854775808 := by unfold I64 at hn; omega
  have hd' : (d.natAbs : Int) ≤ 9223372036854775808 := by unfold I64 at hd; omega
  have hg := gcd_pos' (n := n) h0
  obtain ⟨dv1, dv2⟩ := gcd_dvd_int n d
  have a1 := exact_abs hg dv1
  have a2 := exact_abs hg dv2
  unfold redR
  rw [if_neg h0]
  dsimp only
  generalize ((Nat.gcd n.natAbs d.natAbs : Nat) : Int) = g at *
  have b1 : ((if d < 0 then -(n / g) else n / g).natAbs : Int) ≤ n.natAbs := by split <;> omega
  have b2 : ((if d < 0 then -(d / g) else d / g).natAbs : Int) ≤ d.natAbs := by split <;> omega
  generalize (if d < 0 then -(n / g) else n / g) = n' at *
  generalize (if d < 0 then -(d / g) else d / g) = d' at *
  rw [if_pos ⟨bits_64 (by omega), bits_64 (by omega)⟩]

theorem days_late {b f t : Int} (h1 : 1 ≤ b) (h2 : b ≤ 4) (h3 : 0 ≤ f) (h4 : f ≤ 73048) (h5 : 0 ≤ t) (h6 : t ≤ 73048) (h7 : t < f) : g_daycount_Days b f t = some (0, 61) := by
  unfold g_daycount_Days
  simp only [cond_dec]
  rw [if_neg (by omega), if_neg (by omega), if_neg (by omega), if_neg (by omega), if_neg (by omega), if_neg (by omega), if_pos (by omega)]

theorem fraction_late {b f t : Int} (h1 : 1 ≤ b) (h2 : b ≤ 4) (h3 : 0 ≤ f) (h4 : f ≤ 73048) (h5 : 0 ≤ t) (h6 : t ≤ 73048) (h7 : t < f) : g_daycount_Fraction b f t = some (zRat, 61) := by
  unfold g_daycount_Fraction
  rw [days_late h1 h2 h3 h4 h5 h6 h7, obind]
  dsimp only
  rw [bne_dec, decide_eq_true (by omega), cT, zRat_eq]

theorem fraction_in {b f t : Int} (h1 : 1 ≤ b) (h2 : b ≤ 4) (h3 : 0 ≤ f) (h4 : f ≤ 73048) (h5 : 0 ≤ t) (h6 : t ≤ 73048) (h7 : f ≤ t) : ∃ r, WFR r ∧ ValidR r ∧ g_daycount_Fraction b f t = some (r, 0) := by
  have hd : ∃ n, I64 n ∧ g_daycount_Days b f t = some (n, 0) := by
    rcases days_cases (b := b) (f := f) (t := t) with ⟨e, he, h⟩ | ⟨_, _, _, _, _, _, _, n, hn, h⟩
    · exfalso
      unfold g_daycount_Days at h
      simp only [cond_dec] at h
      rw [if_neg (by omega), if_neg (by omega), if_neg (by omega), if_neg (by omega), if_neg (by omega), if_neg (by omega), if_neg (by omega)] at h
      cases hb : (b == 4) with
      | true =>
        rw [hb, cT] at h
        obtain ⟨y, m, d, e1, i⟩ := civil_ok (n := t) (by omega) (by omega)
        obtain ⟨y', m', d', e2, i'⟩ := civil_ok (n := f) (by omega) (by omega)
        unfold g_daycount_position at h
        rw [e1, e2, obind, obind, obind, obind] at h
        injection h with h
        injection h with _ h
        exact he h.symm
      | false =>
        rw [hb, cF] at h
        injection h with h
        injection h with _ h
        exact he h.symm
    · exact ⟨n, hn, h⟩
  obtain ⟨n, hn, h⟩ := hd
  have i5 : I64 365 := by unfold I64; omega
  have i6 : I64 360 := by unfold I64; omega
  obtain ⟨c, l, c0, l0, cl, q1, q2⟩ := actual_ok h3 h4 h6
  have hz := sum_fits c0 l0 cl
  unfold g_daycount_Fraction
  rw [h, obind]
  dsimp only
  rw [show ((0 : Int) != 0) = false from rfl, cF, Of_ok hn i5, Of_ok hn i6, q1]
  simp only [obind, beq_dec, cond_dec, hz]
  have z5 := redR_64 hn i5 (by omega)
  have z6 := redR_64 hn i6 (by omega)
  by_cases hb3 : b = 3
  · rw [if_pos hb3]
    exact ⟨_, addR_wf _ _, addR_valid hz, rfl⟩
  · rw [if_neg hb3]
    by_cases hb2 : b = 2
    · rw [if_pos hb2, z5]
      exact ⟨_, redR_wf _ _, redR_valid z5, rfl⟩
    · rw [if_neg hb2, z6]
      exact ⟨_, redR_wf _ _, redR_valid z6, rfl⟩

/-! ### Checks -/
noncomputable def chkT (t : GTerms) : Int := if PartR t.1 then (if PartR t.2.1 then (if t.2.2 < 1 then 310 else if t.2.2 > 4 then 310 else 0) else 310) else 310
noncomputable def chkW (w : GWater) : Int := if AboveR w.1 then (if w.2 < 0 then 311 else if w.2 > 73048 then 311 else 0) else 311

theorem checkT_ok {t : GTerms} (h : WFT t) : g_highwater_Check t = some (chkT t) := by
  unfold g_highwater_Check chkT
  rw [part_ok h.rate, obind, part_ok h.hurdle, obind]
  by_cases h1 : PartR t.1
  · rw [decide_eq_true h1, nT, cF, if_pos h1]
    by_cases h2 : PartR t.2.1
    · rw [decide_eq_true h2, nT, cF, if_pos h2, cond_dec, cond_dec]
      split
      · rfl
      · split <;> rfl
    · rw [decide_eq_false h2, nF, cT, if_neg h2]
  · rw [decide_eq_false h1, nF, cT, if_neg h1]

theorem checkW_ok {w : GWater} (h : WFW w) : g_highwater_CheckWater w = some (chkW w) := by
  unfold g_highwater_CheckWater chkW
  rw [above_ok h.mark, obind]
  by_cases h1 : AboveR w.1
  · rw [decide_eq_true h1, nT, cF, if_pos h1, cond_dec, cond_dec]
    split
    · rfl
    · split <;> rfl
  · rw [decide_eq_false h1, nF, cT, if_neg h1]

theorem chkT_cases (t : GTerms) : chkT t = 310 ∨ (chkT t = 0 ∧ PartR t.1 ∧ PartR t.2.1 ∧ 1 ≤ t.2.2 ∧ t.2.2 ≤ 4) := by
  unfold chkT
  split
  · split
    · split
      · exact .inl rfl
      · split
        · exact .inl rfl
        · exact .inr ⟨rfl, by assumption, by assumption, by omega, by omega⟩
    · exact .inl rfl
  · exact .inl rfl

theorem chkW_cases (w : GWater) : chkW w = 311 ∨ (chkW w = 0 ∧ AboveR w.1 ∧ 0 ≤ w.2 ∧ w.2 ≤ 73048) := by
  unfold chkW
  split
  · split
    · exact .inl rfl
    · split
      · exact .inl rfl
      · exact .inr ⟨rfl, by assumption, by omega, by omega⟩
  · exact .inl rfl

/-! ### Thresholds -/
theorem step2_wf {F : GRat → GRat → GRat × Int} (h : ∀ a b, WFR (F a b).1) (a b : GRat × Int) : WFR (step2 F a b).1 := by
  unfold step2
  split
  · exact wfr_zRat
  · split
    · exact wfr_zRat
    · exact h _ _

theorem step2_ok {F : GRat → GRat → GRat × Int} (a b : GRat) : step2 F (a, 0) (b, 0) = F a b := by
  unfold step2
  simp [-List.getD_eq_getElem?_getD]

noncomputable def thrR (t : GTerms) (w : GWater) (r : GRat) : GRat × Int := step2 mulR (w.1, 0) (step2 addR (wholeR 1, 0) (mulR t.2.1 r))

theorem thrR_wf (t : GTerms) (w : GWater) (r : GRat) : WFR (thrR t w r).1 := step2_wf mulR_wf _ _

noncomputable def fracR (b f t : Int) : GRat := ((g_daycount_Fraction b f t).getD (zRat, 0)).1

theorem threshold_ok {t : GTerms} {w : GWater} {d : Int} (ht : WFT t) (hw : WFW w) (b1 : 1 ≤ t.2.2) (b2 : t.2.2 ≤ 4) (w1 : 0 ≤ w.2) (w2 : w.2 ≤ 73048) :
    g_highwater_threshold t w d = some (if d < 0 then (zRat, 50) else if d > 73048 then (zRat, 50) else if d < w.2 then (zRat, 61) else thrR t w (fracR t.2.2 w.2 d)) := by
  unfold g_highwater_threshold
  rw [zRat_eq, cond_dec, cond_dec]
  by_cases d1 : d < 0
  · rw [if_pos d1, if_pos d1]
  rw [if_neg d1, if_neg d1]
  by_cases d2 : d > 73048
  · rw [if_pos d2, if_pos d2]
  rw [if_neg d2, if_neg d2]
  by_cases d3 : d < w.2
  · rw [if_pos d3, fraction_late b1 b2 w1 w2 (by omega) (by omega) d3, obind]
    dsimp only
    rw [bne_dec, decide_eq_true (by omega), cT]
  rw [if_neg d3]
  obtain ⟨r, rw', rv, hr⟩ := fraction_in b1 b2 w1 w2 (by omega) (by omega) (show w.2 ≤ d by omega)
  have hf : fracR t.2.2 w.2 d = r := by unfold fracR; rw [hr]; rfl
  rw [hf, hr, obind]
  dsimp only
  simp only [show ((0 : Int) != 0) = false from rfl, cF]
  rw [mulR_ok ht.hurdle rw', obind, Whole_ok i64_1, obind]
  unfold thrR
  generalize hm : mulR t.2.1 r = m
  have wm : WFR m.1 := by rw [← hm]; exact mulR_wf _ _
  rw [bne_dec]
  by_cases m0 : m.2 = 0
  · rw [decide_eq_false (by omega), cF, addR_ok (wfr_whole 1) wm, obind, bne_dec]
    have e1 : step2 addR (wholeR 1, 0) m = addR (wholeR 1) m.1 := by
      unfold step2; dsimp only; rw [if_neg (by omega), if_neg (by omega)]
    rw [e1]
    generalize ha : addR (wholeR 1) m.1 = a
    have wa : WFR a.1 := by rw [← ha]; exact addR_wf _ _
    by_cases a0 : a.2 = 0
    · rw [decide_eq_false (by omega), cF, mulR_ok hw.mark wa, obind]
      have e2 : step2 mulR (w.1, 0) a = mulR w.1 a.1 := by
        unfold step2; dsimp only; rw [if_neg (by omega), if_neg (by omega)]
      rw [e2]
    · rw [decide_eq_true a0, cT]
      have e2 : step2 mulR (w.1, 0) a = (zRat, a.2) := by
        unfold step2; dsimp only; rw [if_neg (by omega), if_pos a0]
      rw [e2]
  · rw [decide_eq_true m0, cT, cT]
    have e1 : step2 addR (wholeR 1, 0) m = (zRat, m.2) := by
      unfold step2; dsimp only; rw [if_neg (by omega), if_pos m0]
    have e2 : step2 mulR (w.1, 0) (zRat, m.2) = (zRat, m.2) := by
      unfold step2; dsimp only; rw [if_neg (by omega), if_pos m0]
    rw [e1, e2]

end Go.Ev

namespace Go.Ev
set_option linter.unusedVariables false
set_option linter.unusedSimpArgs false

theorem check_ok {t : GTerms} {w : GWater} (ht : WFT t) (hw : WFW w) : g_highwater_check t w = some (if chkT t = 0 then chkW w else 310) := by
  unfold g_highwater_check
  rw [checkT_ok ht, obind, bne_dec]
  rcases chkT_cases t with h | ⟨h, _⟩
  · rw [h, decide_eq_true (by omega), cT, if_neg (by omega)]
  · rw [h, decide_eq_false (by omega), cF, if_pos rfl, checkW_ok hw, obind]

/-- What the checks of all arguments come to. -/
noncomputable def chkA (t : GTerms) (w : GWater) (g : GRat) (d : Int) : Int :=
  if chkT t = 0 then (if chkW w = 0 then (if AboveR g then (if d < 0 then 50 else if d > 73048 then 50 else if d < w.2 then 61 else 0) else 312) else 311) else 310

noncomputable def thrS (t : GTerms) (w : GWater) (g : GRat) (d : Int) : GRat × Int :=
  if chkA t w g d = 0 then thrR t w (fracR t.2.2 w.2 d) else (zRat, chkA t w g d)

theorem thrS_wf (t : GTerms) (w : GWater) (g : GRat) (d : Int) : WFR (thrS t w g d).1 := by
  unfold thrS; split
  · exact thrR_wf _ _ _
  · exact wfr_zRat

/-- The step from the checks to the threshold, in the program. -/
theorem thr_step {t : GTerms} {w : GWater} {g : GRat} {d : Int} (ht : WFT t) (hw : WFW w) (h : chkT t = 0) (k : chkW w = 0) (hg : AboveR g) : g_highwater_threshold t w d = some (thrS t w g d) := by
  rcases chkT_cases t with e | ⟨_, _, _, b1, b2⟩
  · omega
  rcases chkW_cases w with e | ⟨_, _, w1, w2⟩
  · omega
  rw [threshold_ok ht hw b1 b2 w1 w2]
  unfold thrS chkA
  rw [if_pos h, if_pos k, if_pos hg]
  by_cases d1 : d < 0
  · rw [if_pos d1, if_pos d1, if_neg (by omega)]
  · rw [if_neg d1, if_neg d1]
    by_cases d2 : d > 73048
    · rw [if_pos d2, if_pos d2, if_neg (by omega)]
    · rw [if_neg d2, if_neg d2]
      by_cases d3 : d < w.2
      · rw [if_pos d3, if_pos d3, if_neg (by omega)]
      · rw [if_neg d3, if_neg d3, if_pos rfl]

/-! ### Fees -/
theorem cmpR_turn (a b : GRat) : (cmpR a b).1 ≤ 0 ↔ ¬ (cmpR b a).1 < 0 := by
  unfold cmpR
  by_cases h : ValidR a ∧ ValidR b
  · rw [if_pos h, if_pos ⟨h.2, h.1⟩]
    dsimp only
    rw [cmpZ_le, cmpZ_lt]
    omega
  · rw [if_neg h, if_neg (fun k => h ⟨k.2, k.1⟩)]
    dsimp only
    omega

noncomputable def feeR (rate g : GRat) (x : GRat) : GRat × Int := if (cmpR x g).1 < 0 then step2 mulR (rate, 0) (subR g x) else (wholeR 0, 0)

theorem feeR_wf (rate g : GRat) (x : GRat) : WFR (feeR rate g x).1 := by
  unfold feeR; split
  · exact step2_wf mulR_wf _ _
  · exact wfr_whole 0

noncomputable def feeS (t : GTerms) (w : GWater) (g : GRat) (d : Int) : GRat × Int :=
  if (thrS t w g d).2 = 0 then feeR t.1 g (thrS t w g d).1 else (zRat, (thrS t w g d).2)

theorem feeS_wf (t : GTerms) (w : GWater) (g : GRat) (d : Int) : WFR (feeS t w g d).1 := by
  unfold feeS; split
  · exact feeR_wf _ _ _
  · exact wfr_zRat

theorem thrS_err {t : GTerms} {w : GWater} {g : GRat} {d : Int} (h : chkA t w g d ≠ 0) : feeS t w g d = (zRat, chkA t w g d) := by
  unfold feeS thrS
  rw [if_neg h]
  dsimp only
  rw [if_neg h]

/-- FEE. -/
theorem Fee_ok {t : GTerms} {w : GWater} {g : GRat} {d : Int} (ht : WFT t) (hw : WFW w) (hg : WFR g) : g_highwater_Fee t w g d = some (feeS t w g d) := by
  unfold g_highwater_Fee
  rw [check_ok ht hw, obind, zRat_eq, bne_dec]
  by_cases h : chkT t = 0
  · rw [if_pos h]
    by_cases k : chkW w = 0
    · rw [decide_eq_false (by omega), cF, above_ok hg, obind]
      by_cases ha : AboveR g
      · rw [decide_eq_true ha, nT, cF, thr_step ht hw h k ha, obind, bne_dec]
        unfold feeS
        generalize hx : thrS t w g d = x
        have wx : WFR x.1 := by rw [← hx]; exact thrS_wf _ _ _ _
        by_cases x0 : x.2 = 0
        · rw [decide_eq_false (by omega), cF, if_pos x0, cmpR_ok hg wx, obind, cond_dec]
          unfold feeR
          by_cases hc : (cmpR x.1 g).1 < 0
          · rw [if_pos hc, if_neg (fun q => (cmpR_turn _ _).1 q hc)]
            simp only [show ((0 : Int) != 0) = false from rfl, cF]
            rw [subR_ok hg wx, obind, bne_dec]
            generalize hm : subR g x.1 = m
            have wm : WFR m.1 := by rw [← hm]; exact subR_wf _ _
            by_cases m0 : m.2 = 0
            · rw [decide_eq_false (by omega), cF, mulR_ok ht.rate wm, obind]
              have e2 : step2 mulR (t.1, 0) m = mulR t.1 m.1 := by
                unfold step2; dsimp only; rw [if_neg (by omega), if_neg (by omega)]
              rw [e2]
            · rw [decide_eq_true m0, cT]
              have e2 : step2 mulR (t.1, 0) m = (zRat, m.2) := by
                unfold step2; dsimp only; rw [if_neg (by omega), if_pos m0]
              rw [e2]
          · rw [if_neg hc, if_pos ((cmpR_turn _ _).2 hc), Whole_ok i64_0, obind]
        · rw [decide_eq_true x0, cT, if_neg x0]
      · rw [decide_eq_false ha, nF, cT]
        have : chkA t w g d = 312 := by unfold chkA; rw [if_pos h, if_pos k, if_neg ha]
        rw [thrS_err (by omega), this]
    · rw [decide_eq_true k, cT]
      have : chkA t w g d = chkW w := by
        unfold chkA; rw [if_pos h, if_neg k]; rcases chkW_cases w with e | ⟨e, _⟩ <;> omega
      rw [thrS_err (by omega), this]
  · rw [if_neg h, decide_eq_true (by omega), cT]
    have : chkA t w g d = 310 := by unfold chkA; rw [if_neg h]
    rw [thrS_err (by omega), this]

end Go.Ev

namespace Go.Ev
set_option linter.unusedVariables false
set_option linter.unusedSimpArgs false

theorem eqB (a b : GRat) : (((a.1.1 == b.1.1) && (List.isEqv a.1.2 b.1.2 (eqv (.int .u32)))) && ((a.2.1 == b.2.1) && (List.isEqv a.2.2 b.2.2 (eqv (.int .u32))))) = decide (a = b) := by
  rw [isEqv_u32, isEqv_u32]
  obtain ⟨⟨a1, a2⟩, a3, a4⟩ := a
  obtain ⟨⟨b1, b2⟩, b3, b4⟩ := b
  rw [Bool.eq_iff_iff]
  simp only [Bool.and_eq_true, beq_iff_eq, decide_eq_true_eq, Prod.mk.injEq]

theorem redR_form {n d : Int} (h : (redR n d).2 = 0) : ∃ n' d' : Int, (redR n d).1 = (zI n', zI d') ∧ (n'.natAbs : Int) < MX ∧ (d'.natAbs : Int) < MX := by
  unfold redR at h ⊢
  by_cases hd : d = 0
  · rw [if_pos hd] at h; simp [-List.getD_eq_getElem?_getD] at h
  · rw [if_neg hd] at h ⊢
    simp only at h ⊢
    generalize (if d < 0 then -(n / ((Nat.gcd n.natAbs d.natAbs : Nat) : Int)) else n / ((Nat.gcd n.natAbs d.natAbs : Nat) : Int)) = n' at *
    generalize (if d < 0 then -(d / ((Nat.gcd n.natAbs d.natAbs : Nat) : Int)) else d / ((Nat.gcd n.natAbs d.natAbs : Nat) : Int)) = d' at *
    by_cases hb : bitsZ n' ≤ 480 ∧ bitsZ d' ≤ 480
    · rw [if_pos hb]
      have b1 := bits_lt hb.1
      have b2 := bits_lt hb.2
      have := KM_MX
      exact ⟨n', d', rfl, by omega, by omega⟩
    · rw [if_neg hb] at h; simp [-List.getD_eq_getElem?_getD] at h

/-- A ratio as the functions make it. -/
def Made (r : GRat) : Prop := ValidR r ∧ ∃ n' d' : Int, r = (zI n', zI d') ∧ (n'.natAbs : Int) < MX ∧ (d'.natAbs : Int) < MX

theorem redR_made {n d : Int} (h : (redR n d).2 = 0) : Made (redR n d).1 := ⟨redR_valid h, redR_form h⟩

theorem op2_made {F : GRat → GRat → GRat × Int} (hF : ∀ a b, (F a b).2 = 0 → Made (F a b).1) {a b : GRat} (h : (op2 F a b).2 = 0) : Made (op2 F a b).1 := by
  unfold op2 at h ⊢
  split
  · rename_i hv; rw [if_pos hv] at h; exact hF a b h
  · rename_i hv; rw [if_neg hv] at h; simp [-List.getD_eq_getElem?_getD] at h

theorem mulR_made {a b : GRat} (h : (mulR a b).2 = 0) : Made (mulR a b).1 := op2_made (fun _ _ => redR_made) h
theorem step2_made {F : GRat → GRat → GRat × Int} (hF : ∀ a b, (F a b).2 = 0 → Made (F a b).1) {a b : GRat × Int} (h : (step2 F a b).2 = 0) : Made (step2 F a b).1 := by
  unfold step2 at h ⊢
  split
  · rename_i ha; rw [if_pos ha] at h; exact absurd h ha
  · rename_i ha
    rw [if_neg ha] at h
    split
    · rename_i hb; rw [if_pos hb] at h; exact absurd h hb
    · rename_i hb; rw [if_neg hb] at h; exact hF _ _ h

theorem whole_made {n : Int} (h : I64 n) : Made (wholeR n) := ⟨valid_whole h, n, 1, rfl, abs64 h, abs64 i64_1⟩

theorem made_wf {r : GRat} (h : Made r) : WFR r := by
  obtain ⟨_, n, d, e, _⟩ := h
  rw [e]; exact ⟨zI_wf _, zI_wf _⟩

/-- A made ratio is 0 just if it is the whole number 0. -/
theorem made_zero {r : GRat} (h : Made r) : r = wholeR 0 ↔ (signR r).1 = 0 := by
  obtain ⟨hv, n, d, e, hn, hd⟩ := h
  unfold signR
  rw [if_pos hv]
  dsimp only
  rw [sgn_zero]
  constructor
  · intro q; rw [q]; exact val_I64 i64_0
  · intro q
    have v1 : val r.1 = n := by rw [e]; exact val_zI hn
    have v2 : val r.2 = d := by rw [e]; exact val_zI hd
    have hco := hv.co
    have hp := hv.pos
    rw [q] at hco
    rw [v2] at hco hp
    have hn0 : n = 0 := by rw [← v1]; exact q
    have hd1 : d = 1 := by
      have : Nat.gcd (Int.natAbs 0) d.natAbs = d.natAbs := by simp [-List.getD_eq_getElem?_getD]
      omega
    rw [e, hn0, hd1]; rfl

theorem feeR_made {rate g x : GRat} (h : (feeR rate g x).2 = 0) : Made (feeR rate g x).1 := by
  unfold feeR at h ⊢
  split
  · rename_i hc; rw [if_pos hc] at h; exact step2_made (fun _ _ => mulR_made) h
  · exact whole_made i64_0

theorem feeS_made {t : GTerms} {w : GWater} {g : GRat} {d : Int} (h : (feeS t w g d).2 = 0) : Made (feeS t w g d).1 := by
  unfold feeS at h ⊢
  split
  · rename_i hc; rw [if_pos hc] at h; exact feeR_made h
  · rename_i hc; rw [if_neg hc] at h; exact absurd h hc

noncomputable def cryS (t : GTerms) (w : GWater) (g : GRat) (d : Int) : GRat × (GWater × Int) :=
  if (feeS t w g d).2 = 0 then
    (if (signR (feeS t w g d).1).1 = 0 then ((feeS t w g d).1, (w, 0))
     else if (subR g (feeS t w g d).1).2 = 0 then
      (if (quantR (subR g (feeS t w g d).1).1).2 = 0 then ((feeS t w g d).1, (((quantR (subR g (feeS t w g d).1).1).1, d), 0))
       else (zRat, ((zRat, 0), (quantR (subR g (feeS t w g d).1).1).2)))
     else (zRat, ((zRat, 0), (subR g (feeS t w g d).1).2)))
  else (zRat, ((zRat, 0), (feeS t w g d).2))

/-- CRYSTALLISE. -/
theorem Crystallise_ok {t : GTerms} {w : GWater} {g : GRat} {d : Int} (ht : WFT t) (hw : WFW w) (hg : WFR g) : g_highwater_Crystallise t w g d = some (cryS t w g d) := by
  unfold g_highwater_Crystallise cryS
  rw [Fee_ok ht hw hg, obind, zRat_eq, bne_dec]
  have hm := feeS_made (t := t) (w := w) (g := g) (d := d)
  generalize feeS t w g d = f at *
  by_cases h : f.2 = 0
  · have hm := hm h
    rw [decide_eq_false (by omega), cF, if_pos h, Whole_ok i64_0, obind]
    dsimp only
    rw [eqB, cond_dec]
    by_cases hz : f.1 = wholeR 0
    · rw [if_pos hz, if_pos ((made_zero hm).1 hz)]
    · rw [if_neg hz, if_neg (fun q => hz ((made_zero hm).2 q)), subR_ok hg (made_wf hm), obind, bne_dec]
      have hw2 := subR_wf g f.1
      generalize subR g f.1 = n at *
      by_cases h2 : n.2 = 0
      · rw [decide_eq_false (by omega), cF, if_pos h2, quantize_ok hw2, obind, bne_dec]
        generalize quantR n.1 = q at *
        by_cases h3 : q.2 = 0
        · rw [decide_eq_false (by omega), cF, if_pos h3]
        · rw [decide_eq_true h3, cT, if_neg h3]
      · rw [decide_eq_true h2, cT, if_neg h2]
  · rw [decide_eq_true h, cT, if_neg h]

end Go.Ev

namespace Go.Ev
set_option linter.unusedVariables false
set_option linter.unusedSimpArgs false

def qR (n d : Int) : GRat := (zI n, zI d)

theorem val_64 {n : Int} (h : (n.natAbs : Int) ≤ 9223372036854775808) : val (zI n) = n := val_zI (by have := MX_big; omega)

/-- A small ratio in lowest terms. -/
structure QV (n d : Int) : Prop where
  pos : 0 < d
  co : Nat.gcd n.natAbs d.natAbs = 1
  bn : (n.natAbs : Int) ≤ 9223372036854775808
  bd : (d.natAbs : Int) ≤ 9223372036854775808

theorem qR_wf (n d : Int) : WFR (qR n d) := ⟨zI_wf _, zI_wf _⟩
theorem QV.v1 {n d : Int} (h : QV n d) : val (qR n d).1 = n := val_64 h.bn
theorem QV.v2 {n d : Int} (h : QV n d) : val (qR n d).2 = d := val_64 h.bd

theorem QV.valid {n d : Int} (h : QV n d) : ValidR (qR n d) := by
  refine ⟨fun e => ?_, by rw [h.v2]; exact h.pos, by rw [h.v1]; exact bits_64 h.bn, by rw [h.v2]; exact bits_64 h.bd, by rw [h.v1, h.v2]; exact h.co⟩
  rw [h.v1]
  have := of_decide_eq_true (show decide (n < 0) = true from e)
  omega

theorem redR_q {n d g n' d' : Int} (hn : n = g * n') (hd : d = g * d') (hg : 0 < g) (h : QV n' d') : redR n d = (qR n' d', 0) := by
  have hp := h.pos
  have hdp : 0 < d := by rw [hd]; exact Int.mul_pos hg hp
  have e : Nat.gcd n.natAbs d.natAbs = g.natAbs := by rw [hn, hd, Int.natAbs_mul, Int.natAbs_mul, Nat.gcd_mul_left, h.co, Nat.mul_one]
  have eg : ((Nat.gcd n.natAbs d.natAbs : Nat) : Int) = g := by rw [e]; omega
  unfold redR
  rw [if_neg (by omega), eg]
  dsimp only
  rw [show (if d < 0 then -(n / g) else n / g) = n / g from if_neg (by omega), show (if d < 0 then -(d / g) else d / g) = d / g from if_neg (by omega), hn, hd, Int.mul_ediv_cancel_left _ (by omega), Int.mul_ediv_cancel_left _ (by omega), if_pos ⟨bits_64 h.bn, bits_64 h.bd⟩]
  rfl

theorem mulR_q {a b c d g n' d' : Int} (h1 : QV a b) (h2 : QV c d) (hn : a * c = g * n') (hd : b * d = g * d') (hg : 0 < g) (h : QV n' d') : mulR (qR a b) (qR c d) = (qR n' d', 0) := by
  unfold mulR op2
  rw [if_pos ⟨h1.valid, h2.valid⟩]
  dsimp only
  rw [h1.v1, h1.v2, h2.v1, h2.v2]
  exact redR_q hn hd hg h

theorem addR_q {a b c d g n' d' : Int} (h1 : QV a b) (h2 : QV c d) (hn : a * d + c * b = g * n') (hd : b * d = g * d') (hg : 0 < g) (h : QV n' d') : addR (qR a b) (qR c d) = (qR n' d', 0) := by
  unfold addR op2
  rw [if_pos ⟨h1.valid, h2.valid⟩]
  dsimp only
  rw [h1.v1, h1.v2, h2.v1, h2.v2]
  exact redR_q hn hd hg h

theorem subR_q {a b c d g n' d' : Int} (h1 : QV a b) (h2 : QV c d) (hn : a * d + -(c * b) = g * n') (hd : b * d = g * d') (hg : 0 < g) (h : QV n' d') : subR (qR a b) (qR c d) = (qR n' d', 0) := by
  unfold subR op2
  rw [if_pos ⟨h1.valid, h2.valid⟩]
  dsimp only
  rw [h1.v1, h1.v2, h2.v1, h2.v2]
  exact redR_q hn hd hg h

theorem cmpR_q {a b c d : Int} (h1 : QV a b) (h2 : QV c d) : cmpR (qR a b) (qR c d) = (cmpZ (a * d) (c * b), 0) := by
  unfold cmpR
  rw [if_pos ⟨h1.valid, h2.valid⟩, h1.v1, h1.v2, h2.v1, h2.v2]

theorem signR_q {a b : Int} (h1 : QV a b) : signR (qR a b) = (sgn a, 0) := by
  unfold signR
  rw [if_pos h1.valid, h1.v1]

theorem whole_q (n : Int) : wholeR n = qR n 1 := rfl

theorem part_q {n d : Int} (h : QV n d) (h0 : 0 ≤ n) (h1 : n ≤ d) : PartR (qR n d) := ⟨h.valid, by rw [h.v1]; exact h0, by rw [h.v1, h.v2]; exact h1⟩
theorem above_q {n d : Int} (h : QV n d) (h0 : 0 < n) : AboveR (qR n d) := ⟨h.valid, by rw [h.v1]; exact h0⟩

theorem ceilR_q {n d q : Int} (h : QV n d) (hq : n * 1000000000 = d * q) : ceilR (qR n d) = (zI q, 0) := by
  have hp := h.pos
  unfold ceilR
  rw [if_pos h.valid, h.v1, h.v2, hq, Int.mul_emod_right, if_pos rfl, Int.mul_ediv_cancel_left _ (by omega)]

theorem quantR_q {n d q g n' d' : Int} (h : QV n d) (hq : n * 1000000000 = d * q) (bq : (q.natAbs : Int) ≤ 9223372036854775808) (hn : q = g * n') (hd : 1000000000 = g * d') (hg : 0 < g) (h' : QV n' d') :
    quantR (qR n d) = (qR n' d', 0) := by
  unfold quantR
  rw [ceilR_q h hq, if_pos rfl, val_64 bq]
  exact redR_q hn hd hg h'

theorem fracR_q {f t g n' d' : Int} (h3 : 0 ≤ f) (h4 : f ≤ 73048) (h6 : t ≤ 73048) (h7 : f ≤ t) (hn : t - f = g * n') (hd : 365 = g * d') (hg : 0 < g) (h : QV n' d') : fracR 2 f t = qR n' d' := by
  unfold fracR g_daycount_Fraction g_daycount_Days
  simp only [cond_dec]
  rw [if_neg (by omega), if_neg (by omega), if_neg (by omega), if_neg (by omega), if_neg (by omega), if_neg (by omega), if_neg (by omega), show ((2 : Int) == 4) = false from rfl, cF, obind]
  dsimp only
  have i5 : I64 365 := by unfold I64; omega
  have it : I64 (t - f) := by unfold I64; omega
  have ew : IntKind.i64.wrap (t - f) = t - f := wrap_i64 (by omega) (by omega)
  rw [show ((0 : Int) != 0) = false from rfl, cF, show ((2 : Int) == 3) = false from rfl, cF, show ((2 : Int) == 2) = true from rfl, cT, ew, Of_ok it i5, obind, redR_q hn hd hg h]
  rfl

end Go.Ev

namespace Go.Ev
set_option linter.unusedVariables false
set_option linter.unusedSimpArgs false

theorem q1_5 : QV 1 5 := ⟨by omega, by decide, by omega, by omega⟩
theorem qw {n : Int} (h : (n.natAbs : Int) ≤ 9223372036854775808) : QV n 1 := ⟨by omega, by simp [-List.getD_eq_getElem?_getD], h, by omega⟩

theorem chkT_q {a b c d k : Int} (h1 : PartR (qR a b)) (h2 : PartR (qR c d)) (k1 : 1 ≤ k) (k2 : k ≤ 4) : chkT (qR a b, (qR c d, k)) = 0 := by
  unfold chkT
  dsimp only
  rw [if_pos h1, if_pos h2, if_neg (by omega), if_neg (by omega)]

theorem chkW_q {a b k : Int} (h1 : AboveR (qR a b)) (k1 : 0 ≤ k) (k2 : k ≤ 73048) : chkW (qR a b, k) = 0 := by
  unfold chkW
  dsimp only
  rw [if_pos h1, if_neg (by omega), if_neg (by omega)]

theorem chkA_q {t : GTerms} {w : GWater} {g : GRat} {d : Int} (h1 : chkT t = 0) (h2 : chkW w = 0) (h3 : AboveR g) (d0 : 0 ≤ d) (d1 : d ≤ 73048) (d2 : w.2 ≤ d) : chkA t w g d = 0 := by
  unfold chkA
  rw [if_pos h1, if_pos h2, if_pos h3, if_neg (by omega), if_neg (by omega), if_neg (by omega)]

theorem step2_q {F : GRat → GRat → GRat × Int} {a b : GRat} {y : GRat × Int} (h : F a b = y) : step2 F (a, 0) (b, 0) = y := by rw [step2_ok]; exact h

theorem thrS_q {t : GTerms} {w : GWater} {g r : GRat} {d : Int} {x : GRat × Int} (h : chkA t w g d = 0) (hr : fracR t.2.2 w.2 d = r) (hx : thrR t w r = x) : thrS t w g d = x := by
  unfold thrS; rw [if_pos h, hr, hx]

theorem thr_q {a b c d : Int} {k s : Int} {r m n x : GRat} (w : GRat) (h1 : mulR (qR c d) r = (m, 0)) (h2 : addR (wholeR 1) m = (n, 0)) (h3 : mulR w n = (x, 0)) : thrR (qR a b, (qR c d, k)) (w, s) r = (x, 0) := by
  unfold thrR
  dsimp only
  rw [h1, step2_q h2, step2_q h3]

theorem feeS_q {t : GTerms} {w : GWater} {g x y z : GRat} {d : Int} (h : thrS t w g d = (x, 0)) (hc : (cmpR x g).1 < 0) (hs : subR g x = (y, 0)) (hm : mulR t.1 y = (z, 0)) : feeS t w g d = (z, 0) := by
  unfold feeS
  rw [h]
  dsimp only
  rw [if_pos rfl]
  unfold feeR
  rw [if_pos hc, hs, step2_q hm]

theorem cryS_q {t : GTerms} {w : GWater} {g f n q : GRat} {d s : Int} (h : feeS t w g d = (f, 0)) (hs : signR f = (s, 0)) (s0 : s ≠ 0) (hn : subR g f = (n, 0)) (hq : quantR n = (q, 0)) : cryS t w g d = (f, ((q, d), 0)) := by
  unfold cryS
  rw [h]
  dsimp only
  rw [if_pos rfl, hs, hn, hq]
  dsimp only
  rw [if_neg s0, if_pos rfl, if_pos rfl]

theorem i64_s {n : Int} (h : n.natAbs ≤ 9223372036854775807) : I64 n := by unfold I64; omega

end Go.Ev
