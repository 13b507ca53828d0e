/- A lot follows a fund of its own through three periods: sizes, values and gaps, for all arguments. -/
import Derived.Test.YtgadoabnjcahoaaGreatLawEW
import Derived.Test.YtgadoabnjcahoaaGreatLawCW
set_option exponentiation.threshold 2000
namespace Go.Ev
set_option linter.unusedVariables false
set_option linter.unusedSimpArgs false

theorem sign_pos {k : Nat} {a : GRat} (h : G k a) (hp : 0 < toQ a) : (signR a).1 = 1 := by
  rcases sign_Q h.v with ⟨q, e⟩ | ⟨q, e⟩ | ⟨q, e⟩
  · grind
  · grind
  · exact e

theorem sign_nonneg {k : Nat} {a : GRat} (h : G k a) (hp : 0 ≤ toQ a) : 0 ≤ (signR a).1 := by
  rcases sign_Q h.v with ⟨q, e⟩ | ⟨q, e⟩ | ⟨q, e⟩
  · grind
  · omega
  · omega

theorem sign_le {k : Nat} {a : GRat} (h : G k a) (hp : ¬ (signR a).1 ≤ 0) : 0 < toQ a := by
  rcases sign_Q h.v with ⟨q, e⟩ | ⟨q, e⟩ | ⟨q, e⟩
  · omega
  · omega
  · exact q

theorem fee_at_mark {k j : Nat} {t : GTerms} {w : GWater} {n : GRat} {d : Int} (ht : TermsM t) (hw : Wok k w) (hn : G j n) (np : 0 < toQ n) (hk : k + j + 60 ≤ 480) (d0 : w.2 ≤ d) (d1 : d ≤ 73048) (h : toQ n ≤ toQ w.1) :
    ∃ z, feeS t w n d = (z, 0) ∧ (signR z).1 = 0 ∧ WFR z := by
  obtain ⟨z, ez, gz, vz⟩ := feeS_G ht hw hn np hk d0 d1
  refine ⟨z, ez, (sign_zero gz).2 ?_, gz.wf⟩
  have := (thrQ_pos ht hw d0 d1).1
  rw [vz]
  unfold feeQ
  rw [if_neg (by grind)]

/-- The gap of a mark that was kept. -/
theorem gap_Q {m n g q : Rat} (gp : 0 < g) (h1 : m * (n / g) ≤ q) (h2 : q < m * (n / g) + tiny) : 0 ≤ q * g - m * n ∧ q * g - m * n < g * tiny := by
  have e : m * (n / g) * g = m * n := by
    have : g ≠ 0 := by grind
    grind
  have a := Rat.mul_le_mul_of_nonneg_right h1 (show 0 ≤ g by grind)
  have b : q * g < (m * (n / g) + tiny) * g := by
    rw [Rat.mul_comm q, Rat.mul_comm (m * (n / g) + tiny)]
    exact (Rat.mul_lt_mul_left gp).2 h2
  constructor <;> grind

theorem forg_body {t : GTerms} {c : GWater} {ls : List GLot} {g : GRat} {d : Int} {f n : GRat} {c' : GWater} {A : GLot → GRat} {e : Int} (m : Made32 t c ls g d) (p : Period t c ls g d f n c') (np : 0 < toQ n) {i : Nat} (hi : i < ls.length) {o a : GRat} (h : LotR t c g d f n ls[i] o a)
    {M : GLot → GLot} (hM : M ls[i] = (lotS t c g d f n ls[i]).1.2) :
    g_law32_EqualisationForgetsPaidFees_L12 (t, (c, (ls, (g, d)))) (f, (c', (ls.map A, (ls.map M, e)))) (n, 0) ((false, (i : Int)), ()) = some (.more ((false, (i : Int) + 1), ())) := by
  have hlen := m.len
  have hm : ls[i] ∈ ls := List.getElem_mem hi
  have hL := m.lots.lot _ hm
  have hs1 := hL.s1
  have dd0 := m.d0
  have dd1 := m.d1
  have hww := hL.w.wf (show ls[i].2.2 ≤ 73048 by omega)
  unfold g_law32_EqualisationForgetsPaidFees_L12 g_exact_Of
  dsimp only
  rw [zLot_eq, decide_eq_true (show (i : Int) < (ls.length : Int) by omega), cT, inb_true (by omega) (by omega), cT, show ((i : Int)).toNat = i by omega, getD_lt ls hi, refFee_ok m.tm.wf hww m.gm.wf, obind, h.own, inb_true (by omega) (by rw [List.length_map]; omega), cT, getD_map ls M hi, hM]
  have wi : IntKind.i64.wrap ((i : Int) + 1) = (i : Int) + 1 := wrap_i64 (by omega) (by omega)
  rcases h.res with ⟨h0, q, gq, q1, q2, e1⟩ | ⟨h0, hf0, e1⟩ | ⟨h0, hf0, q, gq, q1, q2, e1⟩
  · rw [e1]
    dsimp only
    have hw2 : Wok 154 (q, d) := ⟨gq, by show 0 < toQ q; grind, by show 0 ≤ d; omega⟩
    obtain ⟨z, ez, sz, wz⟩ := fee_at_mark m.tm hw2 p.gn np (by omega) (by show d ≤ d; omega) (by omega) (show toQ n ≤ toQ q from q1)
    have hs : ((signR o).1 != 0) = true := by rw [bne_dec, decide_eq_true (show (signR o).1 ≠ 0 from fun e => h0 ((sign_zero h.go).1 e))]
    rw [refFee_ok m.tm.wf (hw2.wf (show d ≤ 73048 by omega)) p.gn.wf, obind, ez, cT, cT, bne_dec, decide_eq_false (by omega), cF, obind, exactSign_ok (a := (o, 0)) h.go.wf, obind]
    dsimp only
    rw [hs, cT, show ((0 : Int) != 0) = false from rfl, cF, obind, exactSign_ok (a := (z, 0)) wz, obind, sz, show ((0 : Int) != 0) = false from rfl, cF, wi]
  · rw [e1]
    dsimp only
    have hs : ((signR o).1 != 0) = false := by rw [(sign_zero h.go).2 h0]; rfl
    have hs2 : ((signR f).1 == 0) = true := by rw [(sign_zero p.gf).2 hf0]; rfl
    rw [refFee_ok m.tm.wf hww p.gn.wf, obind, cT, cT, bne_dec, decide_eq_false (by omega), cF, obind, exactSign_ok (a := (o, 0)) h.go.wf, obind]
    dsimp only
    rw [hs, cF, obind, exactSign_ok (a := (f, 0)) p.gf.wf, obind]
    dsimp only
    rw [hs2, cT, cT, cT, eqB, beq_dec, beq_dec, decide_eq_true rfl, decide_eq_true rfl, decide_eq_true rfl, show (!(true && (true && true))) = false from rfl, cF, wi]
  · rw [e1]
    dsimp only
    have hs : ((signR o).1 != 0) = false := by rw [(sign_zero h.go).2 h0]; rfl
    have hs2 : ((signR f).1 == 0) = false := by rw [beq_dec, decide_eq_false (show ¬ (signR f).1 = 0 from fun e => hf0 ((sign_zero p.gf).1 e))]
    have hwq : WFW (q, ls[i].2.2) := ⟨gq.wf, hww.since⟩
    obtain ⟨x1, ex1, gx1, vx1⟩ := g_mul gq m.gm (by omega)
    obtain ⟨x2, ex2, gx2, vx2⟩ := g_mul hL.w.mark p.gn (by omega)
    obtain ⟨x3, ex3, gx3, vx3⟩ := g_sub gx1 gx2 (by omega)
    obtain ⟨b, eb, gb, vb⟩ := over_ok (n := 1) (d := 1000000000) (k := 30) (by unfold I64; omega) (by unfold I64; omega) (by omega) (by decide) (by decide) (by omega)
    obtain ⟨y, ey, gy, vy⟩ := g_mul m.gm gb (by omega)
    obtain ⟨gap0, gap1⟩ := gap_Q m.pos q1 q2
    have v1 : toQ b = tiny := by rw [vb]; rfl
    have hlt : (cmpR x3 y).1 < 0 := by
      rw [cmp_Q gx3.v gy.v, vx3, vx1, vx2, vy, v1]; exact gap1
    have hsg : ¬ (signR x3).1 < 0 := by
      have := sign_nonneg gx3 (by rw [vx3, vx1, vx2]; exact gap0)
      omega
    rw [refFee_ok m.tm.wf hwq p.gn.wf, obind, cT, cT, bne_dec, decide_eq_false (by omega), cF, obind, exactSign_ok (a := (o, 0)) h.go.wf, obind]
    dsimp only
    rw [hs, cF, obind, exactSign_ok (a := (f, 0)) p.gf.wf, obind]
    dsimp only
    rw [hs2, cF, cT, obind, obind, exactMul_ok (a := (q, 0)) (b := (g, 0)) gq.wf m.gm.wf, obind, step2_ok, ex1, cT, obind, exactMul_ok (a := (ls[i].2.1, 0)) (b := (n, 0)) hww.mark p.gn.wf, obind, step2_ok, ex2, exactSub_ok (a := (x1, 0)) (b := (x2, 0)) gx1.wf gx2.wf, obind, step2_ok, ex3, cT, cT, bne_dec, decide_eq_false (by omega), cF, exactSign_ok (a := (x3, 0)) gx3.wf, obind]
    dsimp only
    rw [decide_eq_false hsg, cF, obind, eb, obind, exactMul_ok (a := (g, 0)) (b := (b, 0)) m.gm.wf gb.wf, obind, step2_ok, ey, exactLess_ok (a := (x3, 0)) (b := (y, 0)) gx3.wf gy.wf, obind]
    dsimp only
    rw [decide_eq_true hlt, nT, cF, wi]

theorem forgets_law {l : List Int} (hl : TapeOK (l, 0)) : g_law32_EqualisationForgetsPaidFees l = some true := by
  obtain ⟨t, c, ls, g, d, e, m⟩ := made32 hl
  obtain ⟨f, n, c', p⟩ := period_ok m
  have hlen := m.len
  have hc := p.cry
  have s0 := m.wm.s0
  have s1 := m.wm.s1
  have dd0 := m.d0
  have dd1 := m.d1
  unfold g_law32_EqualisationForgetsPaidFees g_exact_Of
  rw [e, obind]
  dsimp only
  rw [hc, obind, obind, obind]
  dsimp only
  rw [exactSub_ok (a := (g, 0)) (b := (f, 0)) m.gm.wf p.gf.wf, obind, step2_ok, p.net, show ((0 : Int) != 0) = false from rfl, cF, List.length_map, show ((ls.length : Int) != (ls.length : Int)) = false by rw [bne_dec, decide_eq_false (by omega)], cF, exactSign_ok (a := (n, 0)) p.gn.wf, obind]
  dsimp only
  by_cases hs : (signR n).1 ≤ 0
  · rw [decide_eq_true hs, cT, awake32, obind]
  · rw [decide_eq_false hs, cF]
    have np := sign_le p.gn hs
    have fz : ∃ z, feeS t c' n d = (z, 0) ∧ (signR z).1 = 0 ∧ WFR z ∧ WFW c' := by
      rcases p.next with ⟨h0, h⟩ | ⟨hpos, q, h, gq, q1, q2⟩
      · subst h
        have hw := m.wm.ok
        obtain ⟨z, ez, gz, vz⟩ := feeS_G m.tm hw p.gn np (by omega) (show c'.2 ≤ d by omega) (show d ≤ 73048 by omega)
        refine ⟨z, ez, (sign_zero gz).2 ?_, gz.wf, hw.wf (by omega)⟩
        have e0 : toQ n = toQ g := by rw [p.vn, h0]; grind
        have e1 := p.vf
        rw [h0] at e1
        rw [vz, e1]
        unfold feeQ
        rw [e0]
      · subst h
        have hw2 : Wok 154 (q, d) := ⟨gq, by show 0 < toQ q; grind, by show 0 ≤ d; omega⟩
        obtain ⟨z, ez, sz, wz⟩ := fee_at_mark m.tm hw2 p.gn np (by omega) (by show d ≤ d; omega) (by omega) (show toQ n ≤ toQ q from q1)
        exact ⟨z, ez, sz, wz, hw2.wf (show d ≤ 73048 by omega)⟩
    obtain ⟨z, ez, sz, wz, wc⟩ := fz
    rw [refFee_ok m.tm.wf wc p.gn.wf, obind, ez]
    dsimp only
    rw [show ((0 : Int) != 0) = false from rfl, cF, obind, exactSign_ok (a := (z, 0)) wz, obind]
    dsimp only
    rw [sz, show ((0 : Int) != 0) = false from rfl, cF]
    obtain ⟨e', s, k1, k2⟩ := loopD_up (body := g_law32_EqualisationForgetsPaidFees_L12 (t, (c, (ls, (g, d)))) (f, (c', (ls.map (fun x => (lotS t c g d f n x).1.1), (ls.map (fun x => (lotS t c g d f n x).1.2), 0)))) (n, 0)) ls.length
      (fun i s => s = ((false, (i : Int)), ())) (fun e s => e = 1)
      (fun i s hi hI => by
        subst hI
        obtain ⟨o, a, h⟩ := p.lot _ (List.getElem_mem hi)
        refine ⟨_, forg_body m p np hi h rfl, ?_⟩
        rw [show ((i + 1 : Nat) : Int) = (i : Int) + 1 by omega])
      (fun s hI => by
        subst hI
        refine ⟨1, ((false, (ls.length : Int)), ()), ?_, rfl⟩
        unfold g_law32_EqualisationForgetsPaidFees_L12
        dsimp only
        rw [decide_eq_false (show ¬ (ls.length : Int) < (ls.length : Int) by omega), cF])
      (s := ((false, 0), ())) rfl
    rw [k1, obind]
    subst k2
    dsimp only
    rw [show Nat.beq 1 0 = false from rfl, cF, awake32, obind]

end Go.Ev

namespace Go.Ev
set_option linter.unusedVariables false
set_option linter.unusedSimpArgs false

/-- D times the value is whole. -/
def Zd (D : Nat) (q : Rat) : Prop := ∃ N : Int, q * (D : Rat) = (N : Rat)

theorem Zd.add {D : Nat} {p q : Rat} (hp : Zd D p) (hq : Zd D q) : Zd D (p + q) := by
  obtain ⟨a, ha⟩ := hp
  obtain ⟨b, hb⟩ := hq
  exact ⟨a + b, by rw [Rat.intCast_add, ← ha, ← hb]; grind⟩
theorem Zd.neg {D : Nat} {p : Rat} (hp : Zd D p) : Zd D (-p) := by
  obtain ⟨a, ha⟩ := hp
  exact ⟨-a, by rw [Rat.intCast_neg, ← ha]; grind⟩
theorem Zd.sub {D : Nat} {p q : Rat} (hp : Zd D p) (hq : Zd D q) : Zd D (p - q) := by
  have := hp.add hq.neg
  rw [show p - q = p + -q by grind]; exact this
theorem Zd.mul {D E : Nat} {p q : Rat} (hp : Zd D p) (hq : Zd E q) : Zd (D * E) (p * q) := by
  obtain ⟨a, ha⟩ := hp
  obtain ⟨b, hb⟩ := hq
  exact ⟨a * b, by rw [Rat.intCast_mul, ← ha, ← hb, Rat.natCast_mul]; grind⟩
theorem Zd.up {D : Nat} {p : Rat} (hp : Zd D p) (E : Nat) : Zd (D * E) p := by
  obtain ⟨a, ha⟩ := hp
  exact ⟨a * E, by rw [Rat.intCast_mul, ← ha, Rat.natCast_mul, show (((E : Nat) : Int) : Rat) = (E : Rat) by rfl]; grind⟩
theorem Zd.int (n : Int) : Zd 1 (n : Rat) := ⟨n, by rw [show ((1 : Nat) : Rat) = 1 by rfl]; grind⟩
theorem Zd.cast {D E : Nat} {p : Rat} (hp : Zd D p) (h : D = E) : Zd E p := h ▸ hp

theorem natAbs_dvd {x y N D : Int} (co : Nat.gcd x.natAbs y.natAbs = 1) (h : x * D = N * y) : y.natAbs ∣ D.natAbs ∧ x.natAbs ∣ N.natAbs := by
  have e : x.natAbs * D.natAbs = N.natAbs * y.natAbs := by rw [← Int.natAbs_mul, ← Int.natAbs_mul, h]
  constructor
  · exact (Nat.Coprime.symm co).dvd_of_dvd_mul_left ⟨N.natAbs, by rw [e, Nat.mul_comm]⟩
  · exact (show Nat.Coprime x.natAbs y.natAbs from co).dvd_of_dvd_mul_right ⟨D.natAbs, e.symm⟩

theorem natAbs_small {x y N D : Int} {k : Nat} (co : Nat.gcd x.natAbs y.natAbs = 1) (h : x * D = N * y) (hD : D ≠ 0) (hN : N.natAbs < 2 ^ k) (hDk : D.natAbs < 2 ^ k) : x.natAbs < 2 ^ k ∧ y.natAbs < 2 ^ k := by
  obtain ⟨d1, d2⟩ := natAbs_dvd co h
  have b1 := Nat.le_of_dvd (by omega) d1
  refine ⟨?_, by omega⟩
  by_cases h0 : N = 0
  · have : x = 0 := by
      rw [h0, Int.zero_mul] at h
      rcases Int.mul_eq_zero.1 h with q | q
      · exact q
      · exact absurd q hD
    rw [this]; exact Nat.two_pow_pos k
  · have b2 := Nat.le_of_dvd (by omega) d2
    omega

theorem redR_D {n d N : Int} {D k : Nat} (hd : d ≠ 0) (h : n * (D : Int) = N * d) (hD : 0 < D) (hN : N.natAbs < 2 ^ k) (hDk : D < 2 ^ k) (hk : k ≤ 480) :
    ∃ c, redR n d = (c, 0) ∧ G k c ∧ toQ c = (n : Rat) / (d : Rat) := by
  have hg := gcd_pos' (n := n) hd
  obtain ⟨dv1, dv2⟩ := gcd_dvd_int n d
  have co := lowest (n := n) hd
  have key : (n / ((Nat.gcd n.natAbs d.natAbs : Nat) : Int)) * (D : Int) = N * (d / ((Nat.gcd n.natAbs d.natAbs : Nat) : Int)) := by
    generalize ((Nat.gcd n.natAbs d.natAbs : Nat) : Int) = g at *
    obtain ⟨x, hx⟩ := dv1
    obtain ⟨y, hy⟩ := dv2
    rw [hx, hy, Int.mul_ediv_cancel_left _ (by omega), Int.mul_ediv_cancel_left _ (by omega)]
    rw [hx, hy] at h
    have : g * (x * (D : Int)) = g * (N * y) := by rw [← Int.mul_assoc, h, ← Int.mul_assoc, ← Int.mul_assoc, Int.mul_comm N g]
    exact Int.eq_of_mul_eq_mul_left (by omega) this
  obtain ⟨s1, s2⟩ := natAbs_small (k := k) co key (by omega) hN (by omega)
  have he : (redR n d).2 = 0 := by
    unfold redR
    rw [if_neg hd]
    dsimp only
    rw [if_pos ⟨bits_pow (k := k) (by split <;> omega) hk, bits_pow (k := k) (by split <;> omega) hk⟩]
  refine ⟨(redR n d).1, by rw [← he], ⟨redR_made he, ?_, ?_⟩, ?_⟩
  all_goals
    have hm := redR_made he
    unfold redR at he hm ⊢
    rw [if_neg hd] at he hm ⊢
    dsimp only at he hm ⊢
    obtain ⟨x, hx⟩ := dv1
    obtain ⟨y, hy⟩ := dv2
    generalize hG : ((Nat.gcd n.natAbs d.natAbs : Nat) : Int) = g at *
    have e1 : n / g = x := by rw [hx, Int.mul_ediv_cancel_left _ (by omega)]
    have e2 : d / g = y := by rw [hy, Int.mul_ediv_cancel_left _ (by omega)]
    rw [e1] at s1
    rw [e2] at s2
    rw [e1, e2] at he hm ⊢
    have b1 : (if d < 0 then -x else x).natAbs < 2 ^ k := by split <;> omega
    have b2 : (if d < 0 then -y else y).natAbs < 2 ^ k := by split <;> omega
    have f1 := bits_pow b1 hk
    have f2 := bits_pow b2 hk
    rw [if_pos ⟨f1, f2⟩] at hm ⊢
    have M1 : ((if d < 0 then -x else x).natAbs : Int) < MX := by have := bits_lt f1; have := KM_MX; omega
    have M2 : ((if d < 0 then -y else y).natAbs : Int) < MX := by have := bits_lt f2; have := KM_MX; omega
  · dsimp only; rw [val_zI M1]; exact b1
  · dsimp only; rw [val_zI M2]; exact b2
  · unfold toQ
    dsimp only
    rw [val_zI M1, val_zI M2, hx, hy]
    have hy0 : y ≠ 0 := by intro e; rw [e] at hy; omega
    have g0 := cast_ne (show g ≠ 0 by omega)
    have y0 := cast_ne hy0
    rw [Rat.intCast_mul, Rat.intCast_mul]
    split
    · rw [Rat.intCast_neg, Rat.intCast_neg]; grind
    · grind

/-- The bounds of a value, and what a size needs. -/
structure Bd (D B k : Nat) (q : Rat) : Prop where
  z : Zd D q
  lo : -(B : Rat) ≤ q
  hi : q ≤ (B : Rat)
  dp : 0 < D
  sz : (B + 1) * D < 2 ^ k

theorem Bd.num {D B k : Nat} {q : Rat} (h : Bd D B k q) : ∃ N : Int, q * (D : Rat) = (N : Rat) ∧ N.natAbs < 2 ^ k ∧ D < 2 ^ k := by
  obtain ⟨N, hN⟩ := h.z
  have hD : (0 : Rat) < (D : Rat) := by exact_mod_cast h.dp
  have sz := h.sz
  have e : (B + 1) * D = B * D + D := by rw [Nat.add_mul, Nat.one_mul]
  rw [e] at sz
  refine ⟨N, hN, ?_, by omega⟩
  have a := Rat.mul_le_mul_of_nonneg_right h.lo (show 0 ≤ (D : Rat) by grind)
  have b := Rat.mul_le_mul_of_nonneg_right h.hi (show 0 ≤ (D : Rat) by grind)
  rw [hN] at a b
  have a2 : ((-((B * D : Nat) : Int) : Int) : Rat) ≤ (N : Rat) := by
    rw [Rat.intCast_neg, show (((B * D : Nat) : Int) : Rat) = ((B * D : Nat) : Rat) by rfl, Rat.natCast_mul]; grind
  have b2 : (N : Rat) ≤ (((B * D : Nat) : Int) : Rat) := by
    rw [show (((B * D : Nat) : Int) : Rat) = ((B * D : Nat) : Rat) by rfl, Rat.natCast_mul]; grind
  rw [Rat.intCast_le_intCast] at a2 b2
  omega

theorem redR_Z {n d : Int} {D B k : Nat} (hd : d ≠ 0) (h : Bd D B k ((n : Rat) / (d : Rat))) (hk : k ≤ 480) : ∃ c, redR n d = (c, 0) ∧ G k c ∧ toQ c = (n : Rat) / (d : Rat) := by
  obtain ⟨N, hN, s1, s2⟩ := h.num
  refine redR_D hd (N := N) ?_ h.dp s1 s2 hk
  have d0 := cast_ne hd
  have : ((n * (D : Int) : Int) : Rat) = ((N * d : Int) : Rat) := by
    rw [Rat.intCast_mul, Rat.intCast_mul, ← hN, show (((D : Nat) : Int) : Rat) = (D : Rat) by rfl]
    grind
  exact_mod_cast this

theorem mul_Z {a b : GRat} (ha : ValidR a) (hb : ValidR b) {D B k : Nat} (h : Bd D B k (toQ a * toQ b)) (hk : k ≤ 480) : ∃ c, mulR a b = (c, 0) ∧ G k c ∧ toQ c = toQ a * toQ b := by
  have p1 := ha.pos
  have p2 := hb.pos
  have hd : val a.2 * val b.2 ≠ 0 := Int.ne_of_gt (Int.mul_pos p1 p2)
  have q1 := cast_ne (show val a.2 ≠ 0 by omega)
  have q2 := cast_ne (show val b.2 ≠ 0 by omega)
  have e : ((val a.1 * val b.1 : Int) : Rat) / ((val a.2 * val b.2 : Int) : Rat) = toQ a * toQ b := by
    unfold toQ
    rw [Rat.intCast_mul, Rat.intCast_mul]; grind
  rw [← e] at h
  obtain ⟨c, h1, h2, h3⟩ := redR_Z hd h hk
  refine ⟨c, by unfold mulR op2; rw [if_pos ⟨ha, hb⟩]; exact h1, h2, by rw [h3, e]⟩

theorem add_Z {a b : GRat} (ha : ValidR a) (hb : ValidR b) {D B k : Nat} (h : Bd D B k (toQ a + toQ b)) (hk : k ≤ 480) : ∃ c, addR a b = (c, 0) ∧ G k c ∧ toQ c = toQ a + toQ b := by
  have p1 := ha.pos
  have p2 := hb.pos
  have hd : val a.2 * val b.2 ≠ 0 := Int.ne_of_gt (Int.mul_pos p1 p2)
  have q1 := cast_ne (show val a.2 ≠ 0 by omega)
  have q2 := cast_ne (show val b.2 ≠ 0 by omega)
  have e : ((val a.1 * val b.2 + val b.1 * val a.2 : Int) : Rat) / ((val a.2 * val b.2 : Int) : Rat) = toQ a + toQ b := by
    unfold toQ
    rw [Rat.intCast_add, Rat.intCast_mul, Rat.intCast_mul, Rat.intCast_mul]; grind
  rw [← e] at h
  obtain ⟨c, h1, h2, h3⟩ := redR_Z hd h hk
  refine ⟨c, by unfold addR op2; rw [if_pos ⟨ha, hb⟩]; exact h1, h2, by rw [h3, e]⟩

theorem sub_Z {a b : GRat} (ha : ValidR a) (hb : ValidR b) {D B k : Nat} (h : Bd D B k (toQ a - toQ b)) (hk : k ≤ 480) : ∃ c, subR a b = (c, 0) ∧ G k c ∧ toQ c = toQ a - toQ b := by
  have p1 := ha.pos
  have p2 := hb.pos
  have hd : val a.2 * val b.2 ≠ 0 := Int.ne_of_gt (Int.mul_pos p1 p2)
  have q1 := cast_ne (show val a.2 ≠ 0 by omega)
  have q2 := cast_ne (show val b.2 ≠ 0 by omega)
  have e : ((val a.1 * val b.2 + -(val b.1 * val a.2) : Int) : Rat) / ((val a.2 * val b.2 : Int) : Rat) = toQ a - toQ b := by
    unfold toQ
    rw [Rat.intCast_add, Rat.intCast_neg, Rat.intCast_mul, Rat.intCast_mul, Rat.intCast_mul]; grind
  rw [← e] at h
  obtain ⟨c, h1, h2, h3⟩ := redR_Z hd h hk
  refine ⟨c, by unfold subR op2; rw [if_pos ⟨ha, hb⟩]; exact h1, h2, by rw [h3, e]⟩

/-- The size of a made ratio is that of its value. -/
theorem G.of {c : GRat} (m : Made c) {D B k : Nat} (h : Bd D B k (toQ c)) : G k c := by
  have v := m.1
  obtain ⟨N, hN, s1, s2⟩ := h.num
  have p := v.pos
  have d0 := cast_ne (show val c.2 ≠ 0 by omega)
  have e : val c.1 * (D : Int) = N * val c.2 := by
    have : ((val c.1 * (D : Int) : Int) : Rat) = ((N * val c.2 : Int) : Rat) := by
      rw [Rat.intCast_mul, Rat.intCast_mul, ← hN, show (((D : Nat) : Int) : Rat) = (D : Rat) by rfl]
      unfold toQ
      grind
    exact_mod_cast this
  have hD := h.dp
  obtain ⟨t1, t2⟩ := natAbs_small (k := k) v.co e (by omega) s1 (by omega)
  exact ⟨m, t1, t2⟩

/-- The value of a made ratio of small denominator is whole after multiplying with it. -/
theorem G.zd {k : Nat} {c : GRat} (h : G k c) : ∃ D, 0 < D ∧ D < 2 ^ k ∧ Zd D (toQ c) := by
  have p := h.v.pos
  refine ⟨(val c.2).natAbs, by omega, h.sd, val c.1, ?_⟩
  have d0 := cast_ne (show val c.2 ≠ 0 by omega)
  rw [show (((val c.2).natAbs : Nat) : Rat) = (val c.2 : Rat) by rw [show (((val c.2).natAbs : Nat) : Rat) = ((((val c.2).natAbs : Nat) : Int) : Rat) by rfl, show ((((val c.2).natAbs : Nat)) : Int) = val c.2 by omega]]
  unfold toQ
  grind

theorem redR_val {n d : Int} {c : GRat} (h : redR n d = (c, 0)) : toQ c = (n : Rat) / (d : Rat) := by
  by_cases hd : d = 0
  · unfold redR at h
    rw [if_pos hd] at h
    injection h with _ h
    omega
  have hg := gcd_pos' (n := n) hd
  obtain ⟨dv1, dv2⟩ := gcd_dvd_int n d
  unfold redR at h
  rw [if_neg hd] at h
  dsimp only at h
  generalize ((Nat.gcd n.natAbs d.natAbs : Nat) : Int) = g at *
  by_cases hb : bitsZ (if d < 0 then -(n / g) else n / g) ≤ 480 ∧ bitsZ (if d < 0 then -(d / g) else d / g) ≤ 480
  · rw [if_pos hb] at h
    obtain ⟨x, hx⟩ := dv1
    obtain ⟨y, hy⟩ := dv2
    have e1 : n / g = x := by rw [hx, Int.mul_ediv_cancel_left _ (by omega)]
    have e2 : d / g = y := by rw [hy, Int.mul_ediv_cancel_left _ (by omega)]
    rw [e1, e2] at hb h
    have M1 : ((if d < 0 then -x else x).natAbs : Int) < MX := by have := bits_lt hb.1; have := KM_MX; omega
    have M2 : ((if d < 0 then -y else y).natAbs : Int) < MX := by have := bits_lt hb.2; have := KM_MX; omega
    injection h with h _
    rw [← h]
    unfold toQ
    dsimp only
    rw [val_zI M1, val_zI M2, hx, hy]
    have hy0 : y ≠ 0 := by intro e; rw [e] at hy; omega
    have g0 := cast_ne (show g ≠ 0 by omega)
    have y0 := cast_ne hy0
    rw [Rat.intCast_mul, Rat.intCast_mul]
    split
    · rw [Rat.intCast_neg, Rat.intCast_neg]; grind
    · grind
  · rw [if_neg hb] at h
    injection h with _ h
    omega

/-- Quantized to nine places. -/
theorem quant_Z {k : Nat} {n : GRat} (hn : G k n) (hk : k + 32 ≤ 480) :
    ∃ q, quantR n = (q, 0) ∧ Made q ∧ Zd 1000000000 (toQ q) ∧ toQ n ≤ toQ q ∧ toQ q < toQ n + tiny := by
  obtain ⟨q, eq, gq, q1, q2⟩ := quant_G hn hk
  refine ⟨q, eq, gq.made, ?_, q1, q2⟩
  unfold quantR at eq
  by_cases h : (ceilR n).2 = 0
  · rw [if_pos h] at eq
    refine ⟨val (ceilR n).1, ?_⟩
    rw [redR_val eq]
    have := cast_ne (show (1000000000 : Int) ≠ 0 by omega)
    rw [show ((1000000000 : Nat) : Rat) = ((1000000000 : Int) : Rat) by rfl]
    grind
  · rw [if_neg h] at eq
    injection eq with _ eq
    exact absurd eq h

end Go.Ev

namespace Go.Ev
set_option linter.unusedVariables false

abbrev FeeV (R m x F : Rat) : Prop := (F = 0 ∧ (R = 0 ∨ x ≤ m)) ∨ (F ≠ 0 ∧ F = R * (x - m) ∧ m ≤ x ∧ R ≠ 0)

/-- What is left, of all units. -/
abbrev NetIs (R m x y : Rat) : Prop := (y = x ∧ (R = 0 ∨ x ≤ m)) ∨ (y = x - R * (x - m) ∧ m ≤ x)
/-- The new mark, of all units. -/
abbrev MarkIs (R m x y : Rat) : Prop := (y = m ∧ (R = 0 ∨ x ≤ m)) ∨ (y = x - R * (x - m) ∧ m ≤ x ∧ R ≠ 0)

theorem prod_nn {a b : Rat} (ha : 0 ≤ a) (hb : 0 ≤ b) : 0 ≤ a * b := Rat.mul_nonneg ha hb

theorem net_lip {R m x y m' x' y' c : Rat} (r0 : 0 ≤ R) (r1 : R ≤ 1) (h : NetIs R m x y) (h' : NetIs R m' x' y') (dx : x ≤ x' + c) (dm : m ≤ m' + c) : y ≤ y' + c := by
  have p1 := prod_nn (show 0 ≤ 1 - R by grind) (show 0 ≤ x' + c - x by grind)
  have p2 := prod_nn r0 (show 0 ≤ m' + c - m by grind)
  rcases h with ⟨e, k⟩ | ⟨e, k⟩ <;> rcases h' with ⟨e', k'⟩ | ⟨e', k'⟩
  · grind
  · have p3 : R = 0 ∨ 0 ≤ R * (m - x) := by
      rcases k with k | k
      · exact .inl k
      · exact .inr (prod_nn r0 (by grind))
    rcases p3 with p3 | p3
    · subst p3; grind
    · grind
  · have p3 := prod_nn r0 (show 0 ≤ x - m by grind)
    grind
  · grind

theorem mark_lip {R m x y m' x' y' c : Rat} (r0 : 0 ≤ R) (r1 : R ≤ 1) (h : MarkIs R m x y) (h' : MarkIs R m' x' y') (dx : x ≤ x' + c) (dm : m ≤ m' + c) : y ≤ y' + c := by
  have p1 := prod_nn (show 0 ≤ 1 - R by grind) (show 0 ≤ x' + c - x by grind)
  have p2 := prod_nn r0 (show 0 ≤ m' + c - m by grind)
  rcases h with ⟨e, k⟩ | ⟨e, k, k2⟩ <;> rcases h' with ⟨e', k'⟩ | ⟨e', k', k2'⟩
  · grind
  · have p3 := prod_nn (show 0 ≤ 1 - R by grind) (show 0 ≤ x' - m' by grind)
    grind
  · rcases k' with k' | k'
    · exact absurd k' k2
    · have p3 := prod_nn (show 0 ≤ 1 - R by grind) (show 0 ≤ m' - x' by grind)
      grind
  · grind

theorem fee_net {R m x F n : Rat} (n0 : 0 ≤ n) (h : FeeV R m x F) : NetIs R (n * m) (n * x) (n * (x - F)) := by
  rcases h with ⟨e, k⟩ | ⟨e0, e, k, k2⟩
  · left
    refine ⟨by rw [e]; grind, ?_⟩
    rcases k with k | k
    · exact .inl k
    · exact .inr (Rat.mul_le_mul_of_nonneg_left k n0)
  · right
    exact ⟨by rw [e]; grind, Rat.mul_le_mul_of_nonneg_left k n0⟩

theorem fee_mark1 {R m x F n : Rat} (n0 : 0 ≤ n) (h : FeeV R m x F) (hF : F ≠ 0) : MarkIs R (n * m) (n * x) (n * (x - F)) := by
  rcases h with ⟨e, k⟩ | ⟨e0, e, k, k2⟩
  · exact absurd e hF
  · right
    exact ⟨by rw [e]; grind, Rat.mul_le_mul_of_nonneg_left k n0, k2⟩

theorem fee_mark0 {R m x F n : Rat} (n0 : 0 ≤ n) (h : FeeV R m x F) (hF : F = 0) : MarkIs R (n * m) (n * x) (n * m) := by
  rcases h with ⟨e, k⟩ | ⟨e0, e, k, k2⟩
  · left
    refine ⟨rfl, ?_⟩
    rcases k with k | k
    · exact .inl k
    · exact .inr (Rat.mul_le_mul_of_nonneg_left k n0)
  · exact absurd hF e0

/-- What is left is at least the lesser of the value and the mark, and at most the value. -/
theorem net_low {R m x F : Rat} (r0 : 0 ≤ R) (r1 : R ≤ 1) (h : FeeV R m x F) : 0 ≤ F ∧ (x ≤ x - F ∨ m ≤ x - F) := by
  rcases h with ⟨e, k⟩ | ⟨e0, e, k, k2⟩
  · subst e; exact ⟨by grind, .inl (by grind)⟩
  · have p3 := prod_nn r0 (show 0 ≤ x - m by grind)
    have p4 := prod_nn (show 0 ≤ 1 - R by grind) (show 0 ≤ x - m by grind)
    exact ⟨by grind, .inr (by grind)⟩

theorem div_nn {a b : Rat} (ha : 0 ≤ a) (hb : 0 < b) : 0 ≤ a / b := by
  have : ¬ a / b < 0 := by rw [Rat.div_lt_iff hb]; grind
  grind
theorem div_le_of {a b k : Rat} (hb : 0 < b) (h : a ≤ k * b) : a / b ≤ k := by
  have : ¬ k < a / b := by rw [Rat.lt_div_iff hb]; grind
  grind

structure PStep (R r P W Mc Ml Mo n u ε : Rat) (G X Fc Fl Fo N W' n' Ml' Mo' : Rat) : Prop where
  r0 : 0 ≤ R
  r1 : R ≤ 1
  a0 : 4 / 5 ≤ r
  a1 : r ≤ 129 / 100
  p0 : 0 < P
  n0 : 0 ≤ n
  u0 : 0 ≤ u
  ml : 0 < Ml
  e0 : 0 ≤ ε
  g : G = P * r
  x : X = W * r
  fc : FeeV R Mc G Fc
  fl : FeeV R Ml G Fl
  fo : FeeV R Mo X Fo
  n_ : N = G - Fc
  w_ : W' = X - Fo
  np : 0 < N
  k0 : n * (G - Fl) < n' * N + N
  k1 : n' * N ≤ n * (G - Fl)
  n'0 : 0 ≤ n'
  nn : Fc = 0 → Fl = 0 → n' = n
  lm : (Fl ≠ 0 ∧ N ≤ Ml' ∧ Ml' ≤ N + ε) ∨ (Fl = 0 ∧ Fc = 0 ∧ Ml' = Ml) ∨ (Fl = 0 ∧ Fc ≠ 0 ∧ Ml * (N / G) ≤ Ml' ∧ Ml' ≤ Ml * (N / G) + ε)
  om : (Fo ≠ 0 ∧ W' ≤ Mo' ∧ Mo' ≤ W' + ε) ∨ (Fo = 0 ∧ Mo' = Mo)

variable {R r P W Mc Ml Mo n u ε : Rat} {G X Fc Fl Fo N W' n' Ml' Mo' : Rat}

theorem PStep.gp (s : PStep R r P W Mc Ml Mo n u ε G X Fc Fl Fo N W' n' Ml' Mo') : 0 < G := by
  rw [s.g]
  have h := s.a0
  exact Rat.mul_pos s.p0 (by grind)

/-- The gap of the values, before the rounding. -/
theorem PStep.gap1 (s : PStep R r P W Mc Ml Mo n u ε G X Fc Fl Fo N W' n' Ml' Mo') {c : Rat} (h1 : n * G ≤ u * X + c) (h2 : u * X ≤ n * G + c) (h3 : n * Ml ≤ u * Mo + c) (h4 : u * Mo ≤ n * Ml + c) :
    n' * N ≤ u * W' + c ∧ u * W' ≤ n' * N + c + N := by
  have a := fee_net s.n0 s.fl
  have b := fee_net s.u0 s.fo
  rw [← s.w_] at b
  have k0 := s.k0
  have k1 := s.k1
  have l1 := net_lip s.r0 s.r1 a b h1 h3
  have l2 := net_lip s.r0 s.r1 b a h2 h4
  constructor <;> grind

/-- The gap of the marks. -/
theorem PStep.gap2 (s : PStep R r P W Mc Ml Mo n u ε G X Fc Fl Fo N W' n' Ml' Mo') {c κ : Rat} (κ1 : 1 ≤ κ) (hκ : Ml ≤ κ * G) (h1 : n * G ≤ u * X + c) (h2 : u * X ≤ n * G + c) (h3 : n * Ml ≤ u * Mo + c) (h4 : u * Mo ≤ n * Ml + c) :
    n' * Ml' ≤ u * Mo' + c + n' * ε ∧ u * Mo' ≤ n' * Ml' + c + κ * N + u * ε := by
  have gp := s.gp
  have np := s.np
  have k0 := s.k0
  have k1 := s.k1
  have kN : N ≤ κ * N := by have := prod_nn (show 0 ≤ κ - 1 by grind) (show 0 ≤ N by grind); grind
  have eN : 0 ≤ n' * ε := prod_nn s.n'0 s.e0
  have eu : 0 ≤ u * ε := prod_nn s.u0 s.e0
  have hA : ∃ y, MarkIs R (n * Ml) (n * G) y ∧ y ≤ n' * Ml' + κ * N ∧ n' * Ml' ≤ y + n' * ε := by
    rcases s.lm with ⟨f, a, b⟩ | ⟨f, f2, a⟩ | ⟨f, f2, a, b⟩
    · refine ⟨_, fee_mark1 s.n0 s.fl f, ?_, ?_⟩
      · have := Rat.mul_le_mul_of_nonneg_left a s.n'0
        grind
      · have := Rat.mul_le_mul_of_nonneg_left b s.n'0
        grind
    · refine ⟨_, fee_mark0 s.n0 s.fl f, ?_, ?_⟩
      · rw [a, s.nn f2 f]; grind
      · rw [a, s.nn f2 f]; have := s.nn f2 f; grind
    · refine ⟨_, fee_mark0 s.n0 s.fl f, ?_, ?_⟩
      · have h5 := Rat.mul_le_mul_of_nonneg_left a s.n'0
        -- n Ml = (n G) (Ml / G)
        have q : 0 ≤ Ml / G := div_nn (by have := s.ml; grind) gp
        have qk : Ml / G ≤ κ := div_le_of gp hκ
        have h6 := Rat.mul_le_mul_of_nonneg_right (show n * G ≤ n' * N + N by rw [f] at k0; grind) q
        have h7 := Rat.mul_le_mul_of_nonneg_left qk (show 0 ≤ N by grind)
        have e1 : n * G * (Ml / G) = n * Ml := by grind
        have e2 : (n' * N + N) * (Ml / G) = n' * (Ml * (N / G)) + N * (Ml / G) := by grind
        rw [e1, e2] at h6
        grind
      · have h5 := Rat.mul_le_mul_of_nonneg_left b s.n'0
        have q : 0 ≤ Ml / G := div_nn (by have := s.ml; grind) gp
        have h6 := Rat.mul_le_mul_of_nonneg_right (show n' * N ≤ n * G by rw [f] at k1; grind) q
        have e1 : n * G * (Ml / G) = n * Ml := by grind
        have e2 : n' * N * (Ml / G) = n' * (Ml * (N / G)) := by grind
        rw [e1, e2] at h6
        grind
  have hB : ∃ y, MarkIs R (u * Mo) (u * X) y ∧ y ≤ u * Mo' ∧ u * Mo' ≤ y + u * ε := by
    rcases s.om with ⟨f, a, b⟩ | ⟨f, a⟩
    · refine ⟨_, fee_mark1 s.u0 s.fo f, ?_, ?_⟩
      · rw [← s.w_]; exact Rat.mul_le_mul_of_nonneg_left a s.u0
      · rw [← s.w_]; have := Rat.mul_le_mul_of_nonneg_left b s.u0; grind
    · refine ⟨_, fee_mark0 s.u0 s.fo f, ?_, ?_⟩
      · rw [a]; grind
      · rw [a]; grind
  obtain ⟨y, hy, y1, y2⟩ := hA
  obtain ⟨z, hz, z1, z2⟩ := hB
  have l1 := mark_lip s.r0 s.r1 hy hz h1 h3
  have l2 := mark_lip s.r0 s.r1 hz hy h2 h4
  constructor <;> grind

end Go.Ev

namespace Go.Ev
set_option linter.unusedVariables false

structure PInv (c e m nb L U : Rat) (R P W Mc Ml Mo n u : Rat) : Prop where
  c0 : 0 ≤ c
  e0 : 0 ≤ e
  m1 : 1 ≤ m
  u0 : 0 ≤ u
  u1 : u ≤ 1001000
  l1 : 20 ≤ L
  pl : L ≤ P
  pu : P ≤ U
  w0 : 0 < W
  wu : W ≤ U
  cl : L ≤ Mc
  cu : Mc ≤ U
  l0 : 0 < Ml
  lu : Ml ≤ m * P
  o0 : 0 < Mo
  ou : Mo ≤ U
  n0 : 0 ≤ n
  nb : n ≤ nb
  a1 : n * P ≤ u * W + (c * P + e)
  a2 : u * W ≤ n * P + (c * P + e)
  b1 : n * Ml ≤ u * Mo + (c * P + e)
  b2 : u * Mo ≤ n * Ml + (c * P + e)
  fl : R = 0 ∨ (2 * P ≤ 3 * Mc ∧ (c = 0 ∨ P ≤ Mc))

variable {c e m nb L U c' e' nb' : Rat} {R r P W Mc Ml Mo n u ε : Rat} {G X Fc Fl Fo N W' n' Ml' Mo' Mc' : Rat}

theorem feeV_zero {R m x F : Rat} (hR : R = 0) (h : FeeV R m x F) : F = 0 := by
  rcases h with ⟨a, _⟩ | ⟨_, _, _, b⟩
  · exact a
  · exact absurd hR b

theorem inv_facts (i : PInv c e m nb L U R P W Mc Ml Mo n u) (s : PStep R r P W Mc Ml Mo n u ε G X Fc Fl Fo N W' n' Ml' Mo') :
    4 / 5 * P ≤ G ∧ G ≤ 129 / 100 * P ∧ 4 / 5 * L ≤ N ∧ N ≤ G ∧ G ≤ 2 * N ∧ (c = 0 ∨ (G ≤ 13 / 10 * N ∧ P ≤ 13 / 10 * N)) ∧ 0 < W' ∧ W' ≤ X ∧ X ≤ 129 / 100 * W := by
  have p0 := s.p0
  have g1 := prod_nn (show 0 ≤ r - 4 / 5 by have := s.a0; grind) (show 0 ≤ P by grind)
  have g2 := prod_nn (show 0 ≤ 129 / 100 - r by have := s.a1; grind) (show 0 ≤ P by grind)
  have w0 := i.w0
  have x1 := prod_nn (show 0 ≤ r - 4 / 5 by have := s.a0; grind) (show 0 ≤ W by grind)
  have x2 := prod_nn (show 0 ≤ 129 / 100 - r by have := s.a1; grind) (show 0 ≤ W by grind)
  have eg := s.g
  have ex := s.x
  have hn := s.n_
  have hw := s.w_
  obtain ⟨f0, f1⟩ := net_low s.r0 s.r1 s.fc
  obtain ⟨h0, h1⟩ := net_low s.r0 s.r1 s.fo
  have pl := i.pl
  have cl := i.cl
  have l1 := i.l1
  have o0 := i.o0
  have eG : 4 / 5 * P ≤ G := by grind
  have eG2 : G ≤ 129 / 100 * P := by grind
  refine ⟨eG, eG2, ?_, by grind, ?_, ?_, ?_, by grind, by grind⟩
  · rcases f1 with f1 | f1 <;> grind
  · rcases i.fl with k | ⟨k, _⟩
    · have := feeV_zero k s.fc
      grind
    · rcases f1 with f1 | f1 <;> grind
  · rcases i.fl with k | ⟨k, k2⟩
    · have := feeV_zero k s.fc
      right; constructor <;> grind
    · rcases k2 with k2 | k2
      · exact .inl k2
      · right
        rcases f1 with f1 | f1 <;> constructor <;> grind
  · rcases h1 with h1 | h1
    · grind
    · grind

theorem inv_step (i : PInv c e m nb L U R P W Mc Ml Mo n u) (s : PStep R r P W Mc Ml Mo n u ε G X Fc Fl Fo N W' n' Ml' Mo')
    (hc : (Fc ≠ 0 ∧ N ≤ Mc' ∧ Mc' ≤ N + ε) ∨ (Fc = 0 ∧ Mc' = Mc)) (hε : ε = 1 / 1000000000) (hnb : nb ≤ 5000000)
    (hL : 25 ≤ L) (hU : U ≤ 1000) (hU0 : 1 ≤ U) (cc : c * (13 / 10) + 5 / 4 * m ≤ c') (ee : 13 / 10 * e + 1 / 50 ≤ e') :
    PInv c' e' (5 / 4 * m + 1 / 10) (2 * nb) (4 / 5 * L) (13 / 10 * U) R N W' Mc' Ml' Mo' n' u := by
  obtain ⟨q1, q2, q3, q4, q5, q6, q7, q8, q9⟩ := inv_facts i s
  have c0 := i.c0
  have e0 := i.e0
  have m1 := i.m1
  have u0 := i.u0
  have u1 := i.u1
  have pl := i.pl
  have pu := i.pu
  have n0 := i.n0
  have hnn := i.nb
  have w0 := i.w0
  have wu := i.wu
  have n'0 := s.n'0
  have lu := i.lu
  have np := s.np
  have gp := s.gp
  have hn := s.n_
  -- units
  have f0 := (net_low s.r0 s.r1 s.fl).1
  have nb2 : n' ≤ 2 * n := by
    have k1 := s.k1
    have t1 := prod_nn n0 f0
    have t2 := prod_nn n0 (show 0 ≤ 2 * N - G by grind)
    have t3 : n' * N ≤ (2 * n) * N := by grind
    have : ¬ 2 * n < n' := fun q => by
      have := (Rat.mul_lt_mul_left np).2 q
      grind
    grind
  -- the gap, before
  have hcG : c * G ≤ c * (13 / 10) * N := by
    rcases q6 with q6 | ⟨q6, _⟩
    · rw [q6]; grind
    · have := Rat.mul_le_mul_of_nonneg_left q6 c0
      grind
  have hcP : c * P ≤ c * (13 / 10) * N := by
    rcases q6 with q6 | ⟨_, q6⟩
    · rw [q6]; grind
    · have := Rat.mul_le_mul_of_nonneg_left q6 c0
      grind
  have r0 : 0 ≤ r := by have := s.a0; grind
  have r1 := s.a1
  have re : r * e ≤ 13 / 10 * e := by have := prod_nn (show 0 ≤ 13 / 10 - r by grind) e0; grind
  have g1 := Rat.mul_le_mul_of_nonneg_left i.a1 r0
  have g2 := Rat.mul_le_mul_of_nonneg_left i.a2 r0
  have eG := s.g
  have eX := s.x
  have G1 : n * G ≤ u * X + (c * (13 / 10) * N + 13 / 10 * e) := by
    have : r * (n * P) = n * G := by rw [eG]; grind
    have h2 : r * (u * W + (c * P + e)) = u * X + (c * G + r * e) := by rw [eG, eX]; grind
    grind
  have G2 : u * X ≤ n * G + (c * (13 / 10) * N + 13 / 10 * e) := by
    have : r * (u * W) = u * X := by rw [eX]; grind
    have h2 : r * (n * P + (c * P + e)) = n * G + (c * G + r * e) := by rw [eG]; grind
    grind
  have ee1 : e ≤ 13 / 10 * e := by grind
  have b1 := i.b1
  have b2 := i.b2
  have G3 : n * Ml ≤ u * Mo + (c * (13 / 10) * N + 13 / 10 * e) := by grind
  have G4 : u * Mo ≤ n * Ml + (c * (13 / 10) * N + 13 / 10 * e) := by grind
  have hκ : Ml ≤ (5 / 4 * m) * G := by
    have := Rat.mul_le_mul_of_nonneg_left q1 (show 0 ≤ m by grind)
    grind
  obtain ⟨A1, A2⟩ := s.gap1 G1 G2 G3 G4
  obtain ⟨B1, B2⟩ := s.gap2 (show 1 ≤ 5 / 4 * m by grind) hκ G1 G2 G3 G4
  have nε : n' * ε ≤ 1 / 50 := by
    have := Rat.mul_le_mul_of_nonneg_right (show n' ≤ 10000000 by grind) s.e0
    rw [hε] at this ⊢
    grind
  have uε : u * ε ≤ 1 / 50 := by
    have := Rat.mul_le_mul_of_nonneg_right (show u ≤ 10000000 by grind) s.e0
    rw [hε] at this ⊢
    grind
  have n20 : 20 ≤ N := by grind
  have cN := Rat.mul_le_mul_of_nonneg_right cc (show 0 ≤ N by grind)
  have mN : N ≤ 5 / 4 * m * N := by have := prod_nn (show 0 ≤ 5 / 4 * m - 1 by grind) (show 0 ≤ N by grind); grind
  have εs : ε ≤ 1 / 100 := by rw [hε]; grind
  have ε0 := s.e0
  refine ⟨by grind, by grind, by grind, u0, u1, by grind, q3, by grind, q7, by grind, ?_, ?_, ?_, ?_, ?_, ?_, n'0, by grind, by grind, by grind, by grind, by grind, ?_⟩
  · rcases hc with ⟨_, h, _⟩ | ⟨_, h⟩
    · grind
    · have := i.cl; grind
  · rcases hc with ⟨_, _, h⟩ | ⟨_, h⟩
    · grind
    · have := i.cu; grind
  · rcases s.lm with ⟨_, h, _⟩ | ⟨_, _, h⟩ | ⟨_, _, h, _⟩
    · grind
    · rw [h]; exact i.l0
    · have : 0 < Ml * (N / G) := Rat.mul_pos i.l0 (by rw [Rat.lt_div_iff gp]; grind)
      grind
  · rcases s.lm with ⟨_, _, h⟩ | ⟨_, hf, h⟩ | ⟨_, _, _, h⟩
    · grind
    · have : N = G := by grind
      rw [h, this]; grind
    · have t : Ml * (N / G) ≤ 5 / 4 * m * N := by
        have q := div_le_of gp hκ
        have := Rat.mul_le_mul_of_nonneg_right q (show 0 ≤ N by grind)
        have e1 : Ml / G * N = Ml * (N / G) := by grind
        grind
      grind
  · rcases s.om with ⟨_, h, _⟩ | ⟨_, h⟩
    · grind
    · rw [h]; exact i.o0
  · rcases s.om with ⟨_, _, h⟩ | ⟨_, h⟩
    · grind
    · have := i.ou; grind
  · by_cases hR : R = 0
    · exact .inl hR
    · right
      have : N ≤ Mc' := by
        rcases hc with ⟨_, h, _⟩ | ⟨hf, h⟩
        · exact h
        · rw [h]
          rcases s.fc with ⟨_, k⟩ | ⟨k, _⟩
          · rcases k with k | k
            · exact absurd k hR
            · grind
          · exact absurd hf k
      exact ⟨by grind, .inr this⟩

end Go.Ev

namespace Go.Ev
set_option linter.unusedVariables false
set_option linter.unusedSimpArgs false

/-- Rounding down to whole numbers. -/
theorem floor_G {k : Nat} {r : GRat} (h : G k r) (hk : k ≤ 480) : g_decimal_Round r 0 3 = some (zI (val r.1 / val r.2), 0) := by
  have hp := h.v.pos
  have hv := h.v
  have hm : ((val r.1 * 1).natAbs : Int) < MX := by have := hv.kn; have := KM_MX; omega
  have hw := h.wf
  unfold g_decimal_Round g_decimal_check
  rw [valid_ok hw, obind, decide_eq_true hv, nT, cF]
  simp only [cond_dec]
  rw [if_neg (by omega), if_neg (by omega), obind, show ((0 : Int) != 0) = false from rfl, cF]
  unfold g_decimal_scaled
  rw [power0, obind, fromInt_ok i64_1, obind, mul_ok hw.num (zI_wf _), obind, val_I64 i64_1]
  unfold fitR
  rw [if_pos hm, divmod_ok (zI_wf _) hw.den, obind, val_zI hm, Int.mul_one]
  unfold divR
  rw [if_neg (by omega), obind]
  dsimp only
  rw [add_ok (zI_wf _) (zI_wf _), obind]
  have wf : ∀ z, WF 32 (fitR z).1.2 := fitR_wf
  rw [cmp_ok (wf _) hw.den, obind, sign_ok hw.num, obind]
  rw [show ((3 : Int) == 1) = false from rfl, cF, show ((3 : Int) == 2) = false from rfl, cF, show ((3 : Int) == 3) = true from rfl, cT]
  unfold g_decimal_Round_E47_3 g_decimal_between_floor
  dsimp only
  rw [sign_ok (zI_wf _), obind, beq_dec, cond_dec]
  split
  · rfl
  · rw [obind, nF, cT]

theorem floor_Q {k : Nat} {r : GRat} (h : G k r) : ((val r.1 / val r.2 : Int) : Rat) ≤ toQ r ∧ toQ r < ((val r.1 / val r.2 : Int) : Rat) + 1 := by
  have hp := h.v.pos
  have hd := h.dpos
  have e := Int.mul_ediv_add_emod (val r.1) (val r.2)
  have r0 := Int.emod_nonneg (val r.1) (show val r.2 ≠ 0 by omega)
  have r1 := Int.emod_lt_of_pos (val r.1) hp
  generalize val r.1 / val r.2 = q at *
  generalize val r.1 % val r.2 = m at *
  have c1 : ((val r.2 * q + m : Int) : Rat) = (val r.1 : Rat) := by rw [e]
  have c2 : (0 : Rat) ≤ (m : Rat) := by exact_mod_cast r0
  have c3 : (m : Rat) < (val r.2 : Rat) := by exact_mod_cast r1
  rw [Rat.intCast_add, Rat.intCast_mul] at c1
  unfold toQ
  constructor
  · have : ¬ (val r.1 : Rat) / (val r.2 : Rat) < (q : Rat) := by rw [Rat.div_lt_iff hd]; grind
    grind
  · rw [Rat.div_lt_iff hd]; grind

theorem roundInt_G {k : Nat} {r : GRat} (h : G k r) (hk : k ≤ 480) (hq : ((val r.1 / val r.2).natAbs : Int) < 2147483648) : g_decimal_RoundInt r 0 3 = some (val r.1 / val r.2, 0) := by
  unfold g_decimal_RoundInt
  rw [floor_G h hk, obind]
  dsimp only
  rw [show ((0 : Int) != 0) = false from rfl, cF, toInt_small hq, obind]
  dsimp only
  rw [nT, cF, cond_dec, if_neg (by omega), cond_dec, if_neg (by omega)]

theorem sign_one {k : Nat} {a : GRat} (h : G k a) (hp : 0 < toQ a) : signR a = (1, 0) := by
  have := sign_pos h hp
  unfold signR at this ⊢
  rw [if_pos h.v] at this ⊢
  dsimp only at this
  rw [this]

theorem cmpR_two {a b : GRat} (ha : ValidR a) (hb : ValidR b) : (cmpR a b).1 = -1 ∧ toQ a < toQ b ∨ (cmpR a b).1 = 0 ∧ toQ a = toQ b ∨ (cmpR a b).1 = 1 ∧ toQ b < toQ a := by
  have h1 := cmp_Q ha hb
  have h2 := cmp_Q hb ha
  unfold cmpR at h1 h2 ⊢
  rw [if_pos ⟨ha, hb⟩] at h1 ⊢
  rw [if_pos ⟨hb, ha⟩] at h2
  dsimp only at h1 h2 ⊢
  unfold cmpZ at h1 h2 ⊢
  grind

theorem p24 : (2 : Nat) ^ 24 = 16777216 := rfl
theorem p60 : (2 : Nat) ^ 60 = 1152921504606846976 := rfl

/-- Settling units. -/
theorem settle_G {u : Int} (u0 : 0 ≤ u) (u1 : u ≤ 10000000) {a n : GRat} (ga : G 201 a) (gn : G 100 n) (np : 0 < toQ n) (v1 : toQ a ≤ 10 * toQ n) (v0 : -toQ n < toQ a) :
    ∃ k : Int, g_equalisation_Settle u a n = some (u + k, 0) ∧ (k : Rat) * toQ n ≤ (u : Rat) * toQ a ∧ (u : Rat) * toQ a < (k : Rat) * toQ n + toQ n ∧ 0 ≤ u + k ∧ u + k ≤ 200000000 := by
  have n0 : toQ n ≠ 0 := by grind
  obtain ⟨p, ep, gp, vp⟩ := g_quo ga gn (by omega) n0
  have iu : I64 u := by unfold I64; omega
  obtain ⟨gu, vu⟩ := g_whole (n := u) (k := 24) iu (by rw [p24]; omega) (by omega)
  obtain ⟨x, ex, gx, vx⟩ := g_mul gu gp (by omega)
  have uc : (0 : Rat) ≤ (u : Rat) := by exact_mod_cast u0
  have uc1 : (u : Rat) ≤ ((10000000 : Int) : Rat) := Rat.intCast_le_intCast.2 u1
  have c7 : ((10000000 : Int) : Rat) = 10000000 := rfl
  rw [c7] at uc1
  have pn : toQ p * toQ n = toQ a := by rw [vp]; grind
  have p10 : toQ p ≤ 10 := by
    have : ¬ 10 < toQ p := fun q => by
      have := (Rat.mul_lt_mul_right np).2 q
      grind
    grind
  have pm1 : -1 < toQ p := by
    have : ¬ toQ p ≤ -1 := fun q => by
      have := Rat.mul_le_mul_of_nonneg_right q (show 0 ≤ toQ n by grind)
      grind
    grind
  have xv : toQ x = (u : Rat) * toQ p := by rw [vx, vu]
  have x10 : toQ x ≤ 100000000 := by
    have a1 := Rat.mul_le_mul_of_nonneg_left p10 uc
    grind
  have xm : -(u : Rat) ≤ toQ x := by
    have a1 := Rat.mul_le_mul_of_nonneg_left (show -1 ≤ toQ p by grind) uc
    grind
  obtain ⟨f0, f1⟩ := floor_Q gx
  have hr := roundInt_G gx (by omega)
  generalize hF : val x.1 / val x.2 = F at *
  have F1 : F < 100000001 := by
    have : ((F : Int) : Rat) < ((100000001 : Int) : Rat) := by
      have : ((100000001 : Int) : Rat) = 100000001 := rfl
      grind
    exact Rat.intCast_lt_intCast.1 this
  have F0 : -u ≤ F := by
    have : ((-u : Int) : Rat) < ((F + 1 : Int) : Rat) := by
      rw [Rat.intCast_add, Rat.intCast_neg, show ((1 : Int) : Rat) = 1 by rfl]; grind
    have : -u < F + 1 := by exact_mod_cast this
    omega
  unfold g_equalisation_Settle
  rw [cond_dec, if_neg (by omega), cond_dec, if_neg (by omega), valid_ok ga.wf, obind, decide_eq_true ga.v, nT, cF, signR_ok gn.wf, obind, sign_one gn np]
  dsimp only
  rw [show ((0 : Int) != 0) = false from rfl, cF, show (decide ((1 : Int) ≤ 0)) = false from rfl, cF, Quo_ok ga.wf gn.wf, obind, ep]
  dsimp only
  rw [show ((0 : Int) != 0) = false from rfl, cF, Whole_ok iu, obind, mulR_ok gu.wf gp.wf, obind, ex]
  dsimp only
  rw [show ((0 : Int) != 0) = false from rfl, cF, wrap_i64 (n := 1000000000000000 - u) (by omega) (by omega), wrap_i64 (n := 1000000000000000 - u + 1) (by omega) (by omega)]
  have ib : I64 (1000000000000000 - u + 1) := by unfold I64; omega
  obtain ⟨gb, vb⟩ := g_whole (n := 1000000000000000 - u + 1) (k := 60) ib (by rw [p60]; omega) (by omega)
  have im : I64 (-u) := by unfold I64; omega
  obtain ⟨gm, vm⟩ := g_whole (n := -u) (k := 24) im (by rw [p24]; omega) (by omega)
  have big : toQ x < toQ (wholeR (1000000000000000 - u + 1)) := by
    rw [vb, Rat.intCast_add, Rat.intCast_sub, show ((1000000000000000 : Int) : Rat) = 1000000000000000 by rfl, show ((1 : Int) : Rat) = 1 by rfl]; grind
  have lt := (cmp_Q gx.v gb.v).2 big
  rw [Whole_ok ib, obind, cmpR_ok gx.wf gb.wf, obind, cond_dec, if_neg (by omega), wrap_i64 (n := 0 - u) (by omega) (by omega), show 0 - u = -u by omega, Whole_ok im, obind, cmpR_ok gx.wf gm.wf, obind, cond_dec]
  have res : (F : Rat) * toQ n ≤ (u : Rat) * toQ a ∧ (u : Rat) * toQ a < (F : Rat) * toQ n + toQ n := by
    have e1 : (u : Rat) * toQ a = toQ x * toQ n := by rw [xv, ← pn]; grind
    rw [e1]
    have a1 := Rat.mul_le_mul_of_nonneg_right f0 (show 0 ≤ toQ n by grind)
    have a2 := (Rat.mul_lt_mul_right np).2 f1
    constructor <;> grind
  by_cases hz : (cmpR x (wholeR (-u))).1 ≤ 0
  · rw [if_pos hz]
    have hx : toQ x ≤ -(u : Rat) := by
      have e := vm
      rw [Rat.intCast_neg] at e
      rcases cmpR_two gx.v gm.v with ⟨_, h⟩ | ⟨_, h⟩ | ⟨h, _⟩
      · grind
      · grind
      · omega
    have hu : u = 0 := by
      by_cases h0 : u = 0
      · exact h0
      · have up : (0 : Rat) < (u : Rat) := by exact_mod_cast (show 0 < u by omega)
        have := (Rat.mul_lt_mul_left up).2 pm1
        grind
    subst hu
    refine ⟨0, rfl, ?_, ?_, by omega, by omega⟩
    · rw [show (((0 : Int)) : Rat) = 0 by rfl]; grind
    · rw [show (((0 : Int)) : Rat) = 0 by rfl]; grind
  · rw [if_neg hz, hr (by omega), obind]
    dsimp only
    rw [show ((0 : Int) != 0) = false from rfl, cF, wrap_i64 (by omega) (by omega)]
    exact ⟨F, rfl, res.1, res.2, by omega, by omega⟩

/-! ### Fees without a hurdle -/
theorem thr0 {k j : Nat} {t : GTerms} {w : GWater} {g : GRat} {d : Int} (ht : TermsM t) (h0 : toQ t.2.1 = 0) (hw : Wok k w) (hg : G j g) (gp : 0 < toQ g) (hk : k + 45 ≤ 480) (d0 : w.2 ≤ d) (d1 : d ≤ 73048) :
    thrS t w g d = (w.1, 0) := by
  obtain ⟨x, ex, gx, vx⟩ := thrS_G ht hw hg gp hk d0 d1
  rw [ex, made_ext gx.made hw.mark.made (by rw [vx]; unfold thrQ; rw [h0]; grind)]

theorem fee0 {t : GTerms} {w : GWater} {g : GRat} {d : Int} (ht : TermsM t) (h0 : toQ t.2.1 = 0) (hw : Wok 100 w) (hg : G 100 g) (gp : 0 < toQ g) (d0 : w.2 ≤ d) (d1 : d ≤ 73048)
    {D E : Nat} (zg : Zd D (toQ g)) (zw : Zd D (toQ w.1)) (zr : Zd E (toQ t.1)) (bg : toQ g ≤ 1000) (hD : 0 < D) (hE : 0 < E) (sz : 2000 * (D * E) < 2 ^ 100) :
    ∃ z, feeS t w g d = (z, 0) ∧ G 100 z ∧ FeeV (toQ t.1) (toQ w.1) (toQ g) (toQ z) ∧ Zd (D * E) (toQ z) ∧ 0 ≤ toQ z ∧ toQ z ≤ toQ g := by
  have hm := hw.pos
  have hP := Nat.mul_pos hD hE
  unfold feeS
  rw [thr0 ht h0 hw hg gp (by omega) d0 d1]
  dsimp only
  rw [if_pos rfl]
  unfold feeR
  by_cases hc : toQ w.1 < toQ g
  · rw [if_pos ((cmp_Q hw.mark.v hg.v).2 hc)]
    have b1 : Bd D 1000 100 (toQ g - toQ w.1) := ⟨zg.sub zw, by rw [show ((1000 : Nat) : Rat) = 1000 by rfl]; grind, by rw [show ((1000 : Nat) : Rat) = 1000 by rfl]; grind, hD, by
      have : D * 1 ≤ D * E := Nat.mul_le_mul_left D hE
      omega⟩
    obtain ⟨y, ey, gy, vy⟩ := sub_Z hg.v hw.mark.v b1 (by omega)
    have pm := part_mul ht.r0 ht.r1 (show 0 ≤ toQ y by rw [vy]; grind)
    have zz : Zd (D * E) (toQ t.1 * toQ y) := by
      have := zr.mul (zg.sub zw)
      rw [← vy] at this
      exact this.cast (Nat.mul_comm _ _)
    obtain ⟨z, ez, gz, vz⟩ := mul_Z (k := 100) (B := 1000) ht.rate.v gy.v ⟨zz, by rw [show ((1000 : Nat) : Rat) = 1000 by rfl]; grind, by rw [show ((1000 : Nat) : Rat) = 1000 by rfl]; grind, hP, by omega⟩ (by omega)
    rw [ey, step2_ok, ez]
    refine ⟨z, rfl, gz, ?_, by rw [vz]; exact zz, by rw [vz]; exact pm.1, by rw [vz]; grind⟩
    rw [vz, vy]
    by_cases hR : toQ t.1 = 0
    · left; exact ⟨by rw [hR]; grind, .inl hR⟩
    · right
      have rp : 0 < toQ t.1 := by have := ht.r0; grind
      have := Rat.mul_pos rp (show 0 < toQ g - toQ w.1 by grind)
      exact ⟨by grind, rfl, by grind, hR⟩
  · rw [if_neg (fun q => hc ((cmp_Q hw.mark.v hg.v).1 q))]
    obtain ⟨g1, v1⟩ := g_whole (n := 0) (k := 1) i64_0 (by decide) (by omega)
    have v1' : toQ (wholeR 0) = 0 := v1
    refine ⟨wholeR 0, rfl, g1.mono (by omega), .inl ⟨v1', .inr (by grind)⟩, ⟨0, by rw [v1']; show 0 * _ = ((0 : Int) : Rat); rw [show ((0 : Int) : Rat) = 0 by rfl]; grind⟩, by rw [v1']; grind, by rw [v1']; grind⟩

theorem tiny_eq : tiny = 1 / 1000000000 := rfl

/-- The end of a period, of one mark. -/
structure Cry0 (t : GTerms) (w : GWater) (g : GRat) (d : Int) (E : Nat) (z n : GRat) (w' : GWater) : Prop where
  fee : feeS t w g d = (z, 0)
  gz : G 100 z
  fv : FeeV (toQ t.1) (toQ w.1) (toQ g) (toQ z)
  zz : Zd E (toQ z)
  z0 : 0 ≤ toQ z
  net : subR g z = (n, 0)
  gn : G 100 n
  vn : toQ n = toQ g - toQ z
  zn : Zd E (toQ n)
  cry : cryS t w g d = (z, (w', 0))
  next : (toQ z ≠ 0 ∧ w'.2 = d ∧ Made w'.1 ∧ Zd 1000000000 (toQ w'.1) ∧ toQ n ≤ toQ w'.1 ∧ toQ w'.1 ≤ toQ n + 1 / 1000000000) ∨ (toQ z = 0 ∧ w' = w)

theorem cry0 {t : GTerms} {w : GWater} {g : GRat} {d : Int} (ht : TermsM t) (h0 : toQ t.2.1 = 0) (hw : Wok 100 w) (hg : G 100 g) (gp : 0 < toQ g) (d0 : w.2 ≤ d) (d1 : d ≤ 73048)
    {D E : Nat} (zg : Zd D (toQ g)) (zw : Zd D (toQ w.1)) (zr : Zd E (toQ t.1)) (bg : toQ g ≤ 1000) (hD : 0 < D) (hE : 0 < E) (sz : 2000 * (D * E) < 2 ^ 100) :
    ∃ z n w', Cry0 t w g d (D * E) z n w' := by
  obtain ⟨z, ez, gz, fv, zz, z0, z1⟩ := fee0 ht h0 hw hg gp d0 d1 zg zw zr bg hD hE sz
  have zn : Zd (D * E) (toQ g - toQ z) := (zg.up E).sub zz
  obtain ⟨n, en, gn, vn⟩ := sub_Z (k := 100) (B := 1000) hg.v gz.v ⟨zn, by rw [show ((1000 : Nat) : Rat) = 1000 by rfl]; grind, by rw [show ((1000 : Nat) : Rat) = 1000 by rfl]; grind, Nat.mul_pos hD hE, by omega⟩ (by omega)
  obtain ⟨q, eq, gq, zq, q1, q2⟩ := quant_Z gn (by omega)
  by_cases hz : toQ z = 0
  · refine ⟨z, n, w, ez, gz, fv, zz, z0, en, gn, vn, by rw [vn]; exact zn, ?_, .inr ⟨hz, rfl⟩⟩
    unfold cryS
    rw [ez]
    dsimp only
    rw [if_pos rfl, if_pos ((sign_zero gz).2 hz)]
  · refine ⟨z, n, (q, d), ez, gz, fv, zz, z0, en, gn, vn, by rw [vn]; exact zn, ?_, .inl ⟨hz, rfl, gq, zq, q1, by rw [tiny_eq] at q2; grind⟩⟩
    unfold cryS
    rw [ez]
    dsimp only
    rw [if_pos rfl, if_neg (fun e => hz ((sign_zero gz).1 e)), en]
    dsimp only
    rw [if_pos rfl, eq]
    dsimp only
    rw [if_pos rfl]

/-- One lot at the end of a period. -/
theorem lot0 {t : GTerms} {c : GWater} {g : GRat} {d : Int} {x : GLot} {z n o m : GRat} {c' x' : GWater} {E : Nat} (hg : G 100 g) (gp : 0 < toQ g) (hx : Wok 100 x.2) (h : Cry0 t c g d E z n c') (k : Cry0 t x.2 g d E o m x') :
    ∃ a y, subR z o = (a, 0) ∧ G 201 a ∧ toQ a = toQ z - toQ o ∧ lotS t c g d z n x = ((a, (x.1, y)), 0) ∧
      ((toQ o ≠ 0 ∧ y.2 = d ∧ Made y.1 ∧ Zd 1000000000 (toQ y.1) ∧ toQ n ≤ toQ y.1 ∧ toQ y.1 ≤ toQ n + 1 / 1000000000) ∨
       (toQ o = 0 ∧ toQ z = 0 ∧ y = x.2) ∨
       (toQ o = 0 ∧ toQ z ≠ 0 ∧ y.2 = x.2.2 ∧ Made y.1 ∧ Zd 1000000000 (toQ y.1) ∧ toQ x.2.1 * (toQ n / toQ g) ≤ toQ y.1 ∧ toQ y.1 ≤ toQ x.2.1 * (toQ n / toQ g) + 1 / 1000000000)) := by
  obtain ⟨a, ea, ga, va⟩ := g_sub h.gz k.gz (by omega)
  have hadj : adjS t c x.2 g d = (a, 0) := by
    unfold adjS
    rw [h.fee, k.fee]
    dsimp only
    rw [if_pos rfl, if_pos rfl, ea]
  have gp' : toQ g ≠ 0 := by grind
  unfold lotS
  rw [hadj, k.fee]
  dsimp only
  rw [if_neg (by omega)]
  by_cases ho : toQ o = 0
  · rw [if_pos ((eq_whole0 k.gz).2 ho)]
    by_cases hf0 : toQ z = 0
    · rw [if_pos ((eq_whole0 h.gz).2 hf0)]
      exact ⟨a, x.2, ea, ga, va, rfl, .inr (.inl ⟨ho, hf0, rfl⟩)⟩
    · rw [if_neg (fun e => hf0 ((eq_whole0 h.gz).1 e))]
      obtain ⟨p, ep, gpp, vp⟩ := g_quo h.gn hg (by omega) gp'
      obtain ⟨y, ey, gy, vy⟩ := g_mul hx.mark gpp (by omega)
      obtain ⟨q, eq, mq, zq, q1, q2⟩ := quant_Z gy (by omega)
      rw [ep, step2_ok, ey]
      dsimp only
      rw [if_neg (by omega), eq]
      dsimp only
      rw [if_neg (by omega)]
      rw [tiny_eq] at q2
      refine ⟨a, (q, x.2.2), ea, ga, va, rfl, .inr (.inr ⟨ho, hf0, rfl, mq, zq, by rw [← vp, ← vy]; exact q1, by rw [← vp, ← vy]; grind⟩)⟩
  · rw [if_neg (fun e => ho ((eq_whole0 k.gz).1 e))]
    obtain ⟨q, eq, mq, zq, q1, q2⟩ := quant_Z h.gn (by omega)
    rw [eq]
    dsimp only
    rw [if_neg (by omega)]
    rw [tiny_eq] at q2
    exact ⟨a, (q, d), ea, ga, va, rfl, .inl ⟨ho, rfl, mq, zq, q1, by grind⟩⟩

end Go.Ev

namespace Go.Ev
set_option linter.unusedVariables false
set_option linter.unusedSimpArgs false

def DD (E : Nat) : Nat → Nat
  | 0 => 1000000000
  | p + 1 => DD E p * (100 * E)

theorem DD_pos {E : Nat} (hE : 0 < E) : ∀ p, 0 < DD E p
  | 0 => (by decide : 0 < 1000000000)
  | p + 1 => Nat.mul_pos (DD_pos hE p) (by omega)

theorem DD_nine (E : Nat) : ∀ p, ∃ q, DD E p = 1000000000 * q
  | 0 => ⟨1, rfl⟩
  | p + 1 => by
    obtain ⟨q, e⟩ := DD_nine E p
    exact ⟨q * (100 * E), by show DD E p * (100 * E) = _; rw [e, Nat.mul_assoc]⟩

theorem DD_le {E : Nat} (hE : E < 128) {p : Nat} (hp : p ≤ 2) : DD E p ≤ 1000000000 * (12800 * 12800) := by
  have h1 : 100 * E ≤ 12800 := by omega
  have d1 : DD E 1 ≤ 1000000000 * 12800 := Nat.mul_le_mul_left _ h1
  have d2 : DD E 2 ≤ 1000000000 * 12800 * 12800 := Nat.mul_le_mul d1 h1
  match p, hp with
  | 0, _ => exact (by decide : (1000000000 : Nat) ≤ 1000000000 * (12800 * 12800))
  | 1, _ => exact Nat.le_trans d1 (by decide)
  | 2, _ => exact Nat.le_trans d2 (by decide)

theorem zd_nine {E : Nat} {q : Rat} (h : Zd 1000000000 q) (p : Nat) : Zd (DD E p) q := by
  obtain ⟨r, e⟩ := DD_nine E p
  rw [e]; exact h.up r

abbrev FolS := ((Bool × (Int × ((List GLot) × (Int × Int)))) × (GWater × ((GRat × Int) × (GWater × ((GRat × Int) × ((List Int) × Int))))))

/-- The state at the beginning of a period. -/
structure FolI (t : GTerms) (E : Nat) (u : Int) (c e m nb L U : Rat) (p : Nat) (d : Int) (x : GWater) (n : Int) (cw : GWater) (pr : GRat) (ow : GWater) (wo : GRat) (tp : GTape) : Prop where
  tape : TapeOK tp
  d0 : 100 ≤ d
  d1 : d ≤ 100 + 400 * (p : Int)
  x0 : 0 ≤ x.2
  x1 : x.2 ≤ d
  c0 : 0 ≤ cw.2
  c1 : cw.2 ≤ d
  o0 : 0 ≤ ow.2
  o1 : ow.2 ≤ d
  xm : Made x.1
  xz : Zd 1000000000 (toQ x.1)
  cm : Made cw.1
  cz : Zd 1000000000 (toQ cw.1)
  om : Made ow.1
  oz : Zd 1000000000 (toQ ow.1)
  pm : Made pr
  pz : Zd (DD E p) (toQ pr)
  wm : Made wo
  wz : Zd (DD E p) (toQ wo)
  inv : PInv c e m nb L U (toQ t.1) (toQ pr) (toQ wo) (toQ cw.1) (toQ x.1) (toQ ow.1) (n : Rat) (u : Rat)

theorem p100 : (2 : Nat) ^ 100 = 1267650600228229401496703205376 := rfl

theorem bd_one {D : Nat} {q : Rat} (z : Zd D q) (h0 : 0 ≤ q) (h1 : q ≤ 1000) (hD : 0 < D) (hs : D ≤ 1000000000 * (12800 * 12800) * 12800) : Bd D 1000 100 q :=
  ⟨z, by rw [show ((1000 : Nat) : Rat) = 1000 by rfl]; grind, by rw [show ((1000 : Nat) : Rat) = 1000 by rfl]; grind, hD, by rw [p100]; omega⟩

theorem units_lt {n k N g z o : Rat} (h : N = g - z) (h2 : n * (z - o) < k * N + N) : n * (g - o) < (n + k) * N + N := by
  have e : n * (g - o) = n * N + n * (z - o) := by rw [h]; grind
  grind
theorem units_le {n k N g z o : Rat} (h : N = g - z) (h2 : k * N ≤ n * (z - o)) : (n + k) * N ≤ n * (g - o) := by
  have e : n * (g - o) = n * N + n * (z - o) := by rw [h]; grind
  grind

/-- The numbers of one period. -/
theorem fol_num {t : GTerms} {E : Nat} {u : Int} {c e m nb L U c' e' : Rat} {p : Nat} {d : Int} {x : GWater} {n : Int} {cw : GWater} {pr : GRat} {ow : GWater} {wo : GRat} {tp : GTape}
    (ht : TermsM t) (h0 : toQ t.2.1 = 0) (hE : 0 < E) (hE2 : E < 128) (zr : Zd E (toQ t.1)) (hp : p ≤ 2)
    (hnb : nb ≤ 5000000) (hL : 25 ≤ L) (hU : U ≤ 500) (hU0 : 1 ≤ U) (hm : m ≤ 2) (cc : c * (13 / 10) + 5 / 4 * m ≤ c') (ee : 13 / 10 * e + 1 / 50 ≤ e')
    (I : FolI t E u c e m nb L U p d x n cw pr ow wo tp) {r : GRat} (gr : G 8 r) (zr2 : Zd 100 (toQ r)) (r0 : 4 / 5 ≤ toQ r) (r1 : toQ r ≤ 129 / 100) {d' : Int} (hd : d ≤ d') (hd2 : d' ≤ d + 400) {tp' : GTape} (ht' : TapeOK tp') :
    ∃ g a z nt cw' b y k wa pd wn ow', mulR pr r = (g, 0) ∧ G 100 g ∧ 0 < toQ g ∧ mulR wo r = (wa, 0) ∧ G 100 wa ∧
      g_equalisation_Crystallise t cw [(100, x)] g d' = some (z, (cw', ([b], ([(100, y)], 0)))) ∧ G 100 z ∧ subR g z = (nt, 0) ∧ G 100 nt ∧
      g_equalisation_Settle n b nt = some (n + k, 0) ∧ WFW ow ∧ cryS t ow wa d' = (pd, (ow', 0)) ∧ G 100 pd ∧ subR wa pd = (wn, 0) ∧ G 100 wn ∧
      a = b ∧ 0 ≤ n + k ∧ n + k ≤ 200000000 ∧ FolI t E u c' e' (5 / 4 * m + 1 / 10) (2 * nb) (4 / 5 * L) (13 / 10 * U) (p + 1) d' y (n + k) cw' nt ow' wn tp' := by
  have i := I.inv
  have DP := DD_pos hE p
  have DL := DD_le hE2 hp
  have d0 := I.d0
  have d1 := I.d1
  have l1 := i.l1
  have pl := i.pl
  have pu := i.pu
  have w0 := i.w0
  have wu := i.wu
  have cl := i.cl
  have cu := i.cu
  have l0 := i.l0
  have lu := i.lu
  have o0 := i.o0
  have ou := i.ou
  have ml : m * toQ pr ≤ 1000 := by
    have a1 := Rat.mul_le_mul_of_nonneg_right hm (show 0 ≤ toQ pr by grind)
    grind
  have r00 : 0 < toQ r := by grind
  have x0 := I.x0
  have x1 := I.x1
  have c0 := I.c0
  have c1 := I.c1
  have oo0 := I.o0
  have oo1 := I.o1
  -- sizes
  have gpr : G 100 pr := G.of I.pm (bd_one I.pz (by grind) (by grind) DP (by omega))
  have gwo : G 100 wo := G.of I.wm (bd_one I.wz (by grind) (by grind) DP (by omega))
  have hcw : Wok 100 cw := ⟨G.of I.cm (bd_one I.cz (by grind) (by grind) (by omega) (by omega)), by grind, I.c0⟩
  have hx : Wok 100 x := ⟨G.of I.xm (bd_one I.xz (by grind) (by grind) (by omega) (by omega)), by grind, I.x0⟩
  have how : Wok 100 ow := ⟨G.of I.om (bd_one I.oz (by grind) (by grind) (by omega) (by omega)), by grind, I.o0⟩
  -- the gross values
  have gz : Zd (DD E p * 100) (toQ pr * toQ r) := I.pz.mul zr2
  have wz : Zd (DD E p * 100) (toQ wo * toQ r) := I.wz.mul zr2
  have pr0 := Rat.mul_pos (show 0 < toQ pr by grind) r00
  have wr0 := Rat.mul_pos w0 r00
  have pr1 : toQ pr * toQ r ≤ 2 * toQ pr := by have := Rat.mul_le_mul_of_nonneg_left (show toQ r ≤ 2 by grind) (show 0 ≤ toQ pr by grind); grind
  have wr1 : toQ wo * toQ r ≤ 2 * toQ wo := by have := Rat.mul_le_mul_of_nonneg_left (show toQ r ≤ 2 by grind) (show 0 ≤ toQ wo by grind); grind
  obtain ⟨g, eg, gg, vg⟩ := mul_Z gpr.v gr.v (bd_one gz (by grind) (by grind) (by omega) (by omega)) (by omega)
  obtain ⟨wa, ew, gw, vw⟩ := mul_Z gwo.v gr.v (bd_one wz (by grind) (by grind) (by omega) (by omega)) (by omega)
  have gpos : 0 < toQ g := by rw [vg]; exact pr0
  have wpos : 0 < toQ wa := by rw [vw]; exact wr0
  have g1000 : toQ g ≤ 1000 := by rw [vg]; grind
  have w1000 : toQ wa ≤ 1000 := by rw [vw]; grind
  have zg : Zd (DD E p * 100) (toQ g) := by rw [vg]; exact gz
  have zw : Zd (DD E p * 100) (toQ wa) := by rw [vw]; exact wz
  have up : ∀ {q : Rat}, Zd 1000000000 q → Zd (DD E p * 100) q := fun h => (zd_nine h p).up 100
  have D1 : 0 < DD E p * 100 := by omega
  have sz : 2000 * (DD E p * 100 * E) < 2 ^ 100 := by
    have h1 : DD E p * 100 * E ≤ 1000000000 * (12800 * 12800) * 100 * 128 := Nat.mul_le_mul (Nat.mul_le_mul_right _ DL) (by omega)
    rw [p100]; omega
  have eD : DD E p * 100 * E = DD E (p + 1) := by show _ = DD E p * (100 * E); rw [Nat.mul_assoc]
  have dl : d' ≤ 73048 := by omega
  obtain ⟨z, nt, cw', C⟩ := cry0 ht h0 hcw gg gpos (show cw.2 ≤ d' by omega) dl zg (up I.cz) zr g1000 D1 hE sz
  obtain ⟨o, mo, xw, X⟩ := cry0 ht h0 hx gg gpos (show x.2 ≤ d' by omega) dl zg (up I.xz) zr g1000 D1 hE sz
  obtain ⟨pd, wn, ow', O⟩ := cry0 ht h0 how gw wpos (show ow.2 ≤ d' by omega) dl zw (up I.oz) zr w1000 D1 hE sz
  obtain ⟨b, y, eb, gb, vb, el, hy⟩ := lot0 (x := (100, x)) gg gpos hx C X
  -- the crystallisation
  have hr : RightL [(100, x)] := ⟨by simp [-List.getD_eq_getElem?_getD], by simp only [List.mem_singleton, forall_eq]; exact hx.wf (by omega), by simp only [List.mem_singleton, forall_eq]; exact hx.chk (by omega), by simp [-List.getD_eq_getElem?_getD], by simp [-List.getD_eq_getElem?_getD], by simp [-List.getD_eq_getElem?_getD]⟩
  have cr := cryst_ok (ls := [(100, x)]) ht.wf (hcw.wf (by omega)) gg.wf hr C.cry C.net (by simp only [List.mem_singleton, forall_eq]; rw [el])
  rw [List.map_cons, List.map_nil, List.map_cons, List.map_nil, el] at cr
  dsimp only at cr
  -- in rational numbers
  obtain ⟨f0, f1⟩ := net_low ht.r0 ht.r1 C.fv
  obtain ⟨h0', h1'⟩ := net_low ht.r0 ht.r1 X.fv
  have vn := C.vn
  have G2N : toQ g ≤ 2 * toQ nt ∧ 0 < toQ nt := by
    have q2 : toQ g ≤ 129 / 100 * toQ pr := by
      rw [vg]
      have := Rat.mul_le_mul_of_nonneg_left r1 (show 0 ≤ toQ pr by grind)
      grind
    rcases i.fl with k | ⟨k, _⟩
    · have := feeV_zero k C.fv
      constructor <;> grind
    · rcases f1 with f1 | f1 <;> constructor <;> grind
  have n0 : (0 : Int) ≤ n := by have h := i.n0; exact Rat.intCast_le_intCast.1 h
  have n1 : n ≤ 10000000 := by
    have h : (n : Rat) ≤ ((10000000 : Int) : Rat) := by
      have := i.nb
      rw [show ((10000000 : Int) : Rat) = 10000000 by rfl]; grind
    exact Rat.intCast_le_intCast.1 h
  obtain ⟨k, ek, k1, k2, k3, k4⟩ := settle_G n0 n1 gb C.gn G2N.2 (by rw [vb]; grind) (by rw [vb]; rcases h1' with h1' | h1' <;> grind)
  have kc : (((n + k : Int)) : Rat) = (n : Rat) + (k : Rat) := Rat.intCast_add _ _
  have zn1 := C.zn
  rw [eD] at zn1
  have zn2 := O.zn
  rw [eD] at zn2
  have st : PStep (toQ t.1) (toQ r) (toQ pr) (toQ wo) (toQ cw.1) (toQ x.1) (toQ ow.1) (n : Rat) (u : Rat) (1 / 1000000000) (toQ g) (toQ wa) (toQ z) (toQ o) (toQ pd) (toQ nt) (toQ wn) (((n + k : Int)) : Rat) (toQ y.1) (toQ ow'.1) := by
    refine ⟨ht.r0, ht.r1, r0, r1, by grind, i.n0, i.u0, l0, by grind, vg, vw, C.fv, X.fv, O.fv, vn, O.vn, G2N.2, ?_, ?_, ?_, ?_, ?_, ?_⟩
    · rw [kc]; rw [vb] at k2; exact units_lt vn k2
    · rw [kc]; rw [vb] at k1; exact units_le vn k1
    · exact Rat.intCast_le_intCast.2 k3
    · intro e1 e2
      have kz : k = 0 := by
        rw [vb, e1, e2] at k1 k2
        have q1 : ¬ (0 : Int) < k := fun q => by
          have : (0 : Rat) < (k : Rat) := Rat.intCast_lt_intCast.2 q
          have := Rat.mul_pos this G2N.2
          grind
        have q2 : ¬ k + 1 ≤ 0 := fun q => by
          have h : (((k + 1 : Int)) : Rat) ≤ ((0 : Int) : Rat) := Rat.intCast_le_intCast.2 q
          rw [Rat.intCast_add, show ((1 : Int) : Rat) = 1 by rfl, show ((0 : Int) : Rat) = 0 by rfl] at h
          have := Rat.mul_le_mul_of_nonneg_right h (show 0 ≤ toQ nt by grind)
          grind
        omega
      rw [kz, Int.add_zero]
    · rcases hy with ⟨a1, _, _, _, a2, a3⟩ | ⟨a1, a2, a3⟩ | ⟨a1, a2, _, _, _, a3, a4⟩
      · exact .inl ⟨a1, a2, a3⟩
      · exact .inr (.inl ⟨a1, a2, by rw [a3]⟩)
      · exact .inr (.inr ⟨a1, a2, a3, a4⟩)
    · rcases O.next with ⟨a1, _, _, _, a2, a3⟩ | ⟨a1, a2⟩
      · exact .inl ⟨a1, a2, a3⟩
      · exact .inr ⟨a1, by rw [a2]⟩
  have hcn : (toQ z ≠ 0 ∧ toQ nt ≤ toQ cw'.1 ∧ toQ cw'.1 ≤ toQ nt + 1 / 1000000000) ∨ (toQ z = 0 ∧ toQ cw'.1 = toQ cw.1) := by
    rcases C.next with ⟨a1, _, _, _, a2, a3⟩ | ⟨a1, a2⟩
    · exact .inl ⟨a1, a2, a3⟩
    · exact .inr ⟨a1, by rw [a2]⟩
  have inv := inv_step (c' := c') (e' := e') i st hcn rfl hnb hL (by grind) hU0 cc ee
  refine ⟨g, b, z, nt, cw', b, y, k, wa, pd, wn, ow', eg, gg, gpos, ew, gw, cr, C.gz, C.net, C.gn, ek, how.wf (by omega), O.cry, O.gz, O.net, O.gn, rfl, k3, k4, ?_⟩
  have hyd : 0 ≤ y.2 ∧ y.2 ≤ d' ∧ Made y.1 ∧ Zd 1000000000 (toQ y.1) := by
    rcases hy with ⟨_, a1, a2, a3, _⟩ | ⟨_, _, a3⟩ | ⟨_, _, a1, a2, a3, _⟩
    · exact ⟨by omega, by omega, a2, a3⟩
    · rw [a3]; exact ⟨x0, by show x.2 ≤ d'; omega, I.xm, I.xz⟩
    · exact ⟨by rw [a1]; exact x0, by rw [a1]; show x.2 ≤ d'; omega, a2, a3⟩
  have hcd : 0 ≤ cw'.2 ∧ cw'.2 ≤ d' ∧ Made cw'.1 ∧ Zd 1000000000 (toQ cw'.1) := by
    rcases C.next with ⟨_, a1, a2, a3, _⟩ | ⟨_, a3⟩
    · exact ⟨by omega, by omega, a2, a3⟩
    · rw [a3]; exact ⟨c0, by omega, I.cm, I.cz⟩
  have hod : 0 ≤ ow'.2 ∧ ow'.2 ≤ d' ∧ Made ow'.1 ∧ Zd 1000000000 (toQ ow'.1) := by
    rcases O.next with ⟨_, a1, a2, a3, _⟩ | ⟨_, a3⟩
    · exact ⟨by omega, by omega, a2, a3⟩
    · rw [a3]; exact ⟨oo0, by omega, I.om, I.oz⟩
  exact ⟨ht', by omega, by omega, hyd.1, hyd.2.1, hcd.1, hcd.2.1, hod.1, hod.2.1, hyd.2.2.1, hyd.2.2.2, hcd.2.2.1, hcd.2.2.2, hod.2.2.1, hod.2.2.2, C.gn.made, zn1, O.gn.made, zn2, inv⟩

end Go.Ev

namespace Go.Ev
set_option linter.unusedVariables false
set_option linter.unusedSimpArgs false

noncomputable def folS (d : Int) (x : GWater) (n : Int) (p : Nat) (cw : GWater) (pr : GRat) (ow : GWater) (wo : GRat) (tp : GTape) : FolS :=
  ((false, (d, ([(100, x)], (n, (p : Int))))), (cw, ((pr, 0), (ow, ((wo, 0), tp)))))

theorem fol_bound {c' e' N n W u p : Rat} (h1 : n * N ≤ u * W + (c' * N + e')) (h2 : u * W ≤ n * N + (c' * N + e')) (N0 : 0 < N) (u0 : 0 ≤ u) (hc : c' ≤ 4 * p) (he : e' ≤ 4 * p) :
    ¬ 4 * p * (N + 1) + u / 1000000 < n * N - u * W ∧ ¬ 4 * p * (N + 1) + u / 1000000 < 0 - (n * N - u * W) := by
  have a := Rat.mul_le_mul_of_nonneg_right hc (show 0 ≤ N by grind)
  have b : 0 ≤ u / 1000000 := by grind
  constructor <;> grind

theorem fol_body {t : GTerms} {z0 : GRat} {r3 : Int} {tp0 : GTape} {E : Nat} {c e m nb L U c' e' : Rat} {p : Nat} {d : Int} {x : GWater} {n : Int} {cw : GWater} {pr : GRat} {ow : GWater} {wo : GRat} {tp : GTape}
    (ht : TermsM (t.1, (z0, t.2.2))) (h0 : toQ z0 = 0) (hE : 0 < E) (hE2 : E < 128) (zr : Zd E (toQ t.1)) (hp : p ≤ 2) (hr3 : 0 ≤ r3) (hr3' : r3 < 1000000)
    (hnb : nb ≤ 5000000) (hL : 25 ≤ L) (hU : U ≤ 500) (hU0 : 1 ≤ U) (hm : m ≤ 2) (cc : c * (13 / 10) + 5 / 4 * m ≤ c') (ee : 13 / 10 * e + 1 / 50 ≤ e') (hc : c' ≤ 4 * (((p : Int) : Rat) + 1)) (he : e' ≤ 4 * (((p : Int) : Rat) + 1))
    (I : FolI (t.1, (z0, t.2.2)) E (1000 + r3) c e m nb L U p d x n cw pr ow wo tp) :
    ∃ d' x' n' cw' pr' ow' wo' tp', g_law32_EqualisationFollowsOwnFunds_L11 (t, tp0) z0 r3 (folS d x n p cw pr ow wo tp) = some (.more (folS d' x' n' (p + 1) cw' pr' ow' wo' tp')) ∧
      FolI (t.1, (z0, t.2.2)) E (1000 + r3) c' e' (5 / 4 * m + 1 / 10) (2 * nb) (4 / 5 * L) (13 / 10 * U) (p + 1) d' x' n' cw' pr' ow' wo' tp' := by
  have d0 := I.d0
  have d1 := I.d1
  unfold g_law32_EqualisationFollowsOwnFunds_L11 folS g_exact_Of
  dsimp only
  rw [decide_eq_true (show (p : Int) < 3 by omega), cT]
  obtain ⟨a, t1, e1, a0, a1, ht1⟩ := next_ok I.tape (m := 50) (by omega) (by omega)
  rw [e1, obind]
  dsimp only
  rw [wrap_i64 (n := 80 + a) (by omega) (by omega)]
  obtain ⟨r, er, gr, qr⟩ := over_ok (n := 80 + a) (d := 100) (k := 8) (by unfold I64; omega) (by unfold I64; omega) (by omega) (by omega) (by omega) (by omega)
  rw [er, obind]
  obtain ⟨a2, t2, e2, a20, a21, ht2⟩ := next_ok ht1 (m := 400) (by omega) (by omega)
  have zr2 : Zd 100 (toQ r) := ⟨80 + a, by
    rw [qr]
    have := cast_ne (show (100 : Int) ≠ 0 by omega)
    rw [show ((100 : Nat) : Rat) = ((100 : Int) : Rat) by rfl]
    grind⟩
  have c100 : ((100 : Int) : Rat) = 100 := rfl
  have q0 : 4 / 5 ≤ toQ r := by
    have h : ((80 : Int) : Rat) ≤ ((80 + a : Int) : Rat) := Rat.intCast_le_intCast.2 (by omega)
    rw [show ((80 : Int) : Rat) = 80 by rfl] at h
    rw [qr, c100]; grind
  have q1 : toQ r ≤ 129 / 100 := by
    have h : ((80 + a : Int) : Rat) ≤ ((129 : Int) : Rat) := Rat.intCast_le_intCast.2 (by omega)
    rw [show ((129 : Int) : Rat) = 129 by rfl] at h
    rw [qr, c100]; grind
  obtain ⟨g, b, z, nt, cw', b', y, k, wa, pd, wn, ow', eg, gg, gpos, ew, gw, cr, gz, en, gn, ek, hwo, eo, gpd, ewn, gwn, hbb, k3, k4, I'⟩ :=
    fol_num ht h0 hE hE2 zr hp hnb hL hU hU0 hm cc ee I gr zr2 q0 q1 (d' := d + 1 + a2) (by omega) (by omega) ht2
  have wpr := made_wf I.pm
  have wwo := made_wf I.wm
  rw [exactMul_ok (a := (pr, 0)) (b := (r, 0)) wpr gr.wf, obind, step2_ok, eg, e2, obind]
  dsimp only
  rw [wrap_i64 (n := d + 1) (by omega) (by omega), wrap_i64 (n := d + 1 + a2) (by omega) (by omega), cr, obind]
  dsimp only
  rw [show ((0 : Int) != 0) = false from rfl, cF, show ((([b'] : List GRat).length : Int) != 1) = false from rfl, cF, show ((([(100, y)] : List GLot).length : Int) != 1) = false from rfl, cF, obind, exactSub_ok (a := (g, 0)) (b := (z, 0)) gg.wf gz.wf, obind, step2_ok, en,
    show (inb (0 : Int) ([b'] : List GRat).length) = true from rfl, cT, show ([b'] : List GRat).getD (0 : Int).toNat ((false, List.replicate 32 (0 : Int)), (false, List.replicate 32 (0 : Int))) = b' from rfl]
  dsimp only
  rw [ek, obind, exactMul_ok (a := (wo, 0)) (b := (r, 0)) wwo gr.wf, obind, step2_ok, ew]
  dsimp only
  rw [refCrystallise_ok ht.wf hwo gw.wf, obind, eo]
  dsimp only
  have iu : I64 (1000 + r3) := by unfold I64; omega
  obtain ⟨gk, vk⟩ := g_whole (n := n + k) (k := 30) (by unfold I64; omega) (by have : (2 : Nat) ^ 30 = 1073741824 := rfl; omega) (by omega)
  obtain ⟨gu, vu⟩ := g_whole (n := 1000 + r3) (k := 30) iu (by have : (2 : Nat) ^ 30 = 1073741824 := rfl; omega) (by omega)
  obtain ⟨mine, em, gm, vm⟩ := g_mul gk gn (by omega)
  obtain ⟨due, ed, gd, vd⟩ := g_mul gu gwn (by omega)
  obtain ⟨gap, eg2, gg2, vg2⟩ := g_sub gm gd (by omega)
  obtain ⟨g4, v4⟩ := g_whole (n := 4 * ((p : Int) + 1)) (k := 30) (by unfold I64; omega) (by have : (2 : Nat) ^ 30 = 1073741824 := rfl; omega) (by omega)
  obtain ⟨g1, v1⟩ := g_whole (n := 1) (k := 1) i64_1 (by decide) (by omega)
  obtain ⟨s1, es1, gs1, vs1⟩ := g_add gn g1 (by omega)
  obtain ⟨s2, es2, gs2, vs2⟩ := g_mul g4 gs1 (by omega)
  obtain ⟨s3, es3, gs3, vs3⟩ := over_ok (n := 1000 + r3) (d := 1000000) (k := 30) iu (by unfold I64; omega) (by omega) (by have : (2 : Nat) ^ 30 = 1073741824 := rfl; omega) (by have : (2 : Nat) ^ 30 = 1073741824 := rfl; omega) (by omega)
  obtain ⟨bd, eb, gb, vb⟩ := g_add gs2 gs3 (by omega)
  obtain ⟨gz0, vz0⟩ := whole0_G
  obtain ⟨neg, eneg, gneg, vneg⟩ := g_sub gz0 gg2 (by omega)
  rw [show ((0 : Int) != 0) = false from rfl, cF, cF, obind, exactSub_ok (a := (wa, 0)) (b := (pd, 0)) gw.wf gpd.wf, obind, step2_ok, ewn, exactInt_ok (by unfold I64; omega), obind, exactMul_ok (a := (wholeR (n + k), 0)) (b := (nt, 0)) gk.wf gn.wf, obind, step2_ok, em,
    wrap_i64 (n := 1000 + r3) (by omega) (by omega), exactInt_ok iu, obind, exactMul_ok (a := (wholeR (1000 + r3), 0)) (b := (wn, 0)) gu.wf gwn.wf, obind, step2_ok, ed, exactSub_ok (a := (mine, 0)) (b := (due, 0)) gm.wf gd.wf, obind, step2_ok, eg2,
    wrap_i64 (n := (p : Int) + 1) (by omega) (by omega), wrap_i64 (n := 4 * ((p : Int) + 1)) (by omega) (by omega), exactInt_ok (by unfold I64; omega), obind, exactInt_ok i64_1, obind, exactAdd_ok (a := (nt, 0)) (b := (wholeR 1, 0)) gn.wf g1.wf, obind, step2_ok, es1,
    exactMul_ok (a := (wholeR (4 * ((p : Int) + 1)), 0)) (b := (s1, 0)) g4.wf gs1.wf, obind, step2_ok, es2, es3, obind, exactAdd_ok (a := (s2, 0)) (b := (s3, 0)) gs2.wf gs3.wf, obind, step2_ok, eb]
  dsimp only
  have i' := I'.inv
  have N0 : 0 < toQ nt := by have h1 := i'.l1; have h2 := i'.pl; grind
  have vgap : toQ gap = ((n + k : Int) : Rat) * toQ nt - ((1000 + r3 : Int) : Rat) * toQ wn := by rw [vg2, vm, vd, vk, vu]
  have vbd : toQ bd = 4 * (((p : Int) : Rat) + 1) * (toQ nt + 1) + ((1000 + r3 : Int) : Rat) / 1000000 := by
    rw [vb, vs2, vs3, vs1, v1, v4, Rat.intCast_mul, Rat.intCast_add, show ((1 : Int) : Rat) = 1 by rfl, show ((4 : Int) : Rat) = 4 by rfl, show ((1000000 : Int) : Rat) = 1000000 by rfl]
  obtain ⟨l1, l2⟩ := fol_bound i'.a1 i'.a2 N0 i'.u0 hc he
  have c1 : ¬ (cmpR bd gap).1 < 0 := by rw [cmp_Q gb.v gg2.v, vbd, vgap]; exact l1
  have c2 : ¬ (cmpR bd neg).1 < 0 := by rw [cmp_Q gb.v gneg.v, vbd, vneg, vz0, vgap]; exact l2
  rw [show ((0 : Int) != 0) = false from rfl, cF, cF, exactLess_ok (a := (bd, 0)) (b := (gap, 0)) gb.wf gg2.wf, obind]
  dsimp only
  rw [decide_eq_false c1, cF, exactInt_ok i64_0, obind, exactSub_ok (a := (wholeR 0, 0)) (b := (gap, 0)) gz0.wf gg2.wf, obind, step2_ok, eneg, exactLess_ok (a := (bd, 0)) (b := (neg, 0)) gb.wf gneg.wf, obind]
  dsimp only
  rw [decide_eq_false c2, cF]
  refine ⟨d + 1 + a2, y, n + k, cw', nt, ow', wn, t2, ?_, I'⟩
  rw [show ((p + 1 : Nat) : Int) = (p : Int) + 1 by omega]

theorem follows_law {l : List Int} {u : Int} (hl : TapeOK (l, 0)) (hu : I64 u) : g_law32_EqualisationFollowsOwnFunds l u = some true := by
  unfold g_law32_EqualisationFollowsOwnFunds
  obtain ⟨t, t1, e1, ht, h1⟩ := terms_ok hl
  rw [e1, obind]
  obtain ⟨z0, ez, gz, vz⟩ := ratio_ok (n := 0) (d := 1) (k := 7) i64_0 i64_1 (by omega) (by decide) (by decide) (by omega)
  rw [ez, obind]
  obtain ⟨cm, ec, gc, vc⟩ := ratio_ok (n := 100) (d := 1) (k := 7) (by unfold I64; omega) i64_1 (by omega) (by decide) (by decide) (by omega)
  rw [ec, obind]
  obtain ⟨a, t2, e2, a0, a1, h2⟩ := next_ok h1 (m := 60) (by omega) (by omega)
  dsimp only
  rw [e2, obind]
  dsimp only
  rw [wrap_i64 (n := 80 + a) (by omega) (by omega)]
  obtain ⟨pr, ep, gp, vp⟩ := over_ok (n := 80 + a) (d := 1) (k := 8) (by unfold I64; omega) i64_1 (by omega) (by omega) (by decide) (by omega)
  rw [ep, obind]
  dsimp only
  obtain ⟨r3, er, r30, r31⟩ := mod_ok hu (m := 1000000) (by omega) (by omega)
  rw [er, obind, wrap_i64 (n := 1000 + r3) (by omega) (by omega)]
  have z1 : ((1 : Int) : Rat) = 1 := rfl
  have z00 : ((0 : Int) : Rat) = 0 := rfl
  have vz' : toQ z0 = 0 := by rw [vz, z00]; grind
  have vc' : toQ cm = 100 := by rw [vc, z1, show ((100 : Int) : Rat) = 100 by rfl]; grind
  have vp' : toQ pr = ((80 + a : Int) : Rat) := by rw [vp, z1]; grind
  have ht0 : TermsM (t.1, (z0, t.2.2)) := ⟨ht.rate, gz, ht.r0, ht.r1, by rw [vz']; grind, by rw [vz']; grind, ht.b1, ht.b2⟩
  obtain ⟨E, hE, hE2, zE⟩ := ht.rate.zd
  have p0 : 80 ≤ toQ pr := by
    have h : ((80 : Int) : Rat) ≤ ((80 + a : Int) : Rat) := Rat.intCast_le_intCast.2 (by omega)
    rw [show ((80 : Int) : Rat) = 80 by rfl] at h
    rw [vp']; grind
  have p1 : toQ pr ≤ 139 := by
    have h : ((80 + a : Int) : Rat) ≤ ((139 : Int) : Rat) := Rat.intCast_le_intCast.2 (by omega)
    rw [show ((139 : Int) : Rat) = 139 by rfl] at h
    rw [vp']; grind
  have up : ∀ {n : Int}, Zd 1000000000 ((n : Int) : Rat) := fun {n} => ((Zd.int n).up 1000000000).cast (by omega)
  have zp : Zd 1000000000 (toQ pr) := by rw [vp']; exact up
  have zc : Zd 1000000000 (toQ cm) := by rw [vc', show (100 : Rat) = ((100 : Int) : Rat) by rfl]; exact up
  have u0 : (0 : Rat) ≤ ((1000 + r3 : Int) : Rat) := by
    have h : ((0 : Int) : Rat) ≤ ((1000 + r3 : Int) : Rat) := Rat.intCast_le_intCast.2 (by omega)
    rw [z00] at h; exact h
  have u1 : ((1000 + r3 : Int) : Rat) ≤ 1001000 := by
    have h : ((1000 + r3 : Int) : Rat) ≤ ((1001000 : Int) : Rat) := Rat.intCast_le_intCast.2 (by omega)
    rw [show ((1001000 : Int) : Rat) = 1001000 by rfl] at h; exact h
  have inv0 : PInv 0 0 1 1001000 80 139 (toQ t.1) (toQ pr) (toQ pr) (toQ cm) (toQ pr) (toQ pr) ((1000 + r3 : Int) : Rat) ((1000 + r3 : Int) : Rat) := by
    refine ⟨by grind, by grind, by grind, u0, u1, by grind, p0, p1, by grind, p1, by grind, by grind, by grind, by grind, by grind, p1, u0, u1, by grind, by grind, by grind, by grind, .inr ⟨by rw [vc']; grind, .inl rfl⟩⟩
  have I0 : FolI (t.1, (z0, t.2.2)) E (1000 + r3) 0 0 1 1001000 80 139 0 100 (pr, 100) (1000 + r3) (cm, 0) pr (pr, 100) pr t2 :=
    ⟨h2, by omega, by omega, show (0 : Int) ≤ 100 by decide, show (100 : Int) ≤ 100 by decide, show (0 : Int) ≤ 0 by decide, show (0 : Int) ≤ 100 by decide, show (0 : Int) ≤ 100 by decide, show (100 : Int) ≤ 100 by decide, gp.made, zp, gc.made, zc, gp.made, zp, gp.made, zp, gp.made, zp, inv0⟩
  have hE3 : E < 128 := by have : (2 : Nat) ^ 7 = 128 := rfl; omega
  obtain ⟨d1, x1, n1, cw1, pr1, ow1, wo1, tp1, b1, I1⟩ := fol_body (t := t) (tp0 := t1) ht0 vz' hE hE3 zE (by omega) r30 r31 (c' := 5 / 4) (e' := 1 / 50) (by grind) (by grind) (by grind) (by grind) (by grind) (by grind) (by grind)
    (by rw [show (((0 : Nat) : Int) : Rat) = 0 by rfl]; grind) (by rw [show (((0 : Nat) : Int) : Rat) = 0 by rfl]; grind) I0
  obtain ⟨d2, x2, n2, cw2, pr2, ow2, wo2, tp2, b2, I2⟩ := fol_body (t := t) (tp0 := t1) ht0 vz' hE hE3 zE (by omega) r30 r31 (c' := 4) (e' := 1 / 10) (by grind) (by grind) (by grind) (by grind) (by grind) (by grind) (by grind)
    (by rw [show (((0 + 1 : Nat) : Int) : Rat) = 1 by rfl]; grind) (by rw [show (((0 + 1 : Nat) : Int) : Rat) = 1 by rfl]; grind) I1
  obtain ⟨d3, x3, n3, cw3, pr3, ow3, wo3, tp3, b3, I3⟩ := fol_body (t := t) (tp0 := t1) ht0 vz' hE hE3 zE (by omega) r30 r31 (c' := 8) (e' := 1) (by grind) (by grind) (by grind) (by grind) (by grind) (by grind) (by grind)
    (by rw [show (((0 + 1 + 1 : Nat) : Int) : Rat) = 2 by rfl]; grind) (by rw [show (((0 + 1 + 1 : Nat) : Int) : Rat) = 2 by rfl]; grind) I2
  have b4 : g_law32_EqualisationFollowsOwnFunds_L11 (t, t1) z0 r3 (folS d3 x3 n3 (0 + 1 + 1 + 1) cw3 pr3 ow3 wo3 tp3) = some (.out 1 (folS d3 x3 n3 (0 + 1 + 1 + 1) cw3 pr3 ow3 wo3 tp3)) := by
    unfold g_law32_EqualisationFollowsOwnFunds_L11 folS
    dsimp only
    rw [show (decide (((0 + 1 + 1 + 1 : Nat) : Int) < 3)) = false from rfl, cF]
  have hloop := loopD_more b1 (loopD_more b2 (loopD_more b3 (loopD_out b4)))
  have e0 : folS 100 (pr, 100) (1000 + r3) 0 (cm, 0) pr (pr, 100) pr t2 = ((false, (100, ([(100, (pr, 100))], (1000 + r3, 0)))), ((cm, 0), ((pr, 0), ((pr, 100), ((pr, 0), t2))))) := rfl
  rw [e0] at hloop
  rw [hloop, obind]
  dsimp only
  rw [show Nat.beq 1 0 = false from rfl, cF, awake32, obind]

end Go.Ev
