/- High water over made arguments: no step has an error, and the values are as the laws say, for all arguments. -/
import Derived.Test.YtgadoabnjcahoaaGreatLawBV
import Derived.Test.YtgadoabnjcahoaaGreatDefsCV
set_option exponentiation.threshold 2000
namespace Go.Ev
set_option linter.unusedVariables false
set_option linter.unusedSimpArgs false

noncomputable def toQ (r : GRat) : Rat := (val r.1 : Rat) / (val r.2 : Rat)

/-- A made ratio of a size. -/
structure G (k : Nat) (r : GRat) : Prop where
  made : Made r
  sn : (val r.1).natAbs < 2 ^ k
  sd : (val r.2).natAbs < 2 ^ k

theorem G.v {k : Nat} {r : GRat} (h : G k r) : ValidR r := h.made.1
theorem G.wf {k : Nat} {r : GRat} (h : G k r) : WFR r := made_wf h.made
theorem G.mono {k l : Nat} {r : GRat} (h : G k r) (hl : k ≤ l) : G l r :=
  ⟨h.made, Nat.lt_of_lt_of_le h.sn (Nat.pow_le_pow_right (by omega) hl), Nat.lt_of_lt_of_le h.sd (Nat.pow_le_pow_right (by omega) hl)⟩

theorem bits_pow {z : Int} {k : Nat} (h : z.natAbs < 2 ^ k) (hk : k ≤ 480) : bitsZ z ≤ 480 := by
  have : bitlen z.natAbs ≤ k := bitlen_le.2 h
  unfold bitsZ; omega

theorem cast_ne {d : Int} (h : d ≠ 0) : (d : Rat) ≠ 0 := by exact_mod_cast h
theorem cast_pos {d : Int} (h : 0 < d) : (0 : Rat) < (d : Rat) := by exact_mod_cast h

theorem redR_G {n d : Int} {k : Nat} (hd : d ≠ 0) (hn : n.natAbs < 2 ^ k) (hdk : d.natAbs < 2 ^ k) (hk : k ≤ 480) :
    ∃ c, redR n d = (c, 0) ∧ G k c ∧ toQ c = (n : Rat) / (d : Rat) := by
  have hg := gcd_pos' (n := n) hd
  obtain ⟨dv1, dv2⟩ := gcd_dvd_int n d
  have a1 := exact_abs hg dv1
  have a2 := exact_abs hg dv2
  have he : (redR n d).2 = 0 := by
    unfold redR
    rw [if_neg hd]
    dsimp only
    rw [if_pos ⟨bits_pow (k := k) (by split <;> omega) hk, bits_pow (k := k) (by split <;> omega) hk⟩]
  refine ⟨(redR n d).1, by rw [← he], ⟨redR_made he, ?_, ?_⟩, ?_⟩
  all_goals
    have hm := redR_made he
    unfold redR at he hm ⊢
    rw [if_neg hd] at he hm ⊢
    dsimp only at he hm ⊢
    obtain ⟨x, hx⟩ := dv1
    obtain ⟨y, hy⟩ := dv2
    generalize hG : ((Nat.gcd n.natAbs d.natAbs : Nat) : Int) = g at *
    have e1 : n / g = x := by rw [hx, Int.mul_ediv_cancel_left _ (by omega)]
    have e2 : d / g = y := by rw [hy, Int.mul_ediv_cancel_left _ (by omega)]
    rw [e1] at a1
    rw [e2] at a2
    rw [e1, e2] at he hm ⊢
    have b1 : (if d < 0 then -x else x).natAbs < 2 ^ k := by split <;> omega
    have b2 : (if d < 0 then -y else y).natAbs < 2 ^ k := by split <;> omega
    have f1 := bits_pow b1 hk
    have f2 := bits_pow b2 hk
    rw [if_pos ⟨f1, f2⟩] at hm ⊢
    have M1 : ((if d < 0 then -x else x).natAbs : Int) < MX := by have := bits_lt f1; have := KM_MX; omega
    have M2 : ((if d < 0 then -y else y).natAbs : Int) < MX := by have := bits_lt f2; have := KM_MX; omega
  · dsimp only; rw [val_zI M1]; exact b1
  · dsimp only; rw [val_zI M2]; exact b2
  · unfold toQ
    dsimp only
    rw [val_zI M1, val_zI M2, hx, hy]
    have hy0 : y ≠ 0 := by intro e; rw [e] at hy; omega
    have g0 := cast_ne (show g ≠ 0 by omega)
    have y0 := cast_ne hy0
    rw [Rat.intCast_mul, Rat.intCast_mul]
    split
    · rw [Rat.intCast_neg, Rat.intCast_neg]; grind
    · grind

theorem pow_mul_lt {a b k l : Nat} (ha : a < 2 ^ k) (hb : b < 2 ^ l) : a * b < 2 ^ (k + l) := by
  rw [Nat.pow_add]
  exact Nat.mul_lt_mul'' ha hb

theorem g_mul {k l : Nat} {a b : GRat} (ha : G k a) (hb : G l b) (hk : k + l ≤ 480) : ∃ c, mulR a b = (c, 0) ∧ G (k + l) c ∧ toQ c = toQ a * toQ b := by
  have p1 := ha.v.pos
  have p2 := hb.v.pos
  have hd : val a.2 * val b.2 ≠ 0 := Int.ne_of_gt (Int.mul_pos p1 p2)
  obtain ⟨c, h1, h2, h3⟩ := redR_G (n := val a.1 * val b.1) hd (by rw [Int.natAbs_mul]; exact pow_mul_lt ha.sn hb.sn) (by rw [Int.natAbs_mul]; exact pow_mul_lt ha.sd hb.sd) hk
  refine ⟨c, by unfold mulR op2; rw [if_pos ⟨ha.v, hb.v⟩]; exact h1, h2, ?_⟩
  rw [h3]
  unfold toQ
  have q1 := cast_ne (show val a.2 ≠ 0 by omega)
  have q2 := cast_ne (show val b.2 ≠ 0 by omega)
  rw [Rat.intCast_mul, Rat.intCast_mul]
  grind

theorem add_lt_pow {a b m : Nat} (ha : a < 2 ^ m) (hb : b < 2 ^ m) : a + b < 2 ^ (m + 1) := by rw [Nat.pow_succ]; omega

theorem g_add {k l : Nat} {a b : GRat} (ha : G k a) (hb : G l b) (hk : k + l + 1 ≤ 480) : ∃ c, addR a b = (c, 0) ∧ G (k + l + 1) c ∧ toQ c = toQ a + toQ b := by
  have p1 := ha.v.pos
  have p2 := hb.v.pos
  have hd : val a.2 * val b.2 ≠ 0 := Int.ne_of_gt (Int.mul_pos p1 p2)
  have m1 := pow_mul_lt ha.sn hb.sd
  have m2 := pow_mul_lt ha.sd hb.sn
  have m3 := pow_mul_lt ha.sd hb.sd
  have s1 : (val a.1 * val b.2 + val b.1 * val a.2).natAbs < 2 ^ (k + l + 1) := by
    refine Nat.lt_of_le_of_lt (Int.natAbs_add_le _ _) (add_lt_pow ?_ ?_)
    · rw [Int.natAbs_mul]; exact m1
    · rw [Int.natAbs_mul, Nat.mul_comm]; exact m2
  obtain ⟨c, h1, h2, h3⟩ := redR_G (n := val a.1 * val b.2 + val b.1 * val a.2) hd s1 (by rw [Int.natAbs_mul, Nat.pow_succ]; omega) hk
  refine ⟨c, by unfold addR op2; rw [if_pos ⟨ha.v, hb.v⟩]; exact h1, h2, ?_⟩
  rw [h3]
  unfold toQ
  have q1 := cast_ne (show val a.2 ≠ 0 by omega)
  have q2 := cast_ne (show val b.2 ≠ 0 by omega)
  rw [Rat.intCast_add, Rat.intCast_mul, Rat.intCast_mul, Rat.intCast_mul]
  grind

theorem g_sub {k l : Nat} {a b : GRat} (ha : G k a) (hb : G l b) (hk : k + l + 1 ≤ 480) : ∃ c, subR a b = (c, 0) ∧ G (k + l + 1) c ∧ toQ c = toQ a - toQ b := by
  have p1 := ha.v.pos
  have p2 := hb.v.pos
  have hd : val a.2 * val b.2 ≠ 0 := Int.ne_of_gt (Int.mul_pos p1 p2)
  have m1 := pow_mul_lt ha.sn hb.sd
  have m2 := pow_mul_lt ha.sd hb.sn
  have m3 := pow_mul_lt ha.sd hb.sd
  have s1 : (val a.1 * val b.2 + -(val b.1 * val a.2)).natAbs < 2 ^ (k + l + 1) := by
    refine Nat.lt_of_le_of_lt (Int.natAbs_add_le _ _) (add_lt_pow ?_ ?_)
    · rw [Int.natAbs_mul]; exact m1
    · rw [Int.natAbs_neg, Int.natAbs_mul, Nat.mul_comm]; exact m2
  obtain ⟨c, h1, h2, h3⟩ := redR_G (n := val a.1 * val b.2 + -(val b.1 * val a.2)) hd s1 (by rw [Int.natAbs_mul, Nat.pow_succ]; omega) hk
  refine ⟨c, by unfold subR op2; rw [if_pos ⟨ha.v, hb.v⟩]; exact h1, h2, ?_⟩
  rw [h3]
  unfold toQ
  have q1 := cast_ne (show val a.2 ≠ 0 by omega)
  have q2 := cast_ne (show val b.2 ≠ 0 by omega)
  rw [Rat.intCast_add, Rat.intCast_neg, Rat.intCast_mul, Rat.intCast_mul, Rat.intCast_mul]
  grind

theorem g_whole {n : Int} {k : Nat} (h : I64 n) (hn : n.natAbs < 2 ^ k) (hk : 1 ≤ k) : G k (wholeR n) ∧ toQ (wholeR n) = (n : Rat) := by
  have e1 : val (wholeR n).1 = n := val_I64 h
  have e2 : val (wholeR n).2 = 1 := val_I64 i64_1
  have : 2 ^ 1 ≤ 2 ^ k := Nat.pow_le_pow_right (by omega) hk
  refine ⟨⟨whole_made h, by rw [e1]; exact hn, by rw [e2]; show 1 < 2 ^ k; omega⟩, ?_⟩
  unfold toQ
  rw [e1, e2]
  show (n : Rat) / ((1 : Int) : Rat) = _
  have : ((1 : Int) : Rat) = 1 := rfl
  rw [this]; grind

theorem div_lt_div {a b c d : Rat} (hb : 0 < b) (hd : 0 < d) : a / b < c / d ↔ a * d < c * b := by
  rw [Rat.div_lt_iff hb, show c / d * b = (c * b) / d by grind, Rat.lt_div_iff hd]

theorem cmp_Q {a b : GRat} (ha : ValidR a) (hb : ValidR b) : (cmpR a b).1 < 0 ↔ toQ a < toQ b := by
  unfold cmpR toQ
  rw [if_pos ⟨ha, hb⟩, div_lt_div (cast_pos ha.pos) (cast_pos hb.pos)]
  dsimp only
  rw [cmpZ_lt, ← Rat.intCast_mul, ← Rat.intCast_mul, Rat.intCast_lt_intCast]

theorem pos_Q {a : GRat} (ha : ValidR a) : 0 < toQ a ↔ 0 < val a.1 := by
  unfold toQ
  have := cast_pos ha.pos
  rw [Rat.lt_div_iff this, Rat.zero_mul]
  exact_mod_cast Iff.rfl

theorem neg_Q {a : GRat} (ha : ValidR a) : toQ a < 0 ↔ val a.1 < 0 := by
  unfold toQ
  have := cast_pos ha.pos
  rw [Rat.div_lt_iff this, Rat.zero_mul]
  exact_mod_cast Iff.rfl

theorem above_Q {a : GRat} (ha : ValidR a) (h : 0 < toQ a) : AboveR a := ⟨ha, (pos_Q ha).1 h⟩
theorem sgn_cases (z : Int) : (z < 0 ∧ sgn z = -1) ∨ (z = 0 ∧ sgn z = 0) ∨ (0 < z ∧ sgn z = 1) := by
  unfold sgn
  split
  · exact .inl ⟨by assumption, rfl⟩
  · split
    · exact .inr (.inl ⟨by assumption, rfl⟩)
    · exact .inr (.inr ⟨by omega, rfl⟩)

theorem sign_Q {a : GRat} (ha : ValidR a) : (toQ a < 0 ∧ (signR a).1 = -1) ∨ (toQ a = 0 ∧ (signR a).1 = 0) ∨ (0 < toQ a ∧ (signR a).1 = 1) := by
  unfold signR
  rw [if_pos ha]
  dsimp only
  rcases sgn_cases (val a.1) with ⟨h, e⟩ | ⟨h, e⟩ | ⟨h, e⟩
  · exact .inl ⟨(neg_Q ha).2 h, e⟩
  · refine .inr (.inl ⟨?_, e⟩)
    unfold toQ
    rw [h]
    have : ((0 : Int) : Rat) = 0 := rfl
    rw [this]; grind
  · exact .inr (.inr ⟨(pos_Q ha).2 h, e⟩)

/-- Made ratios of the same value are the same. -/
theorem made_ext {a b : GRat} (ha : Made a) (hb : Made b) (h : toQ a = toQ b) : a = b := by
  obtain ⟨va, n, d, ea, _, _⟩ := ha
  obtain ⟨vb, m, e, eb, _, _⟩ := hb
  have key : ∀ r : GRat, ValidR r → ∃ q : Rat, q = toQ r ∧ q.num = val r.1 ∧ (q.den : Int) = val r.2 := fun r v => by
    have hp := v.pos
    refine ⟨⟨val r.1, (val r.2).natAbs, by omega, v.co⟩, ?_, rfl, by show ((val r.2).natAbs : Int) = _; omega⟩
    rw [Rat.mk_eq_divInt, Rat.divInt_eq_div, show (((val r.2).natAbs : Nat) : Int) = val r.2 by omega]
    rfl
  obtain ⟨q, q1, q2, q3⟩ := key a va
  obtain ⟨p, p1, p2, p3⟩ := key b vb
  have e1 : q = p := by rw [q1, p1, h]
  subst e1
  have h1 : val a.1 = val b.1 := by rw [← q2, ← p2]
  have h2 : val a.2 = val b.2 := by rw [← q3, ← p3]
  rw [ea, eb] at h1 h2
  rw [ea, eb]
  rename_i k1 k2 k3 k4
  dsimp only at h1 h2
  rw [val_zI k1, val_zI k3] at h1
  rw [val_zI k2, val_zI k4] at h2
  rw [h1, h2]

end Go.Ev

namespace Go.Ev
set_option linter.unusedVariables false
set_option linter.unusedSimpArgs false

theorem mod_ok {n m : Int} (h : I64 n) (hm : 1 ≤ m) (hM : m ≤ 1000000) : ∃ r, g_scene_Mod n m = some r ∧ 0 ≤ r ∧ r < m := by
  unfold g_scene_Mod
  have h1 : m ≠ 0 := by omega
  rw [cond_dec, if_neg (by omega), cond_dec, if_neg h1, cond_dec]
  have e : n.tmod m = if 0 ≤ n then n % m else -((-n) % m) := by
    by_cases h0 : 0 ≤ n
    · rw [if_pos h0, Int.tmod_eq_emod_of_nonneg h0]
    · rw [if_neg h0]
      have : n = -(-n) := by omega
      rw [this, Int.neg_tmod, Int.tmod_eq_emod_of_nonneg (by omega)]
      simp [-List.getD_eq_getElem?_getD]
  have a0 := Int.emod_nonneg n h1
  have a1 := Int.emod_lt_of_pos n (show 0 < m by omega)
  have b0 := Int.emod_nonneg (-n) h1
  have b1 := Int.emod_lt_of_pos (-n) (show 0 < m by omega)
  rw [e]
  split
  · split
    · omega
    · exact ⟨_, rfl, a0, a1⟩
  · split
    · rw [wrap_i64 (by omega) (by omega)]; exact ⟨_, rfl, by omega, by omega⟩
    · exact ⟨_, rfl, by omega, by omega⟩

abbrev GTape := List Int × Int

structure TapeOK (t : GTape) : Prop where
  lo : 0 ≤ t.2
  hi : t.2 ≤ (t.1.length : Int)
  len : (t.1.length : Int) ≤ 9223372036854775807
  all : ∀ i, I64 (t.1.getD i 0)

theorem next_ok {t : GTape} (h : TapeOK t) {m : Int} (hm : 1 ≤ m) (hM : m ≤ 1000000) : ∃ r t', g_scene_Tape_Next t m = some (r, t') ∧ 0 ≤ r ∧ r < m ∧ TapeOK t' := by
  obtain ⟨l, a⟩ := t
  have lo := h.lo
  have hi := h.hi
  have len := h.len
  dsimp only at lo hi len
  unfold g_scene_Tape_Next
  dsimp only
  rw [cond_dec]
  by_cases hc : a ≥ (l.length : Int)
  · rw [if_pos hc]; exact ⟨0, (l, a), rfl, by omega, by omega, h⟩
  · rw [if_neg hc, wrap_i64 (n := a + 1) (by omega) (by omega), wrap_i64 (n := a + 1 - 1) (by omega) (by omega), inb_true (by omega) (by omega), cT]
    obtain ⟨r, e, r0, r1⟩ := mod_ok (h.all (a + 1 - 1).toNat) hm hM
    dsimp only at e
    rw [e, obind]
    exact ⟨r, _, rfl, r0, r1, ⟨by show 0 ≤ a + 1; omega, by show a + 1 ≤ (l.length : Int); omega, len, h.all⟩⟩

theorem pick_ok {t : GTape} (h : TapeOK t) {l : List Int} (hl : 1 ≤ l.length) (hL : l.length ≤ 1000) : ∃ i t', i < l.length ∧ g_scene_Tape_Pick t l = some (l.getD i 0, t') ∧ TapeOK t' := by
  obtain ⟨r, t', e, r0, r1, h'⟩ := next_ok h (m := (l.length : Int)) (by omega) (by omega)
  unfold g_scene_Tape_Pick
  rw [e, obind]
  dsimp only
  rw [inb_true r0 r1, cT]
  exact ⟨r.toNat, t', by omega, rfl, h'⟩

theorem ratio_ok {n d : Int} {k : Nat} (hn : I64 n) (hd : I64 d) (h1 : 1 ≤ d) (kn : n.natAbs < 2 ^ k) (kd : d.natAbs < 2 ^ k) (hk : k ≤ 480) :
    ∃ c, g_scene_Ratio n d = some c ∧ G k c ∧ toQ c = (n : Rat) / (d : Rat) := by
  obtain ⟨c, e, g, q⟩ := redR_G (n := n) (d := d) (k := k) (by omega) kn kd hk
  refine ⟨c, ?_, g, q⟩
  unfold g_scene_Ratio g_exact_Over
  rw [show max d 1 = d by omega, refOf_ok hn hd, obind, obind, e]

theorem div_le_one {n d : Int} (hd : 0 < d) (h : n ≤ d) : (n : Rat) / (d : Rat) ≤ 1 := by
  have := cast_pos hd
  have h2 : (n : Rat) ≤ (d : Rat) := by exact_mod_cast h
  have h3 : ¬ 1 < (n : Rat) / (d : Rat) := by
    rw [Rat.lt_div_iff this]; grind
  grind

theorem div_nonneg' {n d : Int} (hd : 0 < d) (h : 0 ≤ n) : 0 ≤ (n : Rat) / (d : Rat) := by
  have := cast_pos hd
  have h2 : (0 : Rat) ≤ (n : Rat) := by exact_mod_cast h
  have h3 : ¬ (n : Rat) / (d : Rat) < 0 := by
    rw [Rat.div_lt_iff this]; grind
  grind

theorem div_pos' {n d : Int} (hd : 0 < d) (h : 0 < n) : 0 < (n : Rat) / (d : Rat) := by
  have := cast_pos hd
  have h2 : (0 : Rat) < (n : Rat) := by exact_mod_cast h
  rw [Rat.lt_div_iff this]; grind

theorem part_Q {a : GRat} (ha : ValidR a) (h0 : 0 ≤ toQ a) (h1 : toQ a ≤ 1) : PartR a := by
  refine ⟨ha, ?_, ?_⟩
  · have := neg_Q ha
    have : ¬ val a.1 < 0 := fun q => by have := this.2 q; grind
    omega
  · have hp := cast_pos ha.pos
    have : ¬ val a.2 < val a.1 := fun q => by
      have h2 : (val a.2 : Rat) < (val a.1 : Rat) := by exact_mod_cast q
      have h3 : 1 < toQ a := by
        unfold toQ
        rw [Rat.lt_div_iff hp]; grind
      grind
    omega

/-- Made terms. -/
structure TermsM (t : GTerms) : Prop where
  rate : G 7 t.1
  hurdle : G 7 t.2.1
  r0 : 0 ≤ toQ t.1
  r1 : toQ t.1 ≤ 1
  h0 : 0 ≤ toQ t.2.1
  h1 : toQ t.2.1 ≤ 1
  b1 : 1 ≤ t.2.2
  b2 : t.2.2 ≤ 4

structure WaterM (w : GWater) : Prop where
  mark : G 15 w.1
  pos : 0 < toQ w.1
  s0 : 0 ≤ w.2
  s1 : w.2 < 800

theorem TermsM.wf {t : GTerms} (h : TermsM t) : WFT t := ⟨h.rate.wf, h.hurdle.wf, by have := h.b1; have := h.b2; unfold I64; omega⟩
theorem TermsM.chk {t : GTerms} (h : TermsM t) : chkT t = 0 := by
  unfold chkT
  have := h.b1
  have := h.b2
  rw [if_pos (part_Q h.rate.v h.r0 h.r1), if_pos (part_Q h.hurdle.v h.h0 h.h1), if_neg (by omega), if_neg (by omega)]

theorem perc_ok {n : Int} (h0 : 0 ≤ n) (h1 : n ≤ 100) : ∃ c, g_scene_Ratio n 100 = some c ∧ G 7 c ∧ 0 ≤ toQ c ∧ toQ c ≤ 1 := by
  obtain ⟨c, e, g, q⟩ := ratio_ok (n := n) (d := 100) (k := 7) (by unfold I64; omega) (by unfold I64; omega) (by omega) (by omega) (by omega) (by omega)
  exact ⟨c, e, g, by rw [q]; exact div_nonneg' (by omega) h0, by rw [q]; exact div_le_one (by omega) h1⟩

theorem terms_ok {t : GTape} (h : TapeOK t) : ∃ x t', g_scene_Tape_Terms t = some (x, t') ∧ TermsM x ∧ TapeOK t' := by
  unfold g_scene_Tape_Terms
  obtain ⟨r, t1, e1, r0, r1, h1⟩ := next_ok h (m := 101) (by omega) (by omega)
  rw [e1, obind]
  dsimp only
  obtain ⟨i, t2, hi, e2, h2⟩ := pick_ok h1 (l := [20, 10, 0, 100, r]) (by simp [-List.getD_eq_getElem?_getD]) (by simp [-List.getD_eq_getElem?_getD])
  rw [e2, obind]
  dsimp only
  have hv : 0 ≤ ([20, 10, 0, 100, r] : List Int).getD i 0 ∧ ([20, 10, 0, 100, r] : List Int).getD i 0 ≤ 100 := by
    have : i < 5 := by simpa [-List.getD_eq_getElem?_getD] using hi
    have : i = 0 ∨ i = 1 ∨ i = 2 ∨ i = 3 ∨ i = 4 := by omega
    have r2 : r ≤ 100 := by omega
    rcases this with rfl | rfl | rfl | rfl | rfl
    · exact ⟨(by decide : (0 : Int) ≤ 20), (by decide : (20 : Int) ≤ 100)⟩
    · exact ⟨(by decide : (0 : Int) ≤ 10), (by decide : (10 : Int) ≤ 100)⟩
    · exact ⟨(by decide : (0 : Int) ≤ 0), (by decide : (0 : Int) ≤ 100)⟩
    · exact ⟨(by decide : (0 : Int) ≤ 100), (by decide : (100 : Int) ≤ 100)⟩
    · exact ⟨r0, r2⟩
  obtain ⟨c, ec, gc, c0, c1⟩ := perc_ok hv.1 hv.2
  rw [ec, obind]
  obtain ⟨j, t3, hj, e3, h3⟩ := pick_ok h2 (l := [0, 4, 0, 10, 100]) (by simp [-List.getD_eq_getElem?_getD]) (by simp [-List.getD_eq_getElem?_getD])
  rw [e3, obind]
  dsimp only
  have hv2 : 0 ≤ ([0, 4, 0, 10, 100] : List Int).getD j 0 ∧ ([0, 4, 0, 10, 100] : List Int).getD j 0 ≤ 100 := by
    have : j < 5 := by simpa [-List.getD_eq_getElem?_getD] using hj
    have : j = 0 ∨ j = 1 ∨ j = 2 ∨ j = 3 ∨ j = 4 := by omega
    rcases this with rfl | rfl | rfl | rfl | rfl <;> decide
  obtain ⟨d, ed, gd, d0, d1⟩ := perc_ok hv2.1 hv2.2
  rw [ed, obind]
  obtain ⟨b, t4, e4, b0, b1, h4⟩ := next_ok h3 (m := 4) (by omega) (by omega)
  rw [e4, obind]
  dsimp only
  rw [wrap_i64 (by omega) (by omega)]
  exact ⟨_, _, rfl, ⟨gc, gd, c0, c1, d0, d1, by show 1 ≤ 1 + b; omega, by show 1 + b ≤ 4; omega⟩, h4⟩

theorem water_ok {t : GTape} (h : TapeOK t) : ∃ x t', g_scene_Tape_Water t = some (x, t') ∧ WaterM x ∧ TapeOK t' := by
  unfold g_scene_Tape_Water
  obtain ⟨r, t1, e1, r0, r1, h1⟩ := next_ok h (m := 20000) (by omega) (by omega)
  rw [e1, obind]
  dsimp only
  obtain ⟨i, t2, hi, e2, h2⟩ := pick_ok h1 (l := [100, 100, 1, 7]) (by simp [-List.getD_eq_getElem?_getD]) (by simp [-List.getD_eq_getElem?_getD])
  rw [e2, obind]
  dsimp only
  have hv : 1 ≤ ([100, 100, 1, 7] : List Int).getD i 0 ∧ ([100, 100, 1, 7] : List Int).getD i 0 ≤ 100 := by
    have : i < 4 := by simpa [-List.getD_eq_getElem?_getD] using hi
    have : i = 0 ∨ i = 1 ∨ i = 2 ∨ i = 3 := by omega
    rcases this with rfl | rfl | rfl | rfl <;> decide
  generalize ([100, 100, 1, 7] : List Int).getD i 0 = d at *
  rw [wrap_i64 (by omega) (by omega)]
  obtain ⟨c, ec, gc, qc⟩ := ratio_ok (n := 1 + r) (d := d) (k := 15) (by unfold I64; omega) (by unfold I64; omega) (by omega) (by omega) (by omega) (by omega)
  rw [ec, obind]
  obtain ⟨s, t4, e4, s0, s1, h4⟩ := next_ok h2 (m := 800) (by omega) (by omega)
  rw [e4, obind]
  exact ⟨_, _, rfl, ⟨gc, by rw [qc]; exact div_pos' (by omega) (by omega), s0, s1⟩, h4⟩

/-- What is made. -/
structure MadeM (t : GTerms) (w : GWater) (g : GRat) (d : Int) : Prop where
  tm : TermsM t
  wm : WaterM w
  gm : G 23 g
  pos : 0 < toQ g
  d0 : w.2 ≤ d
  d1 : d < 2300

end Go.Ev

namespace Go.Ev
set_option linter.unusedVariables false
set_option linter.unusedSimpArgs false

theorem date_le {n n' y m d y' m' d' : Int} (h : IsDate n y m d) (h' : IsDate n' y' m' d') (hn : n ≤ n') : 360 * y + 30 * m + min d 30 ≤ 360 * y' + 30 * m' + min d' 30 := by
  have a1 := h.m1
  have a2 := h'.m0
  have a3 := h'.day
  have a4 := h'.mlo
  have b1 := h.m0
  have b3 := h.day
  have b4 := h.mlo
  rcases Int.lt_trichotomy y y' with q | q | q
  · omega
  · subst q
    rcases Int.lt_trichotomy m m' with p | p | p
    · omega
    · subst p; omega
    · have h1 := ahead_mono (leapN_01 y) h'.m0 p h.m1
      have := h'.mhi; have := h.mlo; omega
  · have h1 := start_mono (a := y' + 1) (b := y) (by have := h'.y0; omega) (by omega)
    rw [start_succ h'.y0 h'.y1] at h1
    have := h'.hi; have := h.lo; omega

theorem position_val {n : Int} (h0 : 0 ≤ n) (h1 : n ≤ 73048) : ∃ y m d, IsDate n y m d ∧ g_daycount_position n = some (360 * y + 30 * m + min d 30) ∧ 720000 ≤ 360 * y + 30 * m + min d 30 ∧ 360 * y + 30 * m + min d 30 ≤ 792100 := by
  obtain ⟨y, m, d, e, i⟩ := civil_ok h0 h1
  have y0 := i.y0
  have y1 := i.y1
  have m0 := i.m0
  have m1 := i.m1
  have hd := i.day
  have hl := i.mlo
  refine ⟨y, m, d, i, ?_, by omega, by omega⟩
  unfold g_daycount_position
  rw [e, obind]
  dsimp only
  rw [wrap_i64 (n := 360 * y) (by omega) (by omega), wrap_i64 (n := 30 * m) (by omega) (by omega), wrap_i64 (n := 360 * y + 30 * m) (by omega) (by omega), wrap_i64 (by omega) (by omega)]

theorem days_two {b f t t' : Int} (h1 : 1 ≤ b) (h2 : b ≤ 4) (h3 : 0 ≤ f) (h4 : f ≤ t) (h5 : t ≤ t') (h6 : t' ≤ 73048) :
    ∃ n n', g_daycount_Days b f t = some (n, 0) ∧ g_daycount_Days b f t' = some (n', 0) ∧ 0 ≤ n ∧ n ≤ n' ∧ n' ≤ 73048 := by
  unfold g_daycount_Days
  simp only [cond_dec, if_neg (show ¬ b < 1 by omega), if_neg (show ¬ b > 4 by omega), if_neg (show ¬ f < 0 by omega), if_neg (show ¬ f > 73048 by omega), if_neg (show ¬ t < 0 by omega), if_neg (show ¬ t > 73048 by omega), if_neg (show ¬ t < f by omega),
    if_neg (show ¬ t' < 0 by omega), if_neg (show ¬ t' > 73048 by omega), if_neg (show ¬ t' < f by omega)]
  cases hb : (b == 4) with
  | true =>
    simp only [cT]
    obtain ⟨y, m, d, i, e, _, _⟩ := position_val (n := f) (by omega) (by omega)
    obtain ⟨y1, m1, d1, i1, e1, _, _⟩ := position_val (n := t) (by omega) (by omega)
    obtain ⟨y2, m2, d2, i2, e2, _, _⟩ := position_val (n := t') (by omega) (by omega)
    have l1 := date_le i i1 h4
    have l2 := date_le i1 i2 h5
    simp only [e, e1, e2, obind]
    rw [wrap_i64 (n := 360 * y1 + 30 * m1 + min d1 30 - (360 * y + 30 * m + min d 30)) (by omega) (by omega), wrap_i64 (n := 360 * y2 + 30 * m2 + min d2 30 - (360 * y + 30 * m + min d 30)) (by omega) (by omega)]
    refine ⟨_, _, rfl, rfl, ?_, ?_, ?_⟩ <;> omega
  | false =>
    simp only [cF]
    rw [wrap_i64 (n := t - f) (by omega) (by omega), wrap_i64 (n := t' - f) (by omega) (by omega)]
    refine ⟨_, _, rfl, rfl, ?_, ?_, ?_⟩ <;> omega

theorem actual_two {t t' : Int} (htt : t ≤ t') (ht : t' ≤ 73048) : ∀ (k : Nat) (f c l : Int), 0 ≤ f → f ≤ t → t - f ≤ k → 0 ≤ c → 0 ≤ l → c + l ≤ f →
    ∃ c1 l1 d1 c2 l2 d2, loopD (g_daycount_actual_L2 t) ((f, (c, l)), ()) = some (0, ((d1, (c1, l1)), ())) ∧ loopD (g_daycount_actual_L2 t') ((f, (c, l)), ()) = some (0, ((d2, (c2, l2)), ())) ∧
      0 ≤ c1 ∧ 0 ≤ l1 ∧ c1 ≤ c2 ∧ l1 ≤ l2 ∧ c2 + l2 ≤ 73048 := by
  have grow : ∀ (k : Nat) (f c l : Int), 0 ≤ f → t' - f ≤ k → 0 ≤ c → 0 ≤ l → c + l ≤ f → f ≤ 73048 →
      ∃ c2 l2 d2, loopD (g_daycount_actual_L2 t') ((f, (c, l)), ()) = some (0, ((d2, (c2, l2)), ())) ∧ c ≤ c2 ∧ l ≤ l2 ∧ c2 + l2 ≤ 73048 := by
    intro k
    induction k with
    | zero =>
      intro f c l h0 hk hc hl hcl hf
      refine ⟨c, l, f, loopD_out ?_, by omega, by omega, by omega⟩
      unfold g_daycount_actual_L2
      dsimp only
      rw [cond_dec, if_neg (by omega)]
    | succ k ih =>
      intro f c l h0 hk hc hl hcl hf
      by_cases hft : f < t'
      · obtain ⟨y, m, d, he, i⟩ := civil_ok h0 hf
        obtain ⟨s1, _⟩ := actual_step ht hft h0 hc hl hcl he i
        have hs := start_succ i.y0 i.y1
        have hhi := i.hi
        have hm : f < min t' (startZ (y + 1)) ∧ min t' (startZ (y + 1)) ≤ t' := by omega
        generalize min t' (startZ (y + 1)) = nx at *
        by_cases hlp : leapP y
        · rw [if_pos hlp] at s1
          obtain ⟨c', l', d1, q1, q2, q3, q4⟩ := ih nx c (l + (nx - f)) (by omega) (by omega) hc (by omega) (by omega) (by omega)
          exact ⟨c', l', d1, loopD_more s1 q1, by omega, by omega, q4⟩
        · rw [if_neg hlp] at s1
          obtain ⟨c', l', d1, q1, q2, q3, q4⟩ := ih nx (c + (nx - f)) l (by omega) (by omega) (by omega) hl (by omega) (by omega)
          exact ⟨c', l', d1, loopD_more s1 q1, by omega, by omega, q4⟩
      · refine ⟨c, l, f, loopD_out ?_, by omega, by omega, by omega⟩
        unfold g_daycount_actual_L2
        dsimp only
        rw [cond_dec, if_neg hft]
  intro k
  induction k with
  | zero =>
    intro f c l h0 hft hk hc hl hcl
    obtain ⟨c2, l2, d2, q1, q2, q3, q4⟩ := grow (t' - f).toNat f c l h0 (by omega) hc hl hcl (by omega)
    refine ⟨c, l, f, c2, l2, d2, loopD_out ?_, q1, hc, hl, q2, q3, q4⟩
    unfold g_daycount_actual_L2
    dsimp only
    rw [cond_dec, if_neg (by omega)]
  | succ k ih =>
    intro f c l h0 hft hk hc hl hcl
    by_cases hlt : f < t
    · obtain ⟨y, m, d, he, i⟩ := civil_ok h0 (show f ≤ 73048 by omega)
      obtain ⟨s1, _⟩ := actual_step (t := t) (by omega) hlt h0 hc hl hcl he i
      obtain ⟨s2, _⟩ := actual_step (t := t') ht (by omega) h0 hc hl hcl he i
      have hs := start_succ i.y0 i.y1
      have hhi := i.hi
      by_cases hsp : startZ (y + 1) ≤ t
      · have m1 : min t (startZ (y + 1)) = startZ (y + 1) := by omega
        have m2 : min t' (startZ (y + 1)) = startZ (y + 1) := by omega
        rw [m1] at s1
        rw [m2] at s2
        have hx : f < startZ (y + 1) := by omega
        generalize startZ (y + 1) = nx at *
        by_cases hlp : leapP y
        · rw [if_pos hlp] at s1 s2
          obtain ⟨c1, l1, d1, c2, l2, d2, q1, q2, q3⟩ := ih nx c (l + (nx - f)) (by omega) hsp (by omega) hc (by omega) (by omega)
          exact ⟨c1, l1, d1, c2, l2, d2, loopD_more s1 q1, loopD_more s2 q2, q3⟩
        · rw [if_neg hlp] at s1 s2
          obtain ⟨c1, l1, d1, c2, l2, d2, q1, q2, q3⟩ := ih nx (c + (nx - f)) l (by omega) hsp (by omega) (by omega) hl (by omega)
          exact ⟨c1, l1, d1, c2, l2, d2, loopD_more s1 q1, loopD_more s2 q2, q3⟩
      · have m1 : min t (startZ (y + 1)) = t := by omega
        rw [m1] at s1
        have hx : t ≤ min t' (startZ (y + 1)) ∧ min t' (startZ (y + 1)) ≤ t' := by omega
        generalize min t' (startZ (y + 1)) = nx at *
        by_cases hlp : leapP y
        · rw [if_pos hlp] at s1 s2
          obtain ⟨c2, l2, d2, q1, q2, q3, q4⟩ := grow (t' - nx).toNat nx c (l + (nx - f)) (by omega) (by omega) hc (by omega) (by omega) (by omega)
          refine ⟨c, l + (t - f), t, c2, l2, d2, loopD_more s1 (loopD_out ?_), loopD_more s2 q1, hc, by omega, q2, by omega, q4⟩
          unfold g_daycount_actual_L2
          dsimp only
          rw [cond_dec, if_neg (by omega)]
        · rw [if_neg hlp] at s1 s2
          obtain ⟨c2, l2, d2, q1, q2, q3, q4⟩ := grow (t' - nx).toNat nx (c + (nx - f)) l (by omega) (by omega) (by omega) hl (by omega) (by omega)
          refine ⟨c + (t - f), l, t, c2, l2, d2, loopD_more s1 (loopD_out ?_), loopD_more s2 q1, by omega, hl, by omega, q3, q4⟩
          unfold g_daycount_actual_L2
          dsimp only
          rw [cond_dec, if_neg (by omega)]
    · obtain ⟨c2, l2, d2, q1, q2, q3, q4⟩ := grow (t' - f).toNat f c l h0 (by omega) hc hl hcl (by omega)
      refine ⟨c, l, f, c2, l2, d2, loopD_out ?_, q1, hc, hl, q2, q3, q4⟩
      unfold g_daycount_actual_L2
      dsimp only
      rw [cond_dec, if_neg hlt]

theorem div_mono {n m d : Int} (hd : 0 < d) (h : n ≤ m) : (n : Rat) / (d : Rat) ≤ (m : Rat) / (d : Rat) := by
  have hp := cast_pos hd
  have h2 : (n : Rat) ≤ (m : Rat) := by exact_mod_cast h
  have h3 : ¬ (m : Rat) / (d : Rat) < (n : Rat) / (d : Rat) := by
    rw [div_lt_div hp hp]
    have := Rat.mul_le_mul_of_nonneg_right h2 (show (0 : Rat) ≤ (d : Rat) by grind)
    grind
  grind

/-- Two fractions that begin on the same day. -/
theorem frac_two {b f t t' : Int} (h1 : 1 ≤ b) (h2 : b ≤ 4) (h3 : 0 ≤ f) (h4 : f ≤ t) (h5 : t ≤ t') (h6 : t' ≤ 73048) :
    ∃ r r', g_daycount_Fraction b f t = some (r, 0) ∧ g_daycount_Fraction b f t' = some (r', 0) ∧ G 36 r ∧ G 36 r' ∧ 0 ≤ toQ r ∧ toQ r ≤ toQ r' := by
  obtain ⟨n, n', e, e', n0, nn, n1⟩ := days_two h1 h2 h3 h4 h5 h6
  have i5 : I64 365 := by unfold I64; omega
  have i6 : I64 366 := by unfold I64; omega
  have i0 : I64 360 := by unfold I64; omega
  have In : I64 n := by unfold I64; omega
  have In' : I64 n' := by unfold I64; omega
  unfold g_daycount_Fraction
  rw [e, e', obind, obind]
  dsimp only
  rw [show ((0 : Int) != 0) = false from rfl, cF, cF, beq_dec, cond_dec, cond_dec, beq_dec, cond_dec, cond_dec]
  by_cases hb : b = 3
  · rw [if_pos hb, if_pos hb]
    obtain ⟨c1, l1, d1, c2, l2, d2, q1, q2, c10, l10, cc, ll, cl⟩ := actual_two h5 h6 (t - f).toNat f 0 0 h3 h4 (by omega) (by omega) (by omega) (by omega)
    obtain ⟨u1, eu1, gu1, vu1⟩ := redR_G (n := c1) (d := 365) (k := 17) (by omega) (by omega) (by omega) (by omega)
    obtain ⟨u2, eu2, gu2, vu2⟩ := redR_G (n := l1) (d := 366) (k := 17) (by omega) (by omega) (by omega) (by omega)
    obtain ⟨w1, ew1, gw1, vw1⟩ := redR_G (n := c2) (d := 365) (k := 17) (by omega) (by omega) (by omega) (by omega)
    obtain ⟨w2, ew2, gw2, vw2⟩ := redR_G (n := l2) (d := 366) (k := 17) (by omega) (by omega) (by omega) (by omega)
    obtain ⟨u, eu, gu, vu⟩ := g_add gu1 gu2 (by omega)
    obtain ⟨w, ew, gw, vw⟩ := g_add gw1 gw2 (by omega)
    have a1 := div_mono (d := 365) (by omega) cc
    have a2 := div_mono (d := 366) (by omega) ll
    have a3 := div_nonneg' (d := 365) (by omega) c10
    have a4 := div_nonneg' (d := 366) (by omega) l10
    unfold g_daycount_actual
    rw [q1, q2, obind, obind]
    dsimp only
    rw [Of_ok (by unfold I64; omega) i5, obind, Of_ok (by unfold I64; omega) i6, obind, eu1, eu2, addR_ok gu1.wf gu2.wf, obind, eu, obind, Of_ok (by unfold I64; omega) i5, obind, Of_ok (by unfold I64; omega) i6, obind, ew1, ew2, addR_ok gw1.wf gw2.wf, obind, ew, obind]
    refine ⟨u, w, rfl, rfl, gu.mono (by omega), gw.mono (by omega), ?_, ?_⟩
    · rw [vu, vu1, vu2]; grind
    · rw [vu, vu1, vu2, vw, vw1, vw2]; grind
  · rw [if_neg hb, if_neg hb]
    by_cases hb2 : b = 2
    · rw [if_pos hb2, if_pos hb2, Of_ok In i5, obind, Of_ok In' i5, obind]
      obtain ⟨u, eu, gu, vu⟩ := redR_G (n := n) (d := 365) (k := 17) (by omega) (by omega) (by omega) (by omega)
      obtain ⟨w, ew, gw, vw⟩ := redR_G (n := n') (d := 365) (k := 17) (by omega) (by omega) (by omega) (by omega)
      rw [eu, ew]
      exact ⟨u, w, rfl, rfl, gu.mono (by omega), gw.mono (by omega), by rw [vu]; exact div_nonneg' (by omega) n0, by rw [vu, vw]; exact div_mono (by omega) nn⟩
    · rw [if_neg hb2, if_neg hb2, Of_ok In i0, obind, Of_ok In' i0, obind]
      obtain ⟨u, eu, gu, vu⟩ := redR_G (n := n) (d := 360) (k := 17) (by omega) (by omega) (by omega) (by omega)
      obtain ⟨w, ew, gw, vw⟩ := redR_G (n := n') (d := 360) (k := 17) (by omega) (by omega) (by omega) (by omega)
      rw [eu, ew]
      exact ⟨u, w, rfl, rfl, gu.mono (by omega), gw.mono (by omega), by rw [vu]; exact div_nonneg' (by omega) n0, by rw [vu, vw]; exact div_mono (by omega) nn⟩

theorem fracR_two {b f t t' : Int} (h1 : 1 ≤ b) (h2 : b ≤ 4) (h3 : 0 ≤ f) (h4 : f ≤ t) (h5 : t ≤ t') (h6 : t' ≤ 73048) :
    G 36 (fracR b f t) ∧ G 36 (fracR b f t') ∧ 0 ≤ toQ (fracR b f t) ∧ toQ (fracR b f t) ≤ toQ (fracR b f t') := by
  obtain ⟨r, r', e, e', g1, g2, q1, q2⟩ := frac_two h1 h2 h3 h4 h5 h6
  unfold fracR
  rw [e, e']
  exact ⟨g1, g2, q1, q2⟩

end Go.Ev

namespace Go.Ev
set_option linter.unusedVariables false
set_option linter.unusedSimpArgs false

structure Wok (k : Nat) (w : GWater) : Prop where
  mark : G k w.1
  pos : 0 < toQ w.1
  s0 : 0 ≤ w.2

theorem Wok.wf {k : Nat} {w : GWater} (h : Wok k w) (hs : w.2 ≤ 73048) : WFW w := ⟨h.mark.wf, by have := h.s0; unfold I64; omega⟩

theorem WaterM.ok {w : GWater} (h : WaterM w) : Wok 15 w := ⟨h.mark, h.pos, h.s0⟩

theorem Wok.chk {k : Nat} {w : GWater} (h : Wok k w) (hs : w.2 ≤ 73048) : chkW w = 0 := by
  have := h.s0
  unfold chkW
  rw [if_pos (above_Q h.mark.v h.pos), if_neg (by omega), if_neg (by omega)]

theorem chk_good {k j : Nat} {t : GTerms} {w : GWater} {g : GRat} {d : Int} (ht : TermsM t) (hw : Wok k w) (hg : G j g) (gp : 0 < toQ g) (d0 : w.2 ≤ d) (d1 : d ≤ 73048) : chkA t w g d = 0 := by
  have := hw.s0
  exact chkA_q ht.chk (hw.chk (by omega)) (above_Q hg.v gp) (by omega) d1 d0

noncomputable def thrQ (t : GTerms) (w : GWater) (d : Int) : Rat := toQ w.1 * (1 + toQ t.2.1 * toQ (fracR t.2.2 w.2 d))

theorem thrR_G {k : Nat} {t : GTerms} {w : GWater} {d : Int} (ht : TermsM t) (hw : Wok k w) (hk : k + 45 ≤ 480) (d0 : w.2 ≤ d) (d1 : d ≤ 73048) :
    ∃ x, thrR t w (fracR t.2.2 w.2 d) = (x, 0) ∧ G (k + 45) x ∧ toQ x = thrQ t w d := by
  obtain ⟨gf, _, _, _⟩ := fracR_two ht.b1 ht.b2 hw.s0 d0 (Int.le_refl d) d1
  unfold thrQ thrR
  obtain ⟨m, em, gm, vm⟩ := g_mul ht.hurdle gf (by omega)
  obtain ⟨g1, v1⟩ := g_whole (n := 1) (k := 1) i64_1 (by decide) (by omega)
  obtain ⟨a, ea, ga, va⟩ := g_add g1 gm (by omega)
  obtain ⟨x, ex, gx, vx⟩ := g_mul hw.mark ga (by omega)
  rw [em, step2_ok, ea, step2_ok, ex]
  refine ⟨x, rfl, gx, ?_⟩
  rw [vx, va, v1, vm]
  rfl

theorem thrS_G {k j : Nat} {t : GTerms} {w : GWater} {g : GRat} {d : Int} (ht : TermsM t) (hw : Wok k w) (hg : G j g) (gp : 0 < toQ g) (hk : k + 45 ≤ 480) (d0 : w.2 ≤ d) (d1 : d ≤ 73048) :
    ∃ x, thrS t w g d = (x, 0) ∧ G (k + 45) x ∧ toQ x = thrQ t w d := by
  obtain ⟨x, ex, gx, vx⟩ := thrR_G ht hw hk d0 d1
  refine ⟨x, ?_, gx, vx⟩
  unfold thrS
  rw [if_pos (chk_good ht hw hg gp d0 d1), ex]

noncomputable def feeQ (t : GTerms) (w : GWater) (g : GRat) (d : Int) : Rat := if thrQ t w d < toQ g then toQ t.1 * (toQ g - thrQ t w d) else 0

theorem feeS_G {k j : Nat} {t : GTerms} {w : GWater} {g : GRat} {d : Int} (ht : TermsM t) (hw : Wok k w) (hg : G j g) (gp : 0 < toQ g) (hk : k + j + 60 ≤ 480) (d0 : w.2 ≤ d) (d1 : d ≤ 73048) :
    ∃ z, feeS t w g d = (z, 0) ∧ G (k + j + 60) z ∧ toQ z = feeQ t w g d := by
  obtain ⟨x, ex, gx, vx⟩ := thrS_G ht hw hg gp (by omega) d0 d1
  unfold feeS feeQ
  rw [ex]
  dsimp only
  rw [if_pos rfl]
  unfold feeR
  by_cases hc : toQ x < toQ g
  · rw [if_pos ((cmp_Q gx.v hg.v).2 hc), if_pos (by rw [← vx]; exact hc)]
    obtain ⟨y, ey, gy, vy⟩ := g_sub hg gx (by omega)
    obtain ⟨z, ez, gz, vz⟩ := g_mul ht.rate gy (by omega)
    rw [ey, step2_ok, ez]
    exact ⟨z, rfl, gz.mono (by omega), by rw [vz, vy, vx]⟩
  · rw [if_neg (fun q => hc ((cmp_Q gx.v hg.v).1 q)), if_neg (by rw [← vx]; exact hc)]
    obtain ⟨g1, v1⟩ := g_whole (n := 0) (k := 1) i64_0 (by decide) (by omega)
    exact ⟨wholeR 0, rfl, g1.mono (by omega), v1⟩

theorem feeQ_nonneg {t : GTerms} {w : GWater} {g : GRat} {d : Int} (ht : TermsM t) : 0 ≤ feeQ t w g d := by
  unfold feeQ
  split
  · exact Rat.mul_nonneg ht.r0 (by grind)
  · grind

/-! ### Quantizing -/
theorem nine_pow : (1000000000 : Nat) < 2 ^ 30 := by decide

theorem quant_G {k : Nat} {n : GRat} (hn : G k n) (hk : k + 32 ≤ 480) :
    ∃ q, quantR n = (q, 0) ∧ G (k + 32) q ∧ toQ n ≤ toQ q ∧ toQ q < toQ n + 1 / ((1000000000 : Int) : Rat) := by
  have hp := hn.v.pos
  have hv := hn.v
  have h0 : val n.2 ≠ 0 := by omega
  have hT : (0 : Rat) < ((1000000000 : Int) : Rat) := cast_pos (by omega)
  have hD := cast_pos hp
  have n9 : (val n.1 * 1000000000).natAbs < 2 ^ (k + 30) := by rw [Int.natAbs_mul]; exact pow_mul_lt hn.sn nine_pow
  have e30 : 2 ^ (k + 31) = 2 * 2 ^ (k + 30) := by rw [Nat.pow_succ]; omega
  have e32 : 2 ^ (k + 32) = 2 * 2 ^ (k + 31) := by rw [Nat.pow_succ]; omega
  have one : 1 ≤ 2 ^ (k + 30) := Nat.one_le_two_pow
  have r0 := Int.emod_nonneg (val n.1 * 1000000000) h0
  have r1 := Int.emod_lt_of_pos (val n.1 * 1000000000) hp
  have dm := Int.mul_ediv_add_emod (val n.1 * 1000000000) (val n.2)
  have hq : (val n.1 * 1000000000 / val n.2).natAbs ≤ (val n.1 * 1000000000).natAbs := by
    have := Int.natAbs_ediv_le_natAbs (val n.1 * 1000000000) (val n.2)
    exact this
  generalize hA : val n.1 * 1000000000 = A at *
  generalize hQ : A / val n.2 = Q at *
  generalize hR : A % val n.2 = R at *
  -- the rounded number
  have core : ∃ C : Int, ceilR n = (zI C, 0) ∧ C.natAbs < 2 ^ (k + 31) ∧ A ≤ C * val n.2 ∧ C * val n.2 < A + val n.2 := by
    have hM : ((Q.natAbs : Nat) : Int) < MX := by
      have := bits_lt (bits_pow (z := Q) (k := k + 30) (by omega) (by omega)); have := KM_MX; omega
    have cm : Q * val n.2 = val n.2 * Q := Int.mul_comm _ _
    unfold ceilR
    rw [if_pos hv, hA, hR, hQ]
    by_cases hz : R = 0
    · rw [if_pos hz]
      exact ⟨Q, rfl, by omega, by omega, by omega⟩
    · rw [if_neg hz, val_zI hM]
      have hM2 : (((Q + 1).natAbs : Nat) : Int) < MX := by
        have := bits_lt (bits_pow (z := Q + 1) (k := k + 31) (by omega) (by omega)); have := KM_MX; omega
      have ef : fitR (Q + 1) = (zI (Q + 1), 0) := by unfold fitR; rw [if_pos hM2]
      rw [ef]
      have cm2 : (Q + 1) * val n.2 = val n.2 * Q + val n.2 := by rw [Int.add_mul, Int.one_mul, cm]
      exact ⟨Q + 1, rfl, by omega, by omega, by omega⟩
  obtain ⟨C, eC, bC, lo, hi⟩ := core
  have CM : ((C.natAbs : Nat) : Int) < MX := by
    have := bits_lt (bits_pow (z := C) (k := k + 31) bC (by omega)); have := KM_MX; omega
  have p9 : (1000000000 : Nat) < 2 ^ (k + 32) := Nat.lt_of_lt_of_le nine_pow (Nat.pow_le_pow_right (by omega) (by omega))
  obtain ⟨q, eq, gq, vq⟩ := redR_G (n := C) (d := 1000000000) (k := k + 32) (by omega) (by omega) (by show (1000000000 : Nat) < _; exact p9) hk
  refine ⟨q, ?_, gq, ?_, ?_⟩
  · unfold quantR
    rw [eC]
    dsimp only
    rw [if_pos rfl, val_zI CM, eq]
  · have h3 : ¬ toQ q < toQ n := by
      rw [vq]
      unfold toQ
      rw [div_lt_div hT hD, ← Rat.intCast_mul, ← Rat.intCast_mul, Rat.intCast_lt_intCast, hA]
      omega
    grind
  · rw [vq]
    unfold toQ
    have e : (val n.1 : Rat) / (val n.2 : Rat) + 1 / ((1000000000 : Int) : Rat) = ((A + val n.2 : Int) : Rat) / ((val n.2 * 1000000000 : Int) : Rat) := by
      rw [← hA, Rat.intCast_add, Rat.intCast_mul, Rat.intCast_mul]
      have q1 := cast_ne h0
      have q2 := cast_ne (show (1000000000 : Int) ≠ 0 by omega)
      grind
    rw [e, div_lt_div hT (cast_pos (Int.mul_pos hp (by omega))), ← Rat.intCast_mul, ← Rat.intCast_mul, Rat.intCast_lt_intCast]
    have e1 : C * (val n.2 * 1000000000) = (C * val n.2) * 1000000000 := by rw [Int.mul_assoc]
    rw [e1]
    omega

end Go.Ev

namespace Go.Ev
set_option linter.unusedVariables false
set_option linter.unusedSimpArgs false

/-- What Crystallise returns for good arguments. -/
theorem cryS_G {k j : Nat} {t : GTerms} {w : GWater} {g : GRat} {d : Int} (ht : TermsM t) (hw : Wok k w) (hg : G j g) (gp : 0 < toQ g) (hk : k + 2 * j + 100 ≤ 480) (d0 : w.2 ≤ d) (d1 : d ≤ 73048) :
    ∃ f, feeS t w g d = (f, 0) ∧ G (k + j + 60) f ∧ toQ f = feeQ t w g d ∧
      ((toQ f = 0 ∧ cryS t w g d = (f, (w, 0))) ∨
       (0 < toQ f ∧ ∃ n q, subR g f = (n, 0) ∧ G (j + (k + j + 60) + 1) n ∧ toQ n = toQ g - toQ f ∧ quantR n = (q, 0) ∧ G (j + (k + j + 60) + 1 + 32) q ∧ toQ n ≤ toQ q ∧ toQ q < toQ n + 1 / ((1000000000 : Int) : Rat) ∧ cryS t w g d = (f, ((q, d), 0)))) := by
  obtain ⟨f, ef, gf, vf⟩ := feeS_G ht hw hg gp (by omega) d0 d1
  have hnn : 0 ≤ toQ f := by rw [vf]; exact feeQ_nonneg ht
  refine ⟨f, ef, gf, vf, ?_⟩
  rcases sign_Q gf.v with ⟨h, _⟩ | ⟨h, e⟩ | ⟨h, e⟩
  · grind
  · left
    refine ⟨h, ?_⟩
    unfold cryS
    rw [ef]
    dsimp only
    rw [if_pos rfl, if_pos e]
  · right
    obtain ⟨n, en, gn, vn⟩ := g_sub hg gf (by omega)
    obtain ⟨q, eq, gq, q1, q2⟩ := quant_G gn (by omega)
    refine ⟨h, n, q, en, gn, vn, eq, gq, q1, q2, ?_⟩
    unfold cryS
    rw [ef]
    dsimp only
    rw [if_pos rfl, if_neg (by omega), en]
    dsimp only
    rw [if_pos rfl, eq]
    dsimp only
    rw [if_pos rfl]

end Go.Ev

namespace Go.Ev
set_option linter.unusedVariables false
set_option linter.unusedSimpArgs false

theorem part_mul {p x : Rat} (h0 : 0 ≤ p) (h1 : p ≤ 1) (hx : 0 ≤ x) : 0 ≤ p * x ∧ p * x ≤ x := by
  refine ⟨Rat.mul_nonneg h0 hx, ?_⟩
  have := Rat.mul_le_mul_of_nonneg_right h1 hx
  grind

theorem thrQ_pos {k : Nat} {t : GTerms} {w : GWater} {d : Int} (ht : TermsM t) (hw : Wok k w) (d0 : w.2 ≤ d) (d1 : d ≤ 73048) : toQ w.1 ≤ thrQ t w d ∧ 0 < thrQ t w d := by
  obtain ⟨_, _, f0, _⟩ := fracR_two ht.b1 ht.b2 hw.s0 d0 (Int.le_refl d) d1
  have h1 := Rat.mul_nonneg ht.h0 f0
  have h2 := Rat.mul_nonneg (show 0 ≤ toQ w.1 by have := hw.pos; grind) h1
  have := hw.pos
  unfold thrQ
  constructor <;> grind

/-- What is left after the fee. -/
theorem net_facts {t : GTerms} {w : GWater} {g : GRat} {d : Int} (ht : TermsM t) : (feeQ t w g d = 0 ∧ ¬ thrQ t w d < toQ g) ∨ (thrQ t w d < toQ g ∧ feeQ t w g d = toQ t.1 * (toQ g - thrQ t w d) ∧ 0 ≤ feeQ t w g d ∧ feeQ t w g d ≤ toQ g - thrQ t w d) := by
  unfold feeQ
  by_cases h : thrQ t w d < toQ g
  · right
    rw [if_pos h]
    have := part_mul ht.r0 ht.r1 (show 0 ≤ toQ g - thrQ t w d by grind)
    exact ⟨h, rfl, this.1, this.2⟩
  · left
    rw [if_neg h]
    exact ⟨rfl, h⟩

end Go.Ev
