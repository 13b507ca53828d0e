/- The end of a period of a class with made lots: no step has an error, and the values are as written down, for all arguments. -/
import Derived.Test.YtgadoabnjcahoaaGreatLawDW
import Derived.Test.YtgadoabnjcahoaaGreatDefsDW
import Derived.Test.YtgadoabnjcahoaaGreatLawCW
set_option exponentiation.threshold 2000
namespace Go.Ev
set_option linter.unusedVariables false
set_option linter.unusedSimpArgs false

noncomputable def quoR : GRat → GRat → GRat × Int := op2 fun a b => redR (val a.1 * val b.2) (val a.2 * val b.1)

theorem quoR_wf (a b : GRat) : WFR (quoR a b).1 := op2_wf (fun _ _ => redR_wf _ _) a b
theorem quoR_made {a b : GRat} (h : (quoR a b).2 = 0) : Made (quoR a b).1 := op2_made (fun _ _ => redR_made) h

theorem Quo_ok {a b : GRat} (ha : WFR a) (hb : WFR b) : g_ratio_Quo a b = some (quoR a b) := by
  unfold g_ratio_Quo quoR op2
  rw [valid_ok ha, obind]
  by_cases va : ValidR a
  · rw [decide_eq_true va, nT, cF, valid_ok hb, obind]
    by_cases vb : ValidR b
    · have p2 := prod_MX va.kn vb.kd
      have p3 := prod_MX va.kd vb.kn
      unfold g_ratio_Quo_1
      rw [decide_eq_true vb, nT, cF, if_pos ⟨va, vb⟩, product_ok ha.num hb.den p2, obind, product_ok ha.den hb.num p3, obind, obind]
      dsimp only
      rw [make_ok (zI_wf _) (zI_wf _), obind, val_zI p2, val_zI p3]
    · rw [decide_eq_false vb, nF, cT, if_neg (fun h => vb h.2), ← zRat_eq]
  · rw [decide_eq_false va, nF, cT, if_neg (fun h => va h.1), ← zRat_eq]

theorem g_quo {k l : Nat} {a b : GRat} (ha : G k a) (hb : G l b) (hk : k + l ≤ 480) (h0 : toQ b ≠ 0) : ∃ c, quoR a b = (c, 0) ∧ G (k + l) c ∧ toQ c = toQ a / toQ b := by
  have p1 := ha.v.pos
  have p2 := hb.v.pos
  have hn0 : val b.1 ≠ 0 := by
    intro e
    apply h0
    unfold toQ
    rw [e]
    have : ((0 : Int) : Rat) = 0 := rfl
    rw [this]; grind
  have hd : val a.2 * val b.1 ≠ 0 := Int.mul_ne_zero (by omega) hn0
  obtain ⟨c, h1, h2, h3⟩ := redR_G (n := val a.1 * val b.2) hd (by rw [Int.natAbs_mul]; exact pow_mul_lt ha.sn hb.sd) (by rw [Int.natAbs_mul]; exact pow_mul_lt ha.sd hb.sn) hk
  refine ⟨c, by unfold quoR op2; rw [if_pos ⟨ha.v, hb.v⟩]; exact h1, h2, ?_⟩
  rw [h3]
  unfold toQ
  have q1 := cast_ne (show val a.2 ≠ 0 by omega)
  have q2 := cast_ne (show val b.2 ≠ 0 by omega)
  have q3 := cast_ne hn0
  rw [Rat.intCast_mul, Rat.intCast_mul]
  grind

theorem shrink_ok {m n g : GRat} (hm : WFR m) (hn : WFR n) (hg : WFR g) : g_equalisation_shrink m n g = some (step2 mulR (m, 0) (quoR n g)) := by
  unfold g_equalisation_shrink
  rw [Quo_ok hn hg, obind, zRat_eq, bne_dec]
  have w := quoR_wf n g
  generalize quoR n g = q at *
  unfold step2
  dsimp only
  rw [if_neg (by omega)]
  by_cases h : q.2 = 0
  · rw [decide_eq_false (by omega), cF, if_neg (by omega), mulR_ok hm w, obind]
  · rw [decide_eq_true h, cT, if_pos h]

end Go.Ev

namespace Go.Ev
set_option linter.unusedVariables false
set_option linter.unusedSimpArgs false

abbrev GLot := Int × GWater
noncomputable def zLot : GLot := (0, (zRat, 0))

/-- A good lot. -/
structure LotM (x : GLot) : Prop where
  w : Wok 23 x.2
  s1 : x.2.2 < 800

/-- Good lots in order of their series, which are at most b. -/
structure LotsM (b : Int) (ls : List GLot) : Prop where
  lot : ∀ x ∈ ls, LotM x
  lo : ∀ x ∈ ls, 1 ≤ x.1
  hi : ∀ x ∈ ls, x.1 ≤ b
  ord : ls.Pairwise (fun x y => x.1 < y.1)

theorem LotsM.nil : LotsM 0 [] := ⟨by simp [-List.getD_eq_getElem?_getD], by simp [-List.getD_eq_getElem?_getD], by simp [-List.getD_eq_getElem?_getD], by simp [-List.getD_eq_getElem?_getD]⟩

theorem LotsM.snoc {b s : Int} {ls : List GLot} (h : LotsM b ls) (b0 : 0 ≤ b) {x : GLot} (hx : LotM x) (e : x.1 = s) (hs : b < s) : LotsM s (ls ++ [x]) := by
  refine ⟨fun y hy => ?_, fun y hy => ?_, fun y hy => ?_, ?_⟩
  · rcases List.mem_append.1 hy with k | k
    · exact h.lot y k
    · rw [List.mem_singleton] at k; rw [k]; exact hx
  · rcases List.mem_append.1 hy with k | k
    · exact h.lo y k
    · rw [List.mem_singleton] at k; rw [k]; omega
  · rcases List.mem_append.1 hy with k | k
    · have := h.hi y k; omega
    · rw [List.mem_singleton] at k; rw [k]; omega
  · rw [List.pairwise_append]
    refine ⟨h.ord, by simp [-List.getD_eq_getElem?_getD], fun y hy z hz => ?_⟩
    rw [List.mem_singleton] at hz
    rw [hz]
    have := h.hi y hy; omega

theorem app_one {α : Type} {l : List α} {x : α} {n : Nat} (h : (l.length + 1) * n ≤ 140737488355328) : (List.isEmpty [x] || !(Nat.ble ((List.length l + List.length [x]) * n) appLim)) = false := by
  have e : Nat.ble ((List.length l + List.length [x]) * n) appLim = true := Nat.ble_eq_true_of_le (by simpa [-List.getD_eq_getElem?_getD, appLim] using h)
  rw [e]
  rfl

theorem bool_ok {t : GTape} (h : TapeOK t) {m : Int} (hm : 1 ≤ m) (hM : m ≤ 1000000) : ∃ r t', g_scene_Tape_Bool t m = some (r, t') ∧ TapeOK t' := by
  unfold g_scene_Tape_Bool
  obtain ⟨r, t1, e1, r0, r1, h1⟩ := next_ok h hm hM
  rw [e1, obind]
  exact ⟨_, _, rfl, h1⟩

/-- What is made. -/
structure Made32 (t : GTerms) (w : GWater) (ls : List GLot) (g : GRat) (d : Int) : Prop where
  tm : TermsM t
  wm : WaterM w
  gm : G 23 g
  pos : 0 < toQ g
  len : ls.length ≤ 4
  lots : LotsM 204 ls
  d0 : 800 ≤ d
  d1 : d < 1300

theorem scaled_ok {w : GWater} (hw : WaterM w) {r : Int} (r0 : 0 ≤ r) (r1 : r < 100) :
    ∃ c, g_exact_Over (IntKind.i64.wrap (60 + r)) 100 = some (c, 0) ∧ G 8 c ∧ 0 < toQ c ∧ ∃ m, mulR w.1 c = (m, 0) ∧ G 23 m ∧ 0 < toQ m := by
  rw [wrap_i64 (by omega) (by omega)]
  obtain ⟨c, ec, gc, qc⟩ := over_ok (n := 60 + r) (d := 100) (k := 8) (by unfold I64; omega) (by unfold I64; omega) (by omega) (by omega) (by omega) (by omega)
  have cp : 0 < toQ c := by rw [qc]; exact div_pos' (by omega) (by omega)
  obtain ⟨m, em, gm, qm⟩ := g_mul hw.mark gc (by omega)
  exact ⟨c, ec, gc, cp, m, em, gm, by rw [qm]; exact Rat.mul_pos hw.pos cp⟩

theorem made32_loop {n : Int} (n0 : 0 ≤ n) (n4 : n ≤ 4) {w : GWater} (hw : WaterM w) {x0 y0 : GTape} (hx : TapeOK x0) :
    ∃ e ls s i y, loopD (g_law32_made_L8 (n, y0) (w, x0)) ((([] : List GLot), ((0 : Int), (0 : Int))), x0) = some (e, ((ls, (s, i)), y)) ∧ ls.length ≤ 4 ∧ LotsM 204 ls ∧ TapeOK y := by
  obtain ⟨e, t, h1, h2⟩ := loopD_up (body := g_law32_made_L8 (n, y0) (w, x0)) n.toNat
    (fun i s => ∃ ls b y, s = ((ls, (b, (i : Int))), y) ∧ ls.length = i ∧ LotsM b ls ∧ 0 ≤ b ∧ b ≤ 51 * (i : Int) ∧ TapeOK y)
    (fun e s => ∃ ls b i y, s = ((ls, (b, i)), y) ∧ ls.length ≤ 4 ∧ LotsM 204 ls ∧ TapeOK y)
    (fun i s hi hI => by
      obtain ⟨ls, b, y, es, hl, hL, b0, b1, hy⟩ := hI
      subst es
      unfold g_law32_made_L8
      dsimp only
      rw [decide_eq_true (show (i : Int) < n by omega), cT]
      obtain ⟨r, t1, e1, r0, r1, h1⟩ := next_ok hy (m := 50) (by omega) (by omega)
      rw [e1, obind]
      dsimp only
      rw [wrap_i64 (n := b + 1) (by omega) (by omega), wrap_i64 (n := b + 1 + r) (by omega) (by omega)]
      obtain ⟨q, t2, e2, h2⟩ := bool_ok h1 (m := 3) (by omega) (by omega)
      rw [e2, obind]
      dsimp only
      cases q with
      | false =>
        rw [nF, cT]
        unfold g_exact_Of
        rw [obind]
        obtain ⟨r8, t3, e3, r80, r81, h3⟩ := next_ok h2 (m := 100) (by omega) (by omega)
        rw [e3, obind]
        dsimp only
        obtain ⟨c, ec, gc, cp, m, em, gm, mp⟩ := scaled_ok hw r80 r81
        rw [ec, obind, exactMul_ok (a := (w.1, 0)) (b := (c, 0)) hw.mark.wf gc.wf, obind, step2_ok, em]
        obtain ⟨r11, t4, e4, r110, r111, h4⟩ := next_ok h3 (m := 800) (by omega) (by omega)
        rw [e4, obind]
        dsimp only
        rw [app_one (by rw [hl]; omega), cF, wrap_i64 (by omega) (by omega)]
        refine ⟨_, rfl, ls ++ [(b + 1 + r, (m, r11))], b + 1 + r, t4, ?_, by simp [-List.getD_eq_getElem?_getD, hl], hL.snoc b0 ⟨⟨gm, mp, r110⟩, r111⟩ rfl (by omega), by omega, by omega, h4⟩
        rw [show ((i + 1 : Nat) : Int) = (i : Int) + 1 by omega]
      | true =>
        rw [nT, cF, app_one (by rw [hl]; omega), cF, wrap_i64 (by omega) (by omega)]
        refine ⟨_, rfl, ls ++ [(b + 1 + r, w)], b + 1 + r, t2, ?_, by simp [-List.getD_eq_getElem?_getD, hl], hL.snoc b0 ⟨⟨hw.mark.mono (by omega), hw.pos, hw.s0⟩, hw.s1⟩ rfl (by omega), by omega, by omega, h2⟩
        rw [show ((i + 1 : Nat) : Int) = (i : Int) + 1 by omega])
    (fun s hI => by
      obtain ⟨ls, b, y, es, hl, hL, b0, b1, hy⟩ := hI
      subst es
      unfold g_law32_made_L8
      dsimp only
      rw [decide_eq_false (show ¬ ((n.toNat : Nat) : Int) < n by omega), cF]
      exact ⟨0, _, rfl, ls, b, _, y, rfl, by omega, ⟨hL.lot, hL.lo, fun x hx => by have := hL.hi x hx; omega, hL.ord⟩, hy⟩)
    (s := (([], (0, 0)), x0)) ⟨[], 0, x0, rfl, rfl, LotsM.nil, by omega, by omega, hx⟩
  obtain ⟨ls, b, i, y, es, hl, hL, hy⟩ := h2
  subst es
  exact ⟨e, ls, b, i, y, h1, hl, hL, hy⟩

theorem made32_loop' {n : Int} (n0 : 0 ≤ n) (n4 : n ≤ 4) {w : GWater} (hw : WaterM w) {x0 y0 z0 : GTape} (hx : TapeOK x0) :
    ∃ e ls s i y, loopD (g_law32_made_L8 (n, y0) (w, z0)) ((([] : List GLot), ((0 : Int), (0 : Int))), x0) = some (e, ((ls, (s, i)), y)) ∧ ls.length ≤ 4 ∧ LotsM 204 ls ∧ TapeOK y :=
  made32_loop n0 n4 hw hx

theorem made32 {l : List Int} (hl : TapeOK (l, 0)) : ∃ t w ls g d, g_law32_made l = some (t, (w, (ls, (g, d)))) ∧ Made32 t w ls g d := by
  unfold g_law32_made g_exact_Of
  obtain ⟨t, t1, e1, ht, h1⟩ := terms_ok hl
  rw [e1, obind]
  dsimp only
  obtain ⟨w, t2, e2, hw, h2⟩ := water_ok h1
  rw [e2, obind, obind]
  dsimp only
  obtain ⟨r, t3, e3, r0, r1, h3⟩ := next_ok h2 (m := 100) (by omega) (by omega)
  rw [e3, obind]
  dsimp only
  obtain ⟨c, ec, gc, cp, m, em, gm, mp⟩ := scaled_ok hw r0 r1
  rw [ec, obind, exactMul_ok (a := (w.1, 0)) (b := (c, 0)) hw.mark.wf gc.wf, obind, step2_ok, em]
  obtain ⟨n, t4, e4, n0, n1, h4⟩ := next_ok h3 (m := 5) (by omega) (by omega)
  rw [e4, obind]
  dsimp only
  obtain ⟨e, ls, s, i, y, e5, hlen, hL, hy⟩ := made32_loop' n0 (by omega) hw (y0 := t4) (z0 := t2) h4
  rw [e5, obind]
  dsimp only
  obtain ⟨k, t6, e6, k0, k1, h6⟩ := next_ok hy (m := 500) (by omega) (by omega)
  rw [e6, obind]
  dsimp only
  rw [wrap_i64 (by omega) (by omega)]
  exact ⟨t, w, ls, m, 800 + k, rfl, ht, hw, gm, mp, hlen, hL, by omega, by omega⟩

end Go.Ev

namespace Go.Ev
set_option linter.unusedVariables false
set_option linter.unusedSimpArgs false

theorem zLot_eq : ((0 : Int), ((((false, List.replicate 32 (0 : Int)), (false, List.replicate 32 (0 : Int))) : GRat), (0 : Int))) = zLot := by
  unfold zLot; rw [zRat_eq]

theorem getD_lt {α : Type} (l : List α) {i : Nat} (h : i < l.length) (z : α) : l.getD i z = l[i] := by simp [-List.getD_eq_getElem?_getD, List.getD, h]

/-- The marks of lots are valid. -/
structure RightL (ls : List GLot) : Prop where
  len : ls.length ≤ 256
  wf : ∀ x ∈ ls, WFW x.2
  chk : ∀ x ∈ ls, chkW x.2 = 0
  lo : ∀ x ∈ ls, 0 ≤ x.1
  hi : ∀ x ∈ ls, x.1 ≤ 73048
  ord : ls.Pairwise (fun x y => x.1 < y.1)

theorem LotsM.right {b : Int} {ls : List GLot} (h : LotsM b ls) (hb : b ≤ 73048) (hl : ls.length ≤ 256) : RightL ls :=
  ⟨hl, fun x hx => (h.lot x hx).w.wf (by have := (h.lot x hx).s1; omega), fun x hx => (h.lot x hx).w.chk (by have := (h.lot x hx).s1; omega), fun x hx => by have := h.lo x hx; omega, fun x hx => by have := h.hi x hx; omega, h.ord⟩

theorem right_ok {ls : List GLot} (h : RightL ls) : g_equalisation_right ls = some true := by
  have hlen := h.len
  unfold g_equalisation_right
  rw [decide_eq_false (show ¬ (ls.length : Int) > 256 by omega), cF]
  obtain ⟨e, t, h1, h2⟩ := loopD_up (body := g_equalisation_right_L4 ls) ls.length (fun i s => s = ((false, (i : Int)), ())) (fun e s => e = 1)
    (fun i s hi hI => by
      subst hI
      refine ⟨_, ?_, rfl⟩
      have hm : ls[i] ∈ ls := List.getElem_mem hi
      unfold g_equalisation_right_L4
      dsimp only
      rw [zLot_eq, decide_eq_true (show (i : Int) < (ls.length : Int) by omega), cT, inb_true (by omega) (by omega), cT]
      rw [show ((i : Int)).toNat = i by omega, getD_lt ls hi]
      have a := h.lo _ hm
      have b := h.hi _ hm
      rw [decide_eq_false (by omega), cF, decide_eq_false (by omega), cF, checkW_ok (h.wf _ hm), obind, h.chk _ hm, show ((0 : Int) != 0) = false from rfl, cF, wrap_i64 (n := (i : Int) + 1) (by omega) (by omega)]
      rw [show ((i + 1 : Nat) : Int) = (i : Int) + 1 by omega]
      by_cases hz : (i : Int) > 0
      · obtain ⟨j, rfl⟩ : ∃ j, i = j + 1 := ⟨i - 1, by omega⟩
        rw [decide_eq_true hz, cT, wrap_i64 (by omega) (by omega), inb_true (by omega) (by omega), cT, show (((j + 1 : Nat) : Int) - 1).toNat = j by omega, getD_lt ls (show j < ls.length by omega)]
        have := List.pairwise_iff_getElem.1 h.ord j (j + 1) (by omega) hi (by omega)
        rw [decide_eq_false (by omega), cF]
      · rw [decide_eq_false hz, cF])
    (fun s hI => by
      subst hI
      refine ⟨1, ((false, (ls.length : Int)), ()), ?_, rfl⟩
      unfold g_equalisation_right_L4
      dsimp only
      rw [decide_eq_false (show ¬ (ls.length : Int) < (ls.length : Int) by omega), cF])
    (s := ((false, 0), ())) rfl
  rw [h1, obind]
  subst h2
  rfl

/-! ### One lot -/

/-- What becomes of a lot: its adjustment and its mark, or an error. -/
noncomputable def lotS (t : GTerms) (c : GWater) (g : GRat) (d : Int) (f n : GRat) (x : GLot) : (GRat × GLot) × Int :=
  if (adjS t c x.2 g d).2 ≠ 0 then ((zRat, zLot), (adjS t c x.2 g d).2)
  else if (feeS t x.2 g d).1 = wholeR 0 then
    (if f = wholeR 0 then (((adjS t c x.2 g d).1, x), 0)
     else if (step2 mulR (x.2.1, 0) (quoR n g)).2 ≠ 0 then ((zRat, zLot), (step2 mulR (x.2.1, 0) (quoR n g)).2)
     else if (quantR (step2 mulR (x.2.1, 0) (quoR n g)).1).2 ≠ 0 then ((zRat, zLot), (quantR (step2 mulR (x.2.1, 0) (quoR n g)).1).2)
     else (((adjS t c x.2 g d).1, (x.1, ((quantR (step2 mulR (x.2.1, 0) (quoR n g)).1).1, x.2.2))), 0))
  else if (quantR n).2 ≠ 0 then ((zRat, zLot), (quantR n).2)
  else (((adjS t c x.2 g d).1, (x.1, ((quantR n).1, d))), 0)

/-- The marks after the first i lots. -/
noncomputable def marksAt (M : GLot → GLot) (ls : List GLot) (i : Nat) : List GLot := ((ls.take i).map M ++ ls.drop i) ++ List.replicate (256 - ls.length) zLot

theorem marksAt_get {M : GLot → GLot} {ls : List GLot} {i : Nat} (h : i < ls.length) : marksAt M ls i = ((ls.take i).map M) ++ ls[i] :: (ls.drop (i + 1) ++ List.replicate (256 - ls.length) zLot) := by
  unfold marksAt
  rw [List.drop_eq_getElem_cons h, List.append_assoc, List.cons_append]

theorem take_succ' {α : Type} {ls : List α} {i : Nat} (h : i < ls.length) : ls.take (i + 1) = ls.take i ++ [ls[i]] := by simp [-List.getD_eq_getElem?_getD]

theorem marksAt_succ {M : GLot → GLot} {ls : List GLot} {i : Nat} (h : i < ls.length) : marksAt M ls (i + 1) = ((ls.take i).map M) ++ M ls[i] :: (ls.drop (i + 1) ++ List.replicate (256 - ls.length) zLot) := by
  unfold marksAt
  rw [take_succ' h, List.map_append, List.append_assoc, List.append_assoc]
  rfl

theorem set_mid {α : Type} {a b : List α} {x y : α} {i : Nat} (h : a.length = i) : (a ++ x :: b).set i y = a ++ y :: b := by
  subst h; simp [-List.getD_eq_getElem?_getD]

theorem getD_mid {α : Type} {a b : List α} {x z : α} {i : Nat} (h : a.length = i) : (a ++ x :: b).getD i z = x := by
  subst h; simp [-List.getD_eq_getElem?_getD, List.getD]

theorem marksAt_set {M : GLot → GLot} {ls : List GLot} {i : Nat} (h : i < ls.length) {y : GLot} (hy : M ls[i] = y) : (marksAt M ls i).set i y = marksAt M ls (i + 1) := by
  rw [marksAt_get h, marksAt_succ h, set_mid (by simp [-List.getD_eq_getElem?_getD]; omega), hy]

theorem marksAt_getD {M : GLot → GLot} {ls : List GLot} {i : Nat} (h : i < ls.length) (z : GLot) : (marksAt M ls i).getD i z = ls[i] := by
  rw [marksAt_get h, getD_mid (by simp [-List.getD_eq_getElem?_getD]; omega)]

theorem marksAt_keep {M : GLot → GLot} {ls : List GLot} {i : Nat} (h : i < ls.length) (hy : M ls[i] = ls[i]) : marksAt M ls i = marksAt M ls (i + 1) := by
  rw [marksAt_get h, marksAt_succ h, hy]

theorem copyL_all {α : Type} {ls : List α} {N : Nat} {z : α} (h : ls.length ≤ N) : copyL (List.replicate N z) ls 0 (N : Int) = ls ++ List.replicate (N - ls.length) z := by
  unfold copyL
  rw [show ((0 : Int)).toNat = 0 from rfl, show ((N : Int) - 0).toNat = N by omega, Nat.min_eq_left h, List.take_of_length_le h, List.take_zero, List.nil_append, Nat.zero_add, List.drop_replicate]

theorem marksAt_zero {M : GLot → GLot} {ls : List GLot} (h : ls.length ≤ 256) : marksAt M ls 0 = copyL (List.replicate 256 zLot) ls 0 256 := by
  rw [show (256 : Int) = ((256 : Nat) : Int) from rfl, copyL_all h]
  unfold marksAt
  rw [List.take_zero, List.drop_zero, List.map_nil, List.nil_append]

theorem marksAt_end {M : GLot → GLot} {ls : List GLot} : (((marksAt M ls ls.length).drop ((0 : Int)).toNat).take ((ls.length : Int) - 0).toNat) = ls.map M := by
  unfold marksAt
  rw [show ((0 : Int)).toNat = 0 from rfl, show ((ls.length : Int) - 0).toNat = ls.length by omega]
  simp [-List.getD_eq_getElem?_getD]

/-- The state of the loop. -/
noncomputable def cryAt (A : GLot → GRat) (M : GLot → GLot) (ls : List GLot) (i : Nat) : ((List GRat × (List GLot × (Int × (List GRat × Int)))) × (GRat × (GWater × List GLot))) :=
  (([], ([], (0, ((ls.take i).map A, (i : Int))))), (zRat, ((zRat, 0), marksAt M ls i)))

structure CryArgs (t : GTerms) (c : GWater) (g : GRat) (f n : GRat) (ls : List GLot) : Prop where
  ht : WFT t
  hc : WFW c
  hg : WFR g
  hf : WFR f
  hn : WFR n
  len : ls.length ≤ 256
  wf : ∀ x ∈ ls, WFW x.2

theorem cry_step {t : GTerms} {c : GWater} {g : GRat} {d : Int} {f n : GRat} {ls : List GLot} {A : GLot → GRat} {M : GLot → GLot} {cw : GWater × Int} {e : Int} (ha : CryArgs t c g f n ls) {i : Nat} (hi : i < ls.length)
    (h0 : (lotS t c g d f n ls[i]).2 = 0) (hA : A ls[i] = (lotS t c g d f n ls[i]).1.1) (hM : M ls[i] = (lotS t c g d f n ls[i]).1.2) :
    g_equalisation_Crystallise_L14 t c ls g d (f, cw) (n, e) (cryAt A M ls i) = some (.more (cryAt A M ls (i + 1))) := by
  have hlen := ha.len
  have hm : ls[i] ∈ ls := List.getElem_mem hi
  have hw := ha.wf _ hm
  have hq := quoR_wf n g
  have hp : WFR (step2 mulR (ls[i].2.1, 0) (quoR n g)).1 := step2_wf mulR_wf _ _
  have hadj := Adjust_ok (d := d) ha.ht ha.hc hw ha.hg
  have hfee := Fee_ok (d := d) ha.ht hw ha.hg
  have hlen2 : ((ls.take i).map A).length = i := by rw [List.length_map, List.length_take]; omega
  have hmap : (ls.take i).map A ++ [A ls[i]] = (ls.take (i + 1)).map A := by rw [take_succ' hi, List.map_append]; rfl
  have hI : IntKind.i64.wrap ((i : Int) + 1) = ((i + 1 : Nat) : Int) := by rw [wrap_i64 (by omega) (by omega)]; omega
  unfold g_equalisation_Crystallise_L14 cryAt
  dsimp only
  rw [zLot_eq, zRat_eq, decide_eq_true (show (i : Int) < (ls.length : Int) by omega), cT, inb_true (by omega) (by omega), cT]
  rw [show ((i : Int)).toNat = i by omega, getD_lt ls hi, hadj, obind, bne_dec]
  unfold lotS at h0 hA hM
  by_cases ae : (adjS t c ls[i].2 g d).2 ≠ 0
  · rw [if_pos ae] at h0; exact absurd h0 ae
  rw [if_neg ae] at h0 hA hM
  rw [decide_eq_false ae, cF, app_one (by rw [hlen2]; omega), cF, hfee, obind, Whole_ok i64_0, obind, eqB, cond_dec]
  by_cases oe : (feeS t ls[i].2 g d).1 = wholeR 0
  · rw [if_pos oe] at h0 hA hM
    rw [if_pos oe, obind, eqB, cond_dec]
    by_cases fe : f = wholeR 0
    · rw [if_pos fe] at h0 hA hM
      rw [if_pos fe, ← hA, hmap, hI, marksAt_keep hi hM]
    · rw [if_neg fe] at h0 hA hM
      rw [if_neg fe, shrink_ok hw.mark ha.hn ha.hg, obind, bne_dec]
      generalize step2 mulR (ls[i].2.1, 0) (quoR n g) = p at *
      by_cases pe : p.2 ≠ 0
      · rw [if_pos pe] at h0; exact absurd h0 pe
      rw [if_neg pe] at h0 hA hM
      rw [decide_eq_false pe, cF, quantize_ok hp, obind, bne_dec]
      by_cases qe : (quantR p.1).2 ≠ 0
      · rw [if_pos qe] at h0; exact absurd h0 qe
      rw [if_neg qe] at h0 hA hM
      rw [decide_eq_false qe, cF]
      unfold g_equalisation_Crystallise_E155
      dsimp only
      rw [zLot_eq, inb_true (by omega) (by omega), cT, show ((i : Int)).toNat = i by omega, marksAt_getD hi, marksAt_set hi hM, ← hA, hmap, hI]
  · rw [if_neg oe] at h0 hA hM
    rw [if_neg oe, quantize_ok ha.hn, obind, bne_dec]
    by_cases qe : (quantR n).2 ≠ 0
    · rw [if_pos qe] at h0; exact absurd h0 qe
    rw [if_neg qe] at h0 hA hM
    rw [decide_eq_false qe, cF]
    unfold g_equalisation_Crystallise_E155_2
    dsimp only
    rw [zLot_eq, inb_true (by omega) (by omega), cT, show ((i : Int)).toNat = i by omega, marksAt_getD hi, marksAt_set hi hM, ← hA, hmap, hI]

theorem cry_fail {t : GTerms} {c : GWater} {g : GRat} {d : Int} {f n : GRat} {ls : List GLot} {A : GLot → GRat} {M : GLot → GLot} {cw : GWater × Int} {e : Int} (ha : CryArgs t c g f n ls) {i : Nat} (hi : i < ls.length)
    (h0 : (lotS t c g d f n ls[i]).2 ≠ 0) :
    ∃ B j, g_equalisation_Crystallise_L14 t c ls g d (f, cw) (n, e) (cryAt A M ls i) = some (.out 0 (([], ([], ((lotS t c g d f n ls[i]).2, (B, j)))), (zRat, ((zRat, 0), marksAt M ls i)))) := by
  have hlen := ha.len
  have hm : ls[i] ∈ ls := List.getElem_mem hi
  have hw := ha.wf _ hm
  have hp : WFR (step2 mulR (ls[i].2.1, 0) (quoR n g)).1 := step2_wf mulR_wf _ _
  have hadj := Adjust_ok (d := d) ha.ht ha.hc hw ha.hg
  have hfee := Fee_ok (d := d) ha.ht hw ha.hg
  have hlen2 : ((ls.take i).map A).length = i := by rw [List.length_map, List.length_take]; omega
  unfold g_equalisation_Crystallise_L14 cryAt
  dsimp only
  rw [zLot_eq, zRat_eq, decide_eq_true (show (i : Int) < (ls.length : Int) by omega), cT, inb_true (by omega) (by omega), cT]
  rw [show ((i : Int)).toNat = i by omega, getD_lt ls hi, hadj, obind, bne_dec]
  unfold lotS at h0 ⊢
  by_cases ae : (adjS t c ls[i].2 g d).2 ≠ 0
  · rw [if_pos ae]
    rw [decide_eq_true ae, cT]
    exact ⟨_, _, rfl⟩
  rw [if_neg ae] at h0 ⊢
  rw [decide_eq_false ae, cF, app_one (by rw [hlen2]; omega), cF, hfee, obind, Whole_ok i64_0, obind, eqB, cond_dec]
  by_cases oe : (feeS t ls[i].2 g d).1 = wholeR 0
  · rw [if_pos oe] at h0 ⊢
    rw [if_pos oe, obind, eqB, cond_dec]
    by_cases fe : f = wholeR 0
    · rw [if_pos fe] at h0; exact absurd rfl h0
    · rw [if_neg fe] at h0 ⊢
      rw [if_neg fe, shrink_ok hw.mark ha.hn ha.hg, obind, bne_dec]
      generalize step2 mulR (ls[i].2.1, 0) (quoR n g) = p at *
      by_cases pe : p.2 ≠ 0
      · rw [if_pos pe, decide_eq_true pe, cT]
        exact ⟨_, _, rfl⟩
      rw [if_neg pe] at h0 ⊢
      rw [decide_eq_false pe, cF, quantize_ok hp, obind, bne_dec]
      by_cases qe : (quantR p.1).2 ≠ 0
      · rw [if_pos qe, decide_eq_true qe, cT]
        unfold g_equalisation_Crystallise_T155
        rw [zRat_eq]
        exact ⟨_, _, rfl⟩
      rw [if_neg qe] at h0; exact absurd rfl h0
  · rw [if_neg oe] at h0 ⊢
    rw [if_neg oe, quantize_ok ha.hn, obind, bne_dec]
    by_cases qe : (quantR n).2 ≠ 0
    · rw [if_pos qe, decide_eq_true qe, cT]
      unfold g_equalisation_Crystallise_T155
      rw [zRat_eq]
      exact ⟨_, _, rfl⟩
    rw [if_neg qe] at h0; exact absurd rfl h0

theorem cryS_wf (t : GTerms) (w : GWater) (g : GRat) (d : Int) : WFR (cryS t w g d).1 := by
  have h := feeS_wf t w g d
  unfold cryS
  split
  · split
    · exact h
    · split
      · split
        · exact h
        · exact wfr_zRat
      · exact wfr_zRat
  · exact wfr_zRat

/-- CRYSTALLISE, of lots that all go well. -/
theorem cryst_ok {t : GTerms} {c c' : GWater} {g : GRat} {d : Int} {f n : GRat} {ls : List GLot} (ht : WFT t) (hc : WFW c) (hg : WFR g) (hr : RightL ls) (h1 : cryS t c g d = (f, (c', 0))) (h2 : subR g f = (n, 0))
    (h3 : ∀ x ∈ ls, (lotS t c g d f n x).2 = 0) :
    g_equalisation_Crystallise t c ls g d = some (f, (c', (ls.map (fun x => (lotS t c g d f n x).1.1), (ls.map (fun x => (lotS t c g d f n x).1.2), 0)))) := by
  have hlen := hr.len
  have hf : WFR f := by
    have := cryS_wf t c g d
    rw [h1] at this
    exact this
  have hn : WFR n := by have := subR_wf g f; rw [h2] at this; exact this
  have ha : CryArgs t c g f n ls := ⟨ht, hc, hg, hf, hn, hr.len, hr.wf⟩
  obtain ⟨e, s, k1, k2⟩ := loopD_up (body := g_equalisation_Crystallise_L14 t c ls g d (f, (c', 0)) (n, 0)) ls.length
    (fun i s => s = cryAt (fun x => (lotS t c g d f n x).1.1) (fun x => (lotS t c g d f n x).1.2) ls i)
    (fun e s => e = 1 ∧ s = cryAt (fun x => (lotS t c g d f n x).1.1) (fun x => (lotS t c g d f n x).1.2) ls ls.length)
    (fun i s hi hI => by
      subst hI
      exact ⟨_, cry_step ha hi (h3 _ (List.getElem_mem hi)) rfl rfl, rfl⟩)
    (fun s hI => by
      subst hI
      refine ⟨1, cryAt (fun x => (lotS t c g d f n x).1.1) (fun x => (lotS t c g d f n x).1.2) ls ls.length, ?_, rfl, rfl⟩
      unfold g_equalisation_Crystallise_L14 cryAt
      dsimp only
      rw [decide_eq_false (show ¬ (ls.length : Int) < (ls.length : Int) by omega), cF])
    (s := cryAt (fun x => (lotS t c g d f n x).1.1) (fun x => (lotS t c g d f n x).1.2) ls 0) rfl
  obtain ⟨k2, k3⟩ := k2
  subst k2 k3
  unfold cryAt at k1
  rw [marksAt_zero hlen, List.take_zero, List.map_nil] at k1
  unfold g_equalisation_Crystallise
  rw [Crystallise_ok ht hc hg, obind, h1, zLot_eq, zRat_eq]
  dsimp only
  rw [show ((0 : Int) != 0) = false from rfl, cF, right_ok hr, obind, nT, cF, subR_ok hg hf, obind, h2]
  dsimp only
  rw [show ((0 : Int) != 0) = false from rfl, cF, show (decide (0 ≤ (0 : Int) ∧ (0 : Int) ≤ (256 : Int) ∧ (256 : Int) ≤ (256 : Int))) = true from rfl, cT]
  have e0 : (((0 : Nat) : Int)) = 0 := rfl
  rw [e0] at k1
  rw [k1, obind]
  dsimp only
  rw [show Nat.beq 1 0 = false from rfl, cF, decide_eq_true (show (0 ≤ (0 : Int) ∧ (0 : Int) ≤ (ls.length : Int) ∧ (ls.length : Int) ≤ (256 : Int)) by omega), cT, marksAt_end, List.take_length]
  have : Nat.ble ((ls.map (fun x => (lotS t c g d f n x).1.2)).length * 280) appLim = true := Nat.ble_eq_true_of_le (by rw [List.length_map]; unfold appLim; omega)
  rw [this, cT]

end Go.Ev

namespace Go.Ev
set_option linter.unusedVariables false
set_option linter.unusedSimpArgs false

theorem whole0_G : G 1 (wholeR 0) ∧ toQ (wholeR 0) = 0 := by
  obtain ⟨g1, v1⟩ := g_whole (n := 0) (k := 1) i64_0 (by decide) (by omega)
  exact ⟨g1, v1⟩

theorem eq_whole0 {k : Nat} {o : GRat} (h : G k o) : o = wholeR 0 ↔ toQ o = 0 := by
  obtain ⟨g1, v1⟩ := whole0_G
  constructor
  · intro e; rw [e]; exact v1
  · intro e; exact made_ext h.made g1.made (by rw [e, v1])

abbrev tiny : Rat := 1 / ((1000000000 : Int) : Rat)

/-- What becomes of a good lot. -/
structure LotR (t : GTerms) (c : GWater) (g : GRat) (d : Int) (f n : GRat) (x : GLot) (o a : GRat) : Prop where
  own : feeS t x.2 g d = (o, 0)
  go : G 106 o
  vo : toQ o = feeQ t x.2 g d
  o0 : 0 ≤ toQ o
  adj : subR f o = (a, 0)
  ga : G 205 a
  va : toQ a = toQ f - toQ o
  res : (toQ o ≠ 0 ∧ ∃ q, G 154 q ∧ toQ n ≤ toQ q ∧ toQ q < toQ n + tiny ∧ lotS t c g d f n x = ((a, (x.1, (q, d))), 0)) ∨
    (toQ o = 0 ∧ toQ f = 0 ∧ lotS t c g d f n x = ((a, x), 0)) ∨
    (toQ o = 0 ∧ toQ f ≠ 0 ∧ ∃ q, G 200 q ∧ toQ x.2.1 * (toQ n / toQ g) ≤ toQ q ∧ toQ q < toQ x.2.1 * (toQ n / toQ g) + tiny ∧ lotS t c g d f n x = ((a, (x.1, (q, x.2.2))), 0))

theorem lotS_G {t : GTerms} {c : GWater} {g : GRat} {d : Int} {f n : GRat} {x : GLot} (ht : TermsM t) (hx : Wok 23 x.2) (hg : G 23 g) (gp : 0 < toQ g) (d0 : x.2.2 ≤ d) (d1 : d ≤ 73048)
    (hf : feeS t c g d = (f, 0)) (gf : G 98 f) (hn : subR g f = (n, 0)) (gn : G 122 n) : ∃ o a, LotR t c g d f n x o a := by
  obtain ⟨o, eo, go, vo⟩ := feeS_G ht hx hg gp (by omega) d0 d1
  obtain ⟨a, ea, ga, va⟩ := g_sub gf go (by omega)
  have hadj : adjS t c x.2 g d = (a, 0) := by
    unfold adjS
    rw [hf, eo]
    dsimp only
    rw [if_pos rfl, if_pos rfl, ea]
  have gp' : toQ g ≠ 0 := by grind
  refine ⟨o, a, eo, go, vo, by rw [vo]; exact feeQ_nonneg ht, ea, ga, va, ?_⟩
  unfold lotS
  rw [hadj, eo]
  dsimp only
  rw [if_neg (by omega)]
  by_cases ho : toQ o = 0
  · rw [if_pos ((eq_whole0 go).2 ho)]
    by_cases hf0 : toQ f = 0
    · rw [if_pos ((eq_whole0 gf).2 hf0)]
      exact .inr (.inl ⟨ho, hf0, rfl⟩)
    · rw [if_neg (fun e => hf0 ((eq_whole0 gf).1 e))]
      obtain ⟨p, ep, gpp, vp⟩ := g_quo gn hg (by omega) gp'
      obtain ⟨m, em, gm, vm⟩ := g_mul hx.mark gpp (by omega)
      obtain ⟨q, eq, gq, q1, q2⟩ := quant_G gm (by omega)
      rw [ep, step2_ok, em]
      dsimp only
      rw [if_neg (by omega), eq]
      dsimp only
      rw [if_neg (by omega)]
      refine .inr (.inr ⟨ho, hf0, q, gq, by rw [← vp, ← vm]; exact q1, by rw [← vp, ← vm]; exact q2, rfl⟩)
  · rw [if_neg (fun e => ho ((eq_whole0 go).1 e))]
    obtain ⟨q, eq, gq, q1, q2⟩ := quant_G gn (by omega)
    rw [eq]
    dsimp only
    rw [if_neg (by omega)]
    exact .inl ⟨ho, q, gq, q1, q2, rfl⟩

/-- All of a made period. -/
structure Period (t : GTerms) (c : GWater) (ls : List GLot) (g : GRat) (d : Int) (f n : GRat) (c' : GWater) : Prop where
  fee : feeS t c g d = (f, 0)
  gf : G 98 f
  vf : toQ f = feeQ t c g d
  f0 : 0 ≤ toQ f
  net : subR g f = (n, 0)
  gn : G 122 n
  vn : toQ n = toQ g - toQ f
  next : (toQ f = 0 ∧ c' = c) ∨ (0 < toQ f ∧ ∃ q, c' = (q, d) ∧ G 154 q ∧ toQ n ≤ toQ q ∧ toQ q < toQ n + tiny)
  cry : g_equalisation_Crystallise t c ls g d = some (f, (c', (ls.map (fun x => (lotS t c g d f n x).1.1), (ls.map (fun x => (lotS t c g d f n x).1.2), 0))))
  lot : ∀ x ∈ ls, ∃ o a, LotR t c g d f n x o a

theorem period_ok {t : GTerms} {c : GWater} {ls : List GLot} {g : GRat} {d : Int} (m : Made32 t c ls g d) : ∃ f n c', Period t c ls g d f n c' := by
  have s0 := m.wm.s0
  have s1 := m.wm.s1
  have d0 := m.d0
  have d1 := m.d1
  have hw := m.wm.ok
  have ww := hw.wf (by omega)
  obtain ⟨f, ef, gf, vf, hc⟩ := cryS_G m.tm hw m.gm m.pos (by omega) (show c.2 ≤ d by omega) (show d ≤ 73048 by omega)
  obtain ⟨n, en, gn, vn⟩ := g_sub m.gm gf (by omega)
  have lots : ∀ x ∈ ls, ∃ o a, LotR t c g d f n x o a := fun x hx => by
    have l := m.lots.lot x hx
    have := l.s1
    exact lotS_G m.tm l.w m.gm m.pos (by omega) (by omega) ef gf en gn
  have l0 : ∀ x ∈ ls, (lotS t c g d f n x).2 = 0 := fun x hx => by
    obtain ⟨o, a, h⟩ := lots x hx
    rcases h.res with ⟨_, q, _, _, _, e⟩ | ⟨_, _, e⟩ | ⟨_, _, q, _, _, _, e⟩ <;> rw [e]
  have hr := m.lots.right (by omega) (by have := m.len; omega)
  have f0 : 0 ≤ toQ f := by rw [vf]; exact feeQ_nonneg m.tm
  rcases hc with ⟨h0, h⟩ | ⟨hpos, nt, q, en', gnt, vnt, eq, gq, q1, q2, h⟩
  · exact ⟨f, n, c, ef, gf, vf, f0, en, gn, vn, .inl ⟨h0, rfl⟩, cryst_ok m.tm.wf ww m.gm.wf hr h en l0, lots⟩
  · rw [en] at en'
    injection en' with en' _
    subst en'
    exact ⟨f, n, (q, d), ef, gf, vf, f0, en, gn, vn, .inr ⟨hpos, q, rfl, gq, q1, q2⟩, cryst_ok m.tm.wf ww m.gm.wf hr h en l0, lots⟩

theorem getD_map {α β : Type} (l : List α) (F : α → β) {i : Nat} (h : i < l.length) (z : β) : (l.map F).getD i z = F l[i] := by simp [-List.getD_eq_getElem?_getD, List.getD, h]

theorem sign_zero {k : Nat} {a : GRat} (h : G k a) : (signR a).1 = 0 ↔ toQ a = 0 := by
  rcases sign_Q h.v with ⟨q, e⟩ | ⟨q, e⟩ | ⟨q, e⟩
  · rw [e]; constructor
    · intro; omega
    · intro; grind
  · rw [e]; simp [-List.getD_eq_getElem?_getD, q]
  · rw [e]; constructor
    · intro; omega
    · intro; grind

theorem LotR.a1 {t : GTerms} {c : GWater} {g : GRat} {d : Int} {f n : GRat} {x : GLot} {o a : GRat} (h : LotR t c g d f n x o a) : (lotS t c g d f n x).1.1 = a := by
  rcases h.res with ⟨_, q, _, _, _, e⟩ | ⟨_, _, e⟩ | ⟨_, _, q, _, _, _, e⟩ <;> rw [e]

end Go.Ev
