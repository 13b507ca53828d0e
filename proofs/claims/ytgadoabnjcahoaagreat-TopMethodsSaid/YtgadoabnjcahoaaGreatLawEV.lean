/- The end of a period of a class with made lots: no step has an error, and the values are as written down, for all arguments. -/
import Derived.Test.YtgadoabnjcahoaaGreatLawDV
import Derived.Test.YtgadoabnjcahoaaGreatDefsDV
import Derived.Test.YtgadoabnjcahoaaGreatLawCV
set_option exponentiation.threshold 2000
namespace Go.Ev
set_option linter.unusedVariables false
set_option linter.unusedSimpArgs false

noncomputable def quoR : GRat → GRat → GRat × Int := op2 fun a b => redR (val a.1 * val b.2) (val a.2 * val b.1)

theorem quoR_wf (a b : GRat) : WFR (quoR a b).1 := op2_wf (fun _ _ => redR_wf _ _) a b
theorem Quo_ok {a b : GRat} (ha : WFR a) (hb : WFR b) : g_ratio_Quo a b = some (quoR a b) := by
  unfold g_ratio_Quo quoR op2
  rw [valid_ok ha, obind]
  by_cases va : ValidR a
  · rw [decide_eq_true va, nT, cF, valid_ok hb, obind]
    by_cases vb : ValidR b
    · have p2 := prod_MX va.kn vb.kd
      have p3 := prod_MX va.kd vb.kn
      unfold g_ratio_Quo_1
      rw [decide_eq_true vb, nT, cF, if_pos ⟨va, vb⟩, product_ok ha.num hb.den p2, obind, product_ok ha.den hb.num p3, obind, obind]
      dsimp only
      rw [make_ok (zI_wf _) (zI_wf _), obind, val_zI p2, val_zI p3]
    · rw [decide_eq_false vb, nF, cT, if_neg (fun h => vb h.2), ← zRat_eq]
  · rw [decide_eq_false va, nF, cT, if_neg (fun h => va h.1), ← zRat_eq]

theorem g_quo {k l : Nat} {a b : GRat} (ha : G k a) (hb : G l b) (hk : k + l ≤ 480) (h0 : toQ b ≠ 0) : ∃ c, quoR a b = (c, 0) ∧ G (k + l) c ∧ toQ c = toQ a / toQ b := by
  have p1 := ha.v.pos
  have p2 := hb.v.pos
  have hn0 : val b.1 ≠ 0 := by
    intro e
    apply h0
    unfold toQ
    rw [e]
    have : ((0 : Int) : Rat) = 0 := rfl
    rw [this]; grind
  have hd : val a.2 * val b.1 ≠ 0 := Int.mul_ne_zero (by omega) hn0
  obtain ⟨c, h1, h2, h3⟩ := redR_G (n := val a.1 * val b.2) hd (by rw [Int.natAbs_mul]; exact pow_mul_lt ha.sn hb.sd) (by rw [Int.natAbs_mul]; exact pow_mul_lt ha.sd hb.sn) hk
  refine ⟨c, by unfold quoR op2; rw [if_pos ⟨ha.v, hb.v⟩]; exact h1, h2, ?_⟩
  rw [h3]
  unfold toQ
  have q1 := cast_ne (show val a.2 ≠ 0 by omega)
  have q2 := cast_ne (show val b.2 ≠ 0 by omega)
  have q3 := cast_ne hn0
  rw [Rat.intCast_mul, Rat.intCast_mul]
  grind

end Go.Ev

namespace Go.Ev
set_option linter.unusedVariables false
set_option linter.unusedSimpArgs false

abbrev GLot := Int × GWater
noncomputable def zLot : GLot := (0, (zRat, 0))

/-- A good lot. -/
structure LotM (x : GLot) : Prop where
  w : Wok 23 x.2
  s1 : x.2.2 < 800

/-- Good lots in order of their series, which are at most b. -/
structure LotsM (b : Int) (ls : List GLot) : Prop where
  lot : ∀ x ∈ ls, LotM x
  lo : ∀ x ∈ ls, 1 ≤ x.1
  hi : ∀ x ∈ ls, x.1 ≤ b
  ord : ls.Pairwise (fun x y => x.1 < y.1)

theorem LotsM.nil : LotsM 0 [] := ⟨by simp [-List.getD_eq_getElem?_getD], by simp [-List.getD_eq_getElem?_getD], by simp [-List.getD_eq_getElem?_getD], by simp [-List.getD_eq_getElem?_getD]⟩

theorem LotsM.snoc {b s : Int} {ls : List GLot} (h : LotsM b ls) (b0 : 0 ≤ b) {x : GLot} (hx : LotM x) (e : x.1 = s) (hs : b < s) : LotsM s (ls ++ [x]) := by
  refine ⟨fun y hy => ?_, fun y hy => ?_, fun y hy => ?_, ?_⟩
  · rcases List.mem_append.1 hy with k | k
    · exact h.lot y k
    · rw [List.mem_singleton] at k; rw [k]; exact hx
  · rcases List.mem_append.1 hy with k | k
    · exact h.lo y k
    · rw [List.mem_singleton] at k; rw [k]; omega
  · rcases List.mem_append.1 hy with k | k
    · have := h.hi y k; omega
    · rw [List.mem_singleton] at k; rw [k]; omega
  · rw [List.pairwise_append]
    refine ⟨h.ord, by simp [-List.getD_eq_getElem?_getD], fun y hy z hz => ?_⟩
    rw [List.mem_singleton] at hz
    rw [hz]
    have := h.hi y hy; omega

theorem app_one {α : Type} {l : List α} {x : α} {n : Nat} (h : (l.length + 1) * n ≤ 140737488355328) : (List.isEmpty [x] || !(Nat.ble ((List.length l + List.length [x]) * n) appLim)) = false := by
  have e : Nat.ble ((List.length l + List.length [x]) * n) appLim = true := Nat.ble_eq_true_of_le (by simpa [-List.getD_eq_getElem?_getD, appLim] using h)
  rw [e]
  rfl

/-- What is made. -/
structure Made32 (t : GTerms) (w : GWater) (ls : List GLot) (g : GRat) (d : Int) : Prop where
  tm : TermsM t
  wm : WaterM w
  gm : G 23 g
  pos : 0 < toQ g
  len : ls.length ≤ 4
  lots : LotsM 204 ls
  d0 : 800 ≤ d
  d1 : d < 1300

end Go.Ev

namespace Go.Ev
set_option linter.unusedVariables false
set_option linter.unusedSimpArgs false

theorem getD_lt {α : Type} (l : List α) {i : Nat} (h : i < l.length) (z : α) : l.getD i z = l[i] := by simp [-List.getD_eq_getElem?_getD, List.getD, h]

/-- The marks of lots are valid. -/
structure RightL (ls : List GLot) : Prop where
  len : ls.length ≤ 256
  wf : ∀ x ∈ ls, WFW x.2
  chk : ∀ x ∈ ls, chkW x.2 = 0
  lo : ∀ x ∈ ls, 0 ≤ x.1
  hi : ∀ x ∈ ls, x.1 ≤ 73048
  ord : ls.Pairwise (fun x y => x.1 < y.1)

theorem LotsM.right {b : Int} {ls : List GLot} (h : LotsM b ls) (hb : b ≤ 73048) (hl : ls.length ≤ 256) : RightL ls :=
  ⟨hl, fun x hx => (h.lot x hx).w.wf (by have := (h.lot x hx).s1; omega), fun x hx => (h.lot x hx).w.chk (by have := (h.lot x hx).s1; omega), fun x hx => by have := h.lo x hx; omega, fun x hx => by have := h.hi x hx; omega, h.ord⟩

/-! ### One lot -/

/-- What becomes of a lot: its adjustment and its mark, or an error. -/
noncomputable def lotS (t : GTerms) (c : GWater) (g : GRat) (d : Int) (f n : GRat) (x : GLot) : (GRat × GLot) × Int :=
  if (adjS t c x.2 g d).2 ≠ 0 then ((zRat, zLot), (adjS t c x.2 g d).2)
  else if (feeS t x.2 g d).1 = wholeR 0 then
    (if f = wholeR 0 then (((adjS t c x.2 g d).1, x), 0)
     else if (step2 mulR (x.2.1, 0) (quoR n g)).2 ≠ 0 then ((zRat, zLot), (step2 mulR (x.2.1, 0) (quoR n g)).2)
     else if (quantR (step2 mulR (x.2.1, 0) (quoR n g)).1).2 ≠ 0 then ((zRat, zLot), (quantR (step2 mulR (x.2.1, 0) (quoR n g)).1).2)
     else (((adjS t c x.2 g d).1, (x.1, ((quantR (step2 mulR (x.2.1, 0) (quoR n g)).1).1, x.2.2))), 0))
  else if (quantR n).2 ≠ 0 then ((zRat, zLot), (quantR n).2)
  else (((adjS t c x.2 g d).1, (x.1, ((quantR n).1, d))), 0)

theorem set_mid {α : Type} {a b : List α} {x y : α} {i : Nat} (h : a.length = i) : (a ++ x :: b).set i y = a ++ y :: b := by
  subst h; simp [-List.getD_eq_getElem?_getD]

theorem getD_mid {α : Type} {a b : List α} {x z : α} {i : Nat} (h : a.length = i) : (a ++ x :: b).getD i z = x := by
  subst h; simp [-List.getD_eq_getElem?_getD, List.getD]

structure CryArgs (t : GTerms) (c : GWater) (g : GRat) (f n : GRat) (ls : List GLot) : Prop where
  ht : WFT t
  hc : WFW c
  hg : WFR g
  hf : WFR f
  hn : WFR n
  len : ls.length ≤ 256
  wf : ∀ x ∈ ls, WFW x.2

theorem cryS_wf (t : GTerms) (w : GWater) (g : GRat) (d : Int) : WFR (cryS t w g d).1 := by
  have h := feeS_wf t w g d
  unfold cryS
  split
  · split
    · exact h
    · split
      · split
        · exact h
        · exact wfr_zRat
      · exact wfr_zRat
  · exact wfr_zRat

end Go.Ev

namespace Go.Ev
set_option linter.unusedVariables false
set_option linter.unusedSimpArgs false

theorem whole0_G : G 1 (wholeR 0) ∧ toQ (wholeR 0) = 0 := by
  obtain ⟨g1, v1⟩ := g_whole (n := 0) (k := 1) i64_0 (by decide) (by omega)
  exact ⟨g1, v1⟩

theorem eq_whole0 {k : Nat} {o : GRat} (h : G k o) : o = wholeR 0 ↔ toQ o = 0 := by
  obtain ⟨g1, v1⟩ := whole0_G
  constructor
  · intro e; rw [e]; exact v1
  · intro e; exact made_ext h.made g1.made (by rw [e, v1])

abbrev tiny : Rat := 1 / ((1000000000 : Int) : Rat)

/-- What becomes of a good lot. -/
structure LotR (t : GTerms) (c : GWater) (g : GRat) (d : Int) (f n : GRat) (x : GLot) (o a : GRat) : Prop where
  own : feeS t x.2 g d = (o, 0)
  go : G 106 o
  vo : toQ o = feeQ t x.2 g d
  o0 : 0 ≤ toQ o
  adj : subR f o = (a, 0)
  ga : G 205 a
  va : toQ a = toQ f - toQ o
  res : (toQ o ≠ 0 ∧ ∃ q, G 154 q ∧ toQ n ≤ toQ q ∧ toQ q < toQ n + tiny ∧ lotS t c g d f n x = ((a, (x.1, (q, d))), 0)) ∨
    (toQ o = 0 ∧ toQ f = 0 ∧ lotS t c g d f n x = ((a, x), 0)) ∨
    (toQ o = 0 ∧ toQ f ≠ 0 ∧ ∃ q, G 200 q ∧ toQ x.2.1 * (toQ n / toQ g) ≤ toQ q ∧ toQ q < toQ x.2.1 * (toQ n / toQ g) + tiny ∧ lotS t c g d f n x = ((a, (x.1, (q, x.2.2))), 0))

/-- All of a made period. -/
structure Period (t : GTerms) (c : GWater) (ls : List GLot) (g : GRat) (d : Int) (f n : GRat) (c' : GWater) : Prop where
  fee : feeS t c g d = (f, 0)
  gf : G 98 f
  vf : toQ f = feeQ t c g d
  f0 : 0 ≤ toQ f
  net : subR g f = (n, 0)
  gn : G 122 n
  vn : toQ n = toQ g - toQ f
  next : (toQ f = 0 ∧ c' = c) ∨ (0 < toQ f ∧ ∃ q, c' = (q, d) ∧ G 154 q ∧ toQ n ≤ toQ q ∧ toQ q < toQ n + tiny)
  cry : g_equalisation_Crystallise t c ls g d = some (f, (c', (ls.map (fun x => (lotS t c g d f n x).1.1), (ls.map (fun x => (lotS t c g d f n x).1.2), 0))))
  lot : ∀ x ∈ ls, ∃ o a, LotR t c g d f n x o a

theorem getD_map {α β : Type} (l : List α) (F : α → β) {i : Nat} (h : i < l.length) (z : β) : (l.map F).getD i z = F l[i] := by simp [-List.getD_eq_getElem?_getD, List.getD, h]

theorem LotR.a1 {t : GTerms} {c : GWater} {g : GRat} {d : Int} {f n : GRat} {x : GLot} {o a : GRat} (h : LotR t c g d f n x o a) : (lotS t c g d f n x).1.1 = a := by
  rcases h.res with ⟨_, q, _, _, _, e⟩ | ⟨_, _, e⟩ | ⟨_, _, q, _, _, _, e⟩ <;> rw [e]

end Go.Ev
