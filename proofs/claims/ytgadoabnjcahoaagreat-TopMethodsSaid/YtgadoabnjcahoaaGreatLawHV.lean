/- The end of a period of a series, for any tranches; and both methods treat an investor alike, for all made arguments. -/
import Derived.Test.YtgadoabnjcahoaaGreatLawEV
import Derived.Test.YtgadoabnjcahoaaGreatDefsFV
import Derived.Test.YtgadoabnjcahoaaGreatLawCV
set_option exponentiation.threshold 2000
namespace Go.Ev
set_option linter.unusedVariables false
set_option linter.unusedSimpArgs false

abbrev GTr := Int × (GRat × GWater)
abbrev GConv := Int × (Int × GRat)
noncomputable def zTr : GTr := (0, (zRat, (zRat, 0)))

theorem zTr_eq : ((0 : Int), (((((false, List.replicate 32 (0 : Int)), (false, List.replicate 32 (0 : Int))) : GRat)), ((((false, List.replicate 32 (0 : Int)), (false, List.replicate 32 (0 : Int))) : GRat), (0 : Int)))) = zTr := by
  unfold zTr; rw [zRat_eq]

structure WFTr (x : GTr) : Prop where
  day : I64 x.1
  gross : WFR x.2.1
  water : WFW x.2.2

theorem sabove_ok {r : GRat} (h : WFR r) : g_series_above r = some (decide (AboveR r)) := above_ok h

/-- A tranche in its place. -/
structure TrGood (l : List GTr) (j : Nat) (h : j < l.length) : Prop where
  d0 : 0 ≤ l[j].1
  d1 : l[j].1 ≤ 73048
  ord : ∀ k (e : j = k + 1), (l[k]'(by omega)).1 < l[j].1
  up : AboveR l[j].2.1
  wat : chkW l[j].2.2 = 0

open Classical in
noncomputable def chkS (l : List GTr) : Int := if l.length ≤ 64 ∧ (∀ j (h : j < l.length), TrGood l j h) then 0 else 330

theorem scheck_ok {l : List GTr} (hw : ∀ x ∈ l, WFTr x) : g_series_Check l = some (chkS l) := by
  unfold g_series_Check chkS
  by_cases hl : l.length ≤ 64
  case neg => rw [decide_eq_true (show (l.length : Int) > 64 by omega), cT, if_neg (fun h => hl h.1)]
  rw [decide_eq_false (show ¬ (l.length : Int) > 64 by omega), cF]
  have hbad : ∀ {i : Nat} (hi : i < l.length), (∀ j (h : j < l.length), j < i → TrGood l j h) → ¬ TrGood l i hi → g_series_Check_L4 l ((0, (i : Int)), ()) = some (.out 0 ((330, (i : Int)), ())) := by
    intro i hi hI hn
    have hx := hw _ (List.getElem_mem hi)
    unfold g_series_Check_L4
    dsimp only
    rw [zTr_eq, decide_eq_true (show (i : Int) < (l.length : Int) by omega), cT, inb_true (by omega) (by omega), cT, show ((i : Int)).toNat = i by omega, getD_lt l hi]
    simp only [cond_dec]
    by_cases a1 : l[i].1 < 0
    · rw [if_pos a1]
    by_cases a2 : l[i].1 > 73048
    · rw [if_neg a1, if_pos a2]
    rw [if_neg a1, if_neg a2, sabove_ok hx.gross, checkW_ok hx.water]
    simp only [obind]
    rw [bne_dec]
    have tail : ¬ (AboveR l[i].2.1 ∧ chkW l[i].2.2 = 0) → (bif (!decide (AboveR l[i].2.1)) then
        (some (.out 0 ((330, (i : Int)), ())) : Option (Next ((Int × Int) × Unit)))
      else bif decide (chkW l[i].2.2 ≠ 0) then some (.out 0 ((330, (i : Int)), ())) else some (.more ((0, IntKind.i64.wrap ((i : Int) + 1)), ()))) = some (.out 0 ((330, (i : Int)), ())) := fun h => by
      by_cases b1 : AboveR l[i].2.1
      · rw [decide_eq_true b1, nT, cF, decide_eq_true (show chkW l[i].2.2 ≠ 0 from fun b2 => h ⟨b1, b2⟩), cT]
      · rw [decide_eq_false b1, nF, cT]
    by_cases hz : (i : Int) > 0
    · rw [if_pos hz]
      obtain ⟨k, rfl⟩ : ∃ k, i = k + 1 := ⟨i - 1, by omega⟩
      rw [wrap_i64 (n := ((k + 1 : Nat) : Int) - 1) (by omega) (by omega), inb_true (i := ((k + 1 : Nat) : Int) - 1) (by omega) (by omega), cT, show (((k + 1 : Nat) : Int) - 1).toNat = k by omega, getD_lt l (show k < l.length by omega)]
      by_cases a3 : l[k].1 ≥ l[k + 1].1
      · rw [if_pos a3]
      · rw [if_neg a3]
        exact tail fun h => hn ⟨by omega, by omega, fun k' e => by obtain rfl : k = k' := by omega
                                                                   omega, h.1, h.2⟩
    · rw [if_neg hz]
      exact tail fun h => hn ⟨by omega, by omega, fun k' e => by omega, h.1, h.2⟩
  have hgood : ∀ {i : Nat} (hi : i < l.length), TrGood l i hi → g_series_Check_L4 l ((0, (i : Int)), ()) = some (.more ((0, ((i + 1 : Nat) : Int)), ())) := by
    intro i hi hg
    have hx := hw _ (List.getElem_mem hi)
    unfold g_series_Check_L4
    dsimp only
    rw [zTr_eq, decide_eq_true (show (i : Int) < (l.length : Int) by omega), cT, inb_true (by omega) (by omega), cT, show ((i : Int)).toNat = i by omega, getD_lt l hi]
    simp only [cond_dec]
    have g0 := hg.d0
    have g1 := hg.d1
    rw [if_neg (by omega), if_neg (by omega), sabove_ok hx.gross, checkW_ok hx.water]
    simp only [obind]
    rw [decide_eq_true hg.up, nT, cF, bne_dec, hg.wat, decide_eq_false (by omega), cF, wrap_i64 (n := (i : Int) + 1) (by omega) (by omega), show (i : Int) + 1 = ((i + 1 : Nat) : Int) by omega]
    by_cases hz : (i : Int) > 0
    · rw [if_pos hz]
      obtain ⟨k, rfl⟩ : ∃ k, i = k + 1 := ⟨i - 1, by omega⟩
      have := hg.ord k rfl
      rw [wrap_i64 (n := ((k + 1 : Nat) : Int) - 1) (by omega) (by omega), inb_true (i := ((k + 1 : Nat) : Int) - 1) (by omega) (by omega), cT, show (((k + 1 : Nat) : Int) - 1).toNat = k by omega, getD_lt l (show k < l.length by omega), if_neg (by omega)]
    · rw [if_neg hz]
  obtain ⟨e, t, h1, h2⟩ := loopD_rule (body := g_series_Check_L4 l)
    (fun s => ∃ i : Nat, s = ((0, (i : Int)), ()) ∧ i ≤ l.length ∧ ∀ j (h : j < l.length), j < i → TrGood l j h) (fun s => (l.length - s.1.2).toNat)
    (fun e s => (e = 0 ∧ s.1.1 = 330 ∧ ¬ ∀ j (h : j < l.length), TrGood l j h) ∨ (e = 1 ∧ ∀ j (h : j < l.length), TrGood l j h))
    (fun s hs => by
      obtain ⟨i, rfl, hi, hI⟩ := hs
      by_cases hil : i < l.length
      · by_cases hg : TrGood l i hil
        · refine .inl ⟨_, hgood hil hg, ⟨i + 1, rfl, by omega, fun j h hj => ?_⟩, by dsimp only; omega⟩
          by_cases e : j = i
          · subst e; exact hg
          · exact hI j h (by omega)
        · exact .inr ⟨_, _, hbad hil hI hg, .inl ⟨rfl, rfl, fun h => hg (h i hil)⟩⟩
      · refine .inr ⟨1, ((0, (i : Int)), ()), ?_, .inr ⟨rfl, fun j h => hI j h (by omega)⟩⟩
        unfold g_series_Check_L4
        dsimp only
        rw [decide_eq_false (show ¬ (i : Int) < (l.length : Int) by omega), cF])
    ((0, 0), ()) ⟨0, rfl, by omega, fun j h hj => by omega⟩
  rw [h1, obind]
  dsimp only
  rcases h2 with ⟨rfl, q, n⟩ | ⟨rfl, q⟩
  · rw [show Nat.beq 0 0 = true from rfl, cT, q, if_neg (fun h => n h.2)]
  · rw [show Nat.beq 1 0 = false from rfl, cF, if_pos ⟨hl, q⟩]

noncomputable def facR (f : GRat) : Bool := decide ((cmpR f (wholeR 1000)).2 = 0) && decide ((cmpR f (wholeR 1000)).1 ≤ 0)

theorem factor_ok {f : GRat} (h : WFR f) : g_series_factor f = some (facR f) := by
  unfold g_series_factor facR
  rw [Whole_ok (by unfold I64; omega), obind, cmpR_ok h (wfr_whole _), obind, beq_dec, cond_dec]
  by_cases h0 : (cmpR f (wholeR 1000)).2 = 0
  · rw [if_pos h0, decide_eq_true h0, Bool.true_and]
  · rw [if_neg h0, decide_eq_false h0, Bool.false_and]

end Go.Ev

namespace Go.Ev
set_option linter.unusedVariables false
set_option linter.unusedSimpArgs false

noncomputable def trE (t : GTerms) (d : Int) (x : GTr) : Int := (cryS t x.2.2 x.2.1 d).2.2
noncomputable def trF (t : GTerms) (d : Int) (x : GTr) : GRat := (cryS t x.2.2 x.2.1 d).1
noncomputable def trM (t : GTerms) (d : Int) (x : GTr) : GTr := if trF t d x = wholeR 0 then x else (x.1, ((subR x.2.1 (trF t d x)).1, (cryS t x.2.2 x.2.1 d).2.1))

theorem trM_day (t : GTerms) (d : Int) (x : GTr) : (trM t d x).1 = x.1 := by unfold trM; split <;> rfl

theorem trM_wf {t : GTerms} {d : Int} {x : GTr} (h : WFR x.2.1) : WFR (trM t d x).2.1 := by
  unfold trM; split
  · exact h
  · exact subR_wf _ _

/-- The first error. -/
noncomputable def errF (t : GTerms) (d : Int) : List GTr → Int
  | [] => 0
  | x :: xs => if trE t d x ≠ 0 then trE t d x else errF t d xs

/-- Which one leads. -/
def LeadAt (F : GTr → GRat) (l : List GTr) (lead : Int) : Prop :=
  (lead = -1 ∧ ∀ x ∈ l, F x = wholeR 0) ∨ (∃ k, ∃ h : k < l.length, lead = (k : Int) ∧ F l[k] ≠ wholeR 0 ∧ ∀ j (hj : j < k), F (l[j]'(by omega)) = wholeR 0)

theorem LeadAt.keep {F : GTr → GRat} {l : List GTr} {lead : Int} (h : LeadAt F l lead) {x : GTr} (hx : F x = wholeR 0 ∨ 0 ≤ lead) : LeadAt F (l ++ [x]) lead := by
  rcases h with ⟨h1, h2⟩ | ⟨k, hk, h1, h2, h3⟩
  · refine .inl ⟨h1, fun y hy => ?_⟩
    rcases List.mem_append.1 hy with q | q
    · exact h2 y q
    · rw [List.mem_singleton.1 q]
      rcases hx with r | r
      · exact r
      · omega
  · refine .inr ⟨k, by rw [List.length_append]; omega, h1, ?_, fun j hj => ?_⟩
    · rw [List.getElem_append_left hk]; exact h2
    · rw [List.getElem_append_left (show j < l.length by omega)]; exact h3 j hj

theorem LeadAt.new {F : GTr → GRat} {l : List GTr} {lead : Int} (h : LeadAt F l lead) (h0 : lead < 0) {x : GTr} (hx : F x ≠ wholeR 0) : LeadAt F (l ++ [x]) (l.length : Int) := by
  rcases h with ⟨h1, h2⟩ | ⟨k, hk, h1, h2, h3⟩
  · refine .inr ⟨l.length, by simp [-List.getD_eq_getElem?_getD], rfl, by simpa [-List.getD_eq_getElem?_getD] using hx, fun j hj => ?_⟩
    rw [List.getElem_append_left hj]; exact h2 _ (List.getElem_mem hj)
  · omega

/-- The state of the first loop. -/
def cl1 (fees : List GRat) (lead : Int) (i : Nat) (arr : List GTr) : (((List YR) × ((List (Int × YM)) × ((List YC) × (Int × ((List YR) × (Int × Int)))))) × (List (Int × YM))) :=
  (([], ([], ([], (0, (fees, (lead, (i : Int))))))), arr)

theorem getD_at {α : Type} {a b : List α} {x z : α} {i : Int} (h : i = (a.length : Int)) : (a ++ x :: b).getD i.toNat z = x := by
  subst h; rw [show ((a.length : Int)).toNat = a.length by omega, getD_mid rfl]

theorem set_at {α : Type} {a b : List α} {x y : α} {i : Int} (h : i = (a.length : Int)) : (a ++ x :: b).set i.toNat y = a ++ y :: b := by
  subst h; rw [show ((a.length : Int)).toNat = a.length by omega, set_mid rfl]

theorem map_snoc {α β : Type} (F : α → β) (pre : List α) (x : α) : pre.map F ++ [F x] = (pre ++ [x]).map F := by simp [-List.getD_eq_getElem?_getD]

theorem cl1_step {t : GTerms} {d : Int} {l pre xs : List GTr} {x : GTr} {lead : Int} (ht : WFT t) (hx : WFTr x) (hl : l.length ≤ 64) (e : l = pre ++ x :: xs) (hE : trE t d x = 0) (hL : LeadAt (trF t d) pre lead) :
    ∃ lead', g_series_Close_1_L12 t l d (cl1 (pre.map (trF t d)) lead pre.length (pre.map (trM t d) ++ x :: xs)) =
      some (.more (cl1 ((pre ++ [x]).map (trF t d)) lead' (pre ++ [x]).length ((pre ++ [x]).map (trM t d) ++ xs))) ∧ LeadAt (trF t d) (pre ++ [x]) lead' := by
  have hlen : l.length = pre.length + (xs.length + 1) := by rw [e]; simp [-List.getD_eq_getElem?_getD]
  have hcry := Crystallise_ok (d := d) ht hx.water hx.gross
  have ei : (pre.length : Int) = ((pre.map (trM t d)).length : Int) := by rw [List.length_map]
  have la : ∀ y : GTr, (pre.map (trM t d) ++ y :: xs).length = l.length := fun y => by rw [hlen]; simp [-List.getD_eq_getElem?_getD]
  have hI : IntKind.i64.wrap ((pre.length : Int) + 1) = ((pre ++ [x]).length : Int) := by rw [wrap_i64 (by omega) (by omega)]; simp [-List.getD_eq_getElem?_getD]
  have ms : ∀ y : GTr, y = trM t d x → pre.map (trM t d) ++ y :: xs = (pre ++ [x]).map (trM t d) ++ xs := fun y h => by rw [h]; simp [-List.getD_eq_getElem?_getD]
  unfold g_series_Close_1_L12 cl1
  dsimp only
  rw [zTr_eq, decide_eq_true (show (pre.length : Int) < (l.length : Int) by omega), cT, decide_eq_true (show (0 : Int) ≤ (pre.length : Int) ∧ (pre.length : Int) < (l.length : Int) by omega), cT, inb_true (n := (pre.map (trM t d) ++ x :: xs).length) (by omega) (by rw [la]; omega), cT, cT, getD_at ei]
  rw [hcry, obind]
  unfold trE at hE
  have mF : trM t d x = if trF t d x = wholeR 0 then x else (x.1, ((subR x.2.1 (trF t d x)).1, (cryS t x.2.2 x.2.1 d).2.1)) := rfl
  have wF : WFR (trF t d x) := cryS_wf _ _ _ _
  rw [show (cryS t x.2.2 x.2.1 d) = (trF t d x, ((cryS t x.2.2 x.2.1 d).2.1, 0)) from Prod.ext rfl (Prod.ext rfl hE)]
  dsimp only
  rw [show ((0 : Int) != 0) = false from rfl, cF, app_one (by rw [List.length_map]; omega), cF, Whole_ok i64_0, obind, eqB, map_snoc, hI]
  by_cases f0 : trF t d x = wholeR 0
  · rw [if_pos f0] at mF
    rw [decide_eq_true f0, cT, ms x mF.symm]
    exact ⟨lead, rfl, hL.keep (.inl f0)⟩
  · rw [if_neg f0] at mF
    rw [decide_eq_false f0, cF, cT, subR_ok hx.gross wF, obind, cT, set_at ei, inb_true (n := (pre.map (trM t d) ++ (x.1, ((subR x.2.1 (trF t d x)).1, x.2.2)) :: xs).length) (by omega) (by rw [la]; omega), cT, getD_at ei, set_at ei]
    dsimp only
    rw [ms _ mF.symm]
    by_cases hl0 : lead < 0
    · rw [decide_eq_true hl0, cT]
      exact ⟨_, rfl, hL.new hl0 f0⟩
    · rw [decide_eq_false hl0, cF]
      exact ⟨_, rfl, hL.keep (.inr (by omega))⟩

theorem cl1_fail {t : GTerms} {d : Int} {l pre xs : List GTr} {x : GTr} {lead : Int} (ht : WFT t) (hx : WFTr x) (e : l = pre ++ x :: xs) (hE : trE t d x ≠ 0) :
    g_series_Close_1_L12 t l d (cl1 (pre.map (trF t d)) lead pre.length (pre.map (trM t d) ++ x :: xs)) =
      some (.out 0 (([], ([], ([], (trE t d x, (pre.map (trF t d), (lead, (pre.length : Int))))))), pre.map (trM t d) ++ x :: xs)) := by
  have hlen : l.length = pre.length + (xs.length + 1) := by rw [e]; simp [-List.getD_eq_getElem?_getD]
  have hcry := Crystallise_ok (d := d) ht hx.water hx.gross
  have ei : (pre.length : Int) = ((pre.map (trM t d)).length : Int) := by rw [List.length_map]
  have la : ∀ y : GTr, (pre.map (trM t d) ++ y :: xs).length = l.length := fun y => by rw [hlen]; simp [-List.getD_eq_getElem?_getD]
  unfold g_series_Close_1_L12 cl1
  dsimp only
  rw [zTr_eq, decide_eq_true (show (pre.length : Int) < (l.length : Int) by omega), cT, decide_eq_true (show (0 : Int) ≤ (pre.length : Int) ∧ (pre.length : Int) < (l.length : Int) by omega), cT, inb_true (n := (pre.map (trM t d) ++ x :: xs).length) (by omega) (by rw [la]; omega), cT, cT, getD_at ei]
  rw [hcry, obind, bne_dec, decide_eq_true (show (cryS t x.2.2 x.2.1 d).2.2 ≠ 0 from hE), cT]
  rfl

theorem cl1_loop {t : GTerms} {d : Int} {l : List GTr} (ht : WFT t) (hw : ∀ x ∈ l, WFTr x) (hl : l.length ≤ 64) : ∀ (xs pre : List GTr) (lead : Int), l = pre ++ xs → LeadAt (trF t d) pre lead →
    (errF t d xs ≠ 0 ∧ ∃ fees j i arr, loopD (g_series_Close_1_L12 t l d) (cl1 (pre.map (trF t d)) lead pre.length (pre.map (trM t d) ++ xs)) = some (0, (([], ([], ([], (errF t d xs, (fees, (j, i)))))), arr))) ∨
    (errF t d xs = 0 ∧ ∃ lead', loopD (g_series_Close_1_L12 t l d) (cl1 (pre.map (trF t d)) lead pre.length (pre.map (trM t d) ++ xs)) = some (1, cl1 (l.map (trF t d)) lead' l.length (l.map (trM t d))) ∧ LeadAt (trF t d) l lead')
  | [], pre, lead, e, hL => by
    rw [List.append_nil] at e
    subst e
    refine .inr ⟨rfl, lead, loopD_out ?_, hL⟩
    unfold g_series_Close_1_L12 cl1
    dsimp only
    rw [decide_eq_false (show ¬ (l.length : Int) < (l.length : Int) by omega), cF, List.append_nil]
  | x :: xs, pre, lead, e, hL => by
    have hx := hw x (by rw [e]; simp [-List.getD_eq_getElem?_getD])
    unfold errF
    by_cases hE : trE t d x ≠ 0
    · rw [if_pos hE]
      exact .inl ⟨hE, _, _, _, _, loopD_out (cl1_fail ht hx e hE)⟩
    · rw [if_neg hE]
      obtain ⟨lead', h1, h2⟩ := cl1_step ht hx hl e (by omega) hL
      rcases cl1_loop ht hw hl xs (pre ++ [x]) lead' (by rw [e]; simp [-List.getD_eq_getElem?_getD]) h2 with ⟨q, a, b, c, r, k⟩ | ⟨q, r, k, k2⟩
      · exact .inl ⟨q, a, b, c, r, loopD_more h1 k⟩
      · exact .inr ⟨q, r, loopD_more h1 k, k2⟩

end Go.Ev

namespace Go.Ev
set_option linter.unusedVariables false
set_option linter.unusedSimpArgs false

/-- What is left, what is converted, and the error. -/
noncomputable def runC (F : GTr → GRat) (M : GTr → GTr) : Option GTr → List GTr → List GConv → List GTr → List GTr × (List GConv × Int)
  | _, left, conv, [] => (left, (conv, 0))
  | f, left, conv, x :: xs => if F x = wholeR 0 then runC F M f (left ++ [M x]) conv xs else
    match f with
    | none => runC F M (some (M x)) (left ++ [M x]) conv xs
    | some g => if (quoR (M x).2.1 g.2.1).2 ≠ 0 then ([], ([], (quoR (M x).2.1 g.2.1).2))
      else if facR (quoR (M x).2.1 g.2.1).1 = true then runC F M f left (conv ++ [((M x).1, (g.1, (quoR (M x).2.1 g.2.1).1))]) xs
      else ([], ([], 331))

/-- The state of the second loop. -/
def cl2 (convs : List GConv) (hi m : Nat) (i : Nat) (first : GTr) (arr : List GTr) : (((List YR) × ((List (Int × YM)) × ((List YC) × (Int × ((List YC) × ((Int × Int) × Int)))))) × ((Int × YM) × (List (Int × YM)))) :=
  (([], ([], ([], (0, (convs, (((hi : Int), (m : Int)), (i : Int))))))), (first, arr))

theorem junk_next {α : Type} (junk : List α) (y : α) (ys : List α) : ∃ r0 junk', junk ++ y :: ys = r0 :: (junk' ++ ys) ∧ junk'.length = junk.length := by
  cases junk with
  | nil => exact ⟨y, [], rfl, rfl⟩
  | cons j js => exact ⟨j, js ++ [y], by simp [-List.getD_eq_getElem?_getD], by simp [-List.getD_eq_getElem?_getD]⟩

theorem copyL_at {α : Type} {a b : List α} {r y : α} {i : Int} (h : i = (a.length : Int)) : copyL (a ++ r :: b) [y] i (i + 1) = a ++ y :: b := by
  subst h
  unfold copyL
  rw [show ((a.length : Int)).toNat = a.length by omega, show ((a.length : Int) + 1 - (a.length : Int)).toNat = 1 by omega]
  simp [-List.getD_eq_getElem?_getD]

theorem cl2_keep {l : List GTr} {left junk ys : List GTr} {y : GTr} {conv : List GConv} {i : Nat} (hi : i < l.length) (hl : l.length ≤ 64) (h1 : left.length + junk.length = i) (h2 : (left ++ (junk ++ y :: ys)).length = l.length) {s : YM} {first : GTr} {v : GTr} {C : Int} (hC : C = (left.length : Int)) :
    ∃ junk', junk'.length = junk.length ∧
      (bif List.isEmpty [y] || !(decide ((C + (([y] : List GTr).length : Int)) ≤ (l.length : Int) ∧ (l.length : Int) ≤ ((left ++ (junk ++ y :: ys)).length : Int))) then
        none
      else
        some (Next.more (((([] : List YR), (([] : List (Int × YM)), (([] : List YC), ((0 : Int), (conv, (((C + (([y] : List GTr).length : Int)), (l.length : Int)), IntKind.i64.wrap ((i : Int) + 1))))))), (first, copyL (left ++ (junk ++ y :: ys)) [y] C (C + (([y] : List GTr).length : Int)))) : (((List YR) × ((List (Int × YM)) × ((List YC) × (Int × ((List YC) × ((Int × Int) × Int)))))) × ((Int × YM) × (List (Int × YM))))))) =
      some (.more (cl2 conv (left ++ [y]).length l.length (i + 1) first ((left ++ [y]) ++ (junk' ++ ys)))) := by
  obtain ⟨r0, junk', e, hj⟩ := junk_next junk y ys
  refine ⟨junk', hj, ?_⟩
  have e1 : List.isEmpty [y] = false := rfl
  have e3 : (([y] : List GTr).length : Int) = 1 := rfl
  rw [e1, Bool.false_or, e3, decide_eq_true (show C + 1 ≤ (l.length : Int) ∧ (l.length : Int) ≤ ((left ++ (junk ++ y :: ys)).length : Int) by omega), nT, cF, wrap_i64 (n := (i : Int) + 1) (by omega) (by omega), e, copyL_at hC]
  unfold cl2
  rw [hC, show ((left ++ [y]).length : Int) = (left.length : Int) + 1 by simp [-List.getD_eq_getElem?_getD], show ((i + 1 : Nat) : Int) = (i : Int) + 1 by omega, List.append_assoc]
  rfl

/-- How far the second loop has come. -/
structure At2 (F : GTr → GRat) (M : GTr → GTr) (l pre : List GTr) (lead : Int) (f : Option GTr) (first : GTr) : Prop where
  ld : LeadAt F l lead
  one : (f = none ∧ ∀ x ∈ pre, F x = wholeR 0) ∨ (∃ k, ∃ h : k < pre.length, F pre[k] ≠ wholeR 0 ∧ lead = (k : Int) ∧ f = some first ∧ first = M pre[k])

theorem LeadAt.uniq {F : GTr → GRat} {l : List GTr} {lead : Int} (h : LeadAt F l lead) {i : Nat} (hi : i < l.length) (h0 : F l[i] ≠ wholeR 0) (hp : ∀ j (hj : j < i), F (l[j]'(by omega)) = wholeR 0) : lead = (i : Int) := by
  rcases h with ⟨_, q⟩ | ⟨k, hk, e, q1, q2⟩
  · exact absurd (q _ (List.getElem_mem hi)) h0
  · by_cases a : i < k
    · exact absurd (q2 i a) h0
    · by_cases b : k < i
      · exact absurd (hp k b) q1
      · omega

theorem LeadAt.ne {F : GTr → GRat} {l : List GTr} {lead : Int} (h : LeadAt F l lead) {i : Nat} (hi : i < l.length) (h0 : F l[i] = wholeR 0) : (i : Int) ≠ lead := by
  rcases h with ⟨e, q⟩ | ⟨k, hk, e, q1, q2⟩
  · omega
  · intro e2
    have : i = k := by omega
    subst this
    exact q1 h0

theorem at_mid {α : Type} {l pre xs : List α} {x : α} (e : l = pre ++ x :: xs) (h : pre.length < l.length) : l[pre.length] = x := by subst e; simp [-List.getD_eq_getElem?_getD]

theorem At2.zero {F : GTr → GRat} {M : GTr → GTr} {l pre xs : List GTr} {x : GTr} {lead : Int} {f : Option GTr} {first : GTr} (h : At2 F M l pre lead f first) (hx : F x = wholeR 0) : At2 F M l (pre ++ [x]) lead f first := by
  refine ⟨h.ld, ?_⟩
  rcases h.one with ⟨e, q⟩ | ⟨k, hk, q0, q1, q2, q3⟩
  · refine .inl ⟨e, fun y hy => ?_⟩
    rcases List.mem_append.1 hy with r | r
    · exact q y r
    · rw [List.mem_singleton.1 r]; exact hx
  · refine .inr ⟨k, by rw [List.length_append]; omega, ?_, q1, q2, ?_⟩
    · rw [List.getElem_append_left hk]; exact q0
    · rw [List.getElem_append_left hk]; exact q3

theorem At2.more {F : GTr → GRat} {M : GTr → GTr} {l pre xs : List GTr} {x g : GTr} {lead : Int} {first : GTr} (h : At2 F M l pre lead (some g) first) : At2 F M l (pre ++ [x]) lead (some g) first := by
  refine ⟨h.ld, ?_⟩
  rcases h.one with ⟨e, q⟩ | ⟨k, hk, q0, q1, q2, q3⟩
  · exact absurd e (by simp [-List.getD_eq_getElem?_getD])
  · refine .inr ⟨k, by rw [List.length_append]; omega, ?_, q1, q2, ?_⟩
    · rw [List.getElem_append_left hk]; exact q0
    · rw [List.getElem_append_left hk]; exact q3

theorem cl2_loop {t : GTerms} {d : Int} {l : List GTr} (hw : ∀ x ∈ l, WFTr x) (hl : l.length ≤ 64) {lead : Int} {arr0 : List GTr} : ∀ (xs pre left junk : List GTr) (conv : List GConv) (f : Option GTr) (first : GTr), l = pre ++ xs → At2 (trF t d) (trM t d) l pre lead f first →
    left.length + junk.length = pre.length → conv.length ≤ pre.length → (∀ x ∈ pre, WFTr x) →
    ((runC (trF t d) (trM t d) f left conv xs).2.2 ≠ 0 ∧ ∃ c h i s, loopD (g_series_Close_1_L29 l (1, cl1 (l.map (trF t d)) lead l.length arr0)) (cl2 conv left.length l.length pre.length first (left ++ (junk ++ xs.map (trM t d)))) = some (0, (([], ([], ([], ((runC (trF t d) (trM t d) f left conv xs).2.2, (c, (h, i)))))), s))) ∨
    ((runC (trF t d) (trM t d) f left conv xs).2.2 = 0 ∧ ∃ first' junk' left', left' = (runC (trF t d) (trM t d) f left conv xs).1 ∧ loopD (g_series_Close_1_L29 l (1, cl1 (l.map (trF t d)) lead l.length arr0)) (cl2 conv left.length l.length pre.length first (left ++ (junk ++ xs.map (trM t d)))) = some (1, cl2 (runC (trF t d) (trM t d) f left conv xs).2.1 left'.length l.length l.length first' (left' ++ junk')))
  | [], pre, left, junk, conv, f, first, e, h, hj, hc, hp => by
    rw [List.append_nil] at e
    subst e
    refine .inr ⟨rfl, first, junk, left, rfl, loopD_out ?_⟩
    unfold g_series_Close_1_L29 cl2
    dsimp only
    rw [decide_eq_false (show ¬ (l.length : Int) < (l.length : Int) by omega), cF, List.map_nil, List.append_nil]
    rfl
  | x :: xs, pre, left, junk, conv, f, first, e, h, hj, hc, hp => by
    have hx := hw x (by rw [e]; simp [-List.getD_eq_getElem?_getD])
    have hlen : l.length = pre.length + (xs.length + 1) := by rw [e]; simp [-List.getD_eq_getElem?_getD]
    have hi : pre.length < l.length := by omega
    have hxi : l[pre.length] = x := at_mid e hi
    have el : l = (pre ++ [x]) ++ xs := by rw [e]; simp [-List.getD_eq_getElem?_getD]
    have la : (left ++ (junk ++ (trM t d x) :: xs.map (trM t d))).length = l.length := by simp [-List.getD_eq_getElem?_getD]; omega
    have ea : left ++ (junk ++ (x :: xs).map (trM t d)) = (left ++ junk) ++ trM t d x :: xs.map (trM t d) := by simp [-List.getD_eq_getElem?_getD]
    have eb : (left ++ junk) ++ trM t d x :: xs.map (trM t d) = left ++ (junk ++ trM t d x :: xs.map (trM t d)) := by simp [-List.getD_eq_getElem?_getD]
    have ei : (pre.length : Int) = ((left ++ junk).length : Int) := by rw [List.length_append]; omega
    have hp' : ∀ y ∈ pre ++ [x], WFTr y := fun y hy => by
      rcases List.mem_append.1 hy with r | r
      · exact hp y r
      · rw [List.mem_singleton.1 r]; exact hx
    have ln1 : (pre ++ [x]).length = pre.length + 1 := by simp [-List.getD_eq_getElem?_getD]
    -- the step of a tranche that stays
    have keep : ∀ (first' : GTr) (b : Bool), (bif b then (if (pre.length : Int) = lead then first' = trM t d x else first' = first) = True else True) → True := fun _ _ _ => trivial
    unfold runC
    by_cases hF : trF t d x = wholeR 0
    · rw [if_pos hF]
      have hne := h.ld.ne hi (by rw [hxi]; exact hF)
      obtain ⟨junk', j1, j2⟩ := cl2_keep (conv := conv) (first := first) (v := first) (s := x.2) hi hl hj la (C := (left.length : Int)) rfl
      have st : g_series_Close_1_L29 l (1, cl1 (l.map (trF t d)) lead l.length arr0) (cl2 conv left.length l.length pre.length first (left ++ (junk ++ (x :: xs).map (trM t d)))) = some (.more (cl2 conv (left ++ [trM t d x]).length l.length (pre ++ [x]).length first ((left ++ [trM t d x]) ++ (junk' ++ xs.map (trM t d))))) := by
        unfold g_series_Close_1_L29
        rw [show (cl2 conv left.length l.length pre.length first (left ++ (junk ++ (x :: xs).map (trM t d)))) = (([], ([], ([], (0, (conv, (((left.length : Int), (l.length : Int)), (pre.length : Int))))))), (first, (left ++ junk) ++ trM t d x :: xs.map (trM t d))) by rw [← ea]; rfl]
        unfold cl1
        dsimp only
        rw [zTr_eq, zRat_eq, decide_eq_true (show (pre.length : Int) < (l.length : Int) by omega), cT, decide_eq_true (show (0 : Int) ≤ (pre.length : Int) ∧ (pre.length : Int) < (l.length : Int) by omega), cT, inb_true (n := ((left ++ junk) ++ trM t d x :: xs.map (trM t d)).length) (by omega) (by rw [eb, la]; omega), cT, getD_at ei, beq_dec, decide_eq_false hne, cF,
          inb_true (n := (l.map (trF t d)).length) (by omega) (by rw [List.length_map]; omega), cT, show ((pre.length : Int)).toNat = pre.length by omega, getD_map l (trF t d) hi, hxi, Whole_ok i64_0, obind, eqB, decide_eq_true hF, cT]
        unfold g_series_Close_1_T136_2
        dsimp only
        rw [eb, j2, ln1]
      rw [ln1] at st
      have := cl2_loop hw hl (arr0 := arr0) xs (pre ++ [x]) (left ++ [trM t d x]) junk' conv f first el (h.zero (xs := xs) hF) (by simp [-List.getD_eq_getElem?_getD]; omega) (by rw [ln1]; omega) hp'
      rw [ln1] at this
      rcases this with ⟨q, c, hh, i, s, k⟩ | ⟨q, f', jj, ll, e1, k⟩
      · exact .inl ⟨q, c, hh, i, s, loopD_more st k⟩
      · exact .inr ⟨q, f', jj, ll, e1, loopD_more st k⟩
    · rw [if_neg hF]
      rcases h.one with ⟨rfl, hz⟩ | ⟨k, hk, q0, q1, rfl, q3⟩
      · -- the first one with a fee
        dsimp only
        have hlead : lead = (pre.length : Int) := h.ld.uniq hi (by rw [hxi]; exact hF) (fun j hj => by
          have : l[j]'(by omega) = pre[j] := by subst e; rw [List.getElem_append_left hj]
          rw [this]; exact hz _ (List.getElem_mem hj))
        obtain ⟨junk', j1, j2⟩ := cl2_keep (conv := conv) (first := trM t d x) (v := first) (s := x.2) hi hl hj la (C := (left.length : Int)) rfl
        have st : g_series_Close_1_L29 l (1, cl1 (l.map (trF t d)) lead l.length arr0) (cl2 conv left.length l.length pre.length first (left ++ (junk ++ (x :: xs).map (trM t d)))) = some (.more (cl2 conv (left ++ [trM t d x]).length l.length (pre ++ [x]).length (trM t d x) ((left ++ [trM t d x]) ++ (junk' ++ xs.map (trM t d))))) := by
          unfold g_series_Close_1_L29
          rw [show (cl2 conv left.length l.length pre.length first (left ++ (junk ++ (x :: xs).map (trM t d)))) = (([], ([], ([], (0, (conv, (((left.length : Int), (l.length : Int)), (pre.length : Int))))))), (first, (left ++ junk) ++ trM t d x :: xs.map (trM t d))) by rw [← ea]; rfl]
          unfold cl1
          dsimp only
          rw [zTr_eq, zRat_eq, decide_eq_true (show (pre.length : Int) < (l.length : Int) by omega), cT, decide_eq_true (show (0 : Int) ≤ (pre.length : Int) ∧ (pre.length : Int) < (l.length : Int) by omega), cT, inb_true (n := ((left ++ junk) ++ trM t d x :: xs.map (trM t d)).length) (by omega) (by rw [eb, la]; omega), cT, getD_at ei, beq_dec, decide_eq_true hlead.symm, cT,
            inb_true (n := (l.map (trF t d)).length) (by omega) (by rw [List.length_map]; omega), cT, show ((pre.length : Int)).toNat = pre.length by omega, getD_map l (trF t d) hi, hxi, Whole_ok i64_0, obind, eqB, decide_eq_false hF, cF, cT]
          unfold g_series_Close_1_T136
          dsimp only
          rw [eb, j2, ln1]
        rw [ln1] at st
        have := cl2_loop hw hl (arr0 := arr0) xs (pre ++ [x]) (left ++ [trM t d x]) junk' conv (some (trM t d x)) (trM t d x) el ⟨h.ld, .inr ⟨pre.length, by rw [ln1]; omega, by simpa [-List.getD_eq_getElem?_getD] using hF, hlead, rfl, by simp [-List.getD_eq_getElem?_getD]⟩⟩ (by simp [-List.getD_eq_getElem?_getD]; omega) (by rw [ln1]; omega) hp'
        rw [ln1] at this
        rcases this with ⟨q, c, hh, i, s, k⟩ | ⟨q, f', jj, ll, e1, k⟩
        · exact .inl ⟨q, c, hh, i, s, loopD_more st k⟩
        · exact .inr ⟨q, f', jj, ll, e1, loopD_more st k⟩
      · dsimp only
        have hne : ¬ (pre.length : Int) = lead := by omega
        have wg : WFR first.2.1 := by rw [q3]; exact trM_wf (hp _ (List.getElem_mem hk)).gross
        have hq := Quo_ok (trM_wf (t := t) (d := d) hx.gross) wg
        have common : g_series_Close_1_L29 l (1, cl1 (l.map (trF t d)) lead l.length arr0) (cl2 conv left.length l.length pre.length first (left ++ (junk ++ (x :: xs).map (trM t d)))) =
            (bif decide ((quoR (trM t d x).2.1 first.2.1).2 ≠ 0) then g_series_Close_1_T150_2 (quoR (trM t d x).2.1 first.2.1) (cl2 conv left.length l.length pre.length first (left ++ (junk ++ (x :: xs).map (trM t d)))) else
              (bif !(facR (quoR (trM t d x).2.1 first.2.1).1) then g_series_Close_1_T160_2 (cl2 conv left.length l.length pre.length first (left ++ (junk ++ (x :: xs).map (trM t d)))) else
                g_series_Close_1_E160_2 (trM t d x) (cl2 conv left.length l.length pre.length first (left ++ (junk ++ (x :: xs).map (trM t d)))) (quoR (trM t d x).2.1 first.2.1))) := by
          unfold g_series_Close_1_L29
          rw [show (cl2 conv left.length l.length pre.length first (left ++ (junk ++ (x :: xs).map (trM t d)))) = (([], ([], ([], (0, (conv, (((left.length : Int), (l.length : Int)), (pre.length : Int))))))), (first, (left ++ junk) ++ trM t d x :: xs.map (trM t d))) by rw [← ea]; rfl]
          unfold cl1
          dsimp only
          rw [zTr_eq, zRat_eq, decide_eq_true (show (pre.length : Int) < (l.length : Int) by omega), cT, decide_eq_true (show (0 : Int) ≤ (pre.length : Int) ∧ (pre.length : Int) < (l.length : Int) by omega), cT, inb_true (n := ((left ++ junk) ++ trM t d x :: xs.map (trM t d)).length) (by omega) (by rw [eb, la]; omega), cT, getD_at ei, beq_dec, decide_eq_false hne, cF,
            inb_true (n := (l.map (trF t d)).length) (by omega) (by rw [List.length_map]; omega), cT, show ((pre.length : Int)).toNat = pre.length by omega, getD_map l (trF t d) hi, hxi, Whole_ok i64_0, obind, eqB, decide_eq_false hF, cF, cF, hq, obind, bne_dec, factor_ok (quoR_wf _ _), obind]
        by_cases e1 : (quoR (trM t d x).2.1 first.2.1).2 ≠ 0
        · rw [if_pos e1]
          rw [decide_eq_true e1, cT] at common
          exact .inl ⟨e1, _, _, _, _, loopD_out common⟩
        · rw [if_neg e1]
          rw [decide_eq_false e1, cF] at common
          by_cases e2 : facR (quoR (trM t d x).2.1 first.2.1).1 = true
          · rw [if_pos e2]
            rw [e2, nT, cF] at common
            have st : g_series_Close_1_L29 l (1, cl1 (l.map (trF t d)) lead l.length arr0) (cl2 conv left.length l.length pre.length first (left ++ (junk ++ (x :: xs).map (trM t d)))) = some (.more (cl2 (conv ++ [((trM t d x).1, (first.1, (quoR (trM t d x).2.1 first.2.1).1))]) left.length l.length (pre.length + 1) first (left ++ ((junk ++ [trM t d x]) ++ xs.map (trM t d))))) := by
              rw [common]
              unfold g_series_Close_1_E160_2 cl2
              dsimp only
              rw [app_one (by omega), cF, wrap_i64 (n := (pre.length : Int) + 1) (by omega) (by omega), show ((pre.length + 1 : Nat) : Int) = (pre.length : Int) + 1 by omega]
              simp [-List.getD_eq_getElem?_getD]
            have := cl2_loop hw hl (arr0 := arr0) xs (pre ++ [x]) left (junk ++ [trM t d x]) (conv ++ [((trM t d x).1, (first.1, (quoR (trM t d x).2.1 first.2.1).1))]) (some first) first el (h.more (xs := xs)) (by simp [-List.getD_eq_getElem?_getD]; omega) (by simp [-List.getD_eq_getElem?_getD]; omega) hp'
            rw [ln1] at this
            rcases this with ⟨q, c, hh, i, s, k⟩ | ⟨q, f', jj, ll, e1, k⟩
            · exact .inl ⟨q, c, hh, i, s, loopD_more st k⟩
            · exact .inr ⟨q, f', jj, ll, e1, loopD_more st k⟩
          · rw [if_neg e2]
            rw [Bool.not_eq_true] at e2
            rw [e2, nF, cT] at common
            exact .inl ⟨by dsimp only; omega, _, _, _, _, loopD_out common⟩

/-- What Close returns. -/
noncomputable def closeS (t : GTerms) (l : List GTr) (d : Int) : List GRat × (List GTr × (List GConv × Int)) :=
  if chkT t ≠ 0 then ([], ([], ([], chkT t)))
  else if chkS l ≠ 0 then ([], ([], ([], chkS l)))
  else if errF t d l ≠ 0 then ([], ([], ([], errF t d l)))
  else if (runC (trF t d) (trM t d) none [] [] l).2.2 ≠ 0 then ([], ([], ([], (runC (trF t d) (trM t d) none [] [] l).2.2)))
  else (l.map (trF t d), ((runC (trF t d) (trM t d) none [] [] l).1, ((runC (trF t d) (trM t d) none [] [] l).2.1, 0)))

theorem chkS_len {l : List GTr} (h : chkS l = 0) : l.length ≤ 64 ∧ ∀ j (h : j < l.length), TrGood l j h := by
  unfold chkS at h
  split at h
  · assumption
  · omega

theorem Close_ok {t : GTerms} {l : List GTr} {d : Int} (ht : WFT t) (hw : ∀ x ∈ l, WFTr x) (hne : l ≠ []) : g_series_Close t l d = some (closeS t l d) := by
  have hemp : List.isEmpty l = false := by cases l with
    | nil => exact absurd rfl hne
    | cons a b => rfl
  unfold g_series_Close g_series_Close_1 closeS
  rw [hemp, cF, checkT_ok ht, obind, bne_dec]
  by_cases c1 : chkT t ≠ 0
  · rw [decide_eq_true c1, cT, if_pos c1]
  rw [decide_eq_false c1, cF, if_neg c1, scheck_ok hw, obind, bne_dec]
  by_cases c2 : chkS l ≠ 0
  · rw [decide_eq_true c2, cT, if_pos c2]
  have hl := (chkS_len (l := l) (by omega)).1
  rw [decide_eq_false c2, cF, if_neg c2, Bool.false_or, show (!(Nat.ble (List.length l * 544) appLim)) = false by
    have : Nat.ble (List.length l * 544) appLim = true := Nat.ble_eq_true_of_le (by show _ ≤ 140737488355328; omega)
    rw [this]; rfl, cF]
  have h1 := cl1_loop (d := d) ht hw hl l [] (-1) rfl (.inl ⟨rfl, by simp [-List.getD_eq_getElem?_getD]⟩)
  rw [List.map_nil, List.map_nil, List.nil_append] at h1
  unfold cl1 at h1
  rcases h1 with ⟨q, fees, j, i, arr, k⟩ | ⟨q, lead, k, hL⟩
  · rw [if_pos q, show ((([] : List GTr).length : Nat) : Int) = 0 from rfl] at *
    rw [k, obind]
    rfl
  · rw [if_neg (show ¬ errF t d l ≠ 0 by omega)]
    rw [show ((([] : List GTr).length : Nat) : Int) = 0 from rfl] at k
    rw [k, obind]
    dsimp only
    rw [show Nat.beq 1 0 = false from rfl, cF, decide_eq_true (show ((0 : Int) = 0 ∧ 0 ≤ (0 : Int) ∧ (0 : Int) ≤ (l.length : Int) ∧ (l.length : Int) ≤ (l.length : Int)) from ⟨rfl, by omega, by omega, by omega⟩), cT, zTr_eq]
    have h2 := cl2_loop (t := t) (d := d) hw hl (lead := lead) (arr0 := l.map (trM t d)) l [] [] [] [] none zTr rfl ⟨hL, .inl ⟨rfl, by simp [-List.getD_eq_getElem?_getD]⟩⟩ rfl (by simp [-List.getD_eq_getElem?_getD]) (by simp [-List.getD_eq_getElem?_getD])
    unfold cl1 cl2 at h2
    rw [List.nil_append, List.nil_append, show ((([] : List GTr).length : Nat) : Int) = 0 from rfl] at h2
    rcases h2 with ⟨q, c, hh, i, s, k⟩ | ⟨q, f', jj, ll, e1, k⟩
    · rw [if_pos q, k, obind]
      rfl
    · rw [if_neg (show ¬ (runC (trF t d) (trM t d) none [] [] l).2.2 ≠ 0 from fun z => z q), k, obind]
      dsimp only
      rw [show Nat.beq 1 0 = false from rfl, cF, decide_eq_true (show (0 : Int) ≤ (ll.length : Int) ∧ (ll.length : Int) ≤ ((ll ++ jj).length : Int) by rw [List.length_append]; omega), cT, show ((ll.length : Int)).toNat = ll.length by omega, List.take_left, e1]

end Go.Ev

namespace Go.Ev
set_option linter.unusedVariables false
set_option linter.unusedSimpArgs false

theorem sub_z {a b : Rat} (h : b = 0) : a = a - b := by grind

structure TrMade (x : GTr) : Prop where
  gross : G 23 x.2.1
  pos : 0 < toQ x.2.1
  wat : WaterM x.2.2

/-- What becomes of a made tranche. -/
structure TrR (t : GTerms) (d : Int) (x : GTr) (o n : GRat) : Prop where
  own : feeS t x.2.2 x.2.1 d = (o, 0)
  go : G 98 o
  o0 : 0 ≤ toQ o
  err : trE t d x = 0
  fee : trF t d x = o
  net : (trM t d x).2.1 = n
  gn : G 122 n
  vn : toQ n = toQ x.2.1 - toQ o
  pos : 0 < toQ n

theorem trR_ok {t : GTerms} {d : Int} {x : GTr} (ht : TermsM t) (hx : TrMade x) (d0 : x.2.2.2 ≤ d) (d1 : d ≤ 73048) : ∃ o n, TrR t d x o n := by
  obtain ⟨o, eo, go, vo, hc⟩ := cryS_G ht hx.wat.ok hx.gross hx.pos (by omega) d0 d1
  obtain ⟨n, en, gn, vn⟩ := g_sub hx.gross go (by omega)
  have o0 : 0 ≤ toQ o := by rw [vo]; exact feeQ_nonneg ht
  have hthr := (thrQ_pos ht hx.wat.ok d0 d1).2
  have hfee : toQ o ≤ toQ x.2.1 - 0 ∧ 0 < toQ x.2.1 - toQ o := by
    have hxp := hx.pos
    rcases net_facts (w := x.2.2) (g := x.2.1) (d := d) ht with ⟨a, b⟩ | ⟨a, b, c, e⟩
    · rw [vo, a]; grind
    · rw [vo]; grind
  have hE : trE t d x = 0 ∧ trF t d x = o := by
    unfold trE trF
    rcases hc with ⟨_, h⟩ | ⟨_, n', q, _, _, _, _, _, _, _, h⟩ <;> rw [h] <;> exact ⟨rfl, rfl⟩
  have hm : trM t d x = if trF t d x = wholeR 0 then x else (x.1, ((subR x.2.1 (trF t d x)).1, (cryS t x.2.2 x.2.1 d).2.1)) := rfl
  rw [hE.2, en] at hm
  have key : G 122 (trM t d x).2.1 ∧ toQ (trM t d x).2.1 = toQ x.2.1 - toQ o ∧ 0 < toQ (trM t d x).2.1 := by
   by_cases h0 : o = wholeR 0
   · rw [if_pos h0] at hm
     have z := (eq_whole0 go).1 h0
     rw [hm]
     exact ⟨hx.gross.mono (by omega), sub_z z, hx.pos⟩
   · rw [if_neg h0] at hm
     rw [hm]
     exact ⟨gn, vn, by rw [vn]; exact hfee.2⟩
  exact ⟨o, (trM t d x).2.1, eo, go, o0, hE.1, hE.2, rfl, key.1, key.2.1, key.2.2⟩

theorem TrMade.wf {x : GTr} (h : TrMade x) (i : I64 x.1) : WFTr x := ⟨i, h.gross.wf, h.wat.ok.wf (by have := h.wat.s1; omega)⟩

/-- What Close returns for made tranches. -/
structure RunR (t : GTerms) (d : Int) (l left : List GTr) (conv : List GConv) : Prop where
  left : ∀ y ∈ left, ∃ x ∈ l, y = trM t d x
  conv : ∀ y ∈ conv, ∃ x ∈ l, ∃ g ∈ l, y.1 = x.1 ∧ y.2.1 = g.1 ∧ quoR (trM t d x).2.1 (trM t d g).2.1 = (y.2.2, 0)

theorem runC_made {t : GTerms} {d : Int} {l : List GTr} (hl : ∀ x ∈ l, ∃ o n, TrR t d x o n) : ∀ (xs : List GTr) (f : Option GTr) (left : List GTr) (conv : List GConv), (∀ x ∈ xs, x ∈ l) → (∀ g, f = some g → ∃ x ∈ l, g = trM t d x) → RunR t d l left conv →
    (runC (trF t d) (trM t d) f left conv xs).2.2 = 331 ∨
    ((runC (trF t d) (trM t d) f left conv xs).2.2 = 0 ∧ RunR t d l (runC (trF t d) (trM t d) f left conv xs).1 (runC (trF t d) (trM t d) f left conv xs).2.1 ∧
      (runC (trF t d) (trM t d) f left conv xs).1.length + (runC (trF t d) (trM t d) f left conv xs).2.1.length = left.length + conv.length + xs.length)
  | [], f, left, conv, hx, hf, h => .inr ⟨rfl, h, rfl⟩
  | x :: xs, f, left, conv, hx, hf, h => by
    have hxl := hx x (by simp [-List.getD_eq_getElem?_getD])
    have hxs : ∀ y ∈ xs, y ∈ l := fun y hy => hx y (by simp [-List.getD_eq_getElem?_getD, hy])
    have hkeep : RunR t d l (left ++ [trM t d x]) conv := ⟨fun y hy => by
      rcases List.mem_append.1 hy with q | q
      · exact h.left y q
      · exact ⟨x, hxl, List.mem_singleton.1 q⟩, h.conv⟩
    unfold runC
    by_cases h0 : trF t d x = wholeR 0
    · rw [if_pos h0]
      have := runC_made hl xs f (left ++ [trM t d x]) conv hxs hf hkeep
      simp only [List.length_append, List.length_cons, List.length_nil] at this ⊢
      rcases this with k | ⟨k1, k2, k3⟩
      · exact .inl k
      · exact .inr ⟨k1, k2, by omega⟩
    · rw [if_neg h0]
      cases f with
      | none =>
        dsimp only
        have := runC_made hl xs (some (trM t d x)) (left ++ [trM t d x]) conv hxs (fun g e => by injection e with e; exact ⟨x, hxl, e.symm⟩) hkeep
        simp only [List.length_append, List.length_cons, List.length_nil] at this ⊢
        rcases this with k | ⟨k1, k2, k3⟩
        · exact .inl k
        · exact .inr ⟨k1, k2, by omega⟩
      | some g =>
        obtain ⟨y, hy, rfl⟩ := hf g rfl
        obtain ⟨o, n, r⟩ := hl x hxl
        obtain ⟨o', n', r'⟩ := hl y hy
        obtain ⟨q, eq, gq, vq⟩ := g_quo r.gn r'.gn (by omega) (by have := r'.pos; grind)
        have eqq : quoR (trM t d x).2.1 (trM t d y).2.1 = (q, 0) := by rw [r.net, r'.net]; exact eq
        dsimp only
        rw [eqq]
        dsimp only
        rw [if_neg (by omega)]
        by_cases hfac : facR q = true
        · rw [if_pos hfac]
          have := runC_made hl xs (some (trM t d y)) left (conv ++ [((trM t d x).1, ((trM t d y).1, q))]) hxs hf ⟨h.left, fun z hz => by
            rcases List.mem_append.1 hz with k | k
            · exact h.conv z k
            · rw [List.mem_singleton.1 k]
              exact ⟨x, hxl, y, hy, trM_day _ _ _, trM_day _ _ _, eqq⟩⟩
          simp only [List.length_append, List.length_cons, List.length_nil] at this ⊢
          rcases this with k | ⟨k1, k2, k3⟩
          · exact .inl k
          · exact .inr ⟨k1, k2, by omega⟩
        · rw [if_neg hfac]
          exact .inl rfl

theorem errF_made {t : GTerms} {d : Int} : ∀ l : List GTr, (∀ x ∈ l, ∃ o n, TrR t d x o n) → errF t d l = 0
  | [], _ => rfl
  | x :: xs, h => by
    obtain ⟨o, n, r⟩ := h x (by simp [-List.getD_eq_getElem?_getD])
    unfold errF
    rw [if_neg (by rw [r.err]; omega)]
    exact errF_made xs fun y hy => h y (by simp [-List.getD_eq_getElem?_getD, hy])

theorem closeS_made {t : GTerms} {d : Int} {l : List GTr} (ht : TermsM t) (hs : chkS l = 0) (hl : ∀ x ∈ l, ∃ o n, TrR t d x o n) :
    closeS t l d = ([], ([], ([], 331))) ∨ ∃ left conv, closeS t l d = (l.map (trF t d), (left, (conv, 0))) ∧ RunR t d l left conv ∧ left.length + conv.length = l.length := by
  unfold closeS
  rw [if_neg (by rw [ht.chk]; omega), if_neg (by rw [hs]; omega), if_neg (by rw [errF_made l hl]; omega)]
  rcases runC_made hl l none [] [] (fun x h => h) (fun g e => by simp [-List.getD_eq_getElem?_getD] at e) ⟨by simp [-List.getD_eq_getElem?_getD], by simp [-List.getD_eq_getElem?_getD]⟩ with k | ⟨k1, k2, k3⟩
  · rw [k, if_pos (by omega)]
    exact .inl rfl
  · rw [k1, if_neg (by omega)]
    exact .inr ⟨_, _, rfl, k2, by rw [k3]; simp [-List.getD_eq_getElem?_getD]⟩

end Go.Ev

namespace Go.Ev
set_option linter.unusedVariables false
set_option linter.unusedSimpArgs false

/-! The example. -/
theorem makeOf_q {n d g n' d' : Int} (i1 : I64 n) (i2 : I64 d) (hn : n = g * n') (hd : d = g * d') (hg : 0 < g) (h : QV n' d') : g_make_Of n d = some (qR n' d') := by
  unfold g_make_Of
  rw [refOf_ok i1 i2, obind, redR_q hn hd hg h]

theorem frac9s : fracR 2 5 9 = qR 4 365 := fracR_q (g := 1) (by omega) (by omega) (by omega) (by omega) (by omega) (by omega) (by omega) ⟨by omega, by decide, by omega, by omega⟩

theorem thr9s {m : Int} (hm : 0 < m) (hm2 : m ≤ 1000000) (g : Int) (hg : 0 < g) (hg2 : g ≤ 1000000) : thrS (qR 1 5, (qR 0 1, 2)) (qR m 1, 5) (qR g 1) 9 = (qR m 1, 0) := by
  have q9 : QV 4 365 := ⟨by omega, by decide, by omega, by omega⟩
  have q0 : QV 0 1 := qw (by omega)
  have qm : QV m 1 := qw (by omega)
  have q1 : QV 1 1 := qw (by omega)
  refine thrS_q (chkA_q (chkT_q (part_q q1_5 (by omega) (by omega)) (part_q q0 (by omega) (by omega)) (by omega) (by omega)) (chkW_q (above_q qm hm) (by omega) (by omega)) (above_q (qw (by omega)) hg) (by omega) (by omega) (by show (5 : Int) ≤ 9; omega)) frac9s ?_
  exact thr_q _ (mulR_q (g := 365) q0 q9 (by omega) (by omega) (by omega) q0) (addR_q (g := 1) q1 q0 (by omega) (by omega) (by omega) q1) (mulR_q (g := 1) qm q1 (by omega) (by omega) (by omega) qm)

theorem fee9s : feeS (qR 1 5, (qR 0 1, 2)) (qR 120 1, 5) (qR 130 1) 9 = (qR 2 1, 0) := by
  have qm : QV 120 1 := qw (by omega)
  have qg : QV 130 1 := qw (by omega)
  have qd : QV 10 1 := qw (by omega)
  have qx : QV 2 1 := qw (by omega)
  exact feeS_q (thr9s (m := 120) (by omega) (by omega) 130 (by omega) (by omega)) (by rw [cmpR_q qm qg]; dsimp only; rw [cmpZ_lt]; omega) (subR_q (g := 1) qg qm (by omega) (by omega) (by omega) qd) (mulR_q (g := 5) q1_5 qd (by omega) (by omega) (by omega) qx)

theorem cry9s : cryS (qR 1 5, (qR 0 1, 2)) (qR 120 1, 5) (qR 130 1) 9 = (qR 2 1, ((qR 128 1, 9), 0)) :=
  cryS_q fee9s (signR_q (qw (by omega))) (by decide) (subR_q (g := 1) (n' := 128) (d' := 1) (qw (by omega)) (qw (by omega)) (by omega) (by omega) (by omega) (qw (by omega))) (quantR_q (q := 128000000000) (g := 1000000000) (qw (by omega)) (by omega) (by omega) (by omega) (by omega) (by omega) (qw (by omega)))

theorem two_not : (qR 2 1 : GRat) ≠ wholeR 0 := by
  intro e
  have h1 := (qw (n := 2) (by omega)).v1
  have h2 := (qw (n := 0) (by omega)).v1
  rw [e, whole_q, h2] at h1
  omega

theorem close9s : closeS (qR 1 5, (qR 0 1, 2)) [(5, (qR 130 1, (qR 120 1, 5)))] 9 = ([qR 2 1], ([(5, (qR 128 1, (qR 128 1, 9)))], ([], 0))) := by
  have h1 : chkT (qR 1 5, (qR 0 1, 2)) = 0 := chkT_q (part_q q1_5 (by omega) (by omega)) (part_q (qw (by omega)) (by omega) (by omega)) (by omega) (by omega)
  have h2 : chkS [(5, (qR 130 1, (qR 120 1, 5)))] = 0 := by
    unfold chkS
    rw [if_pos]
    refine ⟨by simp [-List.getD_eq_getElem?_getD], fun j h => ?_⟩
    obtain rfl : j = 0 := by simpa [-List.getD_eq_getElem?_getD] using h
    exact ⟨by show (0 : Int) ≤ 5; omega, by show (5 : Int) ≤ 73048; omega, fun k e => by omega, above_q (qw (by omega)) (by omega), chkW_q (above_q (qw (by omega)) (by omega)) (by omega) (by omega)⟩
  have h3 : trE (qR 1 5, (qR 0 1, 2)) 9 (5, (qR 130 1, (qR 120 1, 5))) = 0 := by unfold trE; rw [cry9s]
  have h4 : trF (qR 1 5, (qR 0 1, 2)) 9 (5, (qR 130 1, (qR 120 1, 5))) = qR 2 1 := by unfold trF; rw [cry9s]
  have h5 : trM (qR 1 5, (qR 0 1, 2)) 9 (5, (qR 130 1, (qR 120 1, 5))) = (5, (qR 128 1, (qR 128 1, 9))) := by
    unfold trM
    rw [h4, if_neg two_not, cry9s, subR_q (g := 1) (n' := 128) (d' := 1) (qw (by omega)) (qw (by omega)) (by omega) (by omega) (by omega) (qw (by omega))]
  have h6 : errF (qR 1 5, (qR 0 1, 2)) 9 [(5, (qR 130 1, (qR 120 1, 5)))] = 0 := by
    unfold errF errF
    rw [h3, if_neg (by omega)]
  have h7 : runC (trF (qR 1 5, (qR 0 1, 2)) 9) (trM (qR 1 5, (qR 0 1, 2)) 9) none [] [] [(5, (qR 130 1, (qR 120 1, 5)))] = ([(5, (qR 128 1, (qR 128 1, 9)))], ([], 0)) := by
    unfold runC
    rw [h4, if_neg two_not, h5]
    dsimp only
    unfold runC
    rfl
  unfold closeS
  rw [h1, if_neg (by omega), h2, if_neg (by omega), h6, if_neg (by omega), h7]
  dsimp only
  rw [if_neg (by omega), List.map_cons, List.map_nil, h4]

theorem top_awake : g_top_awake33 = some true := by
  unfold g_top_awake33
  have ow : ∀ n : Int, n.natAbs ≤ 1000000 → g_make_Of n 1 = some (qR n 1) := fun n h => makeOf_q (g := 1) (i64_s (by omega)) i64_1 (by omega) (by omega) (by omega) (qw (by omega))
  have o1 : g_make_Of 1 5 = some (qR 1 5) := makeOf_q (g := 1) (i64_s (by omega)) (i64_s (by omega)) (by omega) (by omega) (by omega) q1_5
  have ht : WFT (qR 1 5, (qR 0 1, 2)) := ⟨qR_wf _ _, qR_wf _ _, i64_s (by decide)⟩
  have hc := Close_ok (t := (qR 1 5, (qR 0 1, 2))) (l := [(5, (qR 130 1, (qR 120 1, 5)))]) (d := 9) ht (fun x hx => by
    rw [List.mem_singleton.1 hx]
    exact ⟨i64_s (by decide), qR_wf _ _, qR_wf _ _, i64_s (by decide)⟩) (by simp [-List.getD_eq_getElem?_getD])
  rw [close9s] at hc
  have a1 : adjS (qR 1 5, (qR 0 1, 2)) (qR 100 1, 0) (qR 120 1, 5) (qR 130 1) 9 = (qR 4 1, 0) :=
    adj_q (fee9 (x := 6) (by omega) (by omega) (by omega) (by omega) (by omega) (by omega)) fee9s (subR_q (g := 1) (qw (by omega)) (qw (by omega)) (by omega) (by omega) (by omega) (qw (by omega)))
  rw [o1, obind, ow 0 (by omega), obind, ow 130 (by omega), obind, ow 120 (by omega), obind]
  dsimp only
  rw [hc, obind, ow 100 (by omega), obind, obind, obind, Adjust_ok ht ⟨qR_wf _ _, i64_0⟩ ⟨qR_wf _ _, i64_s (by decide)⟩ (qR_wf _ _), obind, a1]
  dsimp only
  rw [show ((0 : Int) == 0) = true from rfl, cT, show ((([(5, (qR 128 1, (qR 128 1, 9)))] : List GTr).length : Int) == 1) = true from rfl, cT, show inb 0 ([(5, (qR 128 1, (qR 128 1, 9)))] : List GTr).length = true from rfl, cT, show (0 : Int).toNat = 0 from rfl, getD_lt _ (show 0 < ([(5, (qR 128 1, (qR 128 1, 9)))] : List GTr).length by simp [-List.getD_eq_getElem?_getD]), ow 128 (by omega), obind]
  rw [show ([(5, (qR 128 1, (qR 128 1, 9)))] : List GTr)[0] = (5, (qR 128 1, (qR 128 1, 9))) from rfl]
  dsimp only
  rw [eqB, decide_eq_true rfl, cT, cT, ow 4 (by omega), obind, eqB, decide_eq_true rfl]

end Go.Ev

namespace Go.Ev
set_option linter.unusedVariables false
set_option linter.unusedSimpArgs false

/-- Four tranches of one value. -/
structure Four (g : GRat) (l : List GTr) : Prop where
  day : ∀ j (h : j < l.length), l[j].1 = 10 * (j : Int)
  val : ∀ x ∈ l, x.2.1 = g
  wat : ∀ x ∈ l, WaterM x.2.2

theorem Four.snoc {g : GRat} {l : List GTr} (h : Four g l) {w : GWater} (hw : WaterM w) : Four g (l ++ [(10 * (l.length : Int), (g, w))]) := by
  refine ⟨fun j hj => ?_, fun x hx => ?_, fun x hx => ?_⟩
  · by_cases q : j < l.length
    · rw [List.getElem_append_left q]; exact h.day j q
    · have : j = l.length := by simp [-List.getD_eq_getElem?_getD] at hj; omega
      subst this
      simp [-List.getD_eq_getElem?_getD]
  · rcases List.mem_append.1 hx with q | q
    · exact h.val x q
    · rw [List.mem_singleton.1 q]
  · rcases List.mem_append.1 hx with q | q
    · exact h.wat x q
    · rw [List.mem_singleton.1 q]; exact hw

theorem four_loop {g : GRat} {y : GTape} (hy : TapeOK y) : ∃ l y', loopD (g_top_TopMethods_L11 g) ((([] : List GTr), (0 : Int)), y) = some (0, ((l, 4), y')) ∧ l.length = 4 ∧ Four g l := by
  obtain ⟨e, t, h1, h2⟩ := loopD_up (body := g_top_TopMethods_L11 g) 4
    (fun i s => ∃ l y, s = ((l, (i : Int)), y) ∧ l.length = i ∧ Four g l ∧ TapeOK y)
    (fun e s => e = 0 ∧ ∃ l y, s = ((l, 4), y) ∧ l.length = 4 ∧ Four g l)
    (fun i s hi hI => by
      obtain ⟨l, y, rfl, hl, hF, hy⟩ := hI
      unfold g_top_TopMethods_L11
      dsimp only
      obtain ⟨w, y', e1, hw, h1⟩ := water_ok hy
      rw [decide_eq_true (show (i : Int) < 4 by omega), cT, e1, obind]
      dsimp only
      rw [app_one (by rw [hl]; omega), cF, wrap_i64 (n := 10 * (i : Int)) (by omega) (by omega), wrap_i64 (n := (i : Int) + 1) (by omega) (by omega)]
      refine ⟨_, rfl, l ++ [(10 * (i : Int), (g, w))], y', by rw [show ((i + 1 : Nat) : Int) = (i : Int) + 1 by omega], by simp [-List.getD_eq_getElem?_getD, hl], ?_, h1⟩
      have := hF.snoc hw
      rw [hl] at this
      exact this)
    (fun s hI => by
      obtain ⟨l, y, rfl, hl, hF, hy⟩ := hI
      unfold g_top_TopMethods_L11
      dsimp only
      rw [decide_eq_false (show ¬ ((4 : Nat) : Int) < 4 by omega), cF]
      exact ⟨0, _, rfl, rfl, l, y, rfl, hl, hF⟩)
    (s := (([], 0), y)) ⟨[], y, rfl, rfl, ⟨fun j h => by simp [-List.getD_eq_getElem?_getD] at h, by simp [-List.getD_eq_getElem?_getD], by simp [-List.getD_eq_getElem?_getD]⟩, hy⟩
  obtain ⟨rfl, l, y', rfl, hl, hF⟩ := h2
  exact ⟨l, y', h1, hl, hF⟩

/-- All that is made. -/
structure TopM (t : GTerms) (c : GWater) (g : GRat) (d : Int) (l : List GTr) : Prop where
  tm : TermsM t
  wm : WaterM c
  gm : G 23 g
  pos : 0 < toQ g
  d0 : 800 ≤ d
  d1 : d < 1600
  len : l.length = 4
  four : Four g l

theorem TopM.tr {t : GTerms} {c : GWater} {g : GRat} {d : Int} {l : List GTr} (m : TopM t c g d l) : ∀ x ∈ l, TrMade x := fun x hx => by
  have e := m.four.val x hx
  exact ⟨by rw [e]; exact m.gm, by rw [e]; exact m.pos, m.four.wat x hx⟩

theorem TopM.ix {t : GTerms} {c : GWater} {g : GRat} {d : Int} {l : List GTr} (m : TopM t c g d l) {x : GTr} (hx : x ∈ l) : ∃ j, ∃ h : j < l.length, l[j] = x ∧ x.1 = 10 * (j : Int) ∧ j < 4 := by
  obtain ⟨j, h, e⟩ := List.mem_iff_getElem.1 hx
  exact ⟨j, h, e, by rw [← e]; exact m.four.day j h, by have := m.len; omega⟩

theorem TopM.wf {t : GTerms} {c : GWater} {g : GRat} {d : Int} {l : List GTr} (m : TopM t c g d l) : ∀ x ∈ l, WFTr x := fun x hx => by
  obtain ⟨j, h, e, e1, j4⟩ := m.ix hx
  exact (m.tr x hx).wf (by rw [e1]; unfold I64; omega)

theorem TopM.res {t : GTerms} {c : GWater} {g : GRat} {d : Int} {l : List GTr} (m : TopM t c g d l) : ∀ x ∈ l, ∃ o n, TrR t d x o n := fun x hx => by
  have h := m.tr x hx
  have := h.wat.s1
  have := m.d0
  have := m.d1
  exact trR_ok m.tm h (by omega) (by omega)

theorem TopM.chk {t : GTerms} {c : GWater} {g : GRat} {d : Int} {l : List GTr} (m : TopM t c g d l) : chkS l = 0 := by
  have hlen := m.len
  unfold chkS
  rw [if_pos]
  refine ⟨by omega, fun j h => ?_⟩
  have hx := m.tr _ (List.getElem_mem h)
  have e := m.four.day j h
  have s1 := hx.wat.s1
  exact ⟨by omega, by omega, fun k ek => by
    subst ek
    have := m.four.day k (by omega)
    omega, above_Q hx.gross.v hx.pos, hx.wat.ok.chk (by omega)⟩

theorem top_own {t : GTerms} {c : GWater} {g : GRat} {d : Int} {l : List GTr} (m : TopM t c g d l) {f n : GRat} (hf : feeS t c g d = (f, 0)) (gf : G 98 f) (hn : subR g f = (n, 0)) (gn : G 122 n) (vn : toQ n = toQ g - toQ f) {x : GTr} (hx : x ∈ l) :
    ∃ o a y, TrR t d x o y ∧ G 98 o ∧ WFR a ∧ adjS t c x.2.2 g d = (a, 0) ∧ addR n a = (y, 0) ∧ subR g o = (y, 0) ∧ (trM t d x).2.1 = y := by
  obtain ⟨o, y, r⟩ := m.res x hx
  have e := m.four.val x hx
  have eo := r.own
  rw [e] at eo
  have vy := r.vn
  rw [e] at vy
  obtain ⟨a, ea, ga, va⟩ := g_sub gf r.go (by omega)
  obtain ⟨z, ez, gz, vz⟩ := g_add gn ga (by omega)
  obtain ⟨u, eu, gu, vu⟩ := g_sub m.gm r.go (by omega)
  have h1 : z = y := made_ext gz.made r.gn.made (by rw [vz, vn, va, vy]; grind)
  have h2 : u = y := made_ext gu.made r.gn.made (by rw [vu, vy])
  refine ⟨o, a, y, r, r.go, ga.wf, ?_, by rw [← h1]; exact ez, by rw [← h2]; exact eu, r.net⟩
  unfold adjS
  rw [hf, eo]
  dsimp only
  rw [if_pos rfl, if_pos rfl, ea]

theorem top_inner {t : GTerms} {c : GWater} {g : GRat} {d : Int} {l : List GTr} (m : TopM t c g d l) {left : List GTr} {conv : List GConv} (hr : RunR t d l left conv) {i : Nat} (hi : i < l.length) {y : GRat} (hy : (trM t d l[i]).2.1 = y) {fs : List GRat} {e0 : Int} {o : Nat × ((List GTr × Int) × GTape)} (ho : o.2.1.1 = l) (hlen : left.length ≤ 4) :
    ∃ j, loopD (g_top_TopMethods_L28 (fs, (left, (conv, e0))) ((false, (i : Int)), ()) o (y, 0)) ((false, (0 : Int)), ()) = some (1, ((false, j), ())) := by
  have hl4 := m.len
  obtain ⟨e, s, k1, k2⟩ := loopD_up (body := g_top_TopMethods_L28 (fs, (left, (conv, e0))) ((false, (i : Int)), ()) o (y, 0)) left.length
    (fun j s => s = ((false, (j : Int)), ())) (fun e s => e = 1 ∧ ∃ j, s = ((false, j), ()))
    (fun j s hj hI => by
      subst hI
      refine ⟨_, ?_, rfl⟩
      unfold g_top_TopMethods_L28
      dsimp only
      rw [ho, zTr_eq, decide_eq_true (show (j : Int) < (left.length : Int) by omega), cT, inb_true (by omega) (by omega), cT, inb_true (i := (i : Int)) (by omega) (by omega), cT, show ((i : Int)).toNat = i by omega, show ((j : Int)).toNat = j by omega, getD_lt l hi, getD_lt left hj, beq_dec, cT, eqB, wrap_i64 (n := (j : Int) + 1) (by omega) (by omega), show ((j + 1 : Nat) : Int) = (j : Int) + 1 by omega]
      by_cases hd : left[j].1 = l[i].1
      · rw [decide_eq_true hd, cT]
        obtain ⟨x, hx, ex⟩ := hr.left _ (List.getElem_mem hj)
        obtain ⟨k, hk, ek, dk, _⟩ := m.ix hx
        have di := m.four.day i hi
        rw [ex, trM_day] at hd
        have : k = i := by omega
        subst this
        rw [ex, ← ek, hy, decide_eq_true rfl, nT, cF]
      · rw [decide_eq_false hd, cF])
    (fun s hI => by
      subst hI
      refine ⟨1, ((false, (left.length : Int)), ()), ?_, rfl, _, rfl⟩
      unfold g_top_TopMethods_L28
      dsimp only
      rw [decide_eq_false (show ¬ (left.length : Int) < (left.length : Int) by omega), cF])
    (s := ((false, 0), ())) rfl
  obtain ⟨k2, j, k3⟩ := k2
  subst k2 k3
  exact ⟨j, k1⟩

theorem top_outer {t : GTerms} {c : GWater} {g : GRat} {d : Int} {l : List GTr} (m : TopM t c g d l) {f n : GRat} (hf : feeS t c g d = (f, 0)) (gf : G 98 f) (hn : subR g f = (n, 0)) (gn : G 122 n) (vn : toQ n = toQ g - toQ f)
    {left : List GTr} {conv : List GConv} (hr : RunR t d l left conv) (hlen : left.length ≤ 4) {k7 : Int} (e7 : IntKind.i64.wrap (800 + k7) = d) {x2 x3 x7 : GTape} {o : Nat × ((List GTr × Int) × GTape)} (ho : o.2.1.1 = l) :
    ∃ i, loopD (g_top_TopMethods_L20 o (t, x2) (c, x3) g (k7, x7) (n, 0) (l.map (trF t d), (left, (conv, 0)))) ((false, (0 : Int)), ()) = some (1, ((false, i), ())) := by
  have hl4 := m.len
  obtain ⟨e, s, k1, k2⟩ := loopD_up (body := g_top_TopMethods_L20 o (t, x2) (c, x3) g (k7, x7) (n, 0) (l.map (trF t d), (left, (conv, 0)))) l.length
    (fun i s => s = ((false, (i : Int)), ())) (fun e s => e = 1 ∧ ∃ i, s = ((false, i), ()))
    (fun i s hi hI => by
      subst hI
      refine ⟨_, ?_, rfl⟩
      have hm : l[i] ∈ l := List.getElem_mem hi
      have hw := (m.wf _ hm).water
      obtain ⟨q, a, y, r, gq, wa, e1, e2, e3, e4⟩ := top_own m hf gf hn gn vn hm
      obtain ⟨j, ej⟩ := top_inner m hr hi e4 (fs := l.map (trF t d)) (e0 := 0) ho hlen
      unfold g_top_TopMethods_L20
      dsimp only
      rw [ho, zTr_eq, zRat_eq, decide_eq_true (show (i : Int) < (l.length : Int) by omega), cT, inb_true (by omega) (by omega), cT, show ((i : Int)).toNat = i by omega, getD_lt l hi, e7, Adjust_ok m.tm.wf (m.wm.ok.wf (by have := m.wm.s1; omega)) hw m.gm.wf, obind, e1]
      dsimp only
      rw [refaddR_ok gn.wf wa, obind, e2, inb_true (by omega) (by rw [List.length_map]; omega), cT, getD_map l (trF t d) hi, r.fee, refsubR_ok m.gm.wf gq.wf, obind, e3]
      dsimp only
      rw [show ((0 : Int) != 0) = false from rfl, cF, cF, cF, eqB, decide_eq_true rfl, nT, cF, ej, obind]
      dsimp only
      rw [show Nat.beq 1 0 = false from rfl, cF, wrap_i64 (n := (i : Int) + 1) (by omega) (by omega), show ((i + 1 : Nat) : Int) = (i : Int) + 1 by omega])
    (fun s hI => by
      subst hI
      refine ⟨1, ((false, (l.length : Int)), ()), ?_, rfl, _, rfl⟩
      unfold g_top_TopMethods_L20
      dsimp only
      rw [ho, decide_eq_false (show ¬ (l.length : Int) < (l.length : Int) by omega), cF])
    (s := ((false, 0), ())) rfl
  obtain ⟨k2, i, k3⟩ := k2
  subst k2 k3
  exact ⟨i, k1⟩

theorem top_conv {t : GTerms} {c : GWater} {g : GRat} {d : Int} {l : List GTr} (m : TopM t c g d l) {f n : GRat} (hf : feeS t c g d = (f, 0)) (gf : G 98 f) (hn : subR g f = (n, 0)) (gn : G 122 n) (vn : toQ n = toQ g - toQ f)
    {left : List GTr} {conv : List GConv} (hr : RunR t d l left conv) (hlen : conv.length ≤ 4) {o : Nat × ((List GTr × Int) × GTape)} (ho : o.2.1.1 = l) :
    ∃ i, loopD (g_top_TopMethods_L33 (l.map (trF t d), (left, (conv, 0))) o g) ((false, (0 : Int)), ()) = some (1, ((false, i), ())) := by
  have hl4 := m.len
  obtain ⟨e, s, k1, k2⟩ := loopD_up (body := g_top_TopMethods_L33 (l.map (trF t d), (left, (conv, 0))) o g) conv.length
    (fun i s => s = ((false, (i : Int)), ())) (fun e s => e = 1 ∧ ∃ i, s = ((false, i), ()))
    (fun i s hi hI => by
      subst hI
      refine ⟨_, ?_, rfl⟩
      obtain ⟨x, hx, z, hz, ex, ez, eq⟩ := hr.conv _ (List.getElem_mem hi)
      obtain ⟨j, hj, ej, dj, j4⟩ := m.ix hx
      obtain ⟨k, hk, ek, dk, k4⟩ := m.ix hz
      obtain ⟨q, a, y, r, gq, wa, e1, e2, e3, e4⟩ := top_own m hf gf hn gn vn hx
      obtain ⟨q', a', y', r', gq', wa', e1', e2', e3', e4'⟩ := top_own m hf gf hn gn vn hz
      have hq : quoR y y' = (conv[i].2.2, 0) := by rw [← e4, ← e4']; exact eq
      have p' : toQ y' ≠ 0 := by have := r'.pos; grind
      obtain ⟨w, ew, gw, vw⟩ := g_quo r.gn r'.gn (by omega) p'
      rw [hq] at ew
      injection ew with ew _
      obtain ⟨v, ev, gv, vv⟩ := g_mul gw r'.gn (by omega)
      have hv : v = y := made_ext gv.made r.gn.made (by rw [vv, vw]; exact Rat.div_mul_cancel p')
      rw [hv] at ev
      have h10 : decide ((10 : Int) = 0) = false := rfl
      have m1 : (10 * (j : Int)).tmod 10 = 0 := by rw [Int.mul_tmod_right]
      have d1 : IntKind.i64.wrap ((10 * (j : Int)).tdiv 10) = (j : Int) := by rw [Int.mul_tdiv_cancel_left _ (by omega), wrap_i64 (by omega) (by omega)]
      have d2 : IntKind.i64.wrap ((10 * (k : Int)).tdiv 10) = (k : Int) := by rw [Int.mul_tdiv_cancel_left _ (by omega), wrap_i64 (by omega) (by omega)]
      unfold g_top_TopMethods_L33
      dsimp only
      rw [ho, zRat_eq, decide_eq_true (show (i : Int) < (conv.length : Int) by omega), cT, inb_true (by omega) (by omega), cT, show ((i : Int)).toNat = i by omega, getD_lt conv hi, ex, ez, dj, dk, h10, m1, d1, d2]
      simp only [cF]
      rw [decide_eq_false (show ¬ 10 * (j : Int) < 0 by omega), cF, show ((0 : Int) != 0) = false from rfl, cF, decide_eq_false (show ¬ (j : Int) ≥ (l.length : Int) by omega), cF, decide_eq_false (show ¬ 10 * (k : Int) < 0 by omega), cF, decide_eq_false (show ¬ (k : Int) ≥ (l.length : Int) by omega), cF,
        inb_true (i := (j : Int)) (by omega) (by rw [List.length_map]; omega), cT, show ((j : Int)).toNat = j by omega, getD_map l (trF t d) hj, ej, r.fee, refsubR_ok m.gm.wf gq.wf, obind, inb_true (i := (k : Int)) (by omega) (by rw [List.length_map]; omega), cT, show ((k : Int)).toNat = k by omega, getD_map l (trF t d) hk, ek, r'.fee, refsubR_ok m.gm.wf gq'.wf, obind, e3, e3', ew]
      dsimp only
      rw [refmulR_ok gw.wf r'.gn.wf, obind, ev, eqB, decide_eq_true rfl, nT, cF, wrap_i64 (n := (i : Int) + 1) (by omega) (by omega), show ((i + 1 : Nat) : Int) = (i : Int) + 1 by omega])
    (fun s hI => by
      subst hI
      refine ⟨1, ((false, (conv.length : Int)), ()), ?_, rfl, _, rfl⟩
      unfold g_top_TopMethods_L33
      dsimp only
      rw [decide_eq_false (show ¬ (conv.length : Int) < (conv.length : Int) by omega), cF])
    (s := ((false, 0), ())) rfl
  obtain ⟨k2, i, k3⟩ := k2
  subst k2 k3
  exact ⟨i, k1⟩

theorem top_law {l : List Int} (hl : TapeOK (l, 0)) : g_top_TopMethods l = some true := by
  unfold g_top_TopMethods
  obtain ⟨t, t1, e1, ht, h1⟩ := terms_ok hl
  rw [e1, obind]
  dsimp only
  obtain ⟨c, t2, e2, hc, h2⟩ := water_ok h1
  rw [e2, obind]
  dsimp only
  obtain ⟨r, t3, e3, r0, r1, h3⟩ := next_ok h2 (m := 30000) (by omega) (by omega)
  rw [e3, obind]
  dsimp only
  obtain ⟨i, t4, hi, e4, h4⟩ := pick_ok h3 (l := [100, 1, 7]) (by simp [-List.getD_eq_getElem?_getD]) (by simp [-List.getD_eq_getElem?_getD])
  rw [e4, obind]
  dsimp only
  have hv : 1 ≤ ([100, 1, 7] : List Int).getD i 0 ∧ ([100, 1, 7] : List Int).getD i 0 ≤ 100 := by
    have : i < 3 := by simpa [-List.getD_eq_getElem?_getD] using hi
    have : i = 0 ∨ i = 1 ∨ i = 2 := by omega
    rcases this with rfl | rfl | rfl <;> decide
  generalize ([100, 1, 7] : List Int).getD i 0 = dd at *
  rw [wrap_i64 (n := 1 + r) (by omega) (by omega)]
  obtain ⟨g, eg, gg, qg⟩ := ratio_ok (n := 1 + r) (d := dd) (k := 15) (by unfold I64; omega) (by unfold I64; omega) (by omega) (by omega) (by omega) (by omega)
  rw [eg, obind]
  obtain ⟨k7, t7, e7, k70, k71, h7⟩ := next_ok h4 (m := 800) (by omega) (by omega)
  rw [e7, obind]
  dsimp only
  have gp : 0 < toQ g := by rw [qg]; exact div_pos' (by omega) (by omega)
  have g23 : G 23 g := gg.mono (by omega)
  have ed : IntKind.i64.wrap (800 + k7) = 800 + k7 := wrap_i64 (by omega) (by omega)
  have cs := hc.s1
  obtain ⟨f, ef, gf, vf⟩ := feeS_G (d := 800 + k7) ht hc.ok g23 gp (by omega) (by omega) (by omega)
  obtain ⟨n, en, gn, vn⟩ := g_sub g23 gf (by omega)
  rw [ed, Fee_ok ht.wf (hc.ok.wf (by omega)) g23.wf, obind, ef, refsubR_ok g23.wf gf.wf, obind, en]
  dsimp only
  rw [show ((0 : Int) != 0) = false from rfl, cF, cF]
  obtain ⟨ls, y, e13, hlen, hF⟩ := four_loop (g := g) h7
  have m : TopM t c g (800 + k7) ls := ⟨ht, hc, g23, gp, by omega, by omega, hlen, hF⟩
  rw [e13, obind]
  dsimp only
  rw [Close_ok ht.wf m.wf (by intro e; rw [e] at hlen; simp [-List.getD_eq_getElem?_getD] at hlen), obind]
  rcases closeS_made ht m.chk m.res with h | ⟨left, conv, h, hr, hlc⟩
  · rw [h]
    dsimp only
    rw [show ((331 : Int) == 331) = true from rfl, cT, top_awake, obind]
  · rw [h]
    dsimp only
    rw [show ((0 : Int) == 331) = false from rfl, cF, show ((0 : Int) != 0) = false from rfl, cF, List.length_map, show ((ls.length : Int) != (ls.length : Int)) = false by rw [bne_dec, decide_eq_false (by omega)], cF, wrap_i64 (n := (left.length : Int) + (conv.length : Int)) (by omega) (by omega),
      show (((left.length : Int) + (conv.length : Int)) != (ls.length : Int)) = false by rw [bne_dec, decide_eq_false (by omega)], cF]
    obtain ⟨i1, k1⟩ := top_outer m ef gf en gn vn hr (by omega) ed (x2 := t1) (x3 := t2) (x7 := t7) (o := (0, ((ls, 4), y))) rfl
    obtain ⟨i2, k2⟩ := top_conv m ef gf en gn vn hr (by omega) (o := (0, ((ls, 4), y))) rfl
    rw [k1, obind]
    dsimp only
    rw [show Nat.beq 1 0 = false from rfl, cF, k2, obind]
    dsimp only
    rw [show Nat.beq 1 0 = false from rfl, cF, top_awake, obind]

end Go.Ev
