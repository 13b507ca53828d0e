/- The reference ends a period as the program does, for all made classes and lots. -/
import Derived.Test.YtgadoabnjcahoaaGreatLawEW
import Derived.Test.YtgadoabnjcahoaaGreatLawCW
import Derived.Test.YtgadoabnjcahoaaGreatDefsEW
set_option exponentiation.threshold 2000
namespace Go.Ev
set_option linter.unusedVariables false
set_option linter.unusedSimpArgs false

theorem refmarks_ok {ls : List GLot} (h : RightL ls) : g_ref32_Marks ls = some true := by
  have hlen := h.len
  unfold g_ref32_Marks
  rw [decide_eq_false (show ¬ (ls.length : Int) > 256 by omega), cF]
  obtain ⟨e, t, h1, h2⟩ := loopD_up (body := g_ref32_Marks_L4 ls) ls.length (fun i s => s = ((false, (i : Int)), ())) (fun e s => e = 1)
    (fun i s hi hI => by
      subst hI
      refine ⟨_, ?_, rfl⟩
      have hm : ls[i] ∈ ls := List.getElem_mem hi
      unfold g_ref32_Marks_L4
      dsimp only
      rw [zLot_eq, decide_eq_true (show (i : Int) < (ls.length : Int) by omega), cT, inb_true (by omega) (by omega), cT]
      rw [show ((i : Int)).toNat = i by omega, getD_lt ls hi]
      have a := h.lo _ hm
      have b := h.hi _ hm
      rw [decide_eq_false (by omega), cF, cT, decide_eq_false (by omega), cF]
      have hck := refCheckW_ok (h.wf _ hm)
      rw [h.chk _ hm] at hck
      by_cases hz : (i : Int) > 0
      · obtain ⟨j, rfl⟩ : ∃ j, i = j + 1 := ⟨i - 1, by omega⟩
        rw [decide_eq_true hz, cT, wrap_i64 (n := ((j + 1 : Nat) : Int) - 1) (by omega) (by omega), inb_true (i := ((j + 1 : Nat) : Int) - 1) (by omega) (by omega), cT, cT, show (((j + 1 : Nat) : Int) - 1).toNat = j by omega, getD_lt ls (show j < ls.length by omega)]
        have := List.pairwise_iff_getElem.1 h.ord j (j + 1) (by omega) hi (by omega)
        rw [decide_eq_false (by omega), cF, cT, hck, obind, show ((0 : Int) != 0) = false from rfl, cF, wrap_i64 (n := ((j + 1 : Nat) : Int) + 1) (by omega) (by omega), show ((j + 1 + 1 : Nat) : Int) = ((j + 1 : Nat) : Int) + 1 by omega]
      · rw [decide_eq_false hz, cF, cT, hck, obind, show ((0 : Int) != 0) = false from rfl, cF, wrap_i64 (n := (i : Int) + 1) (by omega) (by omega), show ((i + 1 : Nat) : Int) = (i : Int) + 1 by omega])
    (fun s hI => by
      subst hI
      refine ⟨1, ((false, (ls.length : Int)), ()), ?_, rfl⟩
      unfold g_ref32_Marks_L4
      dsimp only
      rw [decide_eq_false (show ¬ (ls.length : Int) < (ls.length : Int) by omega), cF])
    (s := ((false, 0), ())) rfl
  rw [h1, obind]
  subst h2
  rfl

theorem refQuo_ok {a b : GRat} (ha : WFR a) (hb : WFR b) : g_ref02_Quo a b = some (quoR a b) := by
  unfold g_ref02_Quo quoR op2
  rw [refvalid_ok ha, obind]
  by_cases va : ValidR a
  · rw [decide_eq_true va, nT, cF, refvalid_ok hb, obind]
    by_cases vb : ValidR b
    · have p2 := prod_MX va.kn vb.kd
      have p3 := prod_MX va.kd vb.kn
      rw [decide_eq_true vb, nT, cF, if_pos ⟨va, vb⟩, refproduct_ok ha.num hb.den p2, obind, refproduct_ok ha.den hb.num p3, obind, refmake_ok (zI_wf _) (zI_wf _), obind, val_zI p2, val_zI p3]
    · rw [decide_eq_false vb, nF, cT, if_neg (fun h => vb h.2), ← zRat_eq]
  · rw [decide_eq_false va, nF, cT, if_neg (fun h => va h.1), ← zRat_eq]

theorem exactQuo_ok {a b : GRat × Int} (ha : WFR a.1) (hb : WFR b.1) : g_exact_Quo a b = some (step2 quoR a b) := by
  unfold g_exact_Quo g_exact_first step2
  rw [zRat_eq, bne_dec]
  by_cases h1 : a.2 = 0
  · rw [decide_eq_false (by omega), cF, obind, bne_dec, if_neg (by omega)]
    by_cases h2 : b.2 = 0
    · rw [decide_eq_false (by omega), cF, if_neg (by omega), refQuo_ok ha hb, obind]
    · rw [decide_eq_true h2, cT, if_pos h2]
  · rw [decide_eq_true h1, cT, obind, bne_dec, decide_eq_true h1, cT, if_pos h1]

theorem sameRatios_ok {l : List GRat} (h : l.length ≤ 1000) : g_ref32_SameRatios l l = some true := by
  unfold g_ref32_SameRatios
  rw [show ((l.length : Int) != (l.length : Int)) = false by rw [bne_dec, decide_eq_false (by omega)], cF]
  obtain ⟨e, t, h1, h2⟩ := loopD_up (body := g_ref32_SameRatios_L4 l l) l.length (fun i s => s = ((false, (i : Int)), ())) (fun e s => e = 1)
    (fun i s hi hI => by
      subst hI
      refine ⟨_, ?_, rfl⟩
      unfold g_ref32_SameRatios_L4
      dsimp only
      rw [zRat_eq, decide_eq_true (show (i : Int) < (l.length : Int) by omega), cT, inb_true (by omega) (by omega), cT, cT, eqB, decide_eq_true rfl, nT, cF, wrap_i64 (n := (i : Int) + 1) (by omega) (by omega), show ((i + 1 : Nat) : Int) = (i : Int) + 1 by omega])
    (fun s hI => by
      subst hI
      refine ⟨1, ((false, (l.length : Int)), ()), ?_, rfl⟩
      unfold g_ref32_SameRatios_L4
      dsimp only
      rw [decide_eq_false (show ¬ (l.length : Int) < (l.length : Int) by omega), cF])
    (s := ((false, 0), ())) rfl
  rw [h1, obind]
  subst h2
  rfl

theorem sameLots_ok {l : List GLot} (h : l.length ≤ 1000) : g_ref32_Same l l = some true := by
  unfold g_ref32_Same
  rw [show ((l.length : Int) != (l.length : Int)) = false by rw [bne_dec, decide_eq_false (by omega)], cF]
  obtain ⟨e, t, h1, h2⟩ := loopD_up (body := g_ref32_Same_L4 l l) l.length (fun i s => s = ((false, (i : Int)), ())) (fun e s => e = 1)
    (fun i s hi hI => by
      subst hI
      refine ⟨_, ?_, rfl⟩
      unfold g_ref32_Same_L4
      dsimp only
      rw [zLot_eq, decide_eq_true (show (i : Int) < (l.length : Int) by omega), cT, inb_true (by omega) (by omega), cT, cT, eqB, decide_eq_true rfl, beq_dec, decide_eq_true rfl, beq_dec, decide_eq_true rfl, show (!(true && (true && true))) = false from rfl, cF, wrap_i64 (n := (i : Int) + 1) (by omega) (by omega), show ((i + 1 : Nat) : Int) = (i : Int) + 1 by omega])
    (fun s hI => by
      subst hI
      refine ⟨1, ((false, (l.length : Int)), ()), ?_, rfl⟩
      unfold g_ref32_Same_L4
      dsimp only
      rw [decide_eq_false (show ¬ (l.length : Int) < (l.length : Int) by omega), cF])
    (s := ((false, 0), ())) rfl
  rw [h1, obind]
  subst h2
  rfl

/-- The state of the loop. -/
noncomputable def refAt (A : GLot → GRat) (M : GLot → GLot) (ls : List GLot) (i : Nat) : ((List GRat × (List GLot × (Int × (List GRat × (List GLot × Int))))) × (GRat × GWater)) :=
  (([], ([], (0, ((ls.take i).map A, ((ls.take i).map M, (i : Int)))))), (zRat, (zRat, 0)))

theorem adj_fee {t : GTerms} {c l : GWater} {g : GRat} {d : Int} (h : (adjS t c l g d).2 = 0) : Made (feeS t l g d).1 := by
  unfold adjS at h
  by_cases h1 : (feeS t c g d).2 = 0
  · rw [if_pos h1] at h
    by_cases h2 : (feeS t l g d).2 = 0
    · exact feeS_made h2
    · rw [if_neg h2] at h; exact absurd h h2
  · rw [if_neg h1] at h; exact absurd h h1

theorem ref_step {t : GTerms} {c : GWater} {g : GRat} {d : Int} {f n : GRat} {ls : List GLot} {A : GLot → GRat} {M : GLot → GLot} {cw : GWater × Int} (ha : CryArgs t c g f n ls) (hf : Made f) {i : Nat} (hi : i < ls.length)
    (h0 : (lotS t c g d f n ls[i]).2 = 0) (hA : A ls[i] = (lotS t c g d f n ls[i]).1.1) (hM : M ls[i] = (lotS t c g d f n ls[i]).1.2) :
    g_ref32_Crystallise_L10 t c ls g d (n, 0) (f, cw) (refAt A M ls i) = some (.more (refAt A M ls (i + 1))) := by
  have hlen := ha.len
  have hm : ls[i] ∈ ls := List.getElem_mem hi
  have hw := ha.wf _ hm
  have hq := quoR_wf n g
  have hp : WFR (step2 mulR (ls[i].2.1, 0) (quoR n g)).1 := step2_wf mulR_wf _ _
  have hadj := refAdjust_ok (d := d) ha.ht ha.hc hw ha.hg
  have hfee := refFee_ok (d := d) ha.ht hw ha.hg
  have hlen2 : ((ls.take i).map A).length = i := by rw [List.length_map, List.length_take]; omega
  have hlen3 : ((ls.take i).map M).length = i := by rw [List.length_map, List.length_take]; omega
  have hmapA : (ls.take i).map A ++ [A ls[i]] = (ls.take (i + 1)).map A := by rw [take_succ' hi, List.map_append]; rfl
  have hmapM : (ls.take i).map M ++ [M ls[i]] = (ls.take (i + 1)).map M := by rw [take_succ' hi, List.map_append]; rfl
  have hI : IntKind.i64.wrap ((i : Int) + 1) = ((i + 1 : Nat) : Int) := by rw [wrap_i64 (by omega) (by omega)]; omega
  unfold g_ref32_Crystallise_L10 refAt g_exact_Of
  dsimp only
  rw [zLot_eq, decide_eq_true (show (i : Int) < (ls.length : Int) by omega), cT, inb_true (by omega) (by omega), cT]
  rw [show ((i : Int)).toNat = i by omega, getD_lt ls hi, hadj, obind, bne_dec]
  unfold lotS at h0 hA hM
  by_cases ae : (adjS t c ls[i].2 g d).2 ≠ 0
  · rw [if_pos ae] at h0; exact absurd h0 ae
  rw [if_neg ae] at h0 hA hM
  have ae0 : (adjS t c ls[i].2 g d).2 = 0 := by omega
  have mo := adj_fee ae0
  rw [decide_eq_false ae, cF, cT, hfee, obind, obind, exactSign_ok (a := ((feeS t ls[i].2 g d).1, 0)) (made_wf mo), obind, bne_dec, cond_dec]
  by_cases oe : (feeS t ls[i].2 g d).1 = wholeR 0
  · rw [if_pos oe] at h0 hA hM
    rw [if_neg (show ¬ (signR (feeS t ls[i].2 g d).1).1 ≠ 0 from fun q => q ((made_zero mo).1 oe)), obind, exactSign_ok (a := (f, 0)) ha.hf, obind, bne_dec, cond_dec]
    by_cases fe : f = wholeR 0
    · rw [if_pos fe] at h0 hA hM
      rw [if_neg (show ¬ (signR f).1 ≠ 0 from fun q => q ((made_zero hf).1 fe)), cF]
      unfold g_ref32_Crystallise_E123_2
      dsimp only
      dsimp only at hA hM
      rw [app_one (by rw [hlen2]; omega), cF, app_one (by rw [hlen3]; omega), cF, ← hA, hmapA, show (ls.take i).map M ++ [ls[i]] = (ls.take (i + 1)).map M by rw [← hmapM, hM], hI]
    · rw [if_neg fe] at h0 hA hM
      rw [if_pos (show (signR f).1 ≠ 0 from fun q => fe ((made_zero hf).2 q)), obind, obind, exactQuo_ok (a := (n, 0)) (b := (g, 0)) ha.hn ha.hg, obind, step2_ok, exactMul_ok (a := (ls[i].2.1, 0)) hw.mark hq, obind, refAfter_ok hp, obind]
      generalize step2 mulR (ls[i].2.1, 0) (quoR n g) = p at *
      by_cases pe : p.2 ≠ 0
      · rw [if_pos pe] at h0; exact absurd h0 pe
      rw [if_neg pe] at h0 hA hM
      rw [if_pos (show p.2 = 0 by omega)]
      by_cases qe : (quantR p.1).2 ≠ 0
      · rw [if_pos qe] at h0; exact absurd h0 qe
      rw [if_neg qe] at h0 hA hM
      rw [if_pos (show (quantR p.1).2 = 0 by omega)]
      dsimp only
      rw [show ((0 : Int) != 0) = false from rfl, cF]
      unfold g_ref32_Crystallise_E123
      dsimp only
      dsimp only at hA hM
      rw [app_one (by rw [hlen2]; omega), cF, app_one (by rw [hlen3]; omega), cF, ← hA, ← hM, hmapA, hmapM, hI]
  · rw [if_neg oe] at h0 hA hM
    rw [if_pos (show (signR (feeS t ls[i].2 g d).1).1 ≠ 0 from fun q => oe ((made_zero mo).2 q)), refAfter_ok (x := (n, 0)) ha.hn, obind]
    by_cases qe : (quantR n).2 ≠ 0
    · rw [if_pos qe] at h0; exact absurd h0 qe
    rw [if_neg qe] at h0 hA hM
    dsimp only
    rw [if_pos rfl, if_pos (show (quantR n).2 = 0 by omega)]
    dsimp only
    rw [show ((0 : Int) != 0) = false from rfl, cF]
    unfold g_ref32_Crystallise_E123
    dsimp only
    dsimp only at hA hM
    rw [app_one (by rw [hlen2]; omega), cF, app_one (by rw [hlen3]; omega), cF, ← hA, ← hM, hmapA, hmapM, hI]

/-- The reference's Crystallise, of lots that all go well. -/
theorem refcryst_ok {t : GTerms} {c c' : GWater} {g : GRat} {d : Int} {f n : GRat} {ls : List GLot} (ht : WFT t) (hc : WFW c) (hg : WFR g) (hr : RightL ls) (h1 : cryS t c g d = (f, (c', 0))) (hf : Made f) (h2 : subR g f = (n, 0))
    (h3 : ∀ x ∈ ls, (lotS t c g d f n x).2 = 0) :
    g_ref32_Crystallise t c ls g d = some (f, (c', (ls.map (fun x => (lotS t c g d f n x).1.1), (ls.map (fun x => (lotS t c g d f n x).1.2), 0)))) := by
  have hlen := hr.len
  have hn : WFR n := by have := subR_wf g f; rw [h2] at this; exact this
  have ha : CryArgs t c g f n ls := ⟨ht, hc, hg, made_wf hf, hn, hr.len, hr.wf⟩
  obtain ⟨e, s, k1, k2⟩ := loopD_up (body := g_ref32_Crystallise_L10 t c ls g d (n, 0) (f, (c', 0))) ls.length
    (fun i s => s = refAt (fun x => (lotS t c g d f n x).1.1) (fun x => (lotS t c g d f n x).1.2) ls i)
    (fun e s => e = 1 ∧ s = refAt (fun x => (lotS t c g d f n x).1.1) (fun x => (lotS t c g d f n x).1.2) ls ls.length)
    (fun i s hi hI => by
      subst hI
      exact ⟨_, ref_step ha hf hi (h3 _ (List.getElem_mem hi)) rfl rfl, rfl⟩)
    (fun s hI => by
      subst hI
      refine ⟨1, refAt (fun x => (lotS t c g d f n x).1.1) (fun x => (lotS t c g d f n x).1.2) ls ls.length, ?_, rfl, rfl⟩
      unfold g_ref32_Crystallise_L10 refAt
      dsimp only
      rw [decide_eq_false (show ¬ (ls.length : Int) < (ls.length : Int) by omega), cF])
    (s := refAt (fun x => (lotS t c g d f n x).1.1) (fun x => (lotS t c g d f n x).1.2) ls 0) rfl
  obtain ⟨k2, k3⟩ := k2
  subst k2 k3
  unfold refAt at k1
  rw [List.take_zero, List.map_nil, List.map_nil] at k1
  unfold g_ref32_Crystallise g_exact_Of
  rw [refCrystallise_ok ht hc hg, obind, h1, zRat_eq]
  dsimp only
  rw [show ((0 : Int) != 0) = false from rfl, cF, refmarks_ok hr, obind, nT, cF, obind, obind, exactSub_ok (a := (g, 0)) (b := (f, 0)) hg (made_wf hf), obind, step2_ok, h2]
  have e0 : (((0 : Nat) : Int)) = 0 := rfl
  rw [e0] at k1
  rw [k1, obind]
  dsimp only
  rw [show Nat.beq 1 0 = false from rfl, cF, List.take_length]

theorem period2 {t : GTerms} {c : GWater} {ls : List GLot} {g : GRat} {d : Int} (m : Made32 t c ls g d) : ∃ f n c', Period t c ls g d f n c' ∧ cryS t c g d = (f, (c', 0)) := by
  obtain ⟨f, n, c', p⟩ := period_ok m
  refine ⟨f, n, c', p, ?_⟩
  have s0 := m.wm.s0
  have s1 := m.wm.s1
  obtain ⟨f', ef, gf, vf, hcc⟩ := cryS_G m.tm m.wm.ok m.gm m.pos (by omega) (show c.2 ≤ d by have := m.d0; omega) (show d ≤ 73048 by have := m.d1; omega)
  have e1 := p.fee
  rw [ef] at e1
  injection e1 with e1 _
  subst e1
  have hr := m.lots.right (by omega) (by have := m.len; omega)
  have h3 : ∀ x ∈ ls, (lotS t c g d f' n x).2 = 0 := fun x hx => by
    obtain ⟨o, a, h⟩ := p.lot x hx
    rcases h.res with ⟨_, q, _, _, _, e⟩ | ⟨_, _, e⟩ | ⟨_, _, q, _, _, _, e⟩ <;> rw [e]
  have key : ∀ c'', cryS t c g d = (f', (c'', 0)) → c' = c'' := fun c'' h => by
    have := cryst_ok m.tm.wf (m.wm.ok.wf (by omega)) m.gm.wf hr h p.net h3
    rw [p.cry] at this
    injection this with this
    injection this with _ this
    injection this
  rcases hcc with ⟨h0, h⟩ | ⟨hpos, nt, q, en', gnt, vnt, eq, gq, q1, q2, h⟩
  · rw [h, key _ h]
  · rw [h, key _ h]

theorem madeLots_law {l : List Int} (hl : TapeOK (l, 0)) : g_law32_EqualisationOfMadeLots l = some true := by
  obtain ⟨t, c, ls, g, d, e, m⟩ := made32 hl
  obtain ⟨f, n, c', p, hcry⟩ := period2 m
  have hlen := m.len
  have hc := p.cry
  have s0 := m.wm.s0
  have s1 := m.wm.s1
  have ww := m.wm.ok.wf (by omega)
  have hr := m.lots.right (by omega) (by omega)
  have h3 : ∀ x ∈ ls, (lotS t c g d f n x).2 = 0 := fun x hx => by
    obtain ⟨o, a, h⟩ := p.lot x hx
    rcases h.res with ⟨_, q, _, _, _, e⟩ | ⟨_, _, e⟩ | ⟨_, _, q, _, _, _, e⟩ <;> rw [e]
  have hrc := refcryst_ok m.tm.wf ww m.gm.wf hr hcry p.gf.made p.net h3
  unfold g_law32_EqualisationOfMadeLots
  rw [e, obind]
  dsimp only
  rw [hc, obind, hrc, obind]
  dsimp only
  rw [eqB, eqB, decide_eq_true rfl, decide_eq_true rfl, beq_dec, decide_eq_true rfl, cT, show (true && true) = true from rfl, cT, sameRatios_ok (by rw [List.length_map]; omega), obind, cT, sameLots_ok (by rw [List.length_map]; omega), obind, cT, beq_dec, decide_eq_true rfl, cT, cT, awake32, obind]

end Go.Ev
