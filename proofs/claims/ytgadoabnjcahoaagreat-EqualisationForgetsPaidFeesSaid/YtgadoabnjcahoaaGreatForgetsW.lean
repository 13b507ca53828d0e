/- The law EqualisationForgetsPaidFees: for every input the call returns true, and each argument reads as it did before. -/
import Derived.Test.YtgadoabnjcahoaaGreatLawEW
import Derived.Test.YtgadoabnjcahoaaGreatLawCW
import Derived.Test.YtgadoabnjcahoaaGreatRowTW
import Derived.Test.YtgadoabnjcahoaaGreatThmsDW
set_option exponentiation.threshold 2000
namespace Go.Ev
set_option linter.unusedVariables false
set_option linter.unusedSimpArgs false

theorem sign_pos {k : Nat} {a : GRat} (h : G k a) (hp : 0 < toQ a) : (signR a).1 = 1 := by
  rcases sign_Q h.v with ⟨q, e⟩ | ⟨q, e⟩ | ⟨q, e⟩
  · grind
  · grind
  · exact e

theorem sign_nonneg {k : Nat} {a : GRat} (h : G k a) (hp : 0 ≤ toQ a) : 0 ≤ (signR a).1 := by
  rcases sign_Q h.v with ⟨q, e⟩ | ⟨q, e⟩ | ⟨q, e⟩
  · grind
  · omega
  · omega

theorem sign_le {k : Nat} {a : GRat} (h : G k a) (hp : ¬ (signR a).1 ≤ 0) : 0 < toQ a := by
  rcases sign_Q h.v with ⟨q, e⟩ | ⟨q, e⟩ | ⟨q, e⟩
  · omega
  · omega
  · exact q

theorem fee_at_mark {k j : Nat} {t : GTerms} {w : GWater} {n : GRat} {d : Int} (ht : TermsM t) (hw : Wok k w) (hn : G j n) (np : 0 < toQ n) (hk : k + j + 60 ≤ 480) (d0 : w.2 ≤ d) (d1 : d ≤ 73048) (h : toQ n ≤ toQ w.1) :
    ∃ z, feeS t w n d = (z, 0) ∧ (signR z).1 = 0 ∧ WFR z := by
  obtain ⟨z, ez, gz, vz⟩ := feeS_G ht hw hn np hk d0 d1
  refine ⟨z, ez, (sign_zero gz).2 ?_, gz.wf⟩
  have := (thrQ_pos ht hw d0 d1).1
  rw [vz]
  unfold feeQ
  rw [if_neg (by grind)]

/-- The gap of a mark that was kept. -/
theorem gap_Q {m n g q : Rat} (gp : 0 < g) (h1 : m * (n / g) ≤ q) (h2 : q < m * (n / g) + tiny) : 0 ≤ q * g - m * n ∧ q * g - m * n < g * tiny := by
  have e : m * (n / g) * g = m * n := by
    have : g ≠ 0 := by grind
    grind
  have a := Rat.mul_le_mul_of_nonneg_right h1 (show 0 ≤ g by grind)
  have b : q * g < (m * (n / g) + tiny) * g := by
    rw [Rat.mul_comm q, Rat.mul_comm (m * (n / g) + tiny)]
    exact (Rat.mul_lt_mul_left gp).2 h2
  constructor <;> grind

theorem forg_body {t : GTerms} {c : GWater} {ls : List GLot} {g : GRat} {d : Int} {f n : GRat} {c' : GWater} {A : GLot → GRat} {e : Int} (m : Made32 t c ls g d) (p : Period t c ls g d f n c') (np : 0 < toQ n) {i : Nat} (hi : i < ls.length) {o a : GRat} (h : LotR t c g d f n ls[i] o a)
    {M : GLot → GLot} (hM : M ls[i] = (lotS t c g d f n ls[i]).1.2) :
    g_law32_EqualisationForgetsPaidFees_L12 (t, (c, (ls, (g, d)))) (f, (c', (ls.map A, (ls.map M, e)))) (n, 0) ((false, (i : Int)), ()) = some (.more ((false, (i : Int) + 1), ())) := by
  have hlen := m.len
  have hm : ls[i] ∈ ls := List.getElem_mem hi
  have hL := m.lots.lot _ hm
  have hs1 := hL.s1
  have dd0 := m.d0
  have dd1 := m.d1
  have hww := hL.w.wf (show ls[i].2.2 ≤ 73048 by omega)
  unfold g_law32_EqualisationForgetsPaidFees_L12 g_exact_Of
  dsimp only
  rw [zLot_eq, decide_eq_true (show (i : Int) < (ls.length : Int) by omega), cT, inb_true (by omega) (by omega), cT, show ((i : Int)).toNat = i by omega, getD_lt ls hi, refFee_ok m.tm.wf hww m.gm.wf, obind, h.own, inb_true (by omega) (by rw [List.length_map]; omega), cT, getD_map ls M hi, hM]
  have wi : IntKind.i64.wrap ((i : Int) + 1) = (i : Int) + 1 := wrap_i64 (by omega) (by omega)
  rcases h.res with ⟨h0, q, gq, q1, q2, e1⟩ | ⟨h0, hf0, e1⟩ | ⟨h0, hf0, q, gq, q1, q2, e1⟩
  · rw [e1]
    dsimp only
    have hw2 : Wok 154 (q, d) := ⟨gq, by show 0 < toQ q; grind, by show 0 ≤ d; omega⟩
    obtain ⟨z, ez, sz, wz⟩ := fee_at_mark m.tm hw2 p.gn np (by omega) (by show d ≤ d; omega) (by omega) (show toQ n ≤ toQ q from q1)
    have hs : ((signR o).1 != 0) = true := by rw [bne_dec, decide_eq_true (show (signR o).1 ≠ 0 from fun e => h0 ((sign_zero h.go).1 e))]
    rw [refFee_ok m.tm.wf (hw2.wf (show d ≤ 73048 by omega)) p.gn.wf, obind, ez, cT, cT, bne_dec, decide_eq_false (by omega), cF, obind, exactSign_ok (a := (o, 0)) h.go.wf, obind]
    dsimp only
    rw [hs, cT, show ((0 : Int) != 0) = false from rfl, cF, obind, exactSign_ok (a := (z, 0)) wz, obind, sz, show ((0 : Int) != 0) = false from rfl, cF, wi]
  · rw [e1]
    dsimp only
    have hs : ((signR o).1 != 0) = false := by rw [(sign_zero h.go).2 h0]; rfl
    have hs2 : ((signR f).1 == 0) = true := by rw [(sign_zero p.gf).2 hf0]; rfl
    rw [refFee_ok m.tm.wf hww p.gn.wf, obind, cT, cT, bne_dec, decide_eq_false (by omega), cF, obind, exactSign_ok (a := (o, 0)) h.go.wf, obind]
    dsimp only
    rw [hs, cF, obind, exactSign_ok (a := (f, 0)) p.gf.wf, obind]
    dsimp only
    rw [hs2, cT, cT, cT, eqB, beq_dec, beq_dec, decide_eq_true rfl, decide_eq_true rfl, decide_eq_true rfl, show (!(true && (true && true))) = false from rfl, cF, wi]
  · rw [e1]
    dsimp only
    have hs : ((signR o).1 != 0) = false := by rw [(sign_zero h.go).2 h0]; rfl
    have hs2 : ((signR f).1 == 0) = false := by rw [beq_dec, decide_eq_false (show ¬ (signR f).1 = 0 from fun e => hf0 ((sign_zero p.gf).1 e))]
    have hwq : WFW (q, ls[i].2.2) := ⟨gq.wf, hww.since⟩
    obtain ⟨x1, ex1, gx1, vx1⟩ := g_mul gq m.gm (by omega)
    obtain ⟨x2, ex2, gx2, vx2⟩ := g_mul hL.w.mark p.gn (by omega)
    obtain ⟨x3, ex3, gx3, vx3⟩ := g_sub gx1 gx2 (by omega)
    obtain ⟨b, eb, gb, vb⟩ := over_ok (n := 1) (d := 1000000000) (k := 30) (by unfold I64; omega) (by unfold I64; omega) (by omega) (by decide) (by decide) (by omega)
    obtain ⟨y, ey, gy, vy⟩ := g_mul m.gm gb (by omega)
    obtain ⟨gap0, gap1⟩ := gap_Q m.pos q1 q2
    have v1 : toQ b = tiny := by rw [vb]; rfl
    have hlt : (cmpR x3 y).1 < 0 := by
      rw [cmp_Q gx3.v gy.v, vx3, vx1, vx2, vy, v1]; exact gap1
    have hsg : ¬ (signR x3).1 < 0 := by
      have := sign_nonneg gx3 (by rw [vx3, vx1, vx2]; exact gap0)
      omega
    rw [refFee_ok m.tm.wf hwq p.gn.wf, obind, cT, cT, bne_dec, decide_eq_false (by omega), cF, obind, exactSign_ok (a := (o, 0)) h.go.wf, obind]
    dsimp only
    rw [hs, cF, obind, exactSign_ok (a := (f, 0)) p.gf.wf, obind]
    dsimp only
    rw [hs2, cF, cT, obind, obind, exactMul_ok (a := (q, 0)) (b := (g, 0)) gq.wf m.gm.wf, obind, step2_ok, ex1, cT, obind, exactMul_ok (a := (ls[i].2.1, 0)) (b := (n, 0)) hww.mark p.gn.wf, obind, step2_ok, ex2, exactSub_ok (a := (x1, 0)) (b := (x2, 0)) gx1.wf gx2.wf, obind, step2_ok, ex3, cT, cT, bne_dec, decide_eq_false (by omega), cF, exactSign_ok (a := (x3, 0)) gx3.wf, obind]
    dsimp only
    rw [decide_eq_false hsg, cF, obind, eb, obind, exactMul_ok (a := (g, 0)) (b := (b, 0)) m.gm.wf gb.wf, obind, step2_ok, ey, exactLess_ok (a := (x3, 0)) (b := (y, 0)) gx3.wf gy.wf, obind]
    dsimp only
    rw [decide_eq_true hlt, nT, cF, wi]

theorem forgets_law {l : List Int} (hl : TapeOK (l, 0)) : g_law32_EqualisationForgetsPaidFees l = some true := by
  obtain ⟨t, c, ls, g, d, e, m⟩ := made32 hl
  obtain ⟨f, n, c', p⟩ := period_ok m
  have hlen := m.len
  have hc := p.cry
  have s0 := m.wm.s0
  have s1 := m.wm.s1
  have dd0 := m.d0
  have dd1 := m.d1
  unfold g_law32_EqualisationForgetsPaidFees g_exact_Of
  rw [e, obind]
  dsimp only
  rw [hc, obind, obind, obind]
  dsimp only
  rw [exactSub_ok (a := (g, 0)) (b := (f, 0)) m.gm.wf p.gf.wf, obind, step2_ok, p.net, show ((0 : Int) != 0) = false from rfl, cF, List.length_map, show ((ls.length : Int) != (ls.length : Int)) = false by rw [bne_dec, decide_eq_false (by omega)], cF, exactSign_ok (a := (n, 0)) p.gn.wf, obind]
  dsimp only
  by_cases hs : (signR n).1 ≤ 0
  · rw [decide_eq_true hs, cT, awake32, obind]
  · rw [decide_eq_false hs, cF]
    have np := sign_le p.gn hs
    have fz : ∃ z, feeS t c' n d = (z, 0) ∧ (signR z).1 = 0 ∧ WFR z ∧ WFW c' := by
      rcases p.next with ⟨h0, h⟩ | ⟨hpos, q, h, gq, q1, q2⟩
      · subst h
        have hw := m.wm.ok
        obtain ⟨z, ez, gz, vz⟩ := feeS_G m.tm hw p.gn np (by omega) (show c'.2 ≤ d by omega) (show d ≤ 73048 by omega)
        refine ⟨z, ez, (sign_zero gz).2 ?_, gz.wf, hw.wf (by omega)⟩
        have e0 : toQ n = toQ g := by rw [p.vn, h0]; grind
        have e1 := p.vf
        rw [h0] at e1
        rw [vz, e1]
        unfold feeQ
        rw [e0]
      · subst h
        have hw2 : Wok 154 (q, d) := ⟨gq, by show 0 < toQ q; grind, by show 0 ≤ d; omega⟩
        obtain ⟨z, ez, sz, wz⟩ := fee_at_mark m.tm hw2 p.gn np (by omega) (by show d ≤ d; omega) (by omega) (show toQ n ≤ toQ q from q1)
        exact ⟨z, ez, sz, wz, hw2.wf (show d ≤ 73048 by omega)⟩
    obtain ⟨z, ez, sz, wz, wc⟩ := fz
    rw [refFee_ok m.tm.wf wc p.gn.wf, obind, ez]
    dsimp only
    rw [show ((0 : Int) != 0) = false from rfl, cF, obind, exactSign_ok (a := (z, 0)) wz, obind]
    dsimp only
    rw [sz, show ((0 : Int) != 0) = false from rfl, cF]
    obtain ⟨e', s, k1, k2⟩ := loopD_up (body := g_law32_EqualisationForgetsPaidFees_L12 (t, (c, (ls, (g, d)))) (f, (c', (ls.map (fun x => (lotS t c g d f n x).1.1), (ls.map (fun x => (lotS t c g d f n x).1.2), 0)))) (n, 0)) ls.length
      (fun i s => s = ((false, (i : Int)), ())) (fun e s => e = 1)
      (fun i s hi hI => by
        subst hI
        obtain ⟨o, a, h⟩ := p.lot _ (List.getElem_mem hi)
        refine ⟨_, forg_body m p np hi h rfl, ?_⟩
        rw [show ((i + 1 : Nat) : Int) = (i : Int) + 1 by omega])
      (fun s hI => by
        subst hI
        refine ⟨1, ((false, (ls.length : Int)), ()), ?_, rfl⟩
        unfold g_law32_EqualisationForgetsPaidFees_L12
        dsimp only
        rw [decide_eq_false (show ¬ (ls.length : Int) < (ls.length : Int) by omega), cF])
      (s := ((false, 0), ())) rfl
    rw [k1, obind]
    subst k2
    dsimp only
    rw [show Nat.beq 1 0 = false from rfl, cF, awake32, obind]

end Go.Ev

namespace Go.Proofs.YtgadoabnjcahoaaGreat.equalisationForgetsPaidFees
open Go.ChangeShapes Go.WideShapes Go.ChangeAt Go.RowKit Go.Ev
set_option linter.unusedVariables false
set_option maxRecDepth 100000 in
theorem lifted (os : Os) (started : os.Started) (H : Type) (enc : TypeId × Value → H) :
    ReturnsInHanded {} Tryz.checked os 13 .any (Rows.equalisationForgetsPaidFeesSpec.pre6 enc Tryz.prog Tryz.f13 Rows.equalisationForgetsPaidFeesRow.domain false) (Rows.equalisationForgetsPaidFeesSpec.post enc Tryz.prog Tryz.f13 false true false false) := by
  refine returnsInHanded_of_change_sized (C := Tryz.checked) seat_own started (by kernel_rfl) Tryz.func13
    (ChangeSpec.witness6 (enc := enc) (C := Tryz.checked) false ⟨#[], #[.slice none 0 0], []⟩ 8 (by kernel_rfl) (by kernel_rfl) (by kernel_rfl) (by kernel_rfl)) ?_
  intro W base args ds gs before hval0 hW hcnd hsz0 _
  have hval : ∀ (j : Nat) t v, Tryz.f13.params[j]? = some t → args[j]? = some v → Value.okWide Tryz.prog W .any base t v := hval0
  have hW2 := hW
  obtain ⟨p, q, hA0, hV, rfl, hfz, hnd⟩ := hW
  have hA : DataW.TrodAll enc Tryz.prog W 0 (fun _ => true) true Tryz.f13.params.toList args.toList ds p := hA0
  rw [Tryz.params13] at hA hval
  obtain ⟨v0, vs0, d0, ds0, p0, q0, hargs, rfl, rfl, h0, r0⟩ := trodAll_cons hA
  obtain ⟨rfl, rfl, rfl⟩ := trodAll_nil r0
  obtain rfl : args = #[v0] := by cases args; simp_all
  obtain ⟨rfl, rfl⟩ := trodVars_none hV
  have k0 := h0
  have lt0 : ∀ x ∈ p0, x.block < W.heap.size := by obtain ⟨m, hm⟩ := k0; exact DataW.trod_lt m _ _ _ hm
  obtain ⟨x0, a0, y0⟩ := open_ints_arg Tryz.underlying43 Tryz.underlying3 (by kernel_rfl) (hval 0 43 v0 rfl rfl) h0
  have w0 := intsWF y0
  clear hA0 hval0 hsz0
  have hd := dec_one (.sl (.int .i64)) x0
  have hF : g_law32_EqualisationForgetsPaidFees x0 = some true := (fun a => forgets_law a) w0
  have ha : Go.Ev.ArgRel (old W) W [.val ⟨(.sl (.int .i64)), x0⟩] [v0] [] := ⟨v0, _, rfl, a0, ⟨rfl, rfl⟩⟩
  refine (walk_of (P := Tryz.prog) (f := 13) (sg := [(0, (.sl (.int .i64)))]) (F := fun p => g_law32_EqualisationForgetsPaidFees p) (x := x0) (y := true) ok13 hd rfl hF rfl ha).mono fun e W2 ⟨he, bel⟩ => ?_
  subst he
  exact ⟨_, rfl, _, _, _, [], _, [], hW2, trodAll_mk1 (shut_bool Tryz.underlying4 _), (trodAll_cons_mk (Below.trod seat_laid (by kernel_rfl) (of_decide_eq_true (by kernel_rfl)) k0 bel lt0) trodAll_mk0), rfl, bel.frame _, fun h => by cases h⟩
theorem z_g : ((Rows.equalisationForgetsPaidFeesRow.inPlace == Tryz.pinned.checked.prog.inPlace 13) && ((Rows.equalisationForgetsPaidFeesRow.unfollowed == Tryz.pinned.checked.prog.unfollowed 13) && ((Rows.equalisationForgetsPaidFeesRow.recurses == Tryz.pinned.checked.prog.recurses 13) && (Rows.equalisationForgetsPaidFeesRow.named == Tryz.pinned.checked.prog.varsNamed 13)))) = true := by kernel_rfl
theorem z_wf : Rows.equalisationForgetsPaidFeesRow.wf (OpenSpec.ofChange Rows.equalisationForgetsPaidFeesSpec) = true := by kernel_rfl
theorem z_rd : Tryz.f13.params.all (Tryz.pinned.checked.prog.readableRec ·) = true := by kernel_rfl
theorem z_tie : namedTie Tryz.pinned.checked.prog Rows.equalisationForgetsPaidFeesRow.named Rows.equalisationForgetsPaidFeesSpec.vars = true := by kernel_rfl
theorem z_s1 : (Rows.equalisationForgetsPaidFeesRow.stops == []) = true := by kernel_rfl
theorem z_s3 : (Rows.equalisationForgetsPaidFeesRow.knobs == []) = true := by kernel_rfl
theorem z_m1 : (Rows.equalisationForgetsPaidFeesRow.maps == (Tryz.f13.params.toList ++ Rows.equalisationForgetsPaidFeesSpec.plain.varTypes Tryz.pinned.checked.prog).any (Tryz.pinned.checked.prog.mapsRec ·)) = true := by kernel_rfl
theorem z_m2 : (Rows.equalisationForgetsPaidFeesRow.ifaces == (Tryz.f13.params.toList ++ Rows.equalisationForgetsPaidFeesSpec.plain.varTypes Tryz.pinned.checked.prog).any (Tryz.pinned.checked.prog.ifacesRec ·)) = true := by kernel_rfl
theorem z_m3 : (Rows.equalisationForgetsPaidFeesRow.mapsOut == Tryz.pinned.checked.prog.mapsAmong Tryz.f13.resultTypes.toList) = true := by kernel_rfl
theorem z_l1 : (Rows.equalisationForgetsPaidFeesRow.loops == (Tryz.f13.params.toList ++ Rows.equalisationForgetsPaidFeesSpec.plain.varTypes Tryz.pinned.checked.prog).any (Tryz.pinned.checked.prog.loopsFrom ·)) = true := by kernel_rfl
theorem z_l2 : (Rows.equalisationForgetsPaidFeesRow.wideKeys == (Tryz.f13.params.toList ++ Rows.equalisationForgetsPaidFeesSpec.plain.varTypes Tryz.pinned.checked.prog ++ Tryz.f13.resultTypes.toList).any (Tryz.pinned.checked.prog.wideKeysFrom ·)) = true := by kernel_rfl
theorem z_v1 : Rows.equalisationForgetsPaidFeesSpec.vars.all (Tryz.pinned.checked.prog.varReadable ·) = true := by kernel_rfl
theorem z_v2 : Tryz.f13.resultTypes.all (fun t => Tryz.pinned.checked.prog.readableRec t && decide (t < Tryz.pinned.checked.prog.types.size)) = true := by kernel_rfl
theorem z_v3 : (Rows.equalisationForgetsPaidFeesRow.ifacesOut == Tryz.f13.resultTypes.toList.any (Tryz.pinned.checked.prog.ifacesRec ·)) = true := by kernel_rfl
theorem z_v4 : (Rows.equalisationForgetsPaidFeesRow.loopsOut == Tryz.f13.resultTypes.toList.any (Tryz.pinned.checked.prog.loopsFrom ·)) = true := by kernel_rfl
theorem z_pk : (Rows.equalisationForgetsPaidFeesRow.plainKeys == Tryz.pinned.checked.prog.plainKeys) = true := by kernel_rfl
theorem z_st : Rows.equalisationForgetsPaidFeesRow.shortTexts.isNone = true := by kernel_rfl
theorem z_mk : (Tryz.pinned.checked.prog.make == some Rows.equalisationForgetsPaidFeesRow.make) = true := by kernel_rfl
theorem z_pi : (Rows.equalisationForgetsPaidFeesRow.pinned == Rows.equalisationForgetsPaidFeesRow.pinnedBy) = true := by kernel_rfl
theorem z_ve : (Rows.equalisationForgetsPaidFeesRow.veiled == (Tryz.f13.params.toList ++ Rows.equalisationForgetsPaidFeesSpec.plain.varTypes Tryz.pinned.checked.prog ++ Tryz.f13.resultTypes.toList).any (Tryz.pinned.checked.prog.veiledRec ·)) = true := by kernel_rfl
theorem z_vf : Rows.equalisationForgetsPaidFeesRow.veiledFits Tryz.pinned.checked.prog Tryz.f13.params.toList (Tryz.f13.params.toList ++ Rows.equalisationForgetsPaidFeesSpec.plain.varTypes Tryz.pinned.checked.prog ++ Tryz.f13.resultTypes.toList) = true := by kernel_rfl
theorem closed : joinedFacts Tryz.pinned.checked.prog 13 Tryz.f13 Rows.equalisationForgetsPaidFeesSpec Rows.equalisationForgetsPaidFeesRow = true := by
  unfold joinedFacts
  exact (band (band (band (band (band (band (band (band (band (band (band (band (band (band (band (band (band (band (band (band (band (band (band (band (band (band (band (band (band (band (band z_wf seat_laid2) seat_rowed) z_rd) z_tie) z_s1) seat_s2) z_s3) seat_s4) (and_l z_g)) (and_l (and_r z_g))) (and_l (and_r (and_r z_g)))) (and_r (and_r (and_r z_g)))) z_m1) z_m2) z_m3) z_l1) z_l2) z_v1) z_v2) z_v3) z_v4) z_pk) z_st) seat_heard) seat_enter) seat_lifts) z_mk) (by kernel_rfl)) z_pi) z_ve) z_vf)
theorem over : Rows.equalisationForgetsPaidFeesRow.holds Tryz.pinned (OpenSpec.ofChange Rows.equalisationForgetsPaidFeesSpec) :=
  OpenClaim.holds_of_wide 13 Tryz.f13 rfl rfl rfl rfl rfl rfl rfl ⟨rfl, rfl, rfl, rfl, rfl⟩ rfl rfl rfl rfl rfl (by kernel_rfl) Tryz.func13 closed
    (of_decide_eq_true (by kernel_rfl)) (by unfold Func.isWrapper; first | (rw [if_pos (by decide +kernel)]; kernel_rfl) | (rw [if_neg (by decide +kernel)]; exact ⟨rfl, rfl⟩))
    (fun os started H enc _ => lifted os started H enc)
end Go.Proofs.YtgadoabnjcahoaaGreat.equalisationForgetsPaidFees
namespace Go.Proofs.YtgadoabnjcahoaaGreat
/-- THE STATEMENT. -/
theorem equalisationForgetsPaidFees_holds : Rows.EqualisationForgetsPaidFeesSaid := equalisationForgetsPaidFees.over
#print axioms equalisationForgetsPaidFees_holds
end Go.Proofs.YtgadoabnjcahoaaGreat
