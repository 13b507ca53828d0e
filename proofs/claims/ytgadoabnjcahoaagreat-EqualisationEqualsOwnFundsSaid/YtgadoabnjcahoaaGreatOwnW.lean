/- The law EqualisationEqualsOwnFunds: for every input the call returns true, and each argument reads as it did before. -/
import Derived.Test.YtgadoabnjcahoaaGreatLawEW
import Derived.Test.YtgadoabnjcahoaaGreatLawCW
import Derived.Test.YtgadoabnjcahoaaGreatRowTW
import Derived.Test.YtgadoabnjcahoaaGreatThmsDW
set_option exponentiation.threshold 2000
namespace Go.Ev
set_option linter.unusedVariables false
set_option linter.unusedSimpArgs false

theorem lot_own {t : GTerms} {c : GWater} {ls : List GLot} {g : GRat} {d : Int} {f n : GRat} {c' : GWater} (m : Made32 t c ls g d) (p : Period t c ls g d f n c') {x : GLot} {o a : GRat} (h : LotR t c g d f n x o a) :
    ∃ y z, addR n a = (y, 0) ∧ G 328 y ∧ subR g o = (z, 0) ∧ G 130 z ∧ y = z := by
  obtain ⟨y, ey, gy, vy⟩ := g_add p.gn h.ga (by omega)
  obtain ⟨z, ez, gz, vz⟩ := g_sub m.gm h.go (by omega)
  refine ⟨y, z, ey, gy, ez, gz, made_ext gy.made gz.made ?_⟩
  rw [vy, vz, p.vn, h.va]; grind

theorem own_inner {t : GTerms} {c : GWater} {ls : List GLot} {g : GRat} {d : Int} {f : GRat} {c' : GWater} {A : GLot → GRat} {ms : List GLot} {e : Int} (hA : ∀ x ∈ ls, ∀ y ∈ ls, y.2 = x.2 → A x = A y) (hlen : ls.length ≤ 4) {i : Nat} (hi : i < ls.length) :
    ∃ j, loopD (g_law32_EqualisationEqualsOwnFunds_L14 ((false, (i : Int)), ()) (t, (c, (ls, (g, d)))) (f, (c', (ls.map A, (ms, e))))) ((false, (0 : Int)), ()) = some (1, ((false, j), ())) := by
  obtain ⟨e, s, k1, k2⟩ := loopD_up (body := g_law32_EqualisationEqualsOwnFunds_L14 ((false, (i : Int)), ()) (t, (c, (ls, (g, d)))) (f, (c', (ls.map A, (ms, e))))) i
    (fun j s => s = ((false, (j : Int)), ())) (fun e s => e = 1 ∧ ∃ j, s = ((false, j), ()))
    (fun j s hj hI => by
      subst hI
      refine ⟨_, ?_, rfl⟩
      have hjl : j < ls.length := by omega
      unfold g_law32_EqualisationEqualsOwnFunds_L14 g_law32_EqualisationEqualsOwnFunds_T116
      dsimp only
      rw [zLot_eq, zRat_eq, decide_eq_true (show (j : Int) < (i : Int) by omega), cT, inb_true (by omega) (by omega), cT, inb_true (by omega) (by omega), cT, show ((i : Int)).toNat = i by omega, show ((j : Int)).toNat = j by omega, getD_lt ls hi, getD_lt ls hjl, eqB, eqB, beq_dec, inb_true (by omega) (by rw [List.length_map]; omega), cT, inb_true (by omega) (by rw [List.length_map]; omega), cT, getD_map ls A hi, getD_map ls A hjl, wrap_i64 (n := (j : Int) + 1) (by omega) (by omega), show ((j + 1 : Nat) : Int) = (j : Int) + 1 by omega]
      by_cases h : ls[j].2.1 = ls[i].2.1 ∧ ls[j].2.2 = ls[i].2.2
      · have e2 : ls[j].2 = ls[i].2 := Prod.ext h.1 h.2
        rw [decide_eq_true h.1, decide_eq_true h.2, show (true && true) = true from rfl, cT, decide_eq_true (hA _ (List.getElem_mem hjl) _ (List.getElem_mem hi) e2.symm), nT, cF]
      · have : (decide (ls[j].2.1 = ls[i].2.1) && decide (ls[j].2.2 = ls[i].2.2)) = false := by
          rw [Bool.and_eq_false_iff, decide_eq_false_iff_not, decide_eq_false_iff_not]
          by_cases q : ls[j].2.1 = ls[i].2.1
          · exact .inr fun r => h ⟨q, r⟩
          · exact .inl q
        rw [this, cF])
    (fun s hI => by
      subst hI
      refine ⟨1, ((false, (i : Int)), ()), ?_, rfl, _, rfl⟩
      unfold g_law32_EqualisationEqualsOwnFunds_L14
      dsimp only
      rw [decide_eq_false (show ¬ (i : Int) < (i : Int) by omega), cF])
    (s := ((false, 0), ())) rfl
  obtain ⟨k2, j, k3⟩ := k2
  subst k2 k3
  exact ⟨j, k1⟩

theorem own_law {l : List Int} (hl : TapeOK (l, 0)) : g_law32_EqualisationEqualsOwnFunds l = some true := by
  obtain ⟨t, c, ls, g, d, e, m⟩ := made32 hl
  obtain ⟨f, n, c', p⟩ := period_ok m
  have hlen := m.len
  have hc := p.cry
  unfold g_law32_EqualisationEqualsOwnFunds
  rw [e, obind]
  dsimp only
  rw [hc, obind]
  have hAx : ∀ x ∈ ls, ∃ o a, LotR t c g d f n x o a ∧ (fun x => (lotS t c g d f n x).1.1) x = a := fun x hx => by
    obtain ⟨o, a, h⟩ := p.lot x hx
    exact ⟨o, a, h, h.a1⟩
  have hAA : ∀ x ∈ ls, ∀ y ∈ ls, y.2 = x.2 → (fun x => (lotS t c g d f n x).1.1) x = (fun x => (lotS t c g d f n x).1.1) y := fun x hx y hy e => by
    obtain ⟨o, a, h, e1⟩ := hAx x hx
    obtain ⟨o', a', h', e2⟩ := hAx y hy
    rw [e1, e2]
    have q1 := h.own
    have q2 := h'.own
    rw [e, q1] at q2
    injection q2 with q2 _
    subst q2
    have q3 := h.adj
    rw [h'.adj] at q3
    injection q3 with q3 _
    exact q3.symm
  generalize (fun x => (lotS t c g d f n x).1.1) = A at *
  generalize ls.map (fun x => (lotS t c g d f n x).1.2) = ms at *
  dsimp only
  rw [show ((0 : Int) != 0) = false from rfl, cF, List.length_map, show ((ls.length : Int) != (ls.length : Int)) = false by rw [bne_dec, decide_eq_false (by omega)], cF]
  obtain ⟨e', s, k1, k2⟩ := loopD_up (body := g_law32_EqualisationEqualsOwnFunds_L6 (t, (c, (ls, (g, d)))) (f, (c', (ls.map A, (ms, 0))))) ls.length
    (fun i s => s = ((false, (i : Int)), ())) (fun e s => e = 1)
    (fun i s hi hI => by
      subst hI
      refine ⟨_, ?_, rfl⟩
      have hm : ls[i] ∈ ls := List.getElem_mem hi
      have hL := m.lots.lot _ hm
      have hs1 := hL.s1
      have hww := hL.w.wf (show ls[i].2.2 ≤ 73048 by omega)
      obtain ⟨o, a, h, e1⟩ := hAx _ hm
      obtain ⟨y, z, ey, gy, ez, gz, yz⟩ := lot_own m p h
      obtain ⟨j, ej⟩ := own_inner (t := t) (c := c) (g := g) (d := d) (f := f) (c' := c') (ms := ms) (e := 0) hAA hlen hi
      unfold g_law32_EqualisationEqualsOwnFunds_L6 g_exact_Of
      dsimp only
      rw [zLot_eq, zRat_eq, decide_eq_true (show (i : Int) < (ls.length : Int) by omega), cT, inb_true (by omega) (by omega), cT, show ((i : Int)).toNat = i by omega, getD_lt ls hi, refFee_ok m.tm.wf hww m.gm.wf, obind, h.own, obind, obind, exactSub_ok (a := (g, 0)) (b := (f, 0)) m.gm.wf p.gf.wf, obind, step2_ok, p.net, inb_true (by omega) (by rw [List.length_map]; omega), cT, getD_map ls A hi, e1, obind, exactAdd_ok (a := (n, 0)) (b := (a, 0)) p.gn.wf h.ga.wf, obind, step2_ok, ey, obind, obind, exactSub_ok (a := (g, 0)) (b := (o, 0)) m.gm.wf h.go.wf, obind, step2_ok, ez]
      dsimp only
      rw [show ((0 : Int) != 0) = false from rfl, cF, cF, eqB, decide_eq_true yz, nT, cF, cT, eqB, beq_dec, obind, exactSign_ok (a := (a, 0)) h.ga.wf, obind, ej, obind]
      dsimp only
      rw [show Nat.beq 1 0 = false from rfl, cF, wrap_i64 (n := (i : Int) + 1) (by omega) (by omega), show ((i + 1 : Nat) : Int) = (i : Int) + 1 by omega]
      by_cases hq : ls[i].2.1 = c.1 ∧ ls[i].2.2 = c.2
      · have e2 : ls[i].2 = c := Prod.ext hq.1 hq.2
        have q1 := h.own
        rw [e2, p.fee] at q1
        injection q1 with q1 _
        have ha0 : toQ a = 0 := by rw [h.va, ← q1]; grind
        rw [decide_eq_true hq.1, decide_eq_true hq.2, show (true && true) = true from rfl, cT, cT, (sign_zero h.ga).2 ha0, show ((0 : Int) != 0) = false from rfl, cF]
      · have : (decide (ls[i].2.1 = c.1) && decide (ls[i].2.2 = c.2)) = false := by
          rw [Bool.and_eq_false_iff, decide_eq_false_iff_not, decide_eq_false_iff_not]
          by_cases q : ls[i].2.1 = c.1
          · exact .inr fun r => hq ⟨q, r⟩
          · exact .inl q
        rw [this, cF])
    (fun s hI => by
      subst hI
      refine ⟨1, ((false, (ls.length : Int)), ()), ?_, rfl⟩
      unfold g_law32_EqualisationEqualsOwnFunds_L6
      dsimp only
      rw [decide_eq_false (show ¬ (ls.length : Int) < (ls.length : Int) by omega), cF])
    (s := ((false, 0), ())) rfl
  rw [k1, obind]
  subst k2
  dsimp only
  rw [show Nat.beq 1 0 = false from rfl, cF, awake32, obind]

end Go.Ev

namespace Go.Proofs.YtgadoabnjcahoaaGreat.equalisationEqualsOwnFunds
open Go.ChangeShapes Go.WideShapes Go.ChangeAt Go.RowKit Go.Ev
set_option linter.unusedVariables false
set_option maxRecDepth 100000 in
theorem lifted (os : Os) (started : os.Started) (H : Type) (enc : TypeId × Value → H) :
    ReturnsInHanded {} Tryz.checked os 12 .any (Rows.equalisationEqualsOwnFundsSpec.pre6 enc Tryz.prog Tryz.f12 Rows.equalisationEqualsOwnFundsRow.domain false) (Rows.equalisationEqualsOwnFundsSpec.post enc Tryz.prog Tryz.f12 false true false false) := by
  refine returnsInHanded_of_change_sized (C := Tryz.checked) seat_own started (by kernel_rfl) Tryz.func12
    (ChangeSpec.witness6 (enc := enc) (C := Tryz.checked) false ⟨#[], #[.slice none 0 0], []⟩ 8 (by kernel_rfl) (by kernel_rfl) (by kernel_rfl) (by kernel_rfl)) ?_
  intro W base args ds gs before hval0 hW hcnd hsz0 _
  have hval : ∀ (j : Nat) t v, Tryz.f12.params[j]? = some t → args[j]? = some v → Value.okWide Tryz.prog W .any base t v := hval0
  have hW2 := hW
  obtain ⟨p, q, hA0, hV, rfl, hfz, hnd⟩ := hW
  have hA : DataW.TrodAll enc Tryz.prog W 0 (fun _ => true) true Tryz.f12.params.toList args.toList ds p := hA0
  rw [Tryz.params12] at hA hval
  obtain ⟨v0, vs0, d0, ds0, p0, q0, hargs, rfl, rfl, h0, r0⟩ := trodAll_cons hA
  obtain ⟨rfl, rfl, rfl⟩ := trodAll_nil r0
  obtain rfl : args = #[v0] := by cases args; simp_all
  obtain ⟨rfl, rfl⟩ := trodVars_none hV
  have k0 := h0
  have lt0 : ∀ x ∈ p0, x.block < W.heap.size := by obtain ⟨m, hm⟩ := k0; exact DataW.trod_lt m _ _ _ hm
  obtain ⟨x0, a0, y0⟩ := open_ints_arg Tryz.underlying43 Tryz.underlying3 (by kernel_rfl) (hval 0 43 v0 rfl rfl) h0
  have w0 := intsWF y0
  clear hA0 hval0 hsz0
  have hd := dec_one (.sl (.int .i64)) x0
  have hF : g_law32_EqualisationEqualsOwnFunds x0 = some true := (fun a => own_law a) w0
  have ha : Go.Ev.ArgRel (old W) W [.val ⟨(.sl (.int .i64)), x0⟩] [v0] [] := ⟨v0, _, rfl, a0, ⟨rfl, rfl⟩⟩
  refine (walk_of (P := Tryz.prog) (f := 12) (sg := [(0, (.sl (.int .i64)))]) (F := fun p => g_law32_EqualisationEqualsOwnFunds p) (x := x0) (y := true) ok12 hd rfl hF rfl ha).mono fun e W2 ⟨he, bel⟩ => ?_
  subst he
  exact ⟨_, rfl, _, _, _, [], _, [], hW2, trodAll_mk1 (shut_bool Tryz.underlying4 _), (trodAll_cons_mk (Below.trod seat_laid (by kernel_rfl) (of_decide_eq_true (by kernel_rfl)) k0 bel lt0) trodAll_mk0), rfl, bel.frame _, fun h => by cases h⟩
theorem z_g : ((Rows.equalisationEqualsOwnFundsRow.inPlace == Tryz.pinned.checked.prog.inPlace 12) && ((Rows.equalisationEqualsOwnFundsRow.unfollowed == Tryz.pinned.checked.prog.unfollowed 12) && ((Rows.equalisationEqualsOwnFundsRow.recurses == Tryz.pinned.checked.prog.recurses 12) && (Rows.equalisationEqualsOwnFundsRow.named == Tryz.pinned.checked.prog.varsNamed 12)))) = true := by kernel_rfl
theorem z_wf : Rows.equalisationEqualsOwnFundsRow.wf (OpenSpec.ofChange Rows.equalisationEqualsOwnFundsSpec) = true := by kernel_rfl
theorem z_rd : Tryz.f12.params.all (Tryz.pinned.checked.prog.readableRec ·) = true := by kernel_rfl
theorem z_tie : namedTie Tryz.pinned.checked.prog Rows.equalisationEqualsOwnFundsRow.named Rows.equalisationEqualsOwnFundsSpec.vars = true := by kernel_rfl
theorem z_s1 : (Rows.equalisationEqualsOwnFundsRow.stops == []) = true := by kernel_rfl
theorem z_s3 : (Rows.equalisationEqualsOwnFundsRow.knobs == []) = true := by kernel_rfl
theorem z_m1 : (Rows.equalisationEqualsOwnFundsRow.maps == (Tryz.f12.params.toList ++ Rows.equalisationEqualsOwnFundsSpec.plain.varTypes Tryz.pinned.checked.prog).any (Tryz.pinned.checked.prog.mapsRec ·)) = true := by kernel_rfl
theorem z_m2 : (Rows.equalisationEqualsOwnFundsRow.ifaces == (Tryz.f12.params.toList ++ Rows.equalisationEqualsOwnFundsSpec.plain.varTypes Tryz.pinned.checked.prog).any (Tryz.pinned.checked.prog.ifacesRec ·)) = true := by kernel_rfl
theorem z_m3 : (Rows.equalisationEqualsOwnFundsRow.mapsOut == Tryz.pinned.checked.prog.mapsAmong Tryz.f12.resultTypes.toList) = true := by kernel_rfl
theorem z_l1 : (Rows.equalisationEqualsOwnFundsRow.loops == (Tryz.f12.params.toList ++ Rows.equalisationEqualsOwnFundsSpec.plain.varTypes Tryz.pinned.checked.prog).any (Tryz.pinned.checked.prog.loopsFrom ·)) = true := by kernel_rfl
theorem z_l2 : (Rows.equalisationEqualsOwnFundsRow.wideKeys == (Tryz.f12.params.toList ++ Rows.equalisationEqualsOwnFundsSpec.plain.varTypes Tryz.pinned.checked.prog ++ Tryz.f12.resultTypes.toList).any (Tryz.pinned.checked.prog.wideKeysFrom ·)) = true := by kernel_rfl
theorem z_v1 : Rows.equalisationEqualsOwnFundsSpec.vars.all (Tryz.pinned.checked.prog.varReadable ·) = true := by kernel_rfl
theorem z_v2 : Tryz.f12.resultTypes.all (fun t => Tryz.pinned.checked.prog.readableRec t && decide (t < Tryz.pinned.checked.prog.types.size)) = true := by kernel_rfl
theorem z_v3 : (Rows.equalisationEqualsOwnFundsRow.ifacesOut == Tryz.f12.resultTypes.toList.any (Tryz.pinned.checked.prog.ifacesRec ·)) = true := by kernel_rfl
theorem z_v4 : (Rows.equalisationEqualsOwnFundsRow.loopsOut == Tryz.f12.resultTypes.toList.any (Tryz.pinned.checked.prog.loopsFrom ·)) = true := by kernel_rfl
theorem z_pk : (Rows.equalisationEqualsOwnFundsRow.plainKeys == Tryz.pinned.checked.prog.plainKeys) = true := by kernel_rfl
theorem z_st : Rows.equalisationEqualsOwnFundsRow.shortTexts.isNone = true := by kernel_rfl
theorem z_mk : (Tryz.pinned.checked.prog.make == some Rows.equalisationEqualsOwnFundsRow.make) = true := by kernel_rfl
theorem z_pi : (Rows.equalisationEqualsOwnFundsRow.pinned == Rows.equalisationEqualsOwnFundsRow.pinnedBy) = true := by kernel_rfl
theorem z_ve : (Rows.equalisationEqualsOwnFundsRow.veiled == (Tryz.f12.params.toList ++ Rows.equalisationEqualsOwnFundsSpec.plain.varTypes Tryz.pinned.checked.prog ++ Tryz.f12.resultTypes.toList).any (Tryz.pinned.checked.prog.veiledRec ·)) = true := by kernel_rfl
theorem z_vf : Rows.equalisationEqualsOwnFundsRow.veiledFits Tryz.pinned.checked.prog Tryz.f12.params.toList (Tryz.f12.params.toList ++ Rows.equalisationEqualsOwnFundsSpec.plain.varTypes Tryz.pinned.checked.prog ++ Tryz.f12.resultTypes.toList) = true := by kernel_rfl
theorem closed : joinedFacts Tryz.pinned.checked.prog 12 Tryz.f12 Rows.equalisationEqualsOwnFundsSpec Rows.equalisationEqualsOwnFundsRow = true := by
  unfold joinedFacts
  exact (band (band (band (band (band (band (band (band (band (band (band (band (band (band (band (band (band (band (band (band (band (band (band (band (band (band (band (band (band (band (band z_wf seat_laid2) seat_rowed) z_rd) z_tie) z_s1) seat_s2) z_s3) seat_s4) (and_l z_g)) (and_l (and_r z_g))) (and_l (and_r (and_r z_g)))) (and_r (and_r (and_r z_g)))) z_m1) z_m2) z_m3) z_l1) z_l2) z_v1) z_v2) z_v3) z_v4) z_pk) z_st) seat_heard) seat_enter) seat_lifts) z_mk) (by kernel_rfl)) z_pi) z_ve) z_vf)
theorem over : Rows.equalisationEqualsOwnFundsRow.holds Tryz.pinned (OpenSpec.ofChange Rows.equalisationEqualsOwnFundsSpec) :=
  OpenClaim.holds_of_wide 12 Tryz.f12 rfl rfl rfl rfl rfl rfl rfl ⟨rfl, rfl, rfl, rfl, rfl⟩ rfl rfl rfl rfl rfl (by kernel_rfl) Tryz.func12 closed
    (of_decide_eq_true (by kernel_rfl)) (by unfold Func.isWrapper; first | (rw [if_pos (by decide +kernel)]; kernel_rfl) | (rw [if_neg (by decide +kernel)]; exact ⟨rfl, rfl⟩))
    (fun os started H enc _ => lifted os started H enc)
end Go.Proofs.YtgadoabnjcahoaaGreat.equalisationEqualsOwnFunds
namespace Go.Proofs.YtgadoabnjcahoaaGreat
/-- THE STATEMENT. -/
theorem equalisationEqualsOwnFunds_holds : Rows.EqualisationEqualsOwnFundsSaid := equalisationEqualsOwnFunds.over
#print axioms equalisationEqualsOwnFunds_holds
end Go.Proofs.YtgadoabnjcahoaaGreat
