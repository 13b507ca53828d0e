/- The law TopMethods: for every input the call returns true, and each argument reads as it did before. -/
import Derived.Test.YtgadoabnjcahoaaGreatRowKV
import Derived.Test.YtgadoabnjcahoaaGreatRowTV
import Derived.Test.YtgadoabnjcahoaaGreatThmsFV
import Derived.Test.YtgadoabnjcahoaaGreatLawHV
set_option exponentiation.threshold 2000
namespace Go.Proofs.YtgadoabnjcahoaaGreat.topMethods
open Go.ChangeShapes Go.WideShapes Go.ChangeAt Go.RowKit Go.Ev
set_option linter.unusedVariables false
set_option maxRecDepth 100000 in
theorem lifted (os : Os) (started : os.Started) (H : Type) (enc : TypeId × Value → H) :
    ReturnsInHanded {} Tryz.checked os 11 .any (Rows.topMethodsSpec.pre6 enc Tryz.prog Tryz.f11 Rows.topMethodsRow.domain false) (Rows.topMethodsSpec.post enc Tryz.prog Tryz.f11 false true false false) := by
  refine returnsInHanded_of_change_sized (C := Tryz.checked) seat_own started (by kernel_rfl) Tryz.func11
    (ChangeSpec.witness6 (enc := enc) (C := Tryz.checked) false ⟨#[], #[.slice none 0 0], []⟩ 8 (by kernel_rfl) (by kernel_rfl) (by kernel_rfl) (by kernel_rfl)) ?_
  intro W base args ds gs before hval0 hW hcnd hsz0 _
  have hval : ∀ (j : Nat) t v, Tryz.f11.params[j]? = some t → args[j]? = some v → Value.okWide Tryz.prog W .any base t v := hval0
  have hW2 := hW
  obtain ⟨p, q, hA0, hV, rfl, hfz, hnd⟩ := hW
  have hA : DataW.TrodAll enc Tryz.prog W 0 (fun _ => true) true Tryz.f11.params.toList args.toList ds p := hA0
  rw [Tryz.params11] at hA hval
  obtain ⟨v0, vs0, d0, ds0, p0, q0, hargs, rfl, rfl, h0, r0⟩ := trodAll_cons hA
  obtain ⟨rfl, rfl, rfl⟩ := trodAll_nil r0
  obtain rfl : args = #[v0] := by cases args; simp_all
  obtain ⟨rfl, rfl⟩ := trodVars_none hV
  have k0 := h0
  have lt0 : ∀ x ∈ p0, x.block < W.heap.size := by obtain ⟨m, hm⟩ := k0; exact DataW.trod_lt m _ _ _ hm
  obtain ⟨x0, a0, y0⟩ := open_ints_arg Tryz.underlying43 Tryz.underlying3 (by kernel_rfl) (hval 0 43 v0 rfl rfl) h0
  have w0 := intsWF y0
  clear hA0 hval0 hsz0
  have hd := dec_one (.sl (.int .i64)) x0
  have hF : g_top_TopMethods x0 = some true := (fun a => top_law a) w0
  have ha : Go.Ev.ArgRel (old W) W [.val ⟨(.sl (.int .i64)), x0⟩] [v0] [] := ⟨v0, _, rfl, a0, ⟨rfl, rfl⟩⟩
  refine (walk_of (P := Tryz.prog) (f := 11) (sg := [(0, (.sl (.int .i64)))]) (F := fun p => g_top_TopMethods p) (x := x0) (y := true) ok11 hd rfl hF rfl ha).mono fun e W2 ⟨he, bel⟩ => ?_
  subst he
  exact ⟨_, rfl, _, _, _, [], _, [], hW2, trodAll_mk1 (shut_bool Tryz.underlying4 _), (trodAll_cons_mk (Below.trod seat_laid (by kernel_rfl) (of_decide_eq_true (by kernel_rfl)) k0 bel lt0) trodAll_mk0), rfl, bel.frame _, fun h => by cases h⟩
theorem z_g : ((Rows.topMethodsRow.inPlace == Tryz.pinned.checked.prog.inPlace 11) && ((Rows.topMethodsRow.unfollowed == Tryz.pinned.checked.prog.unfollowed 11) && ((Rows.topMethodsRow.recurses == Tryz.pinned.checked.prog.recurses 11) && (Rows.topMethodsRow.named == Tryz.pinned.checked.prog.varsNamed 11)))) = true := by kernel_rfl
theorem z_wf : Rows.topMethodsRow.wf (OpenSpec.ofChange Rows.topMethodsSpec) = true := by kernel_rfl
theorem z_rd : Tryz.f11.params.all (Tryz.pinned.checked.prog.readableRec ·) = true := by kernel_rfl
theorem z_tie : namedTie Tryz.pinned.checked.prog Rows.topMethodsRow.named Rows.topMethodsSpec.vars = true := by kernel_rfl
theorem z_s1 : (Rows.topMethodsRow.stops == []) = true := by kernel_rfl
theorem z_s3 : (Rows.topMethodsRow.knobs == []) = true := by kernel_rfl
theorem z_m1 : (Rows.topMethodsRow.maps == (Tryz.f11.params.toList ++ Rows.topMethodsSpec.plain.varTypes Tryz.pinned.checked.prog).any (Tryz.pinned.checked.prog.mapsRec ·)) = true := by kernel_rfl
theorem z_m2 : (Rows.topMethodsRow.ifaces == (Tryz.f11.params.toList ++ Rows.topMethodsSpec.plain.varTypes Tryz.pinned.checked.prog).any (Tryz.pinned.checked.prog.ifacesRec ·)) = true := by kernel_rfl
theorem z_m3 : (Rows.topMethodsRow.mapsOut == Tryz.pinned.checked.prog.mapsAmong Tryz.f11.resultTypes.toList) = true := by kernel_rfl
theorem z_l1 : (Rows.topMethodsRow.loops == (Tryz.f11.params.toList ++ Rows.topMethodsSpec.plain.varTypes Tryz.pinned.checked.prog).any (Tryz.pinned.checked.prog.loopsFrom ·)) = true := by kernel_rfl
theorem z_l2 : (Rows.topMethodsRow.wideKeys == (Tryz.f11.params.toList ++ Rows.topMethodsSpec.plain.varTypes Tryz.pinned.checked.prog ++ Tryz.f11.resultTypes.toList).any (Tryz.pinned.checked.prog.wideKeysFrom ·)) = true := by kernel_rfl
theorem z_v1 : Rows.topMethodsSpec.vars.all (Tryz.pinned.checked.prog.varReadable ·) = true := by kernel_rfl
theorem z_v2 : Tryz.f11.resultTypes.all (fun t => Tryz.pinned.checked.prog.readableRec t && decide (t < Tryz.pinned.checked.prog.types.size)) = true := by kernel_rfl
theorem z_v3 : (Rows.topMethodsRow.ifacesOut == Tryz.f11.resultTypes.toList.any (Tryz.pinned.checked.prog.ifacesRec ·)) = true := by kernel_rfl
theorem z_v4 : (Rows.topMethodsRow.loopsOut == Tryz.f11.resultTypes.toList.any (Tryz.pinned.checked.prog.loopsFrom ·)) = true := by kernel_rfl
theorem z_pk : (Rows.topMethodsRow.plainKeys == Tryz.pinned.checked.prog.plainKeys) = true := by kernel_rfl
theorem z_st : Rows.topMethodsRow.shortTexts.isNone = true := by kernel_rfl
theorem z_mk : (Tryz.pinned.checked.prog.make == some Rows.topMethodsRow.make) = true := by kernel_rfl
theorem z_pi : (Rows.topMethodsRow.pinned == Rows.topMethodsRow.pinnedBy) = true := by kernel_rfl
theorem z_ve : (Rows.topMethodsRow.veiled == (Tryz.f11.params.toList ++ Rows.topMethodsSpec.plain.varTypes Tryz.pinned.checked.prog ++ Tryz.f11.resultTypes.toList).any (Tryz.pinned.checked.prog.veiledRec ·)) = true := by kernel_rfl
theorem z_vf : Rows.topMethodsRow.veiledFits Tryz.pinned.checked.prog Tryz.f11.params.toList (Tryz.f11.params.toList ++ Rows.topMethodsSpec.plain.varTypes Tryz.pinned.checked.prog ++ Tryz.f11.resultTypes.toList) = true := by kernel_rfl
theorem closed : joinedFacts Tryz.pinned.checked.prog 11 Tryz.f11 Rows.topMethodsSpec Rows.topMethodsRow = true := by
  unfold joinedFacts
  exact (band (band (band (band (band (band (band (band (band (band (band (band (band (band (band (band (band (band (band (band (band (band (band (band (band (band (band (band (band (band (band z_wf seat_laid2) seat_rowed) z_rd) z_tie) z_s1) seat_s2) z_s3) seat_s4) (and_l z_g)) (and_l (and_r z_g))) (and_l (and_r (and_r z_g)))) (and_r (and_r (and_r z_g)))) z_m1) z_m2) z_m3) z_l1) z_l2) z_v1) z_v2) z_v3) z_v4) z_pk) z_st) seat_heard) seat_enter) seat_lifts) z_mk) (by kernel_rfl)) z_pi) z_ve) z_vf)
theorem over : Rows.topMethodsRow.holds Tryz.pinned (OpenSpec.ofChange Rows.topMethodsSpec) :=
  OpenClaim.holds_of_wide 11 Tryz.f11 rfl rfl rfl rfl rfl rfl rfl ⟨rfl, rfl, rfl, rfl, rfl⟩ rfl rfl rfl rfl rfl (by kernel_rfl) Tryz.func11 closed
    (of_decide_eq_true (by kernel_rfl)) (by unfold Func.isWrapper; first | (rw [if_pos (by decide +kernel)]; kernel_rfl) | (rw [if_neg (by decide +kernel)]; exact ⟨rfl, rfl⟩))
    (fun os started H enc _ => lifted os started H enc)
end Go.Proofs.YtgadoabnjcahoaaGreat.topMethods
namespace Go.Proofs.YtgadoabnjcahoaaGreat
/-- THE STATEMENT. -/
theorem topMethods_holds : Rows.TopMethodsSaid := topMethods.over
#print axioms topMethods_holds
end Go.Proofs.YtgadoabnjcahoaaGreat
