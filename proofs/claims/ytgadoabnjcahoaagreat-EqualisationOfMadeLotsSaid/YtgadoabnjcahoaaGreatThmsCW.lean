/- Each further function that the laws over made arguments reach computes what is written down of it, for all arguments. -/
import Derived.Test.YtgadoabnjcahoaaGreatThmsW
import Derived.Test.YtgadoabnjcahoaaGreatDefsCW
set_option exponentiation.threshold 2000
namespace Go.Ev
open Go.Proofs
set_option linter.unusedVariables false

/-! fundadmin/fundadminscene.Mod -/
noncomputable def spec30 : Spec := mkSpec [(0, (.int .i64)), (0, (.int .i64))] [(0, (.int .i64))] (fun p => g_scene_Mod p.1 p.2)
noncomputable def env30 : Env := { tab := tab, fns := [], bodies := [], loops := [], joins := [], fts := ftab, elts := eltab }
theorem eq30 : ∀ p, evFn env30 (inlN env30 0) 0 30 Tryz.f30 (argS 0 [(0, (.int .i64)), (0, (.int .i64))] p) (argO 0 [(0, (.int .i64)), (0, (.int .i64))] p) (denR [(0, (.int .i64))] (refN 0 [(0, (.int .i64)), (0, (.int .i64))])) (decR [(0, (.int .i64)), (0, (.int .i64))] [(0, (.int .i64))]) = g_scene_Mod p.1 p.2 := fun p => by kernel_rfl
theorem ok30 : SpecOK Tryz.prog 30 spec30 :=
  fn_ok mixed_ok ⟨⟨tab_ok, fns_nil⟩, eq_ok, ft_ok, el_ok⟩ bodies_nil Tryz.func30 (goes Tryz.func30 (by kernel_rfl)) 0 [(0, (.int .i64)), (0, (.int .i64))] [(0, (.int .i64))] _ eq30

/-! (*fundadmin/fundadminscene.Tape).Next -/
noncomputable def spec47 : Spec := mkSpec [(1, (.pair (.sl (.int .i64)) (.int .i64))), (0, (.int .i64))] [(0, (.int .i64))] (fun p => g_scene_Tape_Next p.1 p.2)
noncomputable def env47 : Env := { tab := tab, fns := [(30, spec30)], bodies := [], loops := [], joins := [], fts := ftab, elts := eltab }
theorem eq47 : ∀ p, evFn env47 (inlN env47 0) 0 47 Tryz.f47 (argS 0 [(1, (.pair (.sl (.int .i64)) (.int .i64))), (0, (.int .i64))] p) (argO 0 [(1, (.pair (.sl (.int .i64)) (.int .i64))), (0, (.int .i64))] p) (denR [(0, (.int .i64))] (refN 0 [(1, (.pair (.sl (.int .i64)) (.int .i64))), (0, (.int .i64))])) (decR [(1, (.pair (.sl (.int .i64)) (.int .i64))), (0, (.int .i64))] [(0, (.int .i64))]) = g_scene_Tape_Next p.1 p.2 := fun p => by kernel_rfl
theorem ok47 : SpecOK Tryz.prog 47 spec47 :=
  fn_ok mixed_ok ⟨⟨tab_ok, (fns_cons ok30 fns_nil)⟩, eq_ok, ft_ok, el_ok⟩ bodies_nil Tryz.func47 (goes Tryz.func47 (by kernel_rfl)) 0 [(1, (.pair (.sl (.int .i64)) (.int .i64))), (0, (.int .i64))] [(0, (.int .i64))] _ eq47

/-! (*fundadmin/fundadminscene.Tape).Pick -/
noncomputable def spec48 : Spec := mkSpec [(1, (.pair (.sl (.int .i64)) (.int .i64))), (0, (.sl (.int .i64)))] [(0, (.int .i64))] (fun p => g_scene_Tape_Pick p.1 p.2)
noncomputable def env48 : Env := { tab := tab, fns := [(47, spec47)], bodies := [], loops := [], joins := [], fts := ftab, elts := eltab }
theorem eq48 : ∀ p, evFn env48 (inlN env48 0) 0 48 Tryz.f48 (argS 0 [(1, (.pair (.sl (.int .i64)) (.int .i64))), (0, (.sl (.int .i64)))] p) (argO 0 [(1, (.pair (.sl (.int .i64)) (.int .i64))), (0, (.sl (.int .i64)))] p) (denR [(0, (.int .i64))] (refN 0 [(1, (.pair (.sl (.int .i64)) (.int .i64))), (0, (.sl (.int .i64)))])) (decR [(1, (.pair (.sl (.int .i64)) (.int .i64))), (0, (.sl (.int .i64)))] [(0, (.int .i64))]) = g_scene_Tape_Pick p.1 p.2 := fun p => by kernel_rfl
theorem ok48 : SpecOK Tryz.prog 48 spec48 :=
  fn_ok mixed_ok ⟨⟨tab_ok, (fns_cons ok47 fns_nil)⟩, eq_ok, ft_ok, el_ok⟩ bodies_nil Tryz.func48 (goes Tryz.func48 (by kernel_rfl)) 0 [(1, (.pair (.sl (.int .i64)) (.int .i64))), (0, (.sl (.int .i64)))] [(0, (.int .i64))] _ eq48

/-! (*fundadmin/fundadminscene.Tape).Terms -/
noncomputable def spec45 : Spec := mkSpec [(1, (.pair (.sl (.int .i64)) (.int .i64)))] [(0, (.pair (.pair (.pair .bool (.arr 32 (.int .u32))) (.pair .bool (.arr 32 (.int .u32)))) (.pair (.pair (.pair .bool (.arr 32 (.int .u32))) (.pair .bool (.arr 32 (.int .u32)))) (.int .i64))))] (fun p => g_scene_Tape_Terms p)
noncomputable def env45 : Env := { tab := tab, fns := [(47, spec47), (48, spec48), (35, spec35)], bodies := [], loops := [], joins := [], fts := ftab, elts := eltab }
theorem eq45 : ∀ p, evFn env45 (inlN env45 0) 0 45 Tryz.f45 (argS 0 [(1, (.pair (.sl (.int .i64)) (.int .i64)))] p) (argO 0 [(1, (.pair (.sl (.int .i64)) (.int .i64)))] p) (denR [(0, (.pair (.pair (.pair .bool (.arr 32 (.int .u32))) (.pair .bool (.arr 32 (.int .u32)))) (.pair (.pair (.pair .bool (.arr 32 (.int .u32))) (.pair .bool (.arr 32 (.int .u32)))) (.int .i64))))] (refN 0 [(1, (.pair (.sl (.int .i64)) (.int .i64)))])) (decR [(1, (.pair (.sl (.int .i64)) (.int .i64)))] [(0, (.pair (.pair (.pair .bool (.arr 32 (.int .u32))) (.pair .bool (.arr 32 (.int .u32)))) (.pair (.pair (.pair .bool (.arr 32 (.int .u32))) (.pair .bool (.arr 32 (.int .u32)))) (.int .i64))))]) = g_scene_Tape_Terms p := fun p => by kernel_rfl
theorem ok45 : SpecOK Tryz.prog 45 spec45 :=
  fn_ok mixed_ok ⟨⟨tab_ok, (fns_cons ok47 (fns_cons ok48 (fns_cons ok35 fns_nil)))⟩, eq_ok, ft_ok, el_ok⟩ bodies_nil Tryz.func45 (goes Tryz.func45 (by kernel_rfl)) 0 [(1, (.pair (.sl (.int .i64)) (.int .i64)))] [(0, (.pair (.pair (.pair .bool (.arr 32 (.int .u32))) (.pair .bool (.arr 32 (.int .u32)))) (.pair (.pair (.pair .bool (.arr 32 (.int .u32))) (.pair .bool (.arr 32 (.int .u32)))) (.int .i64))))] _ eq45

/-! (*fundadmin/fundadminscene.Tape).Water -/
noncomputable def spec46 : Spec := mkSpec [(1, (.pair (.sl (.int .i64)) (.int .i64)))] [(0, (.pair (.pair (.pair .bool (.arr 32 (.int .u32))) (.pair .bool (.arr 32 (.int .u32)))) (.int .i64)))] (fun p => g_scene_Tape_Water p)
noncomputable def env46 : Env := { tab := tab, fns := [(47, spec47), (48, spec48), (35, spec35)], bodies := [], loops := [], joins := [], fts := ftab, elts := eltab }
theorem eq46 : ∀ p, evFn env46 (inlN env46 0) 0 46 Tryz.f46 (argS 0 [(1, (.pair (.sl (.int .i64)) (.int .i64)))] p) (argO 0 [(1, (.pair (.sl (.int .i64)) (.int .i64)))] p) (denR [(0, (.pair (.pair (.pair .bool (.arr 32 (.int .u32))) (.pair .bool (.arr 32 (.int .u32)))) (.int .i64)))] (refN 0 [(1, (.pair (.sl (.int .i64)) (.int .i64)))])) (decR [(1, (.pair (.sl (.int .i64)) (.int .i64)))] [(0, (.pair (.pair (.pair .bool (.arr 32 (.int .u32))) (.pair .bool (.arr 32 (.int .u32)))) (.int .i64)))]) = g_scene_Tape_Water p := fun p => by kernel_rfl
theorem ok46 : SpecOK Tryz.prog 46 spec46 :=
  fn_ok mixed_ok ⟨⟨tab_ok, (fns_cons ok47 (fns_cons ok48 (fns_cons ok35 fns_nil)))⟩, eq_ok, ft_ok, el_ok⟩ bodies_nil Tryz.func46 (goes Tryz.func46 (by kernel_rfl)) 0 [(1, (.pair (.sl (.int .i64)) (.int .i64)))] [(0, (.pair (.pair (.pair .bool (.arr 32 (.int .u32))) (.pair .bool (.arr 32 (.int .u32)))) (.int .i64)))] _ eq46

/-! fundadmin/fundadminlaw31.made -/
noncomputable def spec26 : Spec := mkSpec [(0, (.sl (.int .i64))), (0, (.int .i64))] [(0, (.pair (.pair (.pair .bool (.arr 32 (.int .u32))) (.pair .bool (.arr 32 (.int .u32)))) (.pair (.pair (.pair .bool (.arr 32 (.int .u32))) (.pair .bool (.arr 32 (.int .u32)))) (.int .i64)))), (0, (.pair (.pair (.pair .bool (.arr 32 (.int .u32))) (.pair .bool (.arr 32 (.int .u32)))) (.int .i64))), (0, (.pair (.pair .bool (.arr 32 (.int .u32))) (.pair .bool (.arr 32 (.int .u32))))), (0, (.int .i64))] (fun p => g_law31_made p.1 p.2)
noncomputable def env26 : Env := { tab := tab, fns := [(45, spec45), (46, spec46), (28, spec28), (47, spec47), (29, spec29), (34, spec34), (30, spec30)], bodies := [(44, Tryz.f44)], loops := [], joins := [], fts := ftab, elts := eltab }
theorem eq26 : ∀ p, evFn env26 (inlN env26 8) 0 26 Tryz.f26 (argS 0 [(0, (.sl (.int .i64))), (0, (.int .i64))] p) (argO 0 [(0, (.sl (.int .i64))), (0, (.int .i64))] p) (denR [(0, (.pair (.pair (.pair .bool (.arr 32 (.int .u32))) (.pair .bool (.arr 32 (.int .u32)))) (.pair (.pair (.pair .bool (.arr 32 (.int .u32))) (.pair .bool (.arr 32 (.int .u32)))) (.int .i64)))), (0, (.pair (.pair (.pair .bool (.arr 32 (.int .u32))) (.pair .bool (.arr 32 (.int .u32)))) (.int .i64))), (0, (.pair (.pair .bool (.arr 32 (.int .u32))) (.pair .bool (.arr 32 (.int .u32))))), (0, (.int .i64))] (refN 0 [(0, (.sl (.int .i64))), (0, (.int .i64))])) (decR [(0, (.sl (.int .i64))), (0, (.int .i64))] [(0, (.pair (.pair (.pair .bool (.arr 32 (.int .u32))) (.pair .bool (.arr 32 (.int .u32)))) (.pair (.pair (.pair .bool (.arr 32 (.int .u32))) (.pair .bool (.arr 32 (.int .u32)))) (.int .i64)))), (0, (.pair (.pair (.pair .bool (.arr 32 (.int .u32))) (.pair .bool (.arr 32 (.int .u32)))) (.int .i64))), (0, (.pair (.pair .bool (.arr 32 (.int .u32))) (.pair .bool (.arr 32 (.int .u32))))), (0, (.int .i64))]) = g_law31_made p.1 p.2 := fun p => by kernel_rfl
theorem ok26 : SpecOK Tryz.prog 26 spec26 :=
  fn_ok mixed_ok ⟨⟨tab_ok, (fns_cons ok45 (fns_cons ok46 (fns_cons ok28 (fns_cons ok47 (fns_cons ok29 (fns_cons ok34 (fns_cons ok30 fns_nil)))))))⟩, eq_ok, ft_ok, el_ok⟩ (bodies_cons Tryz.func44 (goes Tryz.func44 (by kernel_rfl)) bodies_nil) Tryz.func26 (goes Tryz.func26 (by kernel_rfl)) 8 [(0, (.sl (.int .i64))), (0, (.int .i64))] [(0, (.pair (.pair (.pair .bool (.arr 32 (.int .u32))) (.pair .bool (.arr 32 (.int .u32)))) (.pair (.pair (.pair .bool (.arr 32 (.int .u32))) (.pair .bool (.arr 32 (.int .u32)))) (.int .i64)))), (0, (.pair (.pair (.pair .bool (.arr 32 (.int .u32))) (.pair .bool (.arr 32 (.int .u32)))) (.int .i64))), (0, (.pair (.pair .bool (.arr 32 (.int .u32))) (.pair .bool (.arr 32 (.int .u32))))), (0, (.int .i64))] _ eq26

/-! fundadmin/fundadminlaw31.HighwaterOfMadeMarks -/
noncomputable def spec5 : Spec := mkSpec [(0, (.sl (.int .i64))), (0, (.int .i64))] [(0, .bool)] (fun p => g_law31_HighwaterOfMadeMarks p.1 p.2)
noncomputable def env5 : Env := { tab := tab, fns := [(26, spec26), (20, spec20), (21, spec21), (22, spec22), (23, spec23), (24, spec24), (25, spec25), (19, spec19)], bodies := [], loops := [], joins := [], fts := ftab, elts := eltab }
theorem eq5 : ∀ p, evFn env5 (inlN env5 0) 0 5 Tryz.f5 (argS 0 [(0, (.sl (.int .i64))), (0, (.int .i64))] p) (argO 0 [(0, (.sl (.int .i64))), (0, (.int .i64))] p) (denR [(0, .bool)] (refN 0 [(0, (.sl (.int .i64))), (0, (.int .i64))])) (decR [(0, (.sl (.int .i64))), (0, (.int .i64))] [(0, .bool)]) = g_law31_HighwaterOfMadeMarks p.1 p.2 := fun p => by kernel_rfl
theorem ok5 : SpecOK Tryz.prog 5 spec5 :=
  fn_ok mixed_ok ⟨⟨tab_ok, (fns_cons ok26 (fns_cons ok20 (fns_cons ok21 (fns_cons ok22 (fns_cons ok23 (fns_cons ok24 (fns_cons ok25 (fns_cons ok19 fns_nil))))))))⟩, eq_ok, ft_ok, el_ok⟩ bodies_nil Tryz.func5 (goes Tryz.func5 (by kernel_rfl)) 0 [(0, (.sl (.int .i64))), (0, (.int .i64))] [(0, .bool)] _ eq5

/-! fundadmin/fundadminlaw31.HighwaterSpares -/
noncomputable def spec6 : Spec := mkSpec [(0, (.sl (.int .i64))), (0, (.int .i64)), (0, (.int .i64)), (0, (.int .i64))] [(0, .bool)] (fun p => g_law31_HighwaterSpares p.1 p.2.1 p.2.2.1 p.2.2.2)
noncomputable def env6 : Env := { tab := tab, fns := [(26, spec26), (20, spec20), (22, spec22), (28, spec28), (30, spec30), (29, spec29), (27, spec27), (31, spec31), (32, spec32), (33, spec33), (19, spec19)], bodies := [], loops := [], joins := [], fts := ftab, elts := eltab }
theorem eq6 : ∀ p, evFn env6 (inlN env6 0) 0 6 Tryz.f6 (argS 0 [(0, (.sl (.int .i64))), (0, (.int .i64)), (0, (.int .i64)), (0, (.int .i64))] p) (argO 0 [(0, (.sl (.int .i64))), (0, (.int .i64)), (0, (.int .i64)), (0, (.int .i64))] p) (denR [(0, .bool)] (refN 0 [(0, (.sl (.int .i64))), (0, (.int .i64)), (0, (.int .i64)), (0, (.int .i64))])) (decR [(0, (.sl (.int .i64))), (0, (.int .i64)), (0, (.int .i64)), (0, (.int .i64))] [(0, .bool)]) = g_law31_HighwaterSpares p.1 p.2.1 p.2.2.1 p.2.2.2 := fun p => by kernel_rfl
theorem ok6 : SpecOK Tryz.prog 6 spec6 :=
  fn_ok mixed_ok ⟨⟨tab_ok, (fns_cons ok26 (fns_cons ok20 (fns_cons ok22 (fns_cons ok28 (fns_cons ok30 (fns_cons ok29 (fns_cons ok27 (fns_cons ok31 (fns_cons ok32 (fns_cons ok33 (fns_cons ok19 fns_nil)))))))))))⟩, eq_ok, ft_ok, el_ok⟩ bodies_nil Tryz.func6 (goes Tryz.func6 (by kernel_rfl)) 0 [(0, (.sl (.int .i64))), (0, (.int .i64)), (0, (.int .i64)), (0, (.int .i64))] [(0, .bool)] _ eq6

/-! fundadmin/fundadminlaw31.HighwaterIsPaidOnce -/
noncomputable def spec7 : Spec := mkSpec [(0, (.sl (.int .i64))), (0, (.int .i64)), (0, (.int .i64))] [(0, .bool)] (fun p => g_law31_HighwaterIsPaidOnce p.1 p.2.1 p.2.2)
noncomputable def env7 : Env := { tab := tab, fns := [(26, spec26), (24, spec24), (28, spec28), (33, spec33), (19, spec19), (31, spec31), (30, spec30), (22, spec22), (29, spec29), (32, spec32)], bodies := [], loops := [], joins := [], fts := ftab, elts := eltab }
theorem eq7 : ∀ p, evFn env7 (inlN env7 0) 0 7 Tryz.f7 (argS 0 [(0, (.sl (.int .i64))), (0, (.int .i64)), (0, (.int .i64))] p) (argO 0 [(0, (.sl (.int .i64))), (0, (.int .i64)), (0, (.int .i64))] p) (denR [(0, .bool)] (refN 0 [(0, (.sl (.int .i64))), (0, (.int .i64)), (0, (.int .i64))])) (decR [(0, (.sl (.int .i64))), (0, (.int .i64)), (0, (.int .i64))] [(0, .bool)]) = g_law31_HighwaterIsPaidOnce p.1 p.2.1 p.2.2 := fun p => by kernel_rfl
theorem ok7 : SpecOK Tryz.prog 7 spec7 :=
  fn_ok mixed_ok ⟨⟨tab_ok, (fns_cons ok26 (fns_cons ok24 (fns_cons ok28 (fns_cons ok33 (fns_cons ok19 (fns_cons ok31 (fns_cons ok30 (fns_cons ok22 (fns_cons ok29 (fns_cons ok32 fns_nil))))))))))⟩, eq_ok, ft_ok, el_ok⟩ bodies_nil Tryz.func7 (goes Tryz.func7 (by kernel_rfl)) 0 [(0, (.sl (.int .i64))), (0, (.int .i64)), (0, (.int .i64))] [(0, .bool)] _ eq7

/-! fundadmin/fundadminlaw31.HighwaterScales -/
noncomputable def spec8 : Spec := mkSpec [(0, (.sl (.int .i64))), (0, (.int .i64)), (0, (.int .i64))] [(0, .bool)] (fun p => g_law31_HighwaterScales p.1 p.2.1 p.2.2)
noncomputable def env8 : Env := { tab := tab, fns := [(26, spec26), (30, spec30), (29, spec29), (28, spec28), (34, spec34), (22, spec22), (35, spec35), (20, spec20), (19, spec19)], bodies := [], loops := [], joins := [], fts := ftab, elts := eltab }
theorem eq8 : ∀ p, evFn env8 (inlN env8 0) 0 8 Tryz.f8 (argS 0 [(0, (.sl (.int .i64))), (0, (.int .i64)), (0, (.int .i64))] p) (argO 0 [(0, (.sl (.int .i64))), (0, (.int .i64)), (0, (.int .i64))] p) (denR [(0, .bool)] (refN 0 [(0, (.sl (.int .i64))), (0, (.int .i64)), (0, (.int .i64))])) (decR [(0, (.sl (.int .i64))), (0, (.int .i64)), (0, (.int .i64))] [(0, .bool)]) = g_law31_HighwaterScales p.1 p.2.1 p.2.2 := fun p => by kernel_rfl
theorem ok8 : SpecOK Tryz.prog 8 spec8 :=
  fn_ok mixed_ok ⟨⟨tab_ok, (fns_cons ok26 (fns_cons ok30 (fns_cons ok29 (fns_cons ok28 (fns_cons ok34 (fns_cons ok22 (fns_cons ok35 (fns_cons ok20 (fns_cons ok19 fns_nil)))))))))⟩, eq_ok, ft_ok, el_ok⟩ bodies_nil Tryz.func8 (goes Tryz.func8 (by kernel_rfl)) 0 [(0, (.sl (.int .i64))), (0, (.int .i64)), (0, (.int .i64))] [(0, .bool)] _ eq8

end Go.Ev
