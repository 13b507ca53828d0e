/- Each further function that the laws over made arguments reach computes what is written down of it, for all arguments. -/
import Derived.Test.YtgadoabnjcahoaaGreatThmsV
import Derived.Test.YtgadoabnjcahoaaGreatDefsCV
set_option exponentiation.threshold 2000
namespace Go.Ev
open Go.Proofs
set_option linter.unusedVariables false

/-! fundadmin/fundadminscene.Mod -/
noncomputable def spec30 : Spec := mkSpec [(0, (.int .i64)), (0, (.int .i64))] [(0, (.int .i64))] (fun p => g_scene_Mod p.1 p.2)
noncomputable def env30 : Env := { tab := tab, fns := [], bodies := [], loops := [], joins := [], fts := ftab, elts := eltab }
theorem eq30 : ∀ p, evFn env30 (inlN env30 0) 0 30 Tryz.f30 (argS 0 [(0, (.int .i64)), (0, (.int .i64))] p) (argO 0 [(0, (.int .i64)), (0, (.int .i64))] p) (denR [(0, (.int .i64))] (refN 0 [(0, (.int .i64)), (0, (.int .i64))])) (decR [(0, (.int .i64)), (0, (.int .i64))] [(0, (.int .i64))]) = g_scene_Mod p.1 p.2 := fun p => by kernel_rfl
theorem ok30 : SpecOK Tryz.prog 30 spec30 :=
  fn_ok mixed_ok ⟨⟨tab_ok, fns_nil⟩, eq_ok, ft_ok, el_ok⟩ bodies_nil Tryz.func30 (goes Tryz.func30 (by kernel_rfl)) 0 [(0, (.int .i64)), (0, (.int .i64))] [(0, (.int .i64))] _ eq30

/-! (*fundadmin/fundadminscene.Tape).Next -/
noncomputable def spec47 : Spec := mkSpec [(1, (.pair (.sl (.int .i64)) (.int .i64))), (0, (.int .i64))] [(0, (.int .i64))] (fun p => g_scene_Tape_Next p.1 p.2)
noncomputable def env47 : Env := { tab := tab, fns := [(30, spec30)], bodies := [], loops := [], joins := [], fts := ftab, elts := eltab }
theorem eq47 : ∀ p, evFn env47 (inlN env47 0) 0 47 Tryz.f47 (argS 0 [(1, (.pair (.sl (.int .i64)) (.int .i64))), (0, (.int .i64))] p) (argO 0 [(1, (.pair (.sl (.int .i64)) (.int .i64))), (0, (.int .i64))] p) (denR [(0, (.int .i64))] (refN 0 [(1, (.pair (.sl (.int .i64)) (.int .i64))), (0, (.int .i64))])) (decR [(1, (.pair (.sl (.int .i64)) (.int .i64))), (0, (.int .i64))] [(0, (.int .i64))]) = g_scene_Tape_Next p.1 p.2 := fun p => by kernel_rfl
theorem ok47 : SpecOK Tryz.prog 47 spec47 :=
  fn_ok mixed_ok ⟨⟨tab_ok, (fns_cons ok30 fns_nil)⟩, eq_ok, ft_ok, el_ok⟩ bodies_nil Tryz.func47 (goes Tryz.func47 (by kernel_rfl)) 0 [(1, (.pair (.sl (.int .i64)) (.int .i64))), (0, (.int .i64))] [(0, (.int .i64))] _ eq47

/-! (*fundadmin/fundadminscene.Tape).Pick -/
noncomputable def spec48 : Spec := mkSpec [(1, (.pair (.sl (.int .i64)) (.int .i64))), (0, (.sl (.int .i64)))] [(0, (.int .i64))] (fun p => g_scene_Tape_Pick p.1 p.2)
noncomputable def env48 : Env := { tab := tab, fns := [(47, spec47)], bodies := [], loops := [], joins := [], fts := ftab, elts := eltab }
theorem eq48 : ∀ p, evFn env48 (inlN env48 0) 0 48 Tryz.f48 (argS 0 [(1, (.pair (.sl (.int .i64)) (.int .i64))), (0, (.sl (.int .i64)))] p) (argO 0 [(1, (.pair (.sl (.int .i64)) (.int .i64))), (0, (.sl (.int .i64)))] p) (denR [(0, (.int .i64))] (refN 0 [(1, (.pair (.sl (.int .i64)) (.int .i64))), (0, (.sl (.int .i64)))])) (decR [(1, (.pair (.sl (.int .i64)) (.int .i64))), (0, (.sl (.int .i64)))] [(0, (.int .i64))]) = g_scene_Tape_Pick p.1 p.2 := fun p => by kernel_rfl
theorem ok48 : SpecOK Tryz.prog 48 spec48 :=
  fn_ok mixed_ok ⟨⟨tab_ok, (fns_cons ok47 fns_nil)⟩, eq_ok, ft_ok, el_ok⟩ bodies_nil Tryz.func48 (goes Tryz.func48 (by kernel_rfl)) 0 [(1, (.pair (.sl (.int .i64)) (.int .i64))), (0, (.sl (.int .i64)))] [(0, (.int .i64))] _ eq48

/-! (*fundadmin/fundadminscene.Tape).Terms -/
noncomputable def spec45 : Spec := mkSpec [(1, (.pair (.sl (.int .i64)) (.int .i64)))] [(0, (.pair (.pair (.pair .bool (.arr 32 (.int .u32))) (.pair .bool (.arr 32 (.int .u32)))) (.pair (.pair (.pair .bool (.arr 32 (.int .u32))) (.pair .bool (.arr 32 (.int .u32)))) (.int .i64))))] (fun p => g_scene_Tape_Terms p)
noncomputable def env45 : Env := { tab := tab, fns := [(47, spec47), (48, spec48), (35, spec35)], bodies := [], loops := [], joins := [], fts := ftab, elts := eltab }
theorem eq45 : ∀ p, evFn env45 (inlN env45 0) 0 45 Tryz.f45 (argS 0 [(1, (.pair (.sl (.int .i64)) (.int .i64)))] p) (argO 0 [(1, (.pair (.sl (.int .i64)) (.int .i64)))] p) (denR [(0, (.pair (.pair (.pair .bool (.arr 32 (.int .u32))) (.pair .bool (.arr 32 (.int .u32)))) (.pair (.pair (.pair .bool (.arr 32 (.int .u32))) (.pair .bool (.arr 32 (.int .u32)))) (.int .i64))))] (refN 0 [(1, (.pair (.sl (.int .i64)) (.int .i64)))])) (decR [(1, (.pair (.sl (.int .i64)) (.int .i64)))] [(0, (.pair (.pair (.pair .bool (.arr 32 (.int .u32))) (.pair .bool (.arr 32 (.int .u32)))) (.pair (.pair (.pair .bool (.arr 32 (.int .u32))) (.pair .bool (.arr 32 (.int .u32)))) (.int .i64))))]) = g_scene_Tape_Terms p := fun p => by kernel_rfl
theorem ok45 : SpecOK Tryz.prog 45 spec45 :=
  fn_ok mixed_ok ⟨⟨tab_ok, (fns_cons ok47 (fns_cons ok48 (fns_cons ok35 fns_nil)))⟩, eq_ok, ft_ok, el_ok⟩ bodies_nil Tryz.func45 (goes Tryz.func45 (by kernel_rfl)) 0 [(1, (.pair (.sl (.int .i64)) (.int .i64)))] [(0, (.pair (.pair (.pair .bool (.arr 32 (.int .u32))) (.pair .bool (.arr 32 (.int .u32)))) (.pair (.pair (.pair .bool (.arr 32 (.int .u32))) (.pair .bool (.arr 32 (.int .u32)))) (.int .i64))))] _ eq45

/-! (*fundadmin/fundadminscene.Tape).Water -/
noncomputable def spec46 : Spec := mkSpec [(1, (.pair (.sl (.int .i64)) (.int .i64)))] [(0, (.pair (.pair (.pair .bool (.arr 32 (.int .u32))) (.pair .bool (.arr 32 (.int .u32)))) (.int .i64)))] (fun p => g_scene_Tape_Water p)
noncomputable def env46 : Env := { tab := tab, fns := [(47, spec47), (48, spec48), (35, spec35)], bodies := [], loops := [], joins := [], fts := ftab, elts := eltab }
theorem eq46 : ∀ p, evFn env46 (inlN env46 0) 0 46 Tryz.f46 (argS 0 [(1, (.pair (.sl (.int .i64)) (.int .i64)))] p) (argO 0 [(1, (.pair (.sl (.int .i64)) (.int .i64)))] p) (denR [(0, (.pair (.pair (.pair .bool (.arr 32 (.int .u32))) (.pair .bool (.arr 32 (.int .u32)))) (.int .i64)))] (refN 0 [(1, (.pair (.sl (.int .i64)) (.int .i64)))])) (decR [(1, (.pair (.sl (.int .i64)) (.int .i64)))] [(0, (.pair (.pair (.pair .bool (.arr 32 (.int .u32))) (.pair .bool (.arr 32 (.int .u32)))) (.int .i64)))]) = g_scene_Tape_Water p := fun p => by kernel_rfl
theorem ok46 : SpecOK Tryz.prog 46 spec46 :=
  fn_ok mixed_ok ⟨⟨tab_ok, (fns_cons ok47 (fns_cons ok48 (fns_cons ok35 fns_nil)))⟩, eq_ok, ft_ok, el_ok⟩ bodies_nil Tryz.func46 (goes Tryz.func46 (by kernel_rfl)) 0 [(1, (.pair (.sl (.int .i64)) (.int .i64)))] [(0, (.pair (.pair (.pair .bool (.arr 32 (.int .u32))) (.pair .bool (.arr 32 (.int .u32)))) (.int .i64)))] _ eq46

end Go.Ev
