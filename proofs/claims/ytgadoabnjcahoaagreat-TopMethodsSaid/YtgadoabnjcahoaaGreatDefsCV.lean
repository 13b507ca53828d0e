/- What the functions of the program and of its reference compute: made arguments. -/
import Derived.Test.YtgadoabnjcahoaaGreatDefsV
set_option exponentiation.threshold 2000
namespace Go.Ev
set_option linter.unusedVariables false

/-! fundadmin/fundadminscene.Mod -/
noncomputable def g_scene_Mod (x0 : Int) (x1 : Int) : Option Int :=
  (bif (decide (x1 < (1 : Int))) then
  some (0 : Int)
else
  (bif decide (x1 = 0) then
  none
else
  (bif (decide ((x0.tmod x1) < (0 : Int))) then
  some (IntKind.i64.wrap ((x0.tmod x1) + x1))
else
  some (x0.tmod x1))))

/-! (*fundadmin/fundadminscene.Tape).Next -/
noncomputable def g_scene_Tape_Next (x0 : ((List Int) × Int)) (x1 : Int) : Option (Int × ((List Int) × Int)) :=
  (bif (decide (x0.2 ≥ (x0.1.length : Int))) then
  some ((0 : Int), x0)
else
  let v1 : Int := (IntKind.i64.wrap ((IntKind.i64.wrap (x0.2 + (1 : Int))) - (1 : Int)))
  (bif (inb v1 x0.1.length) then
  (g_scene_Mod (x0.1.getD v1.toNat (0 : Int)) x1).bind fun r2 =>
  some (r2, (x0.1, (IntKind.i64.wrap (x0.2 + (1 : Int)))))
else
  none))

/-! (*fundadmin/fundadminscene.Tape).Pick -/
noncomputable def g_scene_Tape_Pick (x0 : ((List Int) × Int)) (x1 : (List Int)) : Option (Int × ((List Int) × Int)) :=
  (g_scene_Tape_Next x0 (x1.length : Int)).bind fun r1 =>
  (bif (inb r1.1 x1.length) then
  some ((x1.getD r1.1.toNat (0 : Int)), r1.2)
else
  none)

/-! (*fundadmin/fundadminscene.Tape).Terms -/
noncomputable def g_scene_Tape_Terms (x0 : ((List Int) × Int)) : Option ((((Bool × (List Int)) × (Bool × (List Int))) × (((Bool × (List Int)) × (Bool × (List Int))) × Int)) × ((List Int) × Int)) :=
  (g_scene_Tape_Next x0 (101 : Int)).bind fun r1 =>
  let v2 : (List Int) := ([(20 : Int), (10 : Int), (0 : Int), (100 : Int), r1.1] : (List Int))
  (g_scene_Tape_Pick r1.2 v2).bind fun r3 =>
  (g_scene_Ratio r3.1 (100 : Int)).bind fun r4 =>
  let v5 : (List Int) := ([(0 : Int), (4 : Int), (0 : Int), (10 : Int), (100 : Int)] : (List Int))
  (g_scene_Tape_Pick r3.2 v5).bind fun r6 =>
  (g_scene_Ratio r6.1 (100 : Int)).bind fun r7 =>
  (g_scene_Tape_Next r6.2 (4 : Int)).bind fun r8 =>
  some ((r4, (r7, (IntKind.i64.wrap ((1 : Int) + r8.1)))), r8.2)

/-! (*fundadmin/fundadminscene.Tape).Water -/
noncomputable def g_scene_Tape_Water (x0 : ((List Int) × Int)) : Option ((((Bool × (List Int)) × (Bool × (List Int))) × Int) × ((List Int) × Int)) :=
  (g_scene_Tape_Next x0 (20000 : Int)).bind fun r1 =>
  let v2 : (List Int) := ([(100 : Int), (100 : Int), (1 : Int), (7 : Int)] : (List Int))
  (g_scene_Tape_Pick r1.2 v2).bind fun r3 =>
  (g_scene_Ratio (IntKind.i64.wrap ((1 : Int) + r1.1)) r3.1).bind fun r4 =>
  (g_scene_Tape_Next r3.2 (800 : Int)).bind fun r5 =>
  some ((r4, r5.1), r5.2)

end Go.Ev
