/- What the functions of the program compute: the end of a period of a class with lots. -/
import Derived.Test.YtgadoabnjcahoaaGreatDefsBW
import Derived.Test.YtgadoabnjcahoaaGreatDefsCW
set_option exponentiation.threshold 2000
namespace Go.Ev
set_option linter.unusedVariables false

/-! (*fundadmin/fundadminscene.Tape).Bool -/
noncomputable def g_scene_Tape_Bool (x0 : ((List Int) × Int)) (x1 : Int) : Option (Bool × ((List Int) × Int)) :=
  (g_scene_Tape_Next x0 x1).bind fun r1 =>
  some ((r1.1 == (1 : Int)), r1.2)

/-! fundadmin/fundadminlaw32.made -/
noncomputable def g_law32_made_L8 (r1 : (Int × ((List Int) × Int))) (r2 : ((((Bool × (List Int)) × (Bool × (List Int))) × Int) × ((List Int) × Int))) (s3 : (((List (Int × (((Bool × (List Int)) × (Bool × (List Int))) × Int))) × (Int × Int)) × ((List Int) × Int))) : Option (Next (((List (Int × (((Bool × (List Int)) × (Bool × (List Int))) × Int))) × (Int × Int)) × ((List Int) × Int))) :=
  (bif (decide (s3.1.2.2 < r1.1)) then
  (g_scene_Tape_Next s3.2 (50 : Int)).bind fun r4 =>
  let v5 : Int := (IntKind.i64.wrap ((IntKind.i64.wrap (s3.1.2.1 + (1 : Int))) + r4.1))
  (g_scene_Tape_Bool r4.2 (3 : Int)).bind fun r6 =>
  (bif (!r6.1) then
  (g_exact_Of r2.1.1).bind fun r7 =>
  (g_scene_Tape_Next r6.2 (100 : Int)).bind fun r8 =>
  (g_exact_Over (IntKind.i64.wrap ((60 : Int) + r8.1)) (100 : Int)).bind fun r9 =>
  (g_exact_Mul r7 r9).bind fun r10 =>
  (g_scene_Tape_Next r8.2 (800 : Int)).bind fun r11 =>
  let v12 : (List (Int × (((Bool × (List Int)) × (Bool × (List Int))) × Int))) := ([(v5, (r10.1, r11.1))] : (List (Int × (((Bool × (List Int)) × (Bool × (List Int))) × Int))))
  (bif List.isEmpty v12 || !(Nat.ble ((List.length s3.1.1 + List.length v12) * 280) appLim) then
  none
else
  some (.more (((s3.1.1 ++ v12), (v5, (IntKind.i64.wrap (s3.1.2.2 + (1 : Int))))), r11.2)))
else
  let v13 : (List (Int × (((Bool × (List Int)) × (Bool × (List Int))) × Int))) := ([(v5, r2.1)] : (List (Int × (((Bool × (List Int)) × (Bool × (List Int))) × Int))))
  (bif List.isEmpty v13 || !(Nat.ble ((List.length s3.1.1 + List.length v13) * 280) appLim) then
  none
else
  some (.more (((s3.1.1 ++ v13), (v5, (IntKind.i64.wrap (s3.1.2.2 + (1 : Int))))), r6.2))))
else
  some (.out 0 ((s3.1.1, (s3.1.2.1, s3.1.2.2)), s3.2)))
noncomputable def g_law32_made (x0 : (List Int)) : Option ((((Bool × (List Int)) × (Bool × (List Int))) × (((Bool × (List Int)) × (Bool × (List Int))) × Int)) × ((((Bool × (List Int)) × (Bool × (List Int))) × Int) × ((List (Int × (((Bool × (List Int)) × (Bool × (List Int))) × Int))) × (((Bool × (List Int)) × (Bool × (List Int))) × Int)))) :=
  (g_scene_Tape_Terms (x0, (0 : Int))).bind fun r1 =>
  (g_scene_Tape_Water r1.2).bind fun r2 =>
  (g_exact_Of r2.1.1).bind fun r3 =>
  (g_scene_Tape_Next r2.2 (100 : Int)).bind fun r4 =>
  (g_exact_Over (IntKind.i64.wrap ((60 : Int) + r4.1)) (100 : Int)).bind fun r5 =>
  (g_exact_Mul r3 r5).bind fun r6 =>
  (g_scene_Tape_Next r4.2 (5 : Int)).bind fun r7 =>
  (loopD (S := (((List (Int × (((Bool × (List Int)) × (Bool × (List Int))) × Int))) × (Int × Int)) × ((List Int) × Int))) (g_law32_made_L8 r7 r2) ((([] : (List (Int × (((Bool × (List Int)) × (Bool × (List Int))) × Int)))), ((0 : Int), (0 : Int))), r7.2)).bind fun o19 =>
  (g_scene_Tape_Next o19.2.2 (500 : Int)).bind fun r20 =>
  some (r1.1, (r2.1, (o19.2.1.1, (r6.1, (IntKind.i64.wrap ((800 : Int) + r20.1))))))

/-! fundadmin/equalisation.right -/
noncomputable def g_equalisation_right_L4 (x0 : (List (Int × (((Bool × (List Int)) × (Bool × (List Int))) × Int)))) (s2 : ((Bool × Int) × Unit)) : Option (Next ((Bool × Int) × Unit)) :=
  (bif (decide (s2.1.2 < (x0.length : Int))) then
  (bif (inb s2.1.2 x0.length) then
  let v3 : (Int × (((Bool × (List Int)) × (Bool × (List Int))) × Int)) := (x0.getD s2.1.2.toNat ((0 : Int), (((false, (List.replicate 32 (0 : Int))), (false, (List.replicate 32 (0 : Int)))), (0 : Int))))
  (bif (decide (v3.1 < (0 : Int))) then
  some (.out 0 ((false, s2.1.2), ()))
else
  (bif (decide (v3.1 > (73048 : Int))) then
  some (.out 0 ((false, s2.1.2), ()))
else
  (bif (decide (s2.1.2 > (0 : Int))) then
  (bif (inb (IntKind.i64.wrap (s2.1.2 - (1 : Int))) x0.length) then
  let v4 : (Int × (((Bool × (List Int)) × (Bool × (List Int))) × Int)) := (x0.getD (IntKind.i64.wrap (s2.1.2 - (1 : Int))).toNat ((0 : Int), (((false, (List.replicate 32 (0 : Int))), (false, (List.replicate 32 (0 : Int)))), (0 : Int))))
  (bif (decide (v4.1 ≥ v3.1)) then
  some (.out 0 ((false, s2.1.2), ()))
else
  (g_highwater_CheckWater v3.2).bind fun r5 =>
  (bif (r5 != (0 : Int)) then
  some (.out 0 ((false, s2.1.2), ()))
else
  some (.more ((s2.1.1, (IntKind.i64.wrap (s2.1.2 + (1 : Int)))), ()))))
else
  none)
else
  (g_highwater_CheckWater v3.2).bind fun r6 =>
  (bif (r6 != (0 : Int)) then
  some (.out 0 ((false, s2.1.2), ()))
else
  some (.more ((s2.1.1, (IntKind.i64.wrap (s2.1.2 + (1 : Int)))), ()))))))
else
  none)
else
  some (.out 1 ((s2.1.1, s2.1.2), ())))
noncomputable def g_equalisation_right (x0 : (List (Int × (((Bool × (List Int)) × (Bool × (List Int))) × Int)))) : Option Bool :=
  (bif (decide ((x0.length : Int) > (256 : Int))) then
  some false
else
  (loopD (S := ((Bool × Int) × Unit)) (g_equalisation_right_L4 x0) ((false, (0 : Int)), ())).bind fun o6 =>
  (bif Nat.beq o6.1 0 then
  some o6.2.1.1
else
  some true))

/-! fundadmin/equalisation.shrink -/
noncomputable def g_equalisation_shrink (x0 : ((Bool × (List Int)) × (Bool × (List Int)))) (x1 : ((Bool × (List Int)) × (Bool × (List Int)))) (x2 : ((Bool × (List Int)) × (Bool × (List Int)))) : Option (((Bool × (List Int)) × (Bool × (List Int))) × Int) :=
  (g_ratio_Quo x1 x2).bind fun r1 =>
  (bif (r1.2 != (0 : Int)) then
  some (((false, (List.replicate 32 (0 : Int))), (false, (List.replicate 32 (0 : Int)))), r1.2)
else
  (g_ratio_Mul x0 r1.1).bind fun r2 =>
  some (r2.1, r2.2))

/-! fundadmin/equalisation.Crystallise -/
noncomputable def g_equalisation_Crystallise_T155 (r1 : (((Bool × (List Int)) × (Bool × (List Int))) × Int)) (s2 : (((List ((Bool × (List Int)) × (Bool × (List Int)))) × ((List (Int × (((Bool × (List Int)) × (Bool × (List Int))) × Int))) × (Int × ((List ((Bool × (List Int)) × (Bool × (List Int)))) × Int)))) × (((Bool × (List Int)) × (Bool × (List Int))) × ((((Bool × (List Int)) × (Bool × (List Int))) × Int) × (List (Int × (((Bool × (List Int)) × (Bool × (List Int))) × Int))))))) (v3 : (List ((Bool × (List Int)) × (Bool × (List Int))))) : Option (Next (((List ((Bool × (List Int)) × (Bool × (List Int)))) × ((List (Int × (((Bool × (List Int)) × (Bool × (List Int))) × Int))) × (Int × ((List ((Bool × (List Int)) × (Bool × (List Int)))) × Int)))) × (((Bool × (List Int)) × (Bool × (List Int))) × ((((Bool × (List Int)) × (Bool × (List Int))) × Int) × (List (Int × (((Bool × (List Int)) × (Bool × (List Int))) × Int))))))) :=
  some (.out 0 ((([] : (List ((Bool × (List Int)) × (Bool × (List Int))))), (([] : (List (Int × (((Bool × (List Int)) × (Bool × (List Int))) × Int)))), (r1.2, ((s2.1.2.2.2.1 ++ v3), s2.1.2.2.2.2)))), (((false, (List.replicate 32 (0 : Int))), (false, (List.replicate 32 (0 : Int)))), ((((false, (List.replicate 32 (0 : Int))), (false, (List.replicate 32 (0 : Int)))), (0 : Int)), s2.2.2.2))))

noncomputable def g_equalisation_Crystallise_E155 (s1 : (((List ((Bool × (List Int)) × (Bool × (List Int)))) × ((List (Int × (((Bool × (List Int)) × (Bool × (List Int))) × Int))) × (Int × ((List ((Bool × (List Int)) × (Bool × (List Int)))) × Int)))) × (((Bool × (List Int)) × (Bool × (List Int))) × ((((Bool × (List Int)) × (Bool × (List Int))) × Int) × (List (Int × (((Bool × (List Int)) × (Bool × (List Int))) × Int))))))) (r2 : (((Bool × (List Int)) × (Bool × (List Int))) × Int)) (v3 : (Int × (((Bool × (List Int)) × (Bool × (List Int))) × Int))) (v4 : (List ((Bool × (List Int)) × (Bool × (List Int))))) : Option (Next (((List ((Bool × (List Int)) × (Bool × (List Int)))) × ((List (Int × (((Bool × (List Int)) × (Bool × (List Int))) × Int))) × (Int × ((List ((Bool × (List Int)) × (Bool × (List Int)))) × Int)))) × (((Bool × (List Int)) × (Bool × (List Int))) × ((((Bool × (List Int)) × (Bool × (List Int))) × Int) × (List (Int × (((Bool × (List Int)) × (Bool × (List Int))) × Int))))))) :=
  (bif (inb s1.1.2.2.2.2 256) then
  let v5 : (List (Int × (((Bool × (List Int)) × (Bool × (List Int))) × Int))) := (s1.2.2.2.set s1.1.2.2.2.2.toNat ((s1.2.2.2.getD s1.1.2.2.2.2.toNat ((0 : Int), (((false, (List.replicate 32 (0 : Int))), (false, (List.replicate 32 (0 : Int)))), (0 : Int)))).1, (r2.1, v3.2.2)))
  some (.more ((s1.1.1, (s1.1.2.1, (s1.1.2.2.1, ((s1.1.2.2.2.1 ++ v4), (IntKind.i64.wrap (s1.1.2.2.2.2 + (1 : Int))))))), (s1.2.1, (s1.2.2.1, v5))))
else
  none)

noncomputable def g_equalisation_Crystallise_E155_2 (x4 : Int) (s2 : (((List ((Bool × (List Int)) × (Bool × (List Int)))) × ((List (Int × (((Bool × (List Int)) × (Bool × (List Int))) × Int))) × (Int × ((List ((Bool × (List Int)) × (Bool × (List Int)))) × Int)))) × (((Bool × (List Int)) × (Bool × (List Int))) × ((((Bool × (List Int)) × (Bool × (List Int))) × Int) × (List (Int × (((Bool × (List Int)) × (Bool × (List Int))) × Int))))))) (r3 : (((Bool × (List Int)) × (Bool × (List Int))) × Int)) (v4 : (List ((Bool × (List Int)) × (Bool × (List Int))))) : Option (Next (((List ((Bool × (List Int)) × (Bool × (List Int)))) × ((List (Int × (((Bool × (List Int)) × (Bool × (List Int))) × Int))) × (Int × ((List ((Bool × (List Int)) × (Bool × (List Int)))) × Int)))) × (((Bool × (List Int)) × (Bool × (List Int))) × ((((Bool × (List Int)) × (Bool × (List Int))) × Int) × (List (Int × (((Bool × (List Int)) × (Bool × (List Int))) × Int))))))) :=
  (bif (inb s2.1.2.2.2.2 256) then
  let v5 : (List (Int × (((Bool × (List Int)) × (Bool × (List Int))) × Int))) := (s2.2.2.2.set s2.1.2.2.2.2.toNat ((s2.2.2.2.getD s2.1.2.2.2.2.toNat ((0 : Int), (((false, (List.replicate 32 (0 : Int))), (false, (List.replicate 32 (0 : Int)))), (0 : Int)))).1, (r3.1, x4)))
  some (.more ((s2.1.1, (s2.1.2.1, (s2.1.2.2.1, ((s2.1.2.2.2.1 ++ v4), (IntKind.i64.wrap (s2.1.2.2.2.2 + (1 : Int))))))), (s2.2.1, (s2.2.2.1, v5))))
else
  none)

noncomputable def g_equalisation_Crystallise_L14 (x0 : (((Bool × (List Int)) × (Bool × (List Int))) × (((Bool × (List Int)) × (Bool × (List Int))) × Int))) (x1 : (((Bool × (List Int)) × (Bool × (List Int))) × Int)) (x2 : (List (Int × (((Bool × (List Int)) × (Bool × (List Int))) × Int)))) (x3 : ((Bool × (List Int)) × (Bool × (List Int)))) (x4 : Int) (r6 : (((Bool × (List Int)) × (Bool × (List Int))) × ((((Bool × (List Int)) × (Bool × (List Int))) × Int) × Int))) (r7 : (((Bool × (List Int)) × (Bool × (List Int))) × Int)) (s8 : (((List ((Bool × (List Int)) × (Bool × (List Int)))) × ((List (Int × (((Bool × (List Int)) × (Bool × (List Int))) × Int))) × (Int × ((List ((Bool × (List Int)) × (Bool × (List Int)))) × Int)))) × (((Bool × (List Int)) × (Bool × (List Int))) × ((((Bool × (List Int)) × (Bool × (List Int))) × Int) × (List (Int × (((Bool × (List Int)) × (Bool × (List Int))) × Int))))))) : Option (Next (((List ((Bool × (List Int)) × (Bool × (List Int)))) × ((List (Int × (((Bool × (List Int)) × (Bool × (List Int))) × Int))) × (Int × ((List ((Bool × (List Int)) × (Bool × (List Int)))) × Int)))) × (((Bool × (List Int)) × (Bool × (List Int))) × ((((Bool × (List Int)) × (Bool × (List Int))) × Int) × (List (Int × (((Bool × (List Int)) × (Bool × (List Int))) × Int))))))) :=
  (bif (decide (s8.1.2.2.2.2 < (x2.length : Int))) then
  (bif (inb s8.1.2.2.2.2 x2.length) then
  let v9 : (Int × (((Bool × (List Int)) × (Bool × (List Int))) × Int)) := (x2.getD s8.1.2.2.2.2.toNat ((0 : Int), (((false, (List.replicate 32 (0 : Int))), (false, (List.replicate 32 (0 : Int)))), (0 : Int))))
  (g_equalisation_Adjust x0 x1 v9.2 x3 x4).bind fun r10 =>
  (bif (r10.2 != (0 : Int)) then
  some (.out 0 ((([] : (List ((Bool × (List Int)) × (Bool × (List Int))))), (([] : (List (Int × (((Bool × (List Int)) × (Bool × (List Int))) × Int)))), (r10.2, (s8.1.2.2.2.1, s8.1.2.2.2.2)))), (((false, (List.replicate 32 (0 : Int))), (false, (List.replicate 32 (0 : Int)))), ((((false, (List.replicate 32 (0 : Int))), (false, (List.replicate 32 (0 : Int)))), (0 : Int)), s8.2.2.2))))
else
  let v11 : (List ((Bool × (List Int)) × (Bool × (List Int)))) := ([r10.1] : (List ((Bool × (List Int)) × (Bool × (List Int)))))
  (bif List.isEmpty v11 || !(Nat.ble ((List.length s8.1.2.2.2.1 + List.length v11) * 264) appLim) then
  none
else
  (g_highwater_Fee x0 v9.2 x3 x4).bind fun r12 =>
  (g_ratio_Whole (0 : Int)).bind fun r13 =>
  let v14 : Bool := (((r12.1.1.1 == r13.1.1) && (List.isEqv r12.1.1.2 r13.1.2 (eqv (.int .u32)))) && ((r12.1.2.1 == r13.2.1) && (List.isEqv r12.1.2.2 r13.2.2 (eqv (.int .u32)))))
  (bif v14 then
  (g_ratio_Whole (0 : Int)).bind fun r15 =>
  let v16 : Bool := (((r6.1.1.1 == r15.1.1) && (List.isEqv r6.1.1.2 r15.1.2 (eqv (.int .u32)))) && ((r6.1.2.1 == r15.2.1) && (List.isEqv r6.1.2.2 r15.2.2 (eqv (.int .u32)))))
  (bif v16 then
  some (.more ((s8.1.1, (s8.1.2.1, (s8.1.2.2.1, ((s8.1.2.2.2.1 ++ v11), (IntKind.i64.wrap (s8.1.2.2.2.2 + (1 : Int))))))), (s8.2.1, (s8.2.2.1, s8.2.2.2))))
else
  (g_equalisation_shrink v9.2.1 r7.1 x3).bind fun r17 =>
  (bif (r17.2 != (0 : Int)) then
  some (.out 0 ((([] : (List ((Bool × (List Int)) × (Bool × (List Int))))), (([] : (List (Int × (((Bool × (List Int)) × (Bool × (List Int))) × Int)))), (r17.2, ((s8.1.2.2.2.1 ++ v11), s8.1.2.2.2.2)))), (((false, (List.replicate 32 (0 : Int))), (false, (List.replicate 32 (0 : Int)))), ((((false, (List.replicate 32 (0 : Int))), (false, (List.replicate 32 (0 : Int)))), (0 : Int)), s8.2.2.2))))
else
  (g_decimal_Quantize r17.1 (9 : Int) (4 : Int)).bind fun r18 =>
  (bif (r18.2 != (0 : Int)) then
  (g_equalisation_Crystallise_T155 r18 s8 v11)
else
  (g_equalisation_Crystallise_E155 s8 r18 v9 v11))))
else
  (g_decimal_Quantize r7.1 (9 : Int) (4 : Int)).bind fun r19 =>
  (bif (r19.2 != (0 : Int)) then
  (g_equalisation_Crystallise_T155 r19 s8 v11)
else
  (g_equalisation_Crystallise_E155_2 x4 s8 r19 v11)))))
else
  none)
else
  some (.out 1 ((s8.1.1, (s8.1.2.1, (s8.1.2.2.1, (s8.1.2.2.2.1, s8.1.2.2.2.2)))), (s8.2.1, (s8.2.2.1, s8.2.2.2)))))
noncomputable def g_equalisation_Crystallise (x0 : (((Bool × (List Int)) × (Bool × (List Int))) × (((Bool × (List Int)) × (Bool × (List Int))) × Int))) (x1 : (((Bool × (List Int)) × (Bool × (List Int))) × Int)) (x2 : (List (Int × (((Bool × (List Int)) × (Bool × (List Int))) × Int)))) (x3 : ((Bool × (List Int)) × (Bool × (List Int)))) (x4 : Int) : Option (((Bool × (List Int)) × (Bool × (List Int))) × ((((Bool × (List Int)) × (Bool × (List Int))) × Int) × ((List ((Bool × (List Int)) × (Bool × (List Int)))) × ((List (Int × (((Bool × (List Int)) × (Bool × (List Int))) × Int))) × Int)))) :=
  (g_highwater_Crystallise x0 x1 x3 x4).bind fun r1 =>
  (bif (r1.2.2 != (0 : Int)) then
  some (((false, (List.replicate 32 (0 : Int))), (false, (List.replicate 32 (0 : Int)))), ((((false, (List.replicate 32 (0 : Int))), (false, (List.replicate 32 (0 : Int)))), (0 : Int)), (([] : (List ((Bool × (List Int)) × (Bool × (List Int))))), (([] : (List (Int × (((Bool × (List Int)) × (Bool × (List Int))) × Int)))), r1.2.2))))
else
  (g_equalisation_right x2).bind fun r2 =>
  (bif (!r2) then
  some (((false, (List.replicate 32 (0 : Int))), (false, (List.replicate 32 (0 : Int)))), ((((false, (List.replicate 32 (0 : Int))), (false, (List.replicate 32 (0 : Int)))), (0 : Int)), (([] : (List ((Bool × (List Int)) × (Bool × (List Int))))), (([] : (List (Int × (((Bool × (List Int)) × (Bool × (List Int))) × Int)))), (320 : Int)))))
else
  (g_ratio_Sub x3 r1.1).bind fun r3 =>
  (bif (r3.2 != (0 : Int)) then
  some (((false, (List.replicate 32 (0 : Int))), (false, (List.replicate 32 (0 : Int)))), ((((false, (List.replicate 32 (0 : Int))), (false, (List.replicate 32 (0 : Int)))), (0 : Int)), (([] : (List ((Bool × (List Int)) × (Bool × (List Int))))), (([] : (List (Int × (((Bool × (List Int)) × (Bool × (List Int))) × Int)))), r3.2))))
else
  (bif decide (0 ≤ (0 : Int) ∧ (0 : Int) ≤ (256 : Int) ∧ (256 : Int) ≤ (256 : Int)) then
  let v4 : (List (Int × (((Bool × (List Int)) × (Bool × (List Int))) × Int))) := (copyL (List.replicate 256 ((0 : Int), (((false, (List.replicate 32 (0 : Int))), (false, (List.replicate 32 (0 : Int)))), (0 : Int)))) x2 (0 : Int) (256 : Int))
  (loopD (S := (((List ((Bool × (List Int)) × (Bool × (List Int)))) × ((List (Int × (((Bool × (List Int)) × (Bool × (List Int))) × Int))) × (Int × ((List ((Bool × (List Int)) × (Bool × (List Int)))) × Int)))) × (((Bool × (List Int)) × (Bool × (List Int))) × ((((Bool × (List Int)) × (Bool × (List Int))) × Int) × (List (Int × (((Bool × (List Int)) × (Bool × (List Int))) × Int))))))) (g_equalisation_Crystallise_L14 x0 x1 x2 x3 x4 r1 r3) ((([] : (List ((Bool × (List Int)) × (Bool × (List Int))))), (([] : (List (Int × (((Bool × (List Int)) × (Bool × (List Int))) × Int)))), ((0 : Int), (([] : (List ((Bool × (List Int)) × (Bool × (List Int))))), (0 : Int))))), (((false, (List.replicate 32 (0 : Int))), (false, (List.replicate 32 (0 : Int)))), ((((false, (List.replicate 32 (0 : Int))), (false, (List.replicate 32 (0 : Int)))), (0 : Int)), v4)))).bind fun o19 =>
  (bif Nat.beq o19.1 0 then
  some (o19.2.2.1, (o19.2.2.2.1, (o19.2.1.1, (o19.2.1.2.1, o19.2.1.2.2.1))))
else
  (bif decide (0 ≤ (0 : Int) ∧ (0 : Int) ≤ (x2.length : Int) ∧ (x2.length : Int) ≤ (256 : Int)) then
  (bif Nat.ble (List.length ((o19.2.2.2.2.drop (0 : Int).toNat).take ((x2.length : Int) - (0 : Int)).toNat) * 280) appLim then
  let v20 : (List (Int × (((Bool × (List Int)) × (Bool × (List Int))) × Int))) := ((o19.2.2.2.2.drop (0 : Int).toNat).take ((x2.length : Int) - (0 : Int)).toNat)
  some (r1.1, (r1.2.1, (o19.2.1.2.2.2.1, (v20, (0 : Int)))))
else
  none)
else
  none))
else
  none))))

/-! fundadmin/fundadminlaw32.EqualisationEqualsOwnFunds -/
noncomputable def g_law32_EqualisationEqualsOwnFunds_T116 (s1 : ((Bool × Int) × Unit)) (r2 : ((((Bool × (List Int)) × (Bool × (List Int))) × (((Bool × (List Int)) × (Bool × (List Int))) × Int)) × ((((Bool × (List Int)) × (Bool × (List Int))) × Int) × ((List (Int × (((Bool × (List Int)) × (Bool × (List Int))) × Int))) × (((Bool × (List Int)) × (Bool × (List Int))) × Int))))) (s3 : ((Bool × Int) × Unit)) (r4 : (((Bool × (List Int)) × (Bool × (List Int))) × ((((Bool × (List Int)) × (Bool × (List Int))) × Int) × ((List ((Bool × (List Int)) × (Bool × (List Int)))) × ((List (Int × (((Bool × (List Int)) × (Bool × (List Int))) × Int))) × Int))))) : Option (Next ((Bool × Int) × Unit)) :=
  (bif (inb s1.1.2 r2.2.2.1.length) then
  let v5 : (Int × (((Bool × (List Int)) × (Bool × (List Int))) × Int)) := (r2.2.2.1.getD s1.1.2.toNat ((0 : Int), (((false, (List.replicate 32 (0 : Int))), (false, (List.replicate 32 (0 : Int)))), (0 : Int))))
  (bif (inb s3.1.2 r2.2.2.1.length) then
  let v6 : (Int × (((Bool × (List Int)) × (Bool × (List Int))) × Int)) := (r2.2.2.1.getD s3.1.2.toNat ((0 : Int), (((false, (List.replicate 32 (0 : Int))), (false, (List.replicate 32 (0 : Int)))), (0 : Int))))
  let v7 : Bool := ((((v5.2.1.1.1 == v6.2.1.1.1) && (List.isEqv v5.2.1.1.2 v6.2.1.1.2 (eqv (.int .u32)))) && ((v5.2.1.2.1 == v6.2.1.2.1) && (List.isEqv v5.2.1.2.2 v6.2.1.2.2 (eqv (.int .u32))))) && (v5.2.2 == v6.2.2))
  (bif v7 then
  (bif (inb s1.1.2 r4.2.2.1.length) then
  let v8 : ((Bool × (List Int)) × (Bool × (List Int))) := (r4.2.2.1.getD s1.1.2.toNat ((false, (List.replicate 32 (0 : Int))), (false, (List.replicate 32 (0 : Int)))))
  (bif (inb s3.1.2 r4.2.2.1.length) then
  let v9 : ((Bool × (List Int)) × (Bool × (List Int))) := (r4.2.2.1.getD s3.1.2.toNat ((false, (List.replicate 32 (0 : Int))), (false, (List.replicate 32 (0 : Int)))))
  let v10 : Bool := (!(((v8.1.1 == v9.1.1) && (List.isEqv v8.1.2 v9.1.2 (eqv (.int .u32)))) && ((v8.2.1 == v9.2.1) && (List.isEqv v8.2.2 v9.2.2 (eqv (.int .u32))))))
  (bif v10 then
  some (.out 0 ((false, s1.1.2), ()))
else
  some (.more ((s1.1.1, (IntKind.i64.wrap (s1.1.2 + (1 : Int)))), ())))
else
  none)
else
  none)
else
  some (.more ((s1.1.1, (IntKind.i64.wrap (s1.1.2 + (1 : Int)))), ())))
else
  none)
else
  none)

noncomputable def g_law32_EqualisationEqualsOwnFunds_L14 (s1 : ((Bool × Int) × Unit)) (r2 : ((((Bool × (List Int)) × (Bool × (List Int))) × (((Bool × (List Int)) × (Bool × (List Int))) × Int)) × ((((Bool × (List Int)) × (Bool × (List Int))) × Int) × ((List (Int × (((Bool × (List Int)) × (Bool × (List Int))) × Int))) × (((Bool × (List Int)) × (Bool × (List Int))) × Int))))) (r3 : (((Bool × (List Int)) × (Bool × (List Int))) × ((((Bool × (List Int)) × (Bool × (List Int))) × Int) × ((List ((Bool × (List Int)) × (Bool × (List Int)))) × ((List (Int × (((Bool × (List Int)) × (Bool × (List Int))) × Int))) × Int))))) (s4 : ((Bool × Int) × Unit)) : Option (Next ((Bool × Int) × Unit)) :=
  (bif (decide (s4.1.2 < s1.1.2)) then
  (g_law32_EqualisationEqualsOwnFunds_T116 s4 r2 s1 r3)
else
  some (.out 1 ((s4.1.1, s4.1.2), ())))

noncomputable def g_law32_EqualisationEqualsOwnFunds_L6 (r1 : ((((Bool × (List Int)) × (Bool × (List Int))) × (((Bool × (List Int)) × (Bool × (List Int))) × Int)) × ((((Bool × (List Int)) × (Bool × (List Int))) × Int) × ((List (Int × (((Bool × (List Int)) × (Bool × (List Int))) × Int))) × (((Bool × (List Int)) × (Bool × (List Int))) × Int))))) (r2 : (((Bool × (List Int)) × (Bool × (List Int))) × ((((Bool × (List Int)) × (Bool × (List Int))) × Int) × ((List ((Bool × (List Int)) × (Bool × (List Int)))) × ((List (Int × (((Bool × (List Int)) × (Bool × (List Int))) × Int))) × Int))))) (s3 : ((Bool × Int) × Unit)) : Option (Next ((Bool × Int) × Unit)) :=
  (bif (decide (s3.1.2 < (r1.2.2.1.length : Int))) then
  (bif (inb s3.1.2 r1.2.2.1.length) then
  let v4 : (Int × (((Bool × (List Int)) × (Bool × (List Int))) × Int)) := (r1.2.2.1.getD s3.1.2.toNat ((0 : Int), (((false, (List.replicate 32 (0 : Int))), (false, (List.replicate 32 (0 : Int)))), (0 : Int))))
  (g_ref31_Fee r1.1 v4.2 r1.2.2.2.1 r1.2.2.2.2).bind fun r5 =>
  (g_exact_Of r1.2.2.2.1).bind fun r6 =>
  (g_exact_Of r2.1).bind fun r7 =>
  (g_exact_Sub r6 r7).bind fun r8 =>
  (bif (inb s3.1.2 r2.2.2.1.length) then
  let v9 : ((Bool × (List Int)) × (Bool × (List Int))) := (r2.2.2.1.getD s3.1.2.toNat ((false, (List.replicate 32 (0 : Int))), (false, (List.replicate 32 (0 : Int)))))
  (g_exact_Of v9).bind fun r10 =>
  (g_exact_Add r8 r10).bind fun r11 =>
  (g_exact_Of r1.2.2.2.1).bind fun r12 =>
  (g_exact_Of r5.1).bind fun r13 =>
  (g_exact_Sub r12 r13).bind fun r14 =>
  (bif (r5.2 != (0 : Int)) then
  some (.out 0 ((false, s3.1.2), ()))
else
  (bif (r11.2 != (0 : Int)) then
  some (.out 0 ((false, s3.1.2), ()))
else
  let v15 : Bool := (!(((r11.1.1.1 == r14.1.1.1) && (List.isEqv r11.1.1.2 r14.1.1.2 (eqv (.int .u32)))) && ((r11.1.2.1 == r14.1.2.1) && (List.isEqv r11.1.2.2 r14.1.2.2 (eqv (.int .u32))))))
  (bif v15 then
  some (.out 0 ((false, s3.1.2), ()))
else
  (bif (inb s3.1.2 r1.2.2.1.length) then
  let v16 : (Int × (((Bool × (List Int)) × (Bool × (List Int))) × Int)) := (r1.2.2.1.getD s3.1.2.toNat ((0 : Int), (((false, (List.replicate 32 (0 : Int))), (false, (List.replicate 32 (0 : Int)))), (0 : Int))))
  let v17 : Bool := ((((v16.2.1.1.1 == r1.2.1.1.1.1) && (List.isEqv v16.2.1.1.2 r1.2.1.1.1.2 (eqv (.int .u32)))) && ((v16.2.1.2.1 == r1.2.1.1.2.1) && (List.isEqv v16.2.1.2.2 r1.2.1.1.2.2 (eqv (.int .u32))))) && (v16.2.2 == r1.2.1.2))
  (bif v17 then
  (bif (inb s3.1.2 r2.2.2.1.length) then
  let v18 : ((Bool × (List Int)) × (Bool × (List Int))) := (r2.2.2.1.getD s3.1.2.toNat ((false, (List.replicate 32 (0 : Int))), (false, (List.replicate 32 (0 : Int)))))
  (g_exact_Of v18).bind fun r19 =>
  (g_exact_Sign r19).bind fun r20 =>
  (bif (r20 != (0 : Int)) then
  some (.out 0 ((false, s3.1.2), ()))
else
  (loopD (S := ((Bool × Int) × Unit)) (g_law32_EqualisationEqualsOwnFunds_L14 s3 r1 r2) ((s3.1.1, (0 : Int)), ())).bind fun o21 =>
  (bif Nat.beq o21.1 0 then
  some (.out 0 ((o21.2.1.1, s3.1.2), ()))
else
  some (.more ((o21.2.1.1, (IntKind.i64.wrap (s3.1.2 + (1 : Int)))), ()))))
else
  none)
else
  (loopD (S := ((Bool × Int) × Unit)) (g_law32_EqualisationEqualsOwnFunds_L14 s3 r1 r2) ((s3.1.1, (0 : Int)), ())).bind fun o22 =>
  (bif Nat.beq o22.1 0 then
  some (.out 0 ((o22.2.1.1, s3.1.2), ()))
else
  some (.more ((o22.2.1.1, (IntKind.i64.wrap (s3.1.2 + (1 : Int)))), ()))))
else
  none))))
else
  none)
else
  none)
else
  some (.out 1 ((s3.1.1, s3.1.2), ())))
noncomputable def g_law32_EqualisationEqualsOwnFunds (x0 : (List Int)) : Option Bool :=
  (g_law32_made x0).bind fun r1 =>
  (g_equalisation_Crystallise r1.1 r1.2.1 r1.2.2.1 r1.2.2.2.1 r1.2.2.2.2).bind fun r2 =>
  (bif (r2.2.2.2.2 != (0 : Int)) then
  some false
else
  let v3 : Bool := ((r2.2.2.1.length : Int) != (r1.2.2.1.length : Int))
  (bif v3 then
  some false
else
  (loopD (S := ((Bool × Int) × Unit)) (g_law32_EqualisationEqualsOwnFunds_L6 r1 r2) ((false, (0 : Int)), ())).bind fun o38 =>
  (bif Nat.beq o38.1 0 then
  some o38.2.1.1
else
  (g_law32_awake).bind fun r39 =>
  some r39)))

/-! fundadmin/fundadminlaw32.EqualisationForgetsPaidFees -/
noncomputable def g_law32_EqualisationForgetsPaidFees_L12 (r1 : ((((Bool × (List Int)) × (Bool × (List Int))) × (((Bool × (List Int)) × (Bool × (List Int))) × Int)) × ((((Bool × (List Int)) × (Bool × (List Int))) × Int) × ((List (Int × (((Bool × (List Int)) × (Bool × (List Int))) × Int))) × (((Bool × (List Int)) × (Bool × (List Int))) × Int))))) (r2 : (((Bool × (List Int)) × (Bool × (List Int))) × ((((Bool × (List Int)) × (Bool × (List Int))) × Int) × ((List ((Bool × (List Int)) × (Bool × (List Int)))) × ((List (Int × (((Bool × (List Int)) × (Bool × (List Int))) × Int))) × Int))))) (r3 : (((Bool × (List Int)) × (Bool × (List Int))) × Int)) (s4 : ((Bool × Int) × Unit)) : Option (Next ((Bool × Int) × Unit)) :=
  (bif (decide (s4.1.2 < (r1.2.2.1.length : Int))) then
  (bif (inb s4.1.2 r1.2.2.1.length) then
  let v5 : (Int × (((Bool × (List Int)) × (Bool × (List Int))) × Int)) := (r1.2.2.1.getD s4.1.2.toNat ((0 : Int), (((false, (List.replicate 32 (0 : Int))), (false, (List.replicate 32 (0 : Int)))), (0 : Int))))
  (g_ref31_Fee r1.1 v5.2 r1.2.2.2.1 r1.2.2.2.2).bind fun r6 =>
  (bif (inb s4.1.2 r2.2.2.2.1.length) then
  let v7 : (Int × (((Bool × (List Int)) × (Bool × (List Int))) × Int)) := (r2.2.2.2.1.getD s4.1.2.toNat ((0 : Int), (((false, (List.replicate 32 (0 : Int))), (false, (List.replicate 32 (0 : Int)))), (0 : Int))))
  (g_ref31_Fee r1.1 v7.2 r3.1 r1.2.2.2.2).bind fun r8 =>
  (bif (inb s4.1.2 r2.2.2.2.1.length) then
  let v9 : (Int × (((Bool × (List Int)) × (Bool × (List Int))) × Int)) := (r2.2.2.2.1.getD s4.1.2.toNat ((0 : Int), (((false, (List.replicate 32 (0 : Int))), (false, (List.replicate 32 (0 : Int)))), (0 : Int))))
  (bif (inb s4.1.2 r1.2.2.1.length) then
  let v10 : (Int × (((Bool × (List Int)) × (Bool × (List Int))) × Int)) := (r1.2.2.1.getD s4.1.2.toNat ((0 : Int), (((false, (List.replicate 32 (0 : Int))), (false, (List.replicate 32 (0 : Int)))), (0 : Int))))
  (bif (v9.1 != v10.1) then
  some (.out 0 ((false, s4.1.2), ()))
else
  (g_exact_Of r6.1).bind fun r11 =>
  (g_exact_Sign r11).bind fun r12 =>
  (bif (r12 != (0 : Int)) then
  (bif (r8.2 != (0 : Int)) then
  some (.out 0 ((false, s4.1.2), ()))
else
  (g_exact_Of r8.1).bind fun r13 =>
  (g_exact_Sign r13).bind fun r14 =>
  (bif (r14 != (0 : Int)) then
  some (.out 0 ((false, s4.1.2), ()))
else
  some (.more ((s4.1.1, (IntKind.i64.wrap (s4.1.2 + (1 : Int)))), ()))))
else
  (g_exact_Of r2.1).bind fun r15 =>
  (g_exact_Sign r15).bind fun r16 =>
  (bif (r16 == (0 : Int)) then
  (bif (inb s4.1.2 r2.2.2.2.1.length) then
  let v17 : (Int × (((Bool × (List Int)) × (Bool × (List Int))) × Int)) := (r2.2.2.2.1.getD s4.1.2.toNat ((0 : Int), (((false, (List.replicate 32 (0 : Int))), (false, (List.replicate 32 (0 : Int)))), (0 : Int))))
  (bif (inb s4.1.2 r1.2.2.1.length) then
  let v18 : (Int × (((Bool × (List Int)) × (Bool × (List Int))) × Int)) := (r1.2.2.1.getD s4.1.2.toNat ((0 : Int), (((false, (List.replicate 32 (0 : Int))), (false, (List.replicate 32 (0 : Int)))), (0 : Int))))
  let v19 : Bool := (!((v17.1 == v18.1) && ((((v17.2.1.1.1 == v18.2.1.1.1) && (List.isEqv v17.2.1.1.2 v18.2.1.1.2 (eqv (.int .u32)))) && ((v17.2.1.2.1 == v18.2.1.2.1) && (List.isEqv v17.2.1.2.2 v18.2.1.2.2 (eqv (.int .u32))))) && (v17.2.2 == v18.2.2))))
  (bif v19 then
  some (.out 0 ((false, s4.1.2), ()))
else
  some (.more ((s4.1.1, (IntKind.i64.wrap (s4.1.2 + (1 : Int)))), ())))
else
  none)
else
  none)
else
  (bif (inb s4.1.2 r2.2.2.2.1.length) then
  let v20 : (Int × (((Bool × (List Int)) × (Bool × (List Int))) × Int)) := (r2.2.2.2.1.getD s4.1.2.toNat ((0 : Int), (((false, (List.replicate 32 (0 : Int))), (false, (List.replicate 32 (0 : Int)))), (0 : Int))))
  (g_exact_Of v20.2.1).bind fun r21 =>
  (g_exact_Of r1.2.2.2.1).bind fun r22 =>
  (g_exact_Mul r21 r22).bind fun r23 =>
  (bif (inb s4.1.2 r1.2.2.1.length) then
  let v24 : (Int × (((Bool × (List Int)) × (Bool × (List Int))) × Int)) := (r1.2.2.1.getD s4.1.2.toNat ((0 : Int), (((false, (List.replicate 32 (0 : Int))), (false, (List.replicate 32 (0 : Int)))), (0 : Int))))
  (g_exact_Of v24.2.1).bind fun r25 =>
  (g_exact_Mul r25 r3).bind fun r26 =>
  (g_exact_Sub r23 r26).bind fun r27 =>
  (bif (inb s4.1.2 r2.2.2.2.1.length) then
  let v28 : (Int × (((Bool × (List Int)) × (Bool × (List Int))) × Int)) := (r2.2.2.2.1.getD s4.1.2.toNat ((0 : Int), (((false, (List.replicate 32 (0 : Int))), (false, (List.replicate 32 (0 : Int)))), (0 : Int))))
  (bif (inb s4.1.2 r1.2.2.1.length) then
  let v29 : (Int × (((Bool × (List Int)) × (Bool × (List Int))) × Int)) := (r1.2.2.1.getD s4.1.2.toNat ((0 : Int), (((false, (List.replicate 32 (0 : Int))), (false, (List.replicate 32 (0 : Int)))), (0 : Int))))
  (bif (v28.2.2 != v29.2.2) then
  some (.out 0 ((false, s4.1.2), ()))
else
  (g_exact_Sign r27).bind fun r30 =>
  (bif (decide (r30 < (0 : Int))) then
  some (.out 0 ((false, s4.1.2), ()))
else
  (g_exact_Of r1.2.2.2.1).bind fun r31 =>
  (g_exact_Over (1 : Int) (1000000000 : Int)).bind fun r32 =>
  (g_exact_Mul r31 r32).bind fun r33 =>
  (g_exact_Less r27 r33).bind fun r34 =>
  (bif (!r34) then
  some (.out 0 ((false, s4.1.2), ()))
else
  some (.more ((s4.1.1, (IntKind.i64.wrap (s4.1.2 + (1 : Int)))), ())))))
else
  none)
else
  none)
else
  none)
else
  none))))
else
  none)
else
  none)
else
  none)
else
  none)
else
  some (.out 1 ((s4.1.1, s4.1.2), ())))
noncomputable def g_law32_EqualisationForgetsPaidFees (x0 : (List Int)) : Option Bool :=
  (g_law32_made x0).bind fun r1 =>
  (g_equalisation_Crystallise r1.1 r1.2.1 r1.2.2.1 r1.2.2.2.1 r1.2.2.2.2).bind fun r2 =>
  (g_exact_Of r1.2.2.2.1).bind fun r3 =>
  (g_exact_Of r2.1).bind fun r4 =>
  (g_exact_Sub r3 r4).bind fun r5 =>
  (bif (r2.2.2.2.2 != (0 : Int)) then
  some false
else
  let v6 : Bool := ((r2.2.2.2.1.length : Int) != (r1.2.2.1.length : Int))
  (bif v6 then
  some false
else
  (g_exact_Sign r5).bind fun r7 =>
  (bif (decide (r7 ≤ (0 : Int))) then
  (g_law32_awake).bind fun r8 =>
  some r8
else
  (g_ref31_Fee r1.1 r2.2.1 r5.1 r1.2.2.2.2).bind fun r9 =>
  (bif (r9.2 != (0 : Int)) then
  some false
else
  (g_exact_Of r9.1).bind fun r10 =>
  (g_exact_Sign r10).bind fun r11 =>
  (bif (r11 != (0 : Int)) then
  some false
else
  (loopD (S := ((Bool × Int) × Unit)) (g_law32_EqualisationForgetsPaidFees_L12 r1 r2 r5) ((false, (0 : Int)), ())).bind fun o43 =>
  (bif Nat.beq o43.1 0 then
  some o43.2.1.1
else
  (g_law32_awake).bind fun r44 =>
  some r44))))))

/-! fundadmin/fundadminlaw32.EqualisationFollowsOwnFunds -/
noncomputable def g_law32_EqualisationFollowsOwnFunds_T98 (r1 : (((Bool × (List Int)) × (Bool × (List Int))) × ((((Bool × (List Int)) × (Bool × (List Int))) × Int) × ((List ((Bool × (List Int)) × (Bool × (List Int)))) × ((List (Int × (((Bool × (List Int)) × (Bool × (List Int))) × Int))) × Int))))) (v2 : Int) (s3 : ((Bool × (Int × ((List (Int × (((Bool × (List Int)) × (Bool × (List Int))) × Int))) × (Int × Int)))) × ((((Bool × (List Int)) × (Bool × (List Int))) × Int) × ((((Bool × (List Int)) × (Bool × (List Int))) × Int) × ((((Bool × (List Int)) × (Bool × (List Int))) × Int) × ((((Bool × (List Int)) × (Bool × (List Int))) × Int) × ((List Int) × Int))))))) (r4 : (Int × ((List Int) × Int))) : Option (Next ((Bool × (Int × ((List (Int × (((Bool × (List Int)) × (Bool × (List Int))) × Int))) × (Int × Int)))) × ((((Bool × (List Int)) × (Bool × (List Int))) × Int) × ((((Bool × (List Int)) × (Bool × (List Int))) × Int) × ((((Bool × (List Int)) × (Bool × (List Int))) × Int) × ((((Bool × (List Int)) × (Bool × (List Int))) × Int) × ((List Int) × Int))))))) :=
  (bif (r1.2.2.2.2 == (10 : Int)) then
  (g_law32_awake).bind fun r5 =>
  some (.out 0 ((r5, (v2, (s3.1.2.2.1, (s3.1.2.2.2.1, s3.1.2.2.2.2)))), (s3.2.1, (s3.2.2.1, (s3.2.2.2.1, (s3.2.2.2.2.1, r4.2))))))
else
  some (.out 0 ((false, (v2, (s3.1.2.2.1, (s3.1.2.2.2.1, s3.1.2.2.2.2)))), (s3.2.1, (s3.2.2.1, (s3.2.2.2.1, (s3.2.2.2.2.1, r4.2)))))))

noncomputable def g_law32_EqualisationFollowsOwnFunds_T136 (r1 : (Int × Int)) (v2 : Int) (s3 : ((Bool × (Int × ((List (Int × (((Bool × (List Int)) × (Bool × (List Int))) × Int))) × (Int × Int)))) × ((((Bool × (List Int)) × (Bool × (List Int))) × Int) × ((((Bool × (List Int)) × (Bool × (List Int))) × Int) × ((((Bool × (List Int)) × (Bool × (List Int))) × Int) × ((((Bool × (List Int)) × (Bool × (List Int))) × Int) × ((List Int) × Int))))))) (r4 : (Int × ((List Int) × Int))) (r5 : (((Bool × (List Int)) × (Bool × (List Int))) × ((((Bool × (List Int)) × (Bool × (List Int))) × Int) × Int))) : Option (Next ((Bool × (Int × ((List (Int × (((Bool × (List Int)) × (Bool × (List Int))) × Int))) × (Int × Int)))) × ((((Bool × (List Int)) × (Bool × (List Int))) × Int) × ((((Bool × (List Int)) × (Bool × (List Int))) × Int) × ((((Bool × (List Int)) × (Bool × (List Int))) × Int) × ((((Bool × (List Int)) × (Bool × (List Int))) × Int) × ((List Int) × Int))))))) :=
  (bif (r1.2 == (10 : Int)) then
  some (.out 0 ((true, (v2, (s3.1.2.2.1, (s3.1.2.2.2.1, s3.1.2.2.2.2)))), (s3.2.1, (s3.2.2.1, (s3.2.2.2.1, (s3.2.2.2.2.1, r4.2))))))
else
  (bif (r5.2.2 == (10 : Int)) then
  (g_law32_awake).bind fun r6 =>
  some (.out 0 ((r6, (v2, (s3.1.2.2.1, (s3.1.2.2.2.1, s3.1.2.2.2.2)))), (s3.2.1, (s3.2.2.1, (s3.2.2.2.1, (s3.2.2.2.2.1, r4.2))))))
else
  some (.out 0 ((false, (v2, (s3.1.2.2.1, (s3.1.2.2.2.1, s3.1.2.2.2.2)))), (s3.2.1, (s3.2.2.1, (s3.2.2.2.1, (s3.2.2.2.2.1, r4.2))))))))

noncomputable def g_law32_EqualisationFollowsOwnFunds_L11 (r1 : ((((Bool × (List Int)) × (Bool × (List Int))) × (((Bool × (List Int)) × (Bool × (List Int))) × Int)) × ((List Int) × Int))) (r2 : ((Bool × (List Int)) × (Bool × (List Int)))) (r3 : Int) (s4 : ((Bool × (Int × ((List (Int × (((Bool × (List Int)) × (Bool × (List Int))) × Int))) × (Int × Int)))) × ((((Bool × (List Int)) × (Bool × (List Int))) × Int) × ((((Bool × (List Int)) × (Bool × (List Int))) × Int) × ((((Bool × (List Int)) × (Bool × (List Int))) × Int) × ((((Bool × (List Int)) × (Bool × (List Int))) × Int) × ((List Int) × Int))))))) : Option (Next ((Bool × (Int × ((List (Int × (((Bool × (List Int)) × (Bool × (List Int))) × Int))) × (Int × Int)))) × ((((Bool × (List Int)) × (Bool × (List Int))) × Int) × ((((Bool × (List Int)) × (Bool × (List Int))) × Int) × ((((Bool × (List Int)) × (Bool × (List Int))) × Int) × ((((Bool × (List Int)) × (Bool × (List Int))) × Int) × ((List Int) × Int))))))) :=
  (bif (decide (s4.1.2.2.2.2 < (3 : Int))) then
  (g_scene_Tape_Next s4.2.2.2.2.2 (50 : Int)).bind fun r5 =>
  (g_exact_Over (IntKind.i64.wrap ((80 : Int) + r5.1)) (100 : Int)).bind fun r6 =>
  (g_exact_Mul s4.2.2.1 r6).bind fun r7 =>
  (g_scene_Tape_Next r5.2 (400 : Int)).bind fun r8 =>
  let v9 : Int := (IntKind.i64.wrap ((IntKind.i64.wrap (s4.1.2.1 + (1 : Int))) + r8.1))
  (g_equalisation_Crystallise (r1.1.1, (r2, r1.1.2.2)) s4.2.1 s4.1.2.2.1 r7.1 v9).bind fun r10 =>
  (bif (r10.2.2.2.2 != (0 : Int)) then
  (g_law32_EqualisationFollowsOwnFunds_T98 r10 v9 s4 r8)
else
  (bif ((r10.2.2.1.length : Int) != (1 : Int)) then
  (g_law32_EqualisationFollowsOwnFunds_T98 r10 v9 s4 r8)
else
  (bif ((r10.2.2.2.1.length : Int) != (1 : Int)) then
  (g_law32_EqualisationFollowsOwnFunds_T98 r10 v9 s4 r8)
else
  (g_exact_Of r10.1).bind fun r11 =>
  (g_exact_Sub r7 r11).bind fun r12 =>
  (bif (inb (0 : Int) r10.2.2.1.length) then
  let v13 : ((Bool × (List Int)) × (Bool × (List Int))) := (r10.2.2.1.getD (0 : Int).toNat ((false, (List.replicate 32 (0 : Int))), (false, (List.replicate 32 (0 : Int)))))
  (g_equalisation_Settle s4.1.2.2.2.1 v13 r12.1).bind fun r14 =>
  (g_exact_Mul s4.2.2.2.2.1 r6).bind fun r15 =>
  (g_ref31_Crystallise (r1.1.1, (r2, r1.1.2.2)) s4.2.2.2.1 r15.1 v9).bind fun r16 =>
  (bif (r14.2 != (0 : Int)) then
  (g_law32_EqualisationFollowsOwnFunds_T136 r14 v9 s4 r8 r16)
else
  (bif (r16.2.2 != (0 : Int)) then
  (g_law32_EqualisationFollowsOwnFunds_T136 r14 v9 s4 r8 r16)
else
  (g_exact_Of r16.1).bind fun r17 =>
  (g_exact_Sub r15 r17).bind fun r18 =>
  (g_exact_Int r14.1).bind fun r19 =>
  (g_exact_Mul r19 r12).bind fun r20 =>
  (g_exact_Int (IntKind.i64.wrap ((1000 : Int) + r3))).bind fun r21 =>
  (g_exact_Mul r21 r18).bind fun r22 =>
  (g_exact_Sub r20 r22).bind fun r23 =>
  let v24 : Int := (IntKind.i64.wrap ((4 : Int) * (IntKind.i64.wrap (s4.1.2.2.2.2 + (1 : Int)))))
  (g_exact_Int v24).bind fun r25 =>
  (g_exact_Int (1 : Int)).bind fun r26 =>
  (g_exact_Add r12 r26).bind fun r27 =>
  (g_exact_Mul r25 r27).bind fun r28 =>
  (g_exact_Over (IntKind.i64.wrap ((1000 : Int) + r3)) (1000000 : Int)).bind fun r29 =>
  (g_exact_Add r28 r29).bind fun r30 =>
  (bif (r23.2 != (0 : Int)) then
  (g_law32_awake).bind fun r31 =>
  some (.out 0 ((r31, (v9, (r10.2.2.2.1, (r14.1, s4.1.2.2.2.2)))), (r10.2.1, (r12, (r16.2.1, (r18, r8.2))))))
else
  (bif (r30.2 != (0 : Int)) then
  (g_law32_awake).bind fun r32 =>
  some (.out 0 ((r32, (v9, (r10.2.2.2.1, (r14.1, s4.1.2.2.2.2)))), (r10.2.1, (r12, (r16.2.1, (r18, r8.2))))))
else
  (g_exact_Less r30 r23).bind fun r33 =>
  (bif r33 then
  some (.out 0 ((false, (v9, (r10.2.2.2.1, (r14.1, s4.1.2.2.2.2)))), (r10.2.1, (r12, (r16.2.1, (r18, r8.2))))))
else
  (g_exact_Int (0 : Int)).bind fun r34 =>
  (g_exact_Sub r34 r23).bind fun r35 =>
  (g_exact_Less r30 r35).bind fun r36 =>
  (bif r36 then
  some (.out 0 ((false, (v9, (r10.2.2.2.1, (r14.1, s4.1.2.2.2.2)))), (r10.2.1, (r12, (r16.2.1, (r18, r8.2))))))
else
  some (.more ((s4.1.1, (v9, (r10.2.2.2.1, (r14.1, (IntKind.i64.wrap (s4.1.2.2.2.2 + (1 : Int))))))), (r10.2.1, (r12, (r16.2.1, (r18, r8.2))))))))))))
else
  none))))
else
  some (.out 1 ((s4.1.1, (s4.1.2.1, (s4.1.2.2.1, (s4.1.2.2.2.1, s4.1.2.2.2.2)))), (s4.2.1, (s4.2.2.1, (s4.2.2.2.1, (s4.2.2.2.2.1, s4.2.2.2.2.2)))))))
noncomputable def g_law32_EqualisationFollowsOwnFunds (x0 : (List Int)) (x1 : Int) : Option Bool :=
  (g_scene_Tape_Terms (x0, (0 : Int))).bind fun r1 =>
  (g_scene_Ratio (0 : Int) (1 : Int)).bind fun r2 =>
  (g_scene_Ratio (100 : Int) (1 : Int)).bind fun r3 =>
  (g_scene_Tape_Next r1.2 (60 : Int)).bind fun r4 =>
  (g_exact_Over (IntKind.i64.wrap ((80 : Int) + r4.1)) (1 : Int)).bind fun r5 =>
  let v6 : (List (Int × (((Bool × (List Int)) × (Bool × (List Int))) × Int))) := ([((100 : Int), (r5.1, (100 : Int)))] : (List (Int × (((Bool × (List Int)) × (Bool × (List Int))) × Int))))
  (g_scene_Mod x1 (1000000 : Int)).bind fun r7 =>
  (loopD (S := ((Bool × (Int × ((List (Int × (((Bool × (List Int)) × (Bool × (List Int))) × Int))) × (Int × Int)))) × ((((Bool × (List Int)) × (Bool × (List Int))) × Int) × ((((Bool × (List Int)) × (Bool × (List Int))) × Int) × ((((Bool × (List Int)) × (Bool × (List Int))) × Int) × ((((Bool × (List Int)) × (Bool × (List Int))) × Int) × ((List Int) × Int))))))) (g_law32_EqualisationFollowsOwnFunds_L11 r1 r2 r7) ((false, ((100 : Int), (v6, ((IntKind.i64.wrap ((1000 : Int) + r7)), (0 : Int))))), ((r3, (0 : Int)), (r5, ((r5.1, (100 : Int)), (r5, r4.2)))))).bind fun o46 =>
  (bif Nat.beq o46.1 0 then
  some o46.2.1.1
else
  (g_law32_awake).bind fun r47 =>
  some r47)

end Go.Ev
