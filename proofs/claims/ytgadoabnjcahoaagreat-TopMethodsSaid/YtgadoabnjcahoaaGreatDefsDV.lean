/- What the functions of the program compute: the end of a period of a class with lots. -/
import Derived.Test.YtgadoabnjcahoaaGreatDefsBV
import Derived.Test.YtgadoabnjcahoaaGreatDefsCV
set_option exponentiation.threshold 2000
namespace Go.Ev
set_option linter.unusedVariables false

/-! fundadmin/equalisation.right -/
noncomputable def g_equalisation_right_L4 (x0 : (List (Int × (((Bool × (List Int)) × (Bool × (List Int))) × Int)))) (s2 : ((Bool × Int) × Unit)) : Option (Next ((Bool × Int) × Unit)) :=
  (bif (decide (s2.1.2 < (x0.length : Int))) then
  (bif (inb s2.1.2 x0.length) then
  let v3 : (Int × (((Bool × (List Int)) × (Bool × (List Int))) × Int)) := (x0.getD s2.1.2.toNat ((0 : Int), (((false, (List.replicate 32 (0 : Int))), (false, (List.replicate 32 (0 : Int)))), (0 : Int))))
  (bif (decide (v3.1 < (0 : Int))) then
  some (.out 0 ((false, s2.1.2), ()))
else
  (bif (decide (v3.1 > (73048 : Int))) then
  some (.out 0 ((false, s2.1.2), ()))
else
  (bif (decide (s2.1.2 > (0 : Int))) then
  (bif (inb (IntKind.i64.wrap (s2.1.2 - (1 : Int))) x0.length) then
  let v4 : (Int × (((Bool × (List Int)) × (Bool × (List Int))) × Int)) := (x0.getD (IntKind.i64.wrap (s2.1.2 - (1 : Int))).toNat ((0 : Int), (((false, (List.replicate 32 (0 : Int))), (false, (List.replicate 32 (0 : Int)))), (0 : Int))))
  (bif (decide (v4.1 ≥ v3.1)) then
  some (.out 0 ((false, s2.1.2), ()))
else
  (g_highwater_CheckWater v3.2).bind fun r5 =>
  (bif (r5 != (0 : Int)) then
  some (.out 0 ((false, s2.1.2), ()))
else
  some (.more ((s2.1.1, (IntKind.i64.wrap (s2.1.2 + (1 : Int)))), ()))))
else
  none)
else
  (g_highwater_CheckWater v3.2).bind fun r6 =>
  (bif (r6 != (0 : Int)) then
  some (.out 0 ((false, s2.1.2), ()))
else
  some (.more ((s2.1.1, (IntKind.i64.wrap (s2.1.2 + (1 : Int)))), ()))))))
else
  none)
else
  some (.out 1 ((s2.1.1, s2.1.2), ())))
noncomputable def g_equalisation_right (x0 : (List (Int × (((Bool × (List Int)) × (Bool × (List Int))) × Int)))) : Option Bool :=
  (bif (decide ((x0.length : Int) > (256 : Int))) then
  some false
else
  (loopD (S := ((Bool × Int) × Unit)) (g_equalisation_right_L4 x0) ((false, (0 : Int)), ())).bind fun o6 =>
  (bif Nat.beq o6.1 0 then
  some o6.2.1.1
else
  some true))

/-! fundadmin/equalisation.shrink -/
noncomputable def g_equalisation_shrink (x0 : ((Bool × (List Int)) × (Bool × (List Int)))) (x1 : ((Bool × (List Int)) × (Bool × (List Int)))) (x2 : ((Bool × (List Int)) × (Bool × (List Int)))) : Option (((Bool × (List Int)) × (Bool × (List Int))) × Int) :=
  (g_ratio_Quo x1 x2).bind fun r1 =>
  (bif (r1.2 != (0 : Int)) then
  some (((false, (List.replicate 32 (0 : Int))), (false, (List.replicate 32 (0 : Int)))), r1.2)
else
  (g_ratio_Mul x0 r1.1).bind fun r2 =>
  some (r2.1, r2.2))

/-! fundadmin/equalisation.Crystallise -/
noncomputable def g_equalisation_Crystallise_T155 (r1 : (((Bool × (List Int)) × (Bool × (List Int))) × Int)) (s2 : (((List ((Bool × (List Int)) × (Bool × (List Int)))) × ((List (Int × (((Bool × (List Int)) × (Bool × (List Int))) × Int))) × (Int × ((List ((Bool × (List Int)) × (Bool × (List Int)))) × Int)))) × (((Bool × (List Int)) × (Bool × (List Int))) × ((((Bool × (List Int)) × (Bool × (List Int))) × Int) × (List (Int × (((Bool × (List Int)) × (Bool × (List Int))) × Int))))))) (v3 : (List ((Bool × (List Int)) × (Bool × (List Int))))) : Option (Next (((List ((Bool × (List Int)) × (Bool × (List Int)))) × ((List (Int × (((Bool × (List Int)) × (Bool × (List Int))) × Int))) × (Int × ((List ((Bool × (List Int)) × (Bool × (List Int)))) × Int)))) × (((Bool × (List Int)) × (Bool × (List Int))) × ((((Bool × (List Int)) × (Bool × (List Int))) × Int) × (List (Int × (((Bool × (List Int)) × (Bool × (List Int))) × Int))))))) :=
  some (.out 0 ((([] : (List ((Bool × (List Int)) × (Bool × (List Int))))), (([] : (List (Int × (((Bool × (List Int)) × (Bool × (List Int))) × Int)))), (r1.2, ((s2.1.2.2.2.1 ++ v3), s2.1.2.2.2.2)))), (((false, (List.replicate 32 (0 : Int))), (false, (List.replicate 32 (0 : Int)))), ((((false, (List.replicate 32 (0 : Int))), (false, (List.replicate 32 (0 : Int)))), (0 : Int)), s2.2.2.2))))

noncomputable def g_equalisation_Crystallise_E155 (s1 : (((List ((Bool × (List Int)) × (Bool × (List Int)))) × ((List (Int × (((Bool × (List Int)) × (Bool × (List Int))) × Int))) × (Int × ((List ((Bool × (List Int)) × (Bool × (List Int)))) × Int)))) × (((Bool × (List Int)) × (Bool × (List Int))) × ((((Bool × (List Int)) × (Bool × (List Int))) × Int) × (List (Int × (((Bool × (List Int)) × (Bool × (List Int))) × Int))))))) (r2 : (((Bool × (List Int)) × (Bool × (List Int))) × Int)) (v3 : (Int × (((Bool × (List Int)) × (Bool × (List Int))) × Int))) (v4 : (List ((Bool × (List Int)) × (Bool × (List Int))))) : Option (Next (((List ((Bool × (List Int)) × (Bool × (List Int)))) × ((List (Int × (((Bool × (List Int)) × (Bool × (List Int))) × Int))) × (Int × ((List ((Bool × (List Int)) × (Bool × (List Int)))) × Int)))) × (((Bool × (List Int)) × (Bool × (List Int))) × ((((Bool × (List Int)) × (Bool × (List Int))) × Int) × (List (Int × (((Bool × (List Int)) × (Bool × (List Int))) × Int))))))) :=
  (bif (inb s1.1.2.2.2.2 256) then
  let v5 : (List (Int × (((Bool × (List Int)) × (Bool × (List Int))) × Int))) := (s1.2.2.2.set s1.1.2.2.2.2.toNat ((s1.2.2.2.getD s1.1.2.2.2.2.toNat ((0 : Int), (((false, (List.replicate 32 (0 : Int))), (false, (List.replicate 32 (0 : Int)))), (0 : Int)))).1, (r2.1, v3.2.2)))
  some (.more ((s1.1.1, (s1.1.2.1, (s1.1.2.2.1, ((s1.1.2.2.2.1 ++ v4), (IntKind.i64.wrap (s1.1.2.2.2.2 + (1 : Int))))))), (s1.2.1, (s1.2.2.1, v5))))
else
  none)

noncomputable def g_equalisation_Crystallise_E155_2 (x4 : Int) (s2 : (((List ((Bool × (List Int)) × (Bool × (List Int)))) × ((List (Int × (((Bool × (List Int)) × (Bool × (List Int))) × Int))) × (Int × ((List ((Bool × (List Int)) × (Bool × (List Int)))) × Int)))) × (((Bool × (List Int)) × (Bool × (List Int))) × ((((Bool × (List Int)) × (Bool × (List Int))) × Int) × (List (Int × (((Bool × (List Int)) × (Bool × (List Int))) × Int))))))) (r3 : (((Bool × (List Int)) × (Bool × (List Int))) × Int)) (v4 : (List ((Bool × (List Int)) × (Bool × (List Int))))) : Option (Next (((List ((Bool × (List Int)) × (Bool × (List Int)))) × ((List (Int × (((Bool × (List Int)) × (Bool × (List Int))) × Int))) × (Int × ((List ((Bool × (List Int)) × (Bool × (List Int)))) × Int)))) × (((Bool × (List Int)) × (Bool × (List Int))) × ((((Bool × (List Int)) × (Bool × (List Int))) × Int) × (List (Int × (((Bool × (List Int)) × (Bool × (List Int))) × Int))))))) :=
  (bif (inb s2.1.2.2.2.2 256) then
  let v5 : (List (Int × (((Bool × (List Int)) × (Bool × (List Int))) × Int))) := (s2.2.2.2.set s2.1.2.2.2.2.toNat ((s2.2.2.2.getD s2.1.2.2.2.2.toNat ((0 : Int), (((false, (List.replicate 32 (0 : Int))), (false, (List.replicate 32 (0 : Int)))), (0 : Int)))).1, (r3.1, x4)))
  some (.more ((s2.1.1, (s2.1.2.1, (s2.1.2.2.1, ((s2.1.2.2.2.1 ++ v4), (IntKind.i64.wrap (s2.1.2.2.2.2 + (1 : Int))))))), (s2.2.1, (s2.2.2.1, v5))))
else
  none)

noncomputable def g_equalisation_Crystallise_L14 (x0 : (((Bool × (List Int)) × (Bool × (List Int))) × (((Bool × (List Int)) × (Bool × (List Int))) × Int))) (x1 : (((Bool × (List Int)) × (Bool × (List Int))) × Int)) (x2 : (List (Int × (((Bool × (List Int)) × (Bool × (List Int))) × Int)))) (x3 : ((Bool × (List Int)) × (Bool × (List Int)))) (x4 : Int) (r6 : (((Bool × (List Int)) × (Bool × (List Int))) × ((((Bool × (List Int)) × (Bool × (List Int))) × Int) × Int))) (r7 : (((Bool × (List Int)) × (Bool × (List Int))) × Int)) (s8 : (((List ((Bool × (List Int)) × (Bool × (List Int)))) × ((List (Int × (((Bool × (List Int)) × (Bool × (List Int))) × Int))) × (Int × ((List ((Bool × (List Int)) × (Bool × (List Int)))) × Int)))) × (((Bool × (List Int)) × (Bool × (List Int))) × ((((Bool × (List Int)) × (Bool × (List Int))) × Int) × (List (Int × (((Bool × (List Int)) × (Bool × (List Int))) × Int))))))) : Option (Next (((List ((Bool × (List Int)) × (Bool × (List Int)))) × ((List (Int × (((Bool × (List Int)) × (Bool × (List Int))) × Int))) × (Int × ((List ((Bool × (List Int)) × (Bool × (List Int)))) × Int)))) × (((Bool × (List Int)) × (Bool × (List Int))) × ((((Bool × (List Int)) × (Bool × (List Int))) × Int) × (List (Int × (((Bool × (List Int)) × (Bool × (List Int))) × Int))))))) :=
  (bif (decide (s8.1.2.2.2.2 < (x2.length : Int))) then
  (bif (inb s8.1.2.2.2.2 x2.length) then
  let v9 : (Int × (((Bool × (List Int)) × (Bool × (List Int))) × Int)) := (x2.getD s8.1.2.2.2.2.toNat ((0 : Int), (((false, (List.replicate 32 (0 : Int))), (false, (List.replicate 32 (0 : Int)))), (0 : Int))))
  (g_equalisation_Adjust x0 x1 v9.2 x3 x4).bind fun r10 =>
  (bif (r10.2 != (0 : Int)) then
  some (.out 0 ((([] : (List ((Bool × (List Int)) × (Bool × (List Int))))), (([] : (List (Int × (((Bool × (List Int)) × (Bool × (List Int))) × Int)))), (r10.2, (s8.1.2.2.2.1, s8.1.2.2.2.2)))), (((false, (List.replicate 32 (0 : Int))), (false, (List.replicate 32 (0 : Int)))), ((((false, (List.replicate 32 (0 : Int))), (false, (List.replicate 32 (0 : Int)))), (0 : Int)), s8.2.2.2))))
else
  let v11 : (List ((Bool × (List Int)) × (Bool × (List Int)))) := ([r10.1] : (List ((Bool × (List Int)) × (Bool × (List Int)))))
  (bif List.isEmpty v11 || !(Nat.ble ((List.length s8.1.2.2.2.1 + List.length v11) * 264) appLim) then
  none
else
  (g_highwater_Fee x0 v9.2 x3 x4).bind fun r12 =>
  (g_ratio_Whole (0 : Int)).bind fun r13 =>
  let v14 : Bool := (((r12.1.1.1 == r13.1.1) && (List.isEqv r12.1.1.2 r13.1.2 (eqv (.int .u32)))) && ((r12.1.2.1 == r13.2.1) && (List.isEqv r12.1.2.2 r13.2.2 (eqv (.int .u32)))))
  (bif v14 then
  (g_ratio_Whole (0 : Int)).bind fun r15 =>
  let v16 : Bool := (((r6.1.1.1 == r15.1.1) && (List.isEqv r6.1.1.2 r15.1.2 (eqv (.int .u32)))) && ((r6.1.2.1 == r15.2.1) && (List.isEqv r6.1.2.2 r15.2.2 (eqv (.int .u32)))))
  (bif v16 then
  some (.more ((s8.1.1, (s8.1.2.1, (s8.1.2.2.1, ((s8.1.2.2.2.1 ++ v11), (IntKind.i64.wrap (s8.1.2.2.2.2 + (1 : Int))))))), (s8.2.1, (s8.2.2.1, s8.2.2.2))))
else
  (g_equalisation_shrink v9.2.1 r7.1 x3).bind fun r17 =>
  (bif (r17.2 != (0 : Int)) then
  some (.out 0 ((([] : (List ((Bool × (List Int)) × (Bool × (List Int))))), (([] : (List (Int × (((Bool × (List Int)) × (Bool × (List Int))) × Int)))), (r17.2, ((s8.1.2.2.2.1 ++ v11), s8.1.2.2.2.2)))), (((false, (List.replicate 32 (0 : Int))), (false, (List.replicate 32 (0 : Int)))), ((((false, (List.replicate 32 (0 : Int))), (false, (List.replicate 32 (0 : Int)))), (0 : Int)), s8.2.2.2))))
else
  (g_decimal_Quantize r17.1 (9 : Int) (4 : Int)).bind fun r18 =>
  (bif (r18.2 != (0 : Int)) then
  (g_equalisation_Crystallise_T155 r18 s8 v11)
else
  (g_equalisation_Crystallise_E155 s8 r18 v9 v11))))
else
  (g_decimal_Quantize r7.1 (9 : Int) (4 : Int)).bind fun r19 =>
  (bif (r19.2 != (0 : Int)) then
  (g_equalisation_Crystallise_T155 r19 s8 v11)
else
  (g_equalisation_Crystallise_E155_2 x4 s8 r19 v11)))))
else
  none)
else
  some (.out 1 ((s8.1.1, (s8.1.2.1, (s8.1.2.2.1, (s8.1.2.2.2.1, s8.1.2.2.2.2)))), (s8.2.1, (s8.2.2.1, s8.2.2.2)))))
noncomputable def g_equalisation_Crystallise (x0 : (((Bool × (List Int)) × (Bool × (List Int))) × (((Bool × (List Int)) × (Bool × (List Int))) × Int))) (x1 : (((Bool × (List Int)) × (Bool × (List Int))) × Int)) (x2 : (List (Int × (((Bool × (List Int)) × (Bool × (List Int))) × Int)))) (x3 : ((Bool × (List Int)) × (Bool × (List Int)))) (x4 : Int) : Option (((Bool × (List Int)) × (Bool × (List Int))) × ((((Bool × (List Int)) × (Bool × (List Int))) × Int) × ((List ((Bool × (List Int)) × (Bool × (List Int)))) × ((List (Int × (((Bool × (List Int)) × (Bool × (List Int))) × Int))) × Int)))) :=
  (g_highwater_Crystallise x0 x1 x3 x4).bind fun r1 =>
  (bif (r1.2.2 != (0 : Int)) then
  some (((false, (List.replicate 32 (0 : Int))), (false, (List.replicate 32 (0 : Int)))), ((((false, (List.replicate 32 (0 : Int))), (false, (List.replicate 32 (0 : Int)))), (0 : Int)), (([] : (List ((Bool × (List Int)) × (Bool × (List Int))))), (([] : (List (Int × (((Bool × (List Int)) × (Bool × (List Int))) × Int)))), r1.2.2))))
else
  (g_equalisation_right x2).bind fun r2 =>
  (bif (!r2) then
  some (((false, (List.replicate 32 (0 : Int))), (false, (List.replicate 32 (0 : Int)))), ((((false, (List.replicate 32 (0 : Int))), (false, (List.replicate 32 (0 : Int)))), (0 : Int)), (([] : (List ((Bool × (List Int)) × (Bool × (List Int))))), (([] : (List (Int × (((Bool × (List Int)) × (Bool × (List Int))) × Int)))), (320 : Int)))))
else
  (g_ratio_Sub x3 r1.1).bind fun r3 =>
  (bif (r3.2 != (0 : Int)) then
  some (((false, (List.replicate 32 (0 : Int))), (false, (List.replicate 32 (0 : Int)))), ((((false, (List.replicate 32 (0 : Int))), (false, (List.replicate 32 (0 : Int)))), (0 : Int)), (([] : (List ((Bool × (List Int)) × (Bool × (List Int))))), (([] : (List (Int × (((Bool × (List Int)) × (Bool × (List Int))) × Int)))), r3.2))))
else
  (bif decide (0 ≤ (0 : Int) ∧ (0 : Int) ≤ (256 : Int) ∧ (256 : Int) ≤ (256 : Int)) then
  let v4 : (List (Int × (((Bool × (List Int)) × (Bool × (List Int))) × Int))) := (copyL (List.replicate 256 ((0 : Int), (((false, (List.replicate 32 (0 : Int))), (false, (List.replicate 32 (0 : Int)))), (0 : Int)))) x2 (0 : Int) (256 : Int))
  (loopD (S := (((List ((Bool × (List Int)) × (Bool × (List Int)))) × ((List (Int × (((Bool × (List Int)) × (Bool × (List Int))) × Int))) × (Int × ((List ((Bool × (List Int)) × (Bool × (List Int)))) × Int)))) × (((Bool × (List Int)) × (Bool × (List Int))) × ((((Bool × (List Int)) × (Bool × (List Int))) × Int) × (List (Int × (((Bool × (List Int)) × (Bool × (List Int))) × Int))))))) (g_equalisation_Crystallise_L14 x0 x1 x2 x3 x4 r1 r3) ((([] : (List ((Bool × (List Int)) × (Bool × (List Int))))), (([] : (List (Int × (((Bool × (List Int)) × (Bool × (List Int))) × Int)))), ((0 : Int), (([] : (List ((Bool × (List Int)) × (Bool × (List Int))))), (0 : Int))))), (((false, (List.replicate 32 (0 : Int))), (false, (List.replicate 32 (0 : Int)))), ((((false, (List.replicate 32 (0 : Int))), (false, (List.replicate 32 (0 : Int)))), (0 : Int)), v4)))).bind fun o19 =>
  (bif Nat.beq o19.1 0 then
  some (o19.2.2.1, (o19.2.2.2.1, (o19.2.1.1, (o19.2.1.2.1, o19.2.1.2.2.1))))
else
  (bif decide (0 ≤ (0 : Int) ∧ (0 : Int) ≤ (x2.length : Int) ∧ (x2.length : Int) ≤ (256 : Int)) then
  (bif Nat.ble (List.length ((o19.2.2.2.2.drop (0 : Int).toNat).take ((x2.length : Int) - (0 : Int)).toNat) * 280) appLim then
  let v20 : (List (Int × (((Bool × (List Int)) × (Bool × (List Int))) × Int))) := ((o19.2.2.2.2.drop (0 : Int).toNat).take ((x2.length : Int) - (0 : Int)).toNat)
  some (r1.1, (r1.2.1, (o19.2.1.2.2.2.1, (v20, (0 : Int)))))
else
  none)
else
  none))
else
  none))))

end Go.Ev
