/- What the functions of the reference compute: the end of a period of a class with lots. -/
import Derived.Test.YtgadoabnjcahoaaGreatDefsDW
set_option exponentiation.threshold 2000
namespace Go.Ev
set_option linter.unusedVariables false

/-! fundadmin/fundadminref32.Marks -/
noncomputable def g_ref32_Marks_L4 (x0 : (List (Int × (((Bool × (List Int)) × (Bool × (List Int))) × Int)))) (s2 : ((Bool × Int) × Unit)) : Option (Next ((Bool × Int) × Unit)) :=
  (bif (decide (s2.1.2 < (x0.length : Int))) then
  (bif (inb s2.1.2 x0.length) then
  let v3 : (Int × (((Bool × (List Int)) × (Bool × (List Int))) × Int)) := (x0.getD s2.1.2.toNat ((0 : Int), (((false, (List.replicate 32 (0 : Int))), (false, (List.replicate 32 (0 : Int)))), (0 : Int))))
  (bif (decide (v3.1 < (0 : Int))) then
  some (.out 0 ((false, s2.1.2), ()))
else
  (bif (inb s2.1.2 x0.length) then
  let v4 : (Int × (((Bool × (List Int)) × (Bool × (List Int))) × Int)) := (x0.getD s2.1.2.toNat ((0 : Int), (((false, (List.replicate 32 (0 : Int))), (false, (List.replicate 32 (0 : Int)))), (0 : Int))))
  (bif (decide (v4.1 > (73048 : Int))) then
  some (.out 0 ((false, s2.1.2), ()))
else
  (bif (decide (s2.1.2 > (0 : Int))) then
  (bif (inb (IntKind.i64.wrap (s2.1.2 - (1 : Int))) x0.length) then
  let v5 : (Int × (((Bool × (List Int)) × (Bool × (List Int))) × Int)) := (x0.getD (IntKind.i64.wrap (s2.1.2 - (1 : Int))).toNat ((0 : Int), (((false, (List.replicate 32 (0 : Int))), (false, (List.replicate 32 (0 : Int)))), (0 : Int))))
  (bif (inb s2.1.2 x0.length) then
  let v6 : (Int × (((Bool × (List Int)) × (Bool × (List Int))) × Int)) := (x0.getD s2.1.2.toNat ((0 : Int), (((false, (List.replicate 32 (0 : Int))), (false, (List.replicate 32 (0 : Int)))), (0 : Int))))
  (bif (decide (v5.1 ≥ v6.1)) then
  some (.out 0 ((false, s2.1.2), ()))
else
  (bif (inb s2.1.2 x0.length) then
  let v7 : (Int × (((Bool × (List Int)) × (Bool × (List Int))) × Int)) := (x0.getD s2.1.2.toNat ((0 : Int), (((false, (List.replicate 32 (0 : Int))), (false, (List.replicate 32 (0 : Int)))), (0 : Int))))
  (g_ref31_CheckWater v7.2).bind fun r8 =>
  (bif (r8 != (0 : Int)) then
  some (.out 0 ((false, s2.1.2), ()))
else
  some (.more ((s2.1.1, (IntKind.i64.wrap (s2.1.2 + (1 : Int)))), ())))
else
  none))
else
  none)
else
  none)
else
  (bif (inb s2.1.2 x0.length) then
  let v9 : (Int × (((Bool × (List Int)) × (Bool × (List Int))) × Int)) := (x0.getD s2.1.2.toNat ((0 : Int), (((false, (List.replicate 32 (0 : Int))), (false, (List.replicate 32 (0 : Int)))), (0 : Int))))
  (g_ref31_CheckWater v9.2).bind fun r10 =>
  (bif (r10 != (0 : Int)) then
  some (.out 0 ((false, s2.1.2), ()))
else
  some (.more ((s2.1.1, (IntKind.i64.wrap (s2.1.2 + (1 : Int)))), ())))
else
  none)))
else
  none))
else
  none)
else
  some (.out 1 ((s2.1.1, s2.1.2), ())))
noncomputable def g_ref32_Marks (x0 : (List (Int × (((Bool × (List Int)) × (Bool × (List Int))) × Int)))) : Option Bool :=
  (bif (decide ((x0.length : Int) > (256 : Int))) then
  some false
else
  (loopD (S := ((Bool × Int) × Unit)) (g_ref32_Marks_L4 x0) ((false, (0 : Int)), ())).bind fun o10 =>
  (bif Nat.beq o10.1 0 then
  some o10.2.1.1
else
  some true))

/-! fundadmin/fundadminref02.Quo -/
noncomputable def g_ref02_Quo (x0 : ((Bool × (List Int)) × (Bool × (List Int)))) (x1 : ((Bool × (List Int)) × (Bool × (List Int)))) : Option (((Bool × (List Int)) × (Bool × (List Int))) × Int) :=
  (g_ref02_Valid x0).bind fun r1 =>
  (bif (!r1) then
  some (((false, (List.replicate 32 (0 : Int))), (false, (List.replicate 32 (0 : Int)))), (20 : Int))
else
  (g_ref02_Valid x1).bind fun r2 =>
  (bif (!r2) then
  some (((false, (List.replicate 32 (0 : Int))), (false, (List.replicate 32 (0 : Int)))), (20 : Int))
else
  (g_ref02_product x0.1 x1.2).bind fun r3 =>
  (g_ref02_product x0.2 x1.1).bind fun r4 =>
  (g_ref02_Make r3 r4).bind fun r5 =>
  some (r5.1, r5.2)))

/-! fundadmin/fundadminexact.Quo -/
noncomputable def g_exact_Quo (x0 : (((Bool × (List Int)) × (Bool × (List Int))) × Int)) (x1 : (((Bool × (List Int)) × (Bool × (List Int))) × Int)) : Option (((Bool × (List Int)) × (Bool × (List Int))) × Int) :=
  (g_exact_first x0 x1).bind fun r1 =>
  (bif (r1 != (0 : Int)) then
  some (((false, (List.replicate 32 (0 : Int))), (false, (List.replicate 32 (0 : Int)))), r1)
else
  (g_ref02_Quo x0.1 x1.1).bind fun r2 =>
  some (r2.1, r2.2))

/-! fundadmin/fundadminref32.Crystallise -/
noncomputable def g_ref32_Crystallise_T123 (r1 : ((((Bool × (List Int)) × (Bool × (List Int))) × Int) × Int)) (s2 : (((List ((Bool × (List Int)) × (Bool × (List Int)))) × ((List (Int × (((Bool × (List Int)) × (Bool × (List Int))) × Int))) × (Int × ((List ((Bool × (List Int)) × (Bool × (List Int)))) × ((List (Int × (((Bool × (List Int)) × (Bool × (List Int))) × Int))) × Int))))) × (((Bool × (List Int)) × (Bool × (List Int))) × (((Bool × (List Int)) × (Bool × (List Int))) × Int)))) : Option (Next (((List ((Bool × (List Int)) × (Bool × (List Int)))) × ((List (Int × (((Bool × (List Int)) × (Bool × (List Int))) × Int))) × (Int × ((List ((Bool × (List Int)) × (Bool × (List Int)))) × ((List (Int × (((Bool × (List Int)) × (Bool × (List Int))) × Int))) × Int))))) × (((Bool × (List Int)) × (Bool × (List Int))) × (((Bool × (List Int)) × (Bool × (List Int))) × Int)))) :=
  some (.out 0 ((([] : (List ((Bool × (List Int)) × (Bool × (List Int))))), (([] : (List (Int × (((Bool × (List Int)) × (Bool × (List Int))) × Int)))), (r1.2, (s2.1.2.2.2.1, (s2.1.2.2.2.2.1, s2.1.2.2.2.2.2))))), (((false, (List.replicate 32 (0 : Int))), (false, (List.replicate 32 (0 : Int)))), (((false, (List.replicate 32 (0 : Int))), (false, (List.replicate 32 (0 : Int)))), (0 : Int)))))

noncomputable def g_ref32_Crystallise_E123 (r1 : (((Bool × (List Int)) × (Bool × (List Int))) × Int)) (s2 : (((List ((Bool × (List Int)) × (Bool × (List Int)))) × ((List (Int × (((Bool × (List Int)) × (Bool × (List Int))) × Int))) × (Int × ((List ((Bool × (List Int)) × (Bool × (List Int)))) × ((List (Int × (((Bool × (List Int)) × (Bool × (List Int))) × Int))) × Int))))) × (((Bool × (List Int)) × (Bool × (List Int))) × (((Bool × (List Int)) × (Bool × (List Int))) × Int)))) (v3 : (Int × (((Bool × (List Int)) × (Bool × (List Int))) × Int))) (r4 : ((((Bool × (List Int)) × (Bool × (List Int))) × Int) × Int)) : Option (Next (((List ((Bool × (List Int)) × (Bool × (List Int)))) × ((List (Int × (((Bool × (List Int)) × (Bool × (List Int))) × Int))) × (Int × ((List ((Bool × (List Int)) × (Bool × (List Int)))) × ((List (Int × (((Bool × (List Int)) × (Bool × (List Int))) × Int))) × Int))))) × (((Bool × (List Int)) × (Bool × (List Int))) × (((Bool × (List Int)) × (Bool × (List Int))) × Int)))) :=
  let v5 : (List ((Bool × (List Int)) × (Bool × (List Int)))) := ([r1.1] : (List ((Bool × (List Int)) × (Bool × (List Int)))))
  (bif List.isEmpty v5 || !(Nat.ble ((List.length s2.1.2.2.2.1 + List.length v5) * 264) appLim) then
  none
else
  let v6 : (List (Int × (((Bool × (List Int)) × (Bool × (List Int))) × Int))) := ([(v3.1, r4.1)] : (List (Int × (((Bool × (List Int)) × (Bool × (List Int))) × Int))))
  (bif List.isEmpty v6 || !(Nat.ble ((List.length s2.1.2.2.2.2.1 + List.length v6) * 280) appLim) then
  none
else
  some (.more ((s2.1.1, (s2.1.2.1, (s2.1.2.2.1, ((s2.1.2.2.2.1 ++ v5), ((s2.1.2.2.2.2.1 ++ v6), (IntKind.i64.wrap (s2.1.2.2.2.2.2 + (1 : Int)))))))), (s2.2.1, s2.2.2)))))

noncomputable def g_ref32_Crystallise_T123_2 (r1 : (((Bool × (List Int)) × (Bool × (List Int))) × Int)) (s2 : (((List ((Bool × (List Int)) × (Bool × (List Int)))) × ((List (Int × (((Bool × (List Int)) × (Bool × (List Int))) × Int))) × (Int × ((List ((Bool × (List Int)) × (Bool × (List Int)))) × ((List (Int × (((Bool × (List Int)) × (Bool × (List Int))) × Int))) × Int))))) × (((Bool × (List Int)) × (Bool × (List Int))) × (((Bool × (List Int)) × (Bool × (List Int))) × Int)))) : Option (Next (((List ((Bool × (List Int)) × (Bool × (List Int)))) × ((List (Int × (((Bool × (List Int)) × (Bool × (List Int))) × Int))) × (Int × ((List ((Bool × (List Int)) × (Bool × (List Int)))) × ((List (Int × (((Bool × (List Int)) × (Bool × (List Int))) × Int))) × Int))))) × (((Bool × (List Int)) × (Bool × (List Int))) × (((Bool × (List Int)) × (Bool × (List Int))) × Int)))) :=
  some (.out 0 ((([] : (List ((Bool × (List Int)) × (Bool × (List Int))))), (([] : (List (Int × (((Bool × (List Int)) × (Bool × (List Int))) × Int)))), (r1.2, (s2.1.2.2.2.1, (s2.1.2.2.2.2.1, s2.1.2.2.2.2.2))))), (((false, (List.replicate 32 (0 : Int))), (false, (List.replicate 32 (0 : Int)))), (((false, (List.replicate 32 (0 : Int))), (false, (List.replicate 32 (0 : Int)))), (0 : Int)))))

noncomputable def g_ref32_Crystallise_E123_2 (r1 : (((Bool × (List Int)) × (Bool × (List Int))) × Int)) (s2 : (((List ((Bool × (List Int)) × (Bool × (List Int)))) × ((List (Int × (((Bool × (List Int)) × (Bool × (List Int))) × Int))) × (Int × ((List ((Bool × (List Int)) × (Bool × (List Int)))) × ((List (Int × (((Bool × (List Int)) × (Bool × (List Int))) × Int))) × Int))))) × (((Bool × (List Int)) × (Bool × (List Int))) × (((Bool × (List Int)) × (Bool × (List Int))) × Int)))) (v3 : (Int × (((Bool × (List Int)) × (Bool × (List Int))) × Int))) : Option (Next (((List ((Bool × (List Int)) × (Bool × (List Int)))) × ((List (Int × (((Bool × (List Int)) × (Bool × (List Int))) × Int))) × (Int × ((List ((Bool × (List Int)) × (Bool × (List Int)))) × ((List (Int × (((Bool × (List Int)) × (Bool × (List Int))) × Int))) × Int))))) × (((Bool × (List Int)) × (Bool × (List Int))) × (((Bool × (List Int)) × (Bool × (List Int))) × Int)))) :=
  let v4 : (List ((Bool × (List Int)) × (Bool × (List Int)))) := ([r1.1] : (List ((Bool × (List Int)) × (Bool × (List Int)))))
  (bif List.isEmpty v4 || !(Nat.ble ((List.length s2.1.2.2.2.1 + List.length v4) * 264) appLim) then
  none
else
  let v5 : (List (Int × (((Bool × (List Int)) × (Bool × (List Int))) × Int))) := ([v3] : (List (Int × (((Bool × (List Int)) × (Bool × (List Int))) × Int))))
  (bif List.isEmpty v5 || !(Nat.ble ((List.length s2.1.2.2.2.2.1 + List.length v5) * 280) appLim) then
  none
else
  some (.more ((s2.1.1, (s2.1.2.1, (s2.1.2.2.1, ((s2.1.2.2.2.1 ++ v4), ((s2.1.2.2.2.2.1 ++ v5), (IntKind.i64.wrap (s2.1.2.2.2.2.2 + (1 : Int)))))))), (s2.2.1, s2.2.2)))))

noncomputable def g_ref32_Crystallise_L10 (x0 : (((Bool × (List Int)) × (Bool × (List Int))) × (((Bool × (List Int)) × (Bool × (List Int))) × Int))) (x1 : (((Bool × (List Int)) × (Bool × (List Int))) × Int)) (x2 : (List (Int × (((Bool × (List Int)) × (Bool × (List Int))) × Int)))) (x3 : ((Bool × (List Int)) × (Bool × (List Int)))) (x4 : Int) (r6 : (((Bool × (List Int)) × (Bool × (List Int))) × Int)) (r7 : (((Bool × (List Int)) × (Bool × (List Int))) × ((((Bool × (List Int)) × (Bool × (List Int))) × Int) × Int))) (s8 : (((List ((Bool × (List Int)) × (Bool × (List Int)))) × ((List (Int × (((Bool × (List Int)) × (Bool × (List Int))) × Int))) × (Int × ((List ((Bool × (List Int)) × (Bool × (List Int)))) × ((List (Int × (((Bool × (List Int)) × (Bool × (List Int))) × Int))) × Int))))) × (((Bool × (List Int)) × (Bool × (List Int))) × (((Bool × (List Int)) × (Bool × (List Int))) × Int)))) : Option (Next (((List ((Bool × (List Int)) × (Bool × (List Int)))) × ((List (Int × (((Bool × (List Int)) × (Bool × (List Int))) × Int))) × (Int × ((List ((Bool × (List Int)) × (Bool × (List Int)))) × ((List (Int × (((Bool × (List Int)) × (Bool × (List Int))) × Int))) × Int))))) × (((Bool × (List Int)) × (Bool × (List Int))) × (((Bool × (List Int)) × (Bool × (List Int))) × Int)))) :=
  (bif (decide (s8.1.2.2.2.2.2 < (x2.length : Int))) then
  (bif (inb s8.1.2.2.2.2.2 x2.length) then
  let v9 : (Int × (((Bool × (List Int)) × (Bool × (List Int))) × Int)) := (x2.getD s8.1.2.2.2.2.2.toNat ((0 : Int), (((false, (List.replicate 32 (0 : Int))), (false, (List.replicate 32 (0 : Int)))), (0 : Int))))
  (g_ref32_Adjust x0 x1 v9.2 x3 x4).bind fun r10 =>
  (bif (r10.2 != (0 : Int)) then
  some (.out 0 ((([] : (List ((Bool × (List Int)) × (Bool × (List Int))))), (([] : (List (Int × (((Bool × (List Int)) × (Bool × (List Int))) × Int)))), (r10.2, (s8.1.2.2.2.1, (s8.1.2.2.2.2.1, s8.1.2.2.2.2.2))))), (((false, (List.replicate 32 (0 : Int))), (false, (List.replicate 32 (0 : Int)))), (((false, (List.replicate 32 (0 : Int))), (false, (List.replicate 32 (0 : Int)))), (0 : Int)))))
else
  (bif (inb s8.1.2.2.2.2.2 x2.length) then
  let v11 : (Int × (((Bool × (List Int)) × (Bool × (List Int))) × Int)) := (x2.getD s8.1.2.2.2.2.2.toNat ((0 : Int), (((false, (List.replicate 32 (0 : Int))), (false, (List.replicate 32 (0 : Int)))), (0 : Int))))
  (g_ref31_Fee x0 v11.2 x3 x4).bind fun r12 =>
  (g_exact_Of r12.1).bind fun r13 =>
  (g_exact_Sign r13).bind fun r14 =>
  (bif (r14 != (0 : Int)) then
  (g_ref31_After r6 x4).bind fun r15 =>
  (bif (r15.2 != (0 : Int)) then
  (g_ref32_Crystallise_T123 r15 s8)
else
  (g_ref32_Crystallise_E123 r10 s8 v11 r15))
else
  (g_exact_Of r7.1).bind fun r16 =>
  (g_exact_Sign r16).bind fun r17 =>
  (bif (r17 != (0 : Int)) then
  (g_exact_Of v11.2.1).bind fun r18 =>
  (g_exact_Of x3).bind fun r19 =>
  (g_exact_Quo r6 r19).bind fun r20 =>
  (g_exact_Mul r18 r20).bind fun r21 =>
  (g_ref31_After r21 v11.2.2).bind fun r22 =>
  (bif (r22.2 != (0 : Int)) then
  (g_ref32_Crystallise_T123 r22 s8)
else
  (g_ref32_Crystallise_E123 r10 s8 v11 r22))
else
  (bif (r10.2 != (0 : Int)) then
  (g_ref32_Crystallise_T123_2 r10 s8)
else
  (g_ref32_Crystallise_E123_2 r10 s8 v11))))
else
  none))
else
  none)
else
  some (.out 1 ((s8.1.1, (s8.1.2.1, (s8.1.2.2.1, (s8.1.2.2.2.1, (s8.1.2.2.2.2.1, s8.1.2.2.2.2.2))))), (s8.2.1, s8.2.2))))
noncomputable def g_ref32_Crystallise (x0 : (((Bool × (List Int)) × (Bool × (List Int))) × (((Bool × (List Int)) × (Bool × (List Int))) × Int))) (x1 : (((Bool × (List Int)) × (Bool × (List Int))) × Int)) (x2 : (List (Int × (((Bool × (List Int)) × (Bool × (List Int))) × Int)))) (x3 : ((Bool × (List Int)) × (Bool × (List Int)))) (x4 : Int) : Option (((Bool × (List Int)) × (Bool × (List Int))) × ((((Bool × (List Int)) × (Bool × (List Int))) × Int) × ((List ((Bool × (List Int)) × (Bool × (List Int)))) × ((List (Int × (((Bool × (List Int)) × (Bool × (List Int))) × Int))) × Int)))) :=
  (g_ref31_Crystallise x0 x1 x3 x4).bind fun r1 =>
  (bif (r1.2.2 != (0 : Int)) then
  some (((false, (List.replicate 32 (0 : Int))), (false, (List.replicate 32 (0 : Int)))), ((((false, (List.replicate 32 (0 : Int))), (false, (List.replicate 32 (0 : Int)))), (0 : Int)), (([] : (List ((Bool × (List Int)) × (Bool × (List Int))))), (([] : (List (Int × (((Bool × (List Int)) × (Bool × (List Int))) × Int)))), r1.2.2))))
else
  (g_ref32_Marks x2).bind fun r2 =>
  (bif (!r2) then
  some (((false, (List.replicate 32 (0 : Int))), (false, (List.replicate 32 (0 : Int)))), ((((false, (List.replicate 32 (0 : Int))), (false, (List.replicate 32 (0 : Int)))), (0 : Int)), (([] : (List ((Bool × (List Int)) × (Bool × (List Int))))), (([] : (List (Int × (((Bool × (List Int)) × (Bool × (List Int))) × Int)))), (320 : Int)))))
else
  (g_exact_Of x3).bind fun r3 =>
  (g_exact_Of r1.1).bind fun r4 =>
  (g_exact_Sub r3 r4).bind fun r5 =>
  (loopD (S := (((List ((Bool × (List Int)) × (Bool × (List Int)))) × ((List (Int × (((Bool × (List Int)) × (Bool × (List Int))) × Int))) × (Int × ((List ((Bool × (List Int)) × (Bool × (List Int)))) × ((List (Int × (((Bool × (List Int)) × (Bool × (List Int))) × Int))) × Int))))) × (((Bool × (List Int)) × (Bool × (List Int))) × (((Bool × (List Int)) × (Bool × (List Int))) × Int)))) (g_ref32_Crystallise_L10 x0 x1 x2 x3 x4 r5 r1) ((([] : (List ((Bool × (List Int)) × (Bool × (List Int))))), (([] : (List (Int × (((Bool × (List Int)) × (Bool × (List Int))) × Int)))), ((0 : Int), (([] : (List ((Bool × (List Int)) × (Bool × (List Int))))), (([] : (List (Int × (((Bool × (List Int)) × (Bool × (List Int))) × Int)))), (0 : Int)))))), (((false, (List.replicate 32 (0 : Int))), (false, (List.replicate 32 (0 : Int)))), (((false, (List.replicate 32 (0 : Int))), (false, (List.replicate 32 (0 : Int)))), (0 : Int))))).bind fun o27 =>
  (bif Nat.beq o27.1 0 then
  some (o27.2.2.1, (o27.2.2.2, (o27.2.1.1, (o27.2.1.2.1, o27.2.1.2.2.1))))
else
  some (r1.1, (r1.2.1, (o27.2.1.2.2.2.1, (o27.2.1.2.2.2.2.1, (0 : Int))))))))

/-! fundadmin/fundadminref32.SameRatios -/
noncomputable def g_ref32_SameRatios_L4 (x0 : (List ((Bool × (List Int)) × (Bool × (List Int))))) (x1 : (List ((Bool × (List Int)) × (Bool × (List Int))))) (s3 : ((Bool × Int) × Unit)) : Option (Next ((Bool × Int) × Unit)) :=
  (bif (decide (s3.1.2 < (x0.length : Int))) then
  (bif (inb s3.1.2 x0.length) then
  let v4 : ((Bool × (List Int)) × (Bool × (List Int))) := (x0.getD s3.1.2.toNat ((false, (List.replicate 32 (0 : Int))), (false, (List.replicate 32 (0 : Int)))))
  (bif (inb s3.1.2 x1.length) then
  let v5 : ((Bool × (List Int)) × (Bool × (List Int))) := (x1.getD s3.1.2.toNat ((false, (List.replicate 32 (0 : Int))), (false, (List.replicate 32 (0 : Int)))))
  let v6 : Bool := (!(((v4.1.1 == v5.1.1) && (List.isEqv v4.1.2 v5.1.2 (eqv (.int .u32)))) && ((v4.2.1 == v5.2.1) && (List.isEqv v4.2.2 v5.2.2 (eqv (.int .u32))))))
  (bif v6 then
  some (.out 0 ((false, s3.1.2), ()))
else
  some (.more ((s3.1.1, (IntKind.i64.wrap (s3.1.2 + (1 : Int)))), ())))
else
  none)
else
  none)
else
  some (.out 1 ((s3.1.1, s3.1.2), ())))
noncomputable def g_ref32_SameRatios (x0 : (List ((Bool × (List Int)) × (Bool × (List Int))))) (x1 : (List ((Bool × (List Int)) × (Bool × (List Int))))) : Option Bool :=
  (bif ((x0.length : Int) != (x1.length : Int)) then
  some false
else
  (loopD (S := ((Bool × Int) × Unit)) (g_ref32_SameRatios_L4 x0 x1) ((false, (0 : Int)), ())).bind fun o5 =>
  (bif Nat.beq o5.1 0 then
  some o5.2.1.1
else
  some true))

/-! fundadmin/fundadminref32.Same -/
noncomputable def g_ref32_Same_L4 (x0 : (List (Int × (((Bool × (List Int)) × (Bool × (List Int))) × Int)))) (x1 : (List (Int × (((Bool × (List Int)) × (Bool × (List Int))) × Int)))) (s3 : ((Bool × Int) × Unit)) : Option (Next ((Bool × Int) × Unit)) :=
  (bif (decide (s3.1.2 < (x0.length : Int))) then
  (bif (inb s3.1.2 x0.length) then
  let v4 : (Int × (((Bool × (List Int)) × (Bool × (List Int))) × Int)) := (x0.getD s3.1.2.toNat ((0 : Int), (((false, (List.replicate 32 (0 : Int))), (false, (List.replicate 32 (0 : Int)))), (0 : Int))))
  (bif (inb s3.1.2 x1.length) then
  let v5 : (Int × (((Bool × (List Int)) × (Bool × (List Int))) × Int)) := (x1.getD s3.1.2.toNat ((0 : Int), (((false, (List.replicate 32 (0 : Int))), (false, (List.replicate 32 (0 : Int)))), (0 : Int))))
  let v6 : Bool := (!((v4.1 == v5.1) && ((((v4.2.1.1.1 == v5.2.1.1.1) && (List.isEqv v4.2.1.1.2 v5.2.1.1.2 (eqv (.int .u32)))) && ((v4.2.1.2.1 == v5.2.1.2.1) && (List.isEqv v4.2.1.2.2 v5.2.1.2.2 (eqv (.int .u32))))) && (v4.2.2 == v5.2.2))))
  (bif v6 then
  some (.out 0 ((false, s3.1.2), ()))
else
  some (.more ((s3.1.1, (IntKind.i64.wrap (s3.1.2 + (1 : Int)))), ())))
else
  none)
else
  none)
else
  some (.out 1 ((s3.1.1, s3.1.2), ())))
noncomputable def g_ref32_Same (x0 : (List (Int × (((Bool × (List Int)) × (Bool × (List Int))) × Int)))) (x1 : (List (Int × (((Bool × (List Int)) × (Bool × (List Int))) × Int)))) : Option Bool :=
  (bif ((x0.length : Int) != (x1.length : Int)) then
  some false
else
  (loopD (S := ((Bool × Int) × Unit)) (g_ref32_Same_L4 x0 x1) ((false, (0 : Int)), ())).bind fun o5 =>
  (bif Nat.beq o5.1 0 then
  some o5.2.1.1
else
  some true))

/-! fundadmin/fundadminlaw32.EqualisationOfMadeLots -/
noncomputable def g_law32_EqualisationOfMadeLots (x0 : (List Int)) : Option Bool :=
  (g_law32_made x0).bind fun r1 =>
  (g_equalisation_Crystallise r1.1 r1.2.1 r1.2.2.1 r1.2.2.2.1 r1.2.2.2.2).bind fun r2 =>
  (g_ref32_Crystallise r1.1 r1.2.1 r1.2.2.1 r1.2.2.2.1 r1.2.2.2.2).bind fun r3 =>
  let v4 : Bool := (((r2.1.1.1 == r3.1.1.1) && (List.isEqv r2.1.1.2 r3.1.1.2 (eqv (.int .u32)))) && ((r2.1.2.1 == r3.1.2.1) && (List.isEqv r2.1.2.2 r3.1.2.2 (eqv (.int .u32)))))
  (bif v4 then
  let v5 : Bool := ((((r2.2.1.1.1.1 == r3.2.1.1.1.1) && (List.isEqv r2.2.1.1.1.2 r3.2.1.1.1.2 (eqv (.int .u32)))) && ((r2.2.1.1.2.1 == r3.2.1.1.2.1) && (List.isEqv r2.2.1.1.2.2 r3.2.1.1.2.2 (eqv (.int .u32))))) && (r2.2.1.2 == r3.2.1.2))
  (bif v5 then
  (g_ref32_SameRatios r2.2.2.1 r3.2.2.1).bind fun r6 =>
  (bif r6 then
  (g_ref32_Same r2.2.2.2.1 r3.2.2.2.1).bind fun r7 =>
  (bif r7 then
  (bif (r2.2.2.2.2 == r3.2.2.2.2) then
  (bif (r2.2.2.2.2 == (0 : Int)) then
  (g_law32_awake).bind fun r8 =>
  some r8
else
  some false)
else
  some false)
else
  some false)
else
  some false)
else
  some false)
else
  some false)

end Go.Ev
