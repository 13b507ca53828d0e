/- What the functions of the program compute: the end of a period of a series. -/
import Derived.Test.YtgadoabnjcahoaaGreatDefsBV
import Derived.Test.YtgadoabnjcahoaaGreatDefsCV
set_option exponentiation.threshold 2000
namespace Go.Ev
set_option linter.unusedVariables false
abbrev YI := (Bool × (List Int))
abbrev YR := (YI × YI)
abbrev YW := (YR × Int)
abbrev YM := (YR × YW)
abbrev YC := (Int × (Int × YR))

/-! fundadmin/series.above -/
noncomputable def g_series_above (x0 : YR) : Option Bool :=
  (g_ratio_Sign x0).bind fun r1 =>
  (bif (r1.2 == (0 : Int)) then
  some (decide (r1.1 > (0 : Int)))
else
  some false)

/-! fundadmin/series.Check -/
noncomputable def g_series_Check_L4 (x0 : (List (Int × YM))) (s2 : ((Int × Int) × Unit)) : Option (Next ((Int × Int) × Unit)) :=
  (bif (decide (s2.1.2 < (x0.length : Int))) then
  (bif (inb s2.1.2 x0.length) then
  let v3 : (Int × YM) := (x0.getD s2.1.2.toNat ((0 : Int), (((false, (List.replicate 32 (0 : Int))), (false, (List.replicate 32 (0 : Int)))), (((false, (List.replicate 32 (0 : Int))), (false, (List.replicate 32 (0 : Int)))), (0 : Int)))))
  (bif (decide (v3.1 < (0 : Int))) then
  some (.out 0 (((330 : Int), s2.1.2), ()))
else
  (bif (decide (v3.1 > (73048 : Int))) then
  some (.out 0 (((330 : Int), s2.1.2), ()))
else
  (bif (decide (s2.1.2 > (0 : Int))) then
  (bif (inb (IntKind.i64.wrap (s2.1.2 - (1 : Int))) x0.length) then
  let v4 : (Int × YM) := (x0.getD (IntKind.i64.wrap (s2.1.2 - (1 : Int))).toNat ((0 : Int), (((false, (List.replicate 32 (0 : Int))), (false, (List.replicate 32 (0 : Int)))), (((false, (List.replicate 32 (0 : Int))), (false, (List.replicate 32 (0 : Int)))), (0 : Int)))))
  (bif (decide (v4.1 ≥ v3.1)) then
  some (.out 0 (((330 : Int), s2.1.2), ()))
else
  (g_series_above v3.2.1).bind fun r5 =>
  (bif (!r5) then
  some (.out 0 (((330 : Int), s2.1.2), ()))
else
  (g_highwater_CheckWater v3.2.2).bind fun r6 =>
  (bif (r6 != (0 : Int)) then
  some (.out 0 (((330 : Int), s2.1.2), ()))
else
  some (.more ((s2.1.1, (IntKind.i64.wrap (s2.1.2 + (1 : Int)))), ())))))
else
  none)
else
  (g_series_above v3.2.1).bind fun r7 =>
  (bif (!r7) then
  some (.out 0 (((330 : Int), s2.1.2), ()))
else
  (g_highwater_CheckWater v3.2.2).bind fun r8 =>
  (bif (r8 != (0 : Int)) then
  some (.out 0 (((330 : Int), s2.1.2), ()))
else
  some (.more ((s2.1.1, (IntKind.i64.wrap (s2.1.2 + (1 : Int)))), ())))))))
else
  none)
else
  some (.out 1 ((s2.1.1, s2.1.2), ())))
noncomputable def g_series_Check (x0 : (List (Int × YM))) : Option Int :=
  (bif (decide ((x0.length : Int) > (64 : Int))) then
  some (330 : Int)
else
  (loopD (S := ((Int × Int) × Unit)) (g_series_Check_L4 x0) (((0 : Int), (0 : Int)), ())).bind fun o8 =>
  (bif Nat.beq o8.1 0 then
  some o8.2.1.1
else
  some (0 : Int)))

/-! fundadmin/series.factor -/
noncomputable def g_series_factor (x0 : YR) : Option Bool :=
  (g_ratio_Whole (1000 : Int)).bind fun r1 =>
  (g_ratio_Cmp x0 r1).bind fun r2 =>
  (bif (r2.2 == (0 : Int)) then
  some (decide (r2.1 ≤ (0 : Int)))
else
  some false)

/-! fundadmin/series.Close -/
noncomputable def g_series_Close_0_L12 (x0 : YM) (x1 : (List (Int × YM))) (x2 : Int) (s4 : (((List YR) × ((List (Int × YM)) × ((List YC) × (Int × ((List YR) × (Int × Int)))))) × Unit)) : Option (Next (((List YR) × ((List (Int × YM)) × ((List YC) × (Int × ((List YR) × (Int × Int)))))) × Unit)) :=
  (bif (decide (s4.1.2.2.2.2.2.2 < (x1.length : Int))) then
  (bif (inb s4.1.2.2.2.2.2.2 x1.length) then
  let v5 : (Int × YM) := (x1.getD s4.1.2.2.2.2.2.2.toNat ((0 : Int), (((false, (List.replicate 32 (0 : Int))), (false, (List.replicate 32 (0 : Int)))), (((false, (List.replicate 32 (0 : Int))), (false, (List.replicate 32 (0 : Int)))), (0 : Int)))))
  (g_highwater_Crystallise x0 v5.2.2 v5.2.1 x2).bind fun r6 =>
  (bif (r6.2.2 != (0 : Int)) then
  some (.out 0 ((([] : (List YR)), (([] : (List (Int × YM))), (([] : (List YC)), (r6.2.2, (s4.1.2.2.2.2.1, (s4.1.2.2.2.2.2.1, s4.1.2.2.2.2.2.2)))))), ()))
else
  let v7 : (List YR) := ([r6.1] : (List YR))
  (bif List.isEmpty v7 || !(Nat.ble ((List.length s4.1.2.2.2.2.1 + List.length v7) * 264) appLim) then
  none
else
  (g_ratio_Whole (0 : Int)).bind fun r8 =>
  let v9 : Bool := (((r6.1.1.1 == r8.1.1) && (List.isEqv r6.1.1.2 r8.1.2 (eqv (.int .u32)))) && ((r6.1.2.1 == r8.2.1) && (List.isEqv r6.1.2.2 r8.2.2 (eqv (.int .u32)))))
  (bif v9 then
  let v10 : Int := (IntKind.i64.wrap (s4.1.2.2.2.2.2.2 + (1 : Int)))
  some (.more ((s4.1.1, (s4.1.2.1, (s4.1.2.2.1, (s4.1.2.2.2.1, ((s4.1.2.2.2.2.1 ++ v7), (s4.1.2.2.2.2.2.1, v10)))))), ()))
else
  (g_ratio_Sub v5.2.1 r6.1).bind fun r11 =>
  none)))
else
  none)
else
  some (.out 1 ((s4.1.1, (s4.1.2.1, (s4.1.2.2.1, (s4.1.2.2.2.1, (s4.1.2.2.2.2.1, (s4.1.2.2.2.2.2.1, s4.1.2.2.2.2.2.2)))))), ())))
noncomputable def g_series_Close_0 (x0 : YM) (x1 : (List (Int × YM))) (x2 : Int) : Option ((List YR) × ((List (Int × YM)) × ((List YC) × Int))) :=
  (g_highwater_Check x0).bind fun r1 =>
  (bif (r1 != (0 : Int)) then
  some (([] : (List YR)), (([] : (List (Int × YM))), (([] : (List YC)), r1)))
else
  (g_series_Check x1).bind fun r2 =>
  (bif (r2 != (0 : Int)) then
  some (([] : (List YR)), (([] : (List (Int × YM))), (([] : (List YC)), r2)))
else
  (bif Nat.ble (List.length x1 * 544) appLim then
  (loopD (S := (((List YR) × ((List (Int × YM)) × ((List YC) × (Int × ((List YR) × (Int × Int)))))) × Unit)) (g_series_Close_0_L12 x0 x1 x2) ((([] : (List YR)), (([] : (List (Int × YM))), (([] : (List YC)), ((0 : Int), (([] : (List YR)), ((-1 : Int), (0 : Int))))))), ())).bind fun o11 =>
  (bif Nat.beq o11.1 0 then
  some (o11.2.1.1, (o11.2.1.2.1, (o11.2.1.2.2.1, o11.2.1.2.2.2.1)))
else
  none)
else
  none)))
noncomputable def g_series_Close_1_L12 (x0 : YM) (x1 : (List (Int × YM))) (x2 : Int) (s4 : (((List YR) × ((List (Int × YM)) × ((List YC) × (Int × ((List YR) × (Int × Int)))))) × (List (Int × YM)))) : Option (Next (((List YR) × ((List (Int × YM)) × ((List YC) × (Int × ((List YR) × (Int × Int)))))) × (List (Int × YM)))) :=
  (bif (decide (s4.1.2.2.2.2.2.2 < (x1.length : Int))) then
  (bif (decide (0 ≤ s4.1.2.2.2.2.2.2 ∧ s4.1.2.2.2.2.2.2 < (x1.length : Int))) then
  (bif (inb s4.1.2.2.2.2.2.2 s4.2.length) then
  let v5 : YW := (s4.2.getD s4.1.2.2.2.2.2.2.toNat ((0 : Int), (((false, (List.replicate 32 (0 : Int))), (false, (List.replicate 32 (0 : Int)))), (((false, (List.replicate 32 (0 : Int))), (false, (List.replicate 32 (0 : Int)))), (0 : Int))))).2.2
  (bif (inb s4.1.2.2.2.2.2.2 s4.2.length) then
  let v6 : YR := (s4.2.getD s4.1.2.2.2.2.2.2.toNat ((0 : Int), (((false, (List.replicate 32 (0 : Int))), (false, (List.replicate 32 (0 : Int)))), (((false, (List.replicate 32 (0 : Int))), (false, (List.replicate 32 (0 : Int)))), (0 : Int))))).2.1
  (g_highwater_Crystallise x0 v5 v6 x2).bind fun r7 =>
  (bif (r7.2.2 != (0 : Int)) then
  some (.out 0 ((([] : (List YR)), (([] : (List (Int × YM))), (([] : (List YC)), (r7.2.2, (s4.1.2.2.2.2.1, (s4.1.2.2.2.2.2.1, s4.1.2.2.2.2.2.2)))))), s4.2))
else
  let v8 : (List YR) := ([r7.1] : (List YR))
  (bif List.isEmpty v8 || !(Nat.ble ((List.length s4.1.2.2.2.2.1 + List.length v8) * 264) appLim) then
  none
else
  (g_ratio_Whole (0 : Int)).bind fun r9 =>
  let v10 : Bool := (((r7.1.1.1 == r9.1.1) && (List.isEqv r7.1.1.2 r9.1.2 (eqv (.int .u32)))) && ((r7.1.2.1 == r9.2.1) && (List.isEqv r7.1.2.2 r9.2.2 (eqv (.int .u32)))))
  (bif v10 then
  let v11 : Int := (IntKind.i64.wrap (s4.1.2.2.2.2.2.2 + (1 : Int)))
  some (.more ((s4.1.1, (s4.1.2.1, (s4.1.2.2.1, (s4.1.2.2.2.1, ((s4.1.2.2.2.2.1 ++ v8), (s4.1.2.2.2.2.2.1, v11)))))), s4.2))
else
  (bif (inb s4.1.2.2.2.2.2.2 s4.2.length) then
  let v12 : YR := (s4.2.getD s4.1.2.2.2.2.2.2.toNat ((0 : Int), (((false, (List.replicate 32 (0 : Int))), (false, (List.replicate 32 (0 : Int)))), (((false, (List.replicate 32 (0 : Int))), (false, (List.replicate 32 (0 : Int)))), (0 : Int))))).2.1
  (g_ratio_Sub v12 r7.1).bind fun r13 =>
  (bif (inb s4.1.2.2.2.2.2.2 s4.2.length) then
  let v14 : (List (Int × YM)) := (s4.2.set s4.1.2.2.2.2.2.2.toNat ((s4.2.getD s4.1.2.2.2.2.2.2.toNat ((0 : Int), (((false, (List.replicate 32 (0 : Int))), (false, (List.replicate 32 (0 : Int)))), (((false, (List.replicate 32 (0 : Int))), (false, (List.replicate 32 (0 : Int)))), (0 : Int))))).1, (r13.1, (s4.2.getD s4.1.2.2.2.2.2.2.toNat ((0 : Int), (((false, (List.replicate 32 (0 : Int))), (false, (List.replicate 32 (0 : Int)))), (((false, (List.replicate 32 (0 : Int))), (false, (List.replicate 32 (0 : Int)))), (0 : Int))))).2.2)))
  (bif (inb s4.1.2.2.2.2.2.2 v14.length) then
  let v15 : (List (Int × YM)) := (v14.set s4.1.2.2.2.2.2.2.toNat ((v14.getD s4.1.2.2.2.2.2.2.toNat ((0 : Int), (((false, (List.replicate 32 (0 : Int))), (false, (List.replicate 32 (0 : Int)))), (((false, (List.replicate 32 (0 : Int))), (false, (List.replicate 32 (0 : Int)))), (0 : Int))))).1, ((v14.getD s4.1.2.2.2.2.2.2.toNat ((0 : Int), (((false, (List.replicate 32 (0 : Int))), (false, (List.replicate 32 (0 : Int)))), (((false, (List.replicate 32 (0 : Int))), (false, (List.replicate 32 (0 : Int)))), (0 : Int))))).2.1, r7.2.1)))
  (bif (decide (s4.1.2.2.2.2.2.1 < (0 : Int))) then
  let v16 : Int := (IntKind.i64.wrap (s4.1.2.2.2.2.2.2 + (1 : Int)))
  some (.more ((s4.1.1, (s4.1.2.1, (s4.1.2.2.1, (s4.1.2.2.2.1, ((s4.1.2.2.2.2.1 ++ v8), (s4.1.2.2.2.2.2.2, v16)))))), v15))
else
  let v17 : Int := (IntKind.i64.wrap (s4.1.2.2.2.2.2.2 + (1 : Int)))
  some (.more ((s4.1.1, (s4.1.2.1, (s4.1.2.2.1, (s4.1.2.2.2.1, ((s4.1.2.2.2.2.1 ++ v8), (s4.1.2.2.2.2.2.1, v17)))))), v15)))
else
  none)
else
  none)
else
  none))))
else
  none)
else
  none)
else
  none)
else
  some (.out 1 ((s4.1.1, (s4.1.2.1, (s4.1.2.2.1, (s4.1.2.2.2.1, (s4.1.2.2.2.2.1, (s4.1.2.2.2.2.2.1, s4.1.2.2.2.2.2.2)))))), s4.2)))

noncomputable def g_series_Close_1_T136 (v1 : (Int × YM)) (s2 : (((List YR) × ((List (Int × YM)) × ((List YC) × (Int × ((List YC) × ((Int × Int) × Int)))))) × ((Int × YM) × (List (Int × YM))))) : Option (Next (((List YR) × ((List (Int × YM)) × ((List YC) × (Int × ((List YC) × ((Int × Int) × Int)))))) × ((Int × YM) × (List (Int × YM))))) :=
  let v3 : (List (Int × YM)) := ([v1] : (List (Int × YM)))
  (bif List.isEmpty v3 || !(decide ((s2.1.2.2.2.2.2.1.1 + (v3.length : Int)) ≤ s2.1.2.2.2.2.2.1.2 ∧ s2.1.2.2.2.2.2.1.2 ≤ (s2.2.2.length : Int))) then
  none
else
  let v4 : (List (Int × YM)) := (copyL s2.2.2 v3 s2.1.2.2.2.2.2.1.1 (s2.1.2.2.2.2.2.1.1 + (v3.length : Int)))
  let v5 : Int := (IntKind.i64.wrap (s2.1.2.2.2.2.2.2 + (1 : Int)))
  some (.more ((s2.1.1, (s2.1.2.1, (s2.1.2.2.1, (s2.1.2.2.2.1, (s2.1.2.2.2.2.1, (((s2.1.2.2.2.2.2.1.1 + (v3.length : Int)), s2.1.2.2.2.2.2.1.2), v5)))))), (v1, v4))))

noncomputable def g_series_Close_1_T150 (r1 : YW) (s2 : (((List YR) × ((List (Int × YM)) × ((List YC) × (Int × ((List YC) × ((Int × Int) × Int)))))) × ((Int × YM) × (List (Int × YM))))) (v3 : (Int × YM)) : Option (Next (((List YR) × ((List (Int × YM)) × ((List YC) × (Int × ((List YC) × ((Int × Int) × Int)))))) × ((Int × YM) × (List (Int × YM))))) :=
  some (.out 0 ((([] : (List YR)), (([] : (List (Int × YM))), (([] : (List YC)), (r1.2, (s2.1.2.2.2.2.1, ((s2.1.2.2.2.2.2.1.1, s2.1.2.2.2.2.2.1.2), s2.1.2.2.2.2.2.2)))))), (v3, s2.2.2)))

noncomputable def g_series_Close_1_T160 (s1 : (((List YR) × ((List (Int × YM)) × ((List YC) × (Int × ((List YC) × ((Int × Int) × Int)))))) × ((Int × YM) × (List (Int × YM))))) (v2 : (Int × YM)) : Option (Next (((List YR) × ((List (Int × YM)) × ((List YC) × (Int × ((List YC) × ((Int × Int) × Int)))))) × ((Int × YM) × (List (Int × YM))))) :=
  some (.out 0 ((([] : (List YR)), (([] : (List (Int × YM))), (([] : (List YC)), ((331 : Int), (s1.1.2.2.2.2.1, ((s1.1.2.2.2.2.2.1.1, s1.1.2.2.2.2.2.1.2), s1.1.2.2.2.2.2.2)))))), (v2, s1.2.2)))

noncomputable def g_series_Close_1_E160 (v1 : (Int × YM)) (r2 : YW) (s3 : (((List YR) × ((List (Int × YM)) × ((List YC) × (Int × ((List YC) × ((Int × Int) × Int)))))) × ((Int × YM) × (List (Int × YM))))) : Option (Next (((List YR) × ((List (Int × YM)) × ((List YC) × (Int × ((List YC) × ((Int × Int) × Int)))))) × ((Int × YM) × (List (Int × YM))))) :=
  let v4 : (List YC) := ([(v1.1, (v1.1, r2.1))] : (List YC))
  (bif List.isEmpty v4 || !(Nat.ble ((List.length s3.1.2.2.2.2.1 + List.length v4) * 280) appLim) then
  none
else
  let v5 : Int := (IntKind.i64.wrap (s3.1.2.2.2.2.2.2 + (1 : Int)))
  some (.more ((s3.1.1, (s3.1.2.1, (s3.1.2.2.1, (s3.1.2.2.2.1, ((s3.1.2.2.2.2.1 ++ v4), ((s3.1.2.2.2.2.2.1.1, s3.1.2.2.2.2.2.1.2), v5)))))), (v1, s3.2.2))))

noncomputable def g_series_Close_1_T136_2 (v1 : (Int × YM)) (s2 : (((List YR) × ((List (Int × YM)) × ((List YC) × (Int × ((List YC) × ((Int × Int) × Int)))))) × ((Int × YM) × (List (Int × YM))))) : Option (Next (((List YR) × ((List (Int × YM)) × ((List YC) × (Int × ((List YC) × ((Int × Int) × Int)))))) × ((Int × YM) × (List (Int × YM))))) :=
  let v3 : (List (Int × YM)) := ([v1] : (List (Int × YM)))
  (bif List.isEmpty v3 || !(decide ((s2.1.2.2.2.2.2.1.1 + (v3.length : Int)) ≤ s2.1.2.2.2.2.2.1.2 ∧ s2.1.2.2.2.2.2.1.2 ≤ (s2.2.2.length : Int))) then
  none
else
  let v4 : (List (Int × YM)) := (copyL s2.2.2 v3 s2.1.2.2.2.2.2.1.1 (s2.1.2.2.2.2.2.1.1 + (v3.length : Int)))
  let v5 : Int := (IntKind.i64.wrap (s2.1.2.2.2.2.2.2 + (1 : Int)))
  some (.more ((s2.1.1, (s2.1.2.1, (s2.1.2.2.1, (s2.1.2.2.2.1, (s2.1.2.2.2.2.1, (((s2.1.2.2.2.2.2.1.1 + (v3.length : Int)), s2.1.2.2.2.2.2.1.2), v5)))))), (s2.2.1, v4))))

noncomputable def g_series_Close_1_T150_2 (r1 : YW) (s2 : (((List YR) × ((List (Int × YM)) × ((List YC) × (Int × ((List YC) × ((Int × Int) × Int)))))) × ((Int × YM) × (List (Int × YM))))) : Option (Next (((List YR) × ((List (Int × YM)) × ((List YC) × (Int × ((List YC) × ((Int × Int) × Int)))))) × ((Int × YM) × (List (Int × YM))))) :=
  some (.out 0 ((([] : (List YR)), (([] : (List (Int × YM))), (([] : (List YC)), (r1.2, (s2.1.2.2.2.2.1, ((s2.1.2.2.2.2.2.1.1, s2.1.2.2.2.2.2.1.2), s2.1.2.2.2.2.2.2)))))), (s2.2.1, s2.2.2)))

noncomputable def g_series_Close_1_T160_2 (s1 : (((List YR) × ((List (Int × YM)) × ((List YC) × (Int × ((List YC) × ((Int × Int) × Int)))))) × ((Int × YM) × (List (Int × YM))))) : Option (Next (((List YR) × ((List (Int × YM)) × ((List YC) × (Int × ((List YC) × ((Int × Int) × Int)))))) × ((Int × YM) × (List (Int × YM))))) :=
  some (.out 0 ((([] : (List YR)), (([] : (List (Int × YM))), (([] : (List YC)), ((331 : Int), (s1.1.2.2.2.2.1, ((s1.1.2.2.2.2.2.1.1, s1.1.2.2.2.2.2.1.2), s1.1.2.2.2.2.2.2)))))), (s1.2.1, s1.2.2)))

noncomputable def g_series_Close_1_E160_2 (v1 : (Int × YM)) (s2 : (((List YR) × ((List (Int × YM)) × ((List YC) × (Int × ((List YC) × ((Int × Int) × Int)))))) × ((Int × YM) × (List (Int × YM))))) (r3 : YW) : Option (Next (((List YR) × ((List (Int × YM)) × ((List YC) × (Int × ((List YC) × ((Int × Int) × Int)))))) × ((Int × YM) × (List (Int × YM))))) :=
  let v4 : (List YC) := ([(v1.1, (s2.2.1.1, r3.1))] : (List YC))
  (bif List.isEmpty v4 || !(Nat.ble ((List.length s2.1.2.2.2.2.1 + List.length v4) * 280) appLim) then
  none
else
  let v5 : Int := (IntKind.i64.wrap (s2.1.2.2.2.2.2.2 + (1 : Int)))
  some (.more ((s2.1.1, (s2.1.2.1, (s2.1.2.2.1, (s2.1.2.2.2.1, ((s2.1.2.2.2.2.1 ++ v4), ((s2.1.2.2.2.2.2.1.1, s2.1.2.2.2.2.2.1.2), v5)))))), (s2.2.1, s2.2.2))))

noncomputable def g_series_Close_1_L29 (x1 : (List (Int × YM))) (o2 : (Nat × (((List YR) × ((List (Int × YM)) × ((List YC) × (Int × ((List YR) × (Int × Int)))))) × (List (Int × YM))))) (s3 : (((List YR) × ((List (Int × YM)) × ((List YC) × (Int × ((List YC) × ((Int × Int) × Int)))))) × ((Int × YM) × (List (Int × YM))))) : Option (Next (((List YR) × ((List (Int × YM)) × ((List YC) × (Int × ((List YC) × ((Int × Int) × Int)))))) × ((Int × YM) × (List (Int × YM))))) :=
  (bif (decide (s3.1.2.2.2.2.2.2 < (x1.length : Int))) then
  (bif (decide (0 ≤ s3.1.2.2.2.2.2.2 ∧ s3.1.2.2.2.2.2.2 < (x1.length : Int))) then
  (bif (inb s3.1.2.2.2.2.2.2 s3.2.2.length) then
  let v4 : (Int × YM) := (s3.2.2.getD s3.1.2.2.2.2.2.2.toNat ((0 : Int), (((false, (List.replicate 32 (0 : Int))), (false, (List.replicate 32 (0 : Int)))), (((false, (List.replicate 32 (0 : Int))), (false, (List.replicate 32 (0 : Int)))), (0 : Int)))))
  (bif (s3.1.2.2.2.2.2.2 == o2.2.1.2.2.2.2.2.1) then
  (bif (inb s3.1.2.2.2.2.2.2 o2.2.1.2.2.2.2.1.length) then
  let v5 : YR := (o2.2.1.2.2.2.2.1.getD s3.1.2.2.2.2.2.2.toNat ((false, (List.replicate 32 (0 : Int))), (false, (List.replicate 32 (0 : Int)))))
  (g_ratio_Whole (0 : Int)).bind fun r6 =>
  let v7 : Bool := (((v5.1.1 == r6.1.1) && (List.isEqv v5.1.2 r6.1.2 (eqv (.int .u32)))) && ((v5.2.1 == r6.2.1) && (List.isEqv v5.2.2 r6.2.2 (eqv (.int .u32)))))
  (bif v7 then
  (g_series_Close_1_T136 v4 s3)
else
  (bif (s3.1.2.2.2.2.2.2 == o2.2.1.2.2.2.2.2.1) then
  (g_series_Close_1_T136 v4 s3)
else
  (g_ratio_Quo v4.2.1 v4.2.1).bind fun r8 =>
  (bif (r8.2 != (0 : Int)) then
  (g_series_Close_1_T150 r8 s3 v4)
else
  (g_series_factor r8.1).bind fun r9 =>
  (bif (!r9) then
  (g_series_Close_1_T160 s3 v4)
else
  (g_series_Close_1_E160 v4 r8 s3)))))
else
  none)
else
  (bif (inb s3.1.2.2.2.2.2.2 o2.2.1.2.2.2.2.1.length) then
  let v10 : YR := (o2.2.1.2.2.2.2.1.getD s3.1.2.2.2.2.2.2.toNat ((false, (List.replicate 32 (0 : Int))), (false, (List.replicate 32 (0 : Int)))))
  (g_ratio_Whole (0 : Int)).bind fun r11 =>
  let v12 : Bool := (((v10.1.1 == r11.1.1) && (List.isEqv v10.1.2 r11.1.2 (eqv (.int .u32)))) && ((v10.2.1 == r11.2.1) && (List.isEqv v10.2.2 r11.2.2 (eqv (.int .u32)))))
  (bif v12 then
  (g_series_Close_1_T136_2 v4 s3)
else
  (bif (s3.1.2.2.2.2.2.2 == o2.2.1.2.2.2.2.2.1) then
  (g_series_Close_1_T136_2 v4 s3)
else
  (g_ratio_Quo v4.2.1 s3.2.1.2.1).bind fun r13 =>
  (bif (r13.2 != (0 : Int)) then
  (g_series_Close_1_T150_2 r13 s3)
else
  (g_series_factor r13.1).bind fun r14 =>
  (bif (!r14) then
  (g_series_Close_1_T160_2 s3)
else
  (g_series_Close_1_E160_2 v4 s3 r13)))))
else
  none))
else
  none)
else
  none)
else
  some (.out 1 ((s3.1.1, (s3.1.2.1, (s3.1.2.2.1, (s3.1.2.2.2.1, (s3.1.2.2.2.2.1, ((s3.1.2.2.2.2.2.1.1, s3.1.2.2.2.2.2.1.2), s3.1.2.2.2.2.2.2)))))), (s3.2.1, s3.2.2))))
noncomputable def g_series_Close_1 (x0 : YM) (x1 : (List (Int × YM))) (x2 : Int) : Option ((List YR) × ((List (Int × YM)) × ((List YC) × Int))) :=
  (g_highwater_Check x0).bind fun r1 =>
  (bif (r1 != (0 : Int)) then
  some (([] : (List YR)), (([] : (List (Int × YM))), (([] : (List YC)), r1)))
else
  (g_series_Check x1).bind fun r2 =>
  (bif (r2 != (0 : Int)) then
  some (([] : (List YR)), (([] : (List (Int × YM))), (([] : (List YC)), r2)))
else
  (bif List.isEmpty x1 || !(Nat.ble (List.length x1 * 544) appLim) then
  none
else
  (loopD (S := (((List YR) × ((List (Int × YM)) × ((List YC) × (Int × ((List YR) × (Int × Int)))))) × (List (Int × YM)))) (g_series_Close_1_L12 x0 x1 x2) ((([] : (List YR)), (([] : (List (Int × YM))), (([] : (List YC)), ((0 : Int), (([] : (List YR)), ((-1 : Int), (0 : Int))))))), x1)).bind fun o17 =>
  (bif Nat.beq o17.1 0 then
  some (o17.2.1.1, (o17.2.1.2.1, (o17.2.1.2.2.1, o17.2.1.2.2.2.1)))
else
  (bif decide ((0 : Int) = 0 ∧ 0 ≤ (0 : Int) ∧ (0 : Int) ≤ (x1.length : Int) ∧ (x1.length : Int) ≤ (x1.length : Int)) then
  (loopD (S := (((List YR) × ((List (Int × YM)) × ((List YC) × (Int × ((List YC) × ((Int × Int) × Int)))))) × ((Int × YM) × (List (Int × YM))))) (g_series_Close_1_L29 x1 o17) ((o17.2.1.1, (o17.2.1.2.1, (o17.2.1.2.2.1, (o17.2.1.2.2.2.1, (([] : (List YC)), (((0 : Int), (x1.length : Int)), (0 : Int))))))), (((0 : Int), (((false, (List.replicate 32 (0 : Int))), (false, (List.replicate 32 (0 : Int)))), (((false, (List.replicate 32 (0 : Int))), (false, (List.replicate 32 (0 : Int)))), (0 : Int)))), o17.2.2))).bind fun o46 =>
  (bif Nat.beq o46.1 0 then
  some (o46.2.1.1, (o46.2.1.2.1, (o46.2.1.2.2.1, o46.2.1.2.2.2.1)))
else
  (bif decide (0 ≤ o46.2.1.2.2.2.2.2.1.1 ∧ o46.2.1.2.2.2.2.2.1.1 ≤ (o46.2.2.2.length : Int)) then
  some (o17.2.1.2.2.2.2.1, ((o46.2.2.2.take o46.2.1.2.2.2.2.2.1.1.toNat), (o46.2.1.2.2.2.2.1, (0 : Int))))
else
  none))
else
  none)))))
noncomputable def g_series_Close (x0 : YM) (x1 : (List (Int × YM))) (x2 : Int) : Option ((List YR) × ((List (Int × YM)) × ((List YC) × Int))) :=
  bif List.isEmpty x1 then g_series_Close_0 x0 x1 x2 else g_series_Close_1 x0 x1 x2

/-! fundadmin/fundadminmake.Of -/
noncomputable def g_make_Of (x0 : Int) (x1 : Int) : Option YR :=
  (g_ref02_Of x0 x1).bind fun r1 =>
  some r1.1

/-! fundadmin/fundadmintop.awake33 -/
noncomputable def g_top_awake33  : Option Bool :=
  (g_make_Of (1 : Int) (5 : Int)).bind fun r1 =>
  (g_make_Of (0 : Int) (1 : Int)).bind fun r2 =>
  (g_make_Of (130 : Int) (1 : Int)).bind fun r3 =>
  (g_make_Of (120 : Int) (1 : Int)).bind fun r4 =>
  let v5 : (List (Int × YM)) := ([((5 : Int), (r3, (r4, (5 : Int))))] : (List (Int × YM)))
  (g_series_Close (r1, (r2, (2 : Int))) v5 (9 : Int)).bind fun r6 =>
  (g_make_Of (100 : Int) (1 : Int)).bind fun r7 =>
  (g_make_Of (120 : Int) (1 : Int)).bind fun r8 =>
  (g_make_Of (130 : Int) (1 : Int)).bind fun r9 =>
  (g_equalisation_Adjust (r1, (r2, (2 : Int))) (r7, (0 : Int)) (r8, (5 : Int)) r9 (9 : Int)).bind fun r10 =>
  (bif (r6.2.2.2 == (0 : Int)) then
  (bif ((r6.2.1.length : Int) == (1 : Int)) then
  (bif (inb (0 : Int) r6.2.1.length) then
  let v11 : (Int × YM) := (r6.2.1.getD (0 : Int).toNat ((0 : Int), (((false, (List.replicate 32 (0 : Int))), (false, (List.replicate 32 (0 : Int)))), (((false, (List.replicate 32 (0 : Int))), (false, (List.replicate 32 (0 : Int)))), (0 : Int)))))
  (g_make_Of (128 : Int) (1 : Int)).bind fun r12 =>
  let v13 : Bool := (((v11.2.1.1.1 == r12.1.1) && (List.isEqv v11.2.1.1.2 r12.1.2 (eqv (.int .u32)))) && ((v11.2.1.2.1 == r12.2.1) && (List.isEqv v11.2.1.2.2 r12.2.2 (eqv (.int .u32)))))
  (bif v13 then
  (bif (r10.2 == (0 : Int)) then
  (g_make_Of (4 : Int) (1 : Int)).bind fun r14 =>
  let v15 : Bool := (((r10.1.1.1 == r14.1.1) && (List.isEqv r10.1.1.2 r14.1.2 (eqv (.int .u32)))) && ((r10.1.2.1 == r14.2.1) && (List.isEqv r10.1.2.2 r14.2.2 (eqv (.int .u32)))))
  some v15
else
  some false)
else
  some false)
else
  none)
else
  some false)
else
  some false)

/-! fundadmin/fundadmintop.TopMethods -/
noncomputable def g_top_TopMethods_L11 (r1 : YR) (s2 : (((List (Int × YM)) × Int) × ((List Int) × Int))) : Option (Next (((List (Int × YM)) × Int) × ((List Int) × Int))) :=
  (bif (decide (s2.1.2 < (4 : Int))) then
  (g_scene_Tape_Water s2.2).bind fun r3 =>
  let v4 : (List (Int × YM)) := ([((IntKind.i64.wrap ((10 : Int) * s2.1.2)), (r1, r3.1))] : (List (Int × YM)))
  (bif List.isEmpty v4 || !(Nat.ble ((List.length s2.1.1 + List.length v4) * 544) appLim) then
  none
else
  some (.more (((s2.1.1 ++ v4), (IntKind.i64.wrap (s2.1.2 + (1 : Int)))), r3.2)))
else
  some (.out 0 ((s2.1.1, s2.1.2), s2.2)))

noncomputable def g_top_TopMethods_L28 (r1 : ((List YR) × ((List (Int × YM)) × ((List YC) × Int)))) (s2 : ((Bool × Int) × Unit)) (o3 : (Nat × (((List (Int × YM)) × Int) × ((List Int) × Int)))) (r4 : YW) (s5 : ((Bool × Int) × Unit)) : Option (Next ((Bool × Int) × Unit)) :=
  (bif (decide (s5.1.2 < (r1.2.1.length : Int))) then
  (bif (inb s5.1.2 r1.2.1.length) then
  let v6 : (Int × YM) := (r1.2.1.getD s5.1.2.toNat ((0 : Int), (((false, (List.replicate 32 (0 : Int))), (false, (List.replicate 32 (0 : Int)))), (((false, (List.replicate 32 (0 : Int))), (false, (List.replicate 32 (0 : Int)))), (0 : Int)))))
  (bif (inb s2.1.2 o3.2.1.1.length) then
  let v7 : (Int × YM) := (o3.2.1.1.getD s2.1.2.toNat ((0 : Int), (((false, (List.replicate 32 (0 : Int))), (false, (List.replicate 32 (0 : Int)))), (((false, (List.replicate 32 (0 : Int))), (false, (List.replicate 32 (0 : Int)))), (0 : Int)))))
  (bif (v6.1 == v7.1) then
  (bif (inb s5.1.2 r1.2.1.length) then
  let v8 : (Int × YM) := (r1.2.1.getD s5.1.2.toNat ((0 : Int), (((false, (List.replicate 32 (0 : Int))), (false, (List.replicate 32 (0 : Int)))), (((false, (List.replicate 32 (0 : Int))), (false, (List.replicate 32 (0 : Int)))), (0 : Int)))))
  let v9 : Bool := (!(((v8.2.1.1.1 == r4.1.1.1) && (List.isEqv v8.2.1.1.2 r4.1.1.2 (eqv (.int .u32)))) && ((v8.2.1.2.1 == r4.1.2.1) && (List.isEqv v8.2.1.2.2 r4.1.2.2 (eqv (.int .u32))))))
  (bif v9 then
  some (.out 0 ((false, s5.1.2), ()))
else
  some (.more ((s5.1.1, (IntKind.i64.wrap (s5.1.2 + (1 : Int)))), ())))
else
  none)
else
  some (.more ((s5.1.1, (IntKind.i64.wrap (s5.1.2 + (1 : Int)))), ())))
else
  none)
else
  none)
else
  some (.out 1 ((s5.1.1, s5.1.2), ())))

noncomputable def g_top_TopMethods_L20 (o1 : (Nat × (((List (Int × YM)) × Int) × ((List Int) × Int)))) (r2 : (YM × ((List Int) × Int))) (r3 : (YW × ((List Int) × Int))) (r4 : YR) (r5 : (Int × ((List Int) × Int))) (r6 : YW) (r7 : ((List YR) × ((List (Int × YM)) × ((List YC) × Int)))) (s8 : ((Bool × Int) × Unit)) : Option (Next ((Bool × Int) × Unit)) :=
  (bif (decide (s8.1.2 < (o1.2.1.1.length : Int))) then
  (bif (inb s8.1.2 o1.2.1.1.length) then
  let v9 : (Int × YM) := (o1.2.1.1.getD s8.1.2.toNat ((0 : Int), (((false, (List.replicate 32 (0 : Int))), (false, (List.replicate 32 (0 : Int)))), (((false, (List.replicate 32 (0 : Int))), (false, (List.replicate 32 (0 : Int)))), (0 : Int)))))
  (g_equalisation_Adjust r2.1 r3.1 v9.2.2 r4 (IntKind.i64.wrap ((800 : Int) + r5.1))).bind fun r10 =>
  (g_ref02_Add r6.1 r10.1).bind fun r11 =>
  (bif (inb s8.1.2 r7.1.length) then
  let v12 : YR := (r7.1.getD s8.1.2.toNat ((false, (List.replicate 32 (0 : Int))), (false, (List.replicate 32 (0 : Int)))))
  (g_ref02_Sub r4 v12).bind fun r13 =>
  (bif (r10.2 != (0 : Int)) then
  some (.out 0 ((false, s8.1.2), ()))
else
  (bif (r11.2 != (0 : Int)) then
  some (.out 0 ((false, s8.1.2), ()))
else
  (bif (r13.2 != (0 : Int)) then
  some (.out 0 ((false, s8.1.2), ()))
else
  let v14 : Bool := (!(((r11.1.1.1 == r13.1.1.1) && (List.isEqv r11.1.1.2 r13.1.1.2 (eqv (.int .u32)))) && ((r11.1.2.1 == r13.1.2.1) && (List.isEqv r11.1.2.2 r13.1.2.2 (eqv (.int .u32))))))
  (bif v14 then
  some (.out 0 ((false, s8.1.2), ()))
else
  (loopD (S := ((Bool × Int) × Unit)) (g_top_TopMethods_L28 r7 s8 o1 r11) ((s8.1.1, (0 : Int)), ())).bind fun o15 =>
  (bif Nat.beq o15.1 0 then
  some (.out 0 ((o15.2.1.1, s8.1.2), ()))
else
  some (.more ((o15.2.1.1, (IntKind.i64.wrap (s8.1.2 + (1 : Int)))), ())))))))
else
  none)
else
  none)
else
  some (.out 1 ((s8.1.1, s8.1.2), ())))

noncomputable def g_top_TopMethods_L33 (r1 : ((List YR) × ((List (Int × YM)) × ((List YC) × Int)))) (o2 : (Nat × (((List (Int × YM)) × Int) × ((List Int) × Int)))) (r3 : YR) (s4 : ((Bool × Int) × Unit)) : Option (Next ((Bool × Int) × Unit)) :=
  (bif (decide (s4.1.2 < (r1.2.2.1.length : Int))) then
  (bif (inb s4.1.2 r1.2.2.1.length) then
  let v5 : YC := (r1.2.2.1.getD s4.1.2.toNat ((0 : Int), ((0 : Int), ((false, (List.replicate 32 (0 : Int))), (false, (List.replicate 32 (0 : Int)))))))
  (bif (decide (v5.1 < (0 : Int))) then
  some (.out 0 ((false, s4.1.2), ()))
else
  (bif decide ((10 : Int) = 0) then
  none
else
  (bif ((v5.1.tmod (10 : Int)) != (0 : Int)) then
  some (.out 0 ((false, s4.1.2), ()))
else
  (bif decide ((10 : Int) = 0) then
  none
else
  let v6 : Bool := (decide ((IntKind.i64.wrap (v5.1.tdiv (10 : Int))) ≥ (o2.2.1.1.length : Int)))
  (bif v6 then
  some (.out 0 ((false, s4.1.2), ()))
else
  (bif (decide (v5.2.1 < (0 : Int))) then
  some (.out 0 ((false, s4.1.2), ()))
else
  (bif decide ((10 : Int) = 0) then
  none
else
  let v7 : Bool := (decide ((IntKind.i64.wrap (v5.2.1.tdiv (10 : Int))) ≥ (o2.2.1.1.length : Int)))
  (bif v7 then
  some (.out 0 ((false, s4.1.2), ()))
else
  (bif decide ((10 : Int) = 0) then
  none
else
  (bif (inb (IntKind.i64.wrap (v5.1.tdiv (10 : Int))) r1.1.length) then
  let v8 : YR := (r1.1.getD (IntKind.i64.wrap (v5.1.tdiv (10 : Int))).toNat ((false, (List.replicate 32 (0 : Int))), (false, (List.replicate 32 (0 : Int)))))
  (g_ref02_Sub r3 v8).bind fun r9 =>
  (bif decide ((10 : Int) = 0) then
  none
else
  (bif (inb (IntKind.i64.wrap (v5.2.1.tdiv (10 : Int))) r1.1.length) then
  let v10 : YR := (r1.1.getD (IntKind.i64.wrap (v5.2.1.tdiv (10 : Int))).toNat ((false, (List.replicate 32 (0 : Int))), (false, (List.replicate 32 (0 : Int)))))
  (g_ref02_Sub r3 v10).bind fun r11 =>
  (g_ref02_Mul v5.2.2 r11.1).bind fun r12 =>
  let v13 : Bool := (!(((r12.1.1.1 == r9.1.1.1) && (List.isEqv r12.1.1.2 r9.1.1.2 (eqv (.int .u32)))) && ((r12.1.2.1 == r9.1.2.1) && (List.isEqv r12.1.2.2 r9.1.2.2 (eqv (.int .u32))))))
  (bif v13 then
  some (.out 0 ((false, s4.1.2), ()))
else
  some (.more ((s4.1.1, (IntKind.i64.wrap (s4.1.2 + (1 : Int)))), ())))
else
  none))
else
  none))))))))))
else
  none)
else
  some (.out 1 ((s4.1.1, s4.1.2), ())))
noncomputable def g_top_TopMethods (x0 : (List Int)) : Option Bool :=
  (g_scene_Tape_Terms (x0, (0 : Int))).bind fun r1 =>
  (g_scene_Tape_Water r1.2).bind fun r2 =>
  (g_scene_Tape_Next r2.2 (30000 : Int)).bind fun r3 =>
  let v4 : (List Int) := ([(100 : Int), (1 : Int), (7 : Int)] : (List Int))
  (g_scene_Tape_Pick r3.2 v4).bind fun r5 =>
  (g_scene_Ratio (IntKind.i64.wrap ((1 : Int) + r3.1)) r5.1).bind fun r6 =>
  (g_scene_Tape_Next r5.2 (800 : Int)).bind fun r7 =>
  (g_highwater_Fee r1.1 r2.1 r6 (IntKind.i64.wrap ((800 : Int) + r7.1))).bind fun r8 =>
  (g_ref02_Sub r6 r8.1).bind fun r9 =>
  (bif (r8.2 != (0 : Int)) then
  some false
else
  (bif (r9.2 != (0 : Int)) then
  some false
else
  (loopD (S := (((List (Int × YM)) × Int) × ((List Int) × Int))) (g_top_TopMethods_L11 r6) ((([] : (List (Int × YM))), (0 : Int)), r7.2)).bind fun o13 =>
  (g_series_Close r1.1 o13.2.1.1 (IntKind.i64.wrap ((800 : Int) + r7.1))).bind fun r14 =>
  (bif (r14.2.2.2 == (331 : Int)) then
  (g_top_awake33).bind fun r15 =>
  some r15
else
  (bif (r14.2.2.2 != (0 : Int)) then
  some false
else
  let v16 : Bool := ((r14.1.length : Int) != (o13.2.1.1.length : Int))
  (bif v16 then
  some false
else
  let v17 : Int := (IntKind.i64.wrap ((r14.2.1.length : Int) + (r14.2.2.1.length : Int)))
  (bif (v17 != (o13.2.1.1.length : Int)) then
  some false
else
  (loopD (S := ((Bool × Int) × Unit)) (g_top_TopMethods_L20 o13 r1 r2 r6 r7 r9 r14) ((false, (0 : Int)), ())).bind fun o31 =>
  (bif Nat.beq o31.1 0 then
  some o31.2.1.1
else
  (loopD (S := ((Bool × Int) × Unit)) (g_top_TopMethods_L33 r14 o13 r6) ((o31.2.1.1, (0 : Int)), ())).bind fun o42 =>
  (bif Nat.beq o42.1 0 then
  some o42.2.1.1
else
  (g_top_awake33).bind fun r43 =>
  some r43))))))))

end Go.Ev
