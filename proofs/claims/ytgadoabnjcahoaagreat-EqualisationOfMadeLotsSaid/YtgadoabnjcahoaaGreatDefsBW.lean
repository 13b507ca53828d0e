/- What the functions of the program and of its reference compute: equalisation. -/
import Derived.Test.YtgadoabnjcahoaaGreatDefsW
set_option exponentiation.threshold 2000
namespace Go.Ev
set_option linter.unusedVariables false

/-! fundadmin/equalisation.Adjust -/
noncomputable def g_equalisation_Adjust (x0 : (((Bool × (List Int)) × (Bool × (List Int))) × (((Bool × (List Int)) × (Bool × (List Int))) × Int))) (x1 : (((Bool × (List Int)) × (Bool × (List Int))) × Int)) (x2 : (((Bool × (List Int)) × (Bool × (List Int))) × Int)) (x3 : ((Bool × (List Int)) × (Bool × (List Int)))) (x4 : Int) : Option (((Bool × (List Int)) × (Bool × (List Int))) × Int) :=
  (g_highwater_Fee x0 x1 x3 x4).bind fun r1 =>
  (bif (r1.2 != (0 : Int)) then
  some (((false, (List.replicate 32 (0 : Int))), (false, (List.replicate 32 (0 : Int)))), r1.2)
else
  (g_highwater_Fee x0 x2 x3 x4).bind fun r2 =>
  (bif (r2.2 != (0 : Int)) then
  some (((false, (List.replicate 32 (0 : Int))), (false, (List.replicate 32 (0 : Int)))), r2.2)
else
  (g_ratio_Sub r1.1 r2.1).bind fun r3 =>
  some (r3.1, r3.2)))

/-! fundadmin/fundadminref32.Adjust -/
noncomputable def g_ref32_Adjust (x0 : (((Bool × (List Int)) × (Bool × (List Int))) × (((Bool × (List Int)) × (Bool × (List Int))) × Int))) (x1 : (((Bool × (List Int)) × (Bool × (List Int))) × Int)) (x2 : (((Bool × (List Int)) × (Bool × (List Int))) × Int)) (x3 : ((Bool × (List Int)) × (Bool × (List Int)))) (x4 : Int) : Option (((Bool × (List Int)) × (Bool × (List Int))) × Int) :=
  (g_ref31_Fee x0 x1 x3 x4).bind fun r1 =>
  (bif (r1.2 != (0 : Int)) then
  some (((false, (List.replicate 32 (0 : Int))), (false, (List.replicate 32 (0 : Int)))), r1.2)
else
  (g_ref31_Fee x0 x2 x3 x4).bind fun r2 =>
  (bif (r2.2 != (0 : Int)) then
  some (((false, (List.replicate 32 (0 : Int))), (false, (List.replicate 32 (0 : Int)))), r2.2)
else
  (g_exact_Of r1.1).bind fun r3 =>
  (g_exact_Of r2.1).bind fun r4 =>
  (g_exact_Sub r3 r4).bind fun r5 =>
  some (r5.1, r5.2)))

/-! fundadmin/ratio.Quo$1 -/
noncomputable def g_ratio_Quo_1 (x0 : ((Bool × (List Int)) × (Bool × (List Int)))) (x1 : ((Bool × (List Int)) × (Bool × (List Int)))) : Option ((Bool × (List Int)) × (Bool × (List Int))) :=
  (g_ratio_product x0.1 x1.2).bind fun r1 =>
  (g_ratio_product x0.2 x1.1).bind fun r2 =>
  some (r1, r2)

/-! fundadmin/ratio.Quo -/
noncomputable def g_ratio_Quo (x0 : ((Bool × (List Int)) × (Bool × (List Int)))) (x1 : ((Bool × (List Int)) × (Bool × (List Int)))) : Option (((Bool × (List Int)) × (Bool × (List Int))) × Int) :=
  (g_ratio_Valid x0).bind fun r1 =>
  (bif (!r1) then
  some (((false, (List.replicate 32 (0 : Int))), (false, (List.replicate 32 (0 : Int)))), (20 : Int))
else
  (g_ratio_Valid x1).bind fun r2 =>
  (bif (!r2) then
  some (((false, (List.replicate 32 (0 : Int))), (false, (List.replicate 32 (0 : Int)))), (20 : Int))
else
  (g_ratio_Quo_1 x0 x1).bind fun r3 =>
  (g_ratio_Make r3.1 r3.2).bind fun r4 =>
  some (r4.1, r4.2)))

/-! fundadmin/bigint.ToInt -/
noncomputable def g_bigint_ToInt (x0 : (Bool × (List Int))) : Option (Int × Bool) :=
  (g_bigint_split x0).bind fun r1 =>
  (g_bigint_mag_bits r1.2).bind fun r2 =>
  (bif (decide (r2.1 > (64 : Int))) then
  some ((0 : Int), false)
else
  (bif (inb (1 : Int) 32) then
  let v3 : Int := (IntKind.u64.wrap (r2.2.getD (1 : Int).toNat (0 : Int)))
  (bif decide ((32 : Int) < 0) then
  none
else
  let v4 : Int := (IntKind.u64.wrap (v3 * 2 ^ (min (32 : Int).toNat 64)))
  (bif (inb (0 : Int) 32) then
  let v5 : Int := (IntKind.u64.wrap (r2.2.getD (0 : Int).toNat (0 : Int)))
  let v6 : Int := (IntKind.u64.wrap ((((BitVec.ofInt 64 v4) ||| (BitVec.ofInt 64 v5)).toNat : Int)))
  (bif r1.1 then
  (bif (decide (v6 ≤ (9223372036854775808 : Int))) then
  some ((IntKind.i64.wrap (IntKind.u64.wrap (0 - v6))), true)
else
  (bif (!r1.1) then
  (bif (decide (v6 < (9223372036854775808 : Int))) then
  some ((IntKind.i64.wrap v6), true)
else
  some ((0 : Int), false))
else
  some ((0 : Int), false)))
else
  (bif (!r1.1) then
  (bif (decide (v6 < (9223372036854775808 : Int))) then
  some ((IntKind.i64.wrap v6), true)
else
  some ((0 : Int), false))
else
  some ((0 : Int), false)))
else
  none))
else
  none))

/-! fundadmin/decimal.RoundInt -/
noncomputable def g_decimal_RoundInt (x0 : ((Bool × (List Int)) × (Bool × (List Int)))) (x1 : Int) (x2 : Int) : Option (Int × Int) :=
  (g_decimal_Round x0 x1 x2).bind fun r1 =>
  (bif (r1.2 != (0 : Int)) then
  some ((0 : Int), r1.2)
else
  (g_bigint_ToInt r1.1).bind fun r2 =>
  (bif (!r2.2) then
  some ((0 : Int), (33 : Int))
else
  (bif (decide (r2.1 < (-1000000000000000 : Int))) then
  some ((0 : Int), (33 : Int))
else
  (bif (decide (r2.1 > (1000000000000000 : Int))) then
  some ((0 : Int), (33 : Int))
else
  some (r2.1, (0 : Int))))))

/-! fundadmin/equalisation.Settle -/
noncomputable def g_equalisation_Settle (x0 : Int) (x1 : ((Bool × (List Int)) × (Bool × (List Int)))) (x2 : ((Bool × (List Int)) × (Bool × (List Int)))) : Option (Int × Int) :=
  (bif (decide (x0 < (0 : Int))) then
  some ((0 : Int), (253 : Int))
else
  (bif (decide (x0 > (1000000000000000 : Int))) then
  some ((0 : Int), (253 : Int))
else
  (g_ratio_Valid x1).bind fun r1 =>
  (bif (!r1) then
  some ((0 : Int), (20 : Int))
else
  (g_ratio_Sign x2).bind fun r2 =>
  (bif (r2.2 != (0 : Int)) then
  some ((0 : Int), (312 : Int))
else
  (bif (decide (r2.1 ≤ (0 : Int))) then
  some ((0 : Int), (312 : Int))
else
  (g_ratio_Quo x1 x2).bind fun r3 =>
  (bif (r3.2 != (0 : Int)) then
  some ((0 : Int), r3.2)
else
  (g_ratio_Whole x0).bind fun r4 =>
  (g_ratio_Mul r4 r3.1).bind fun r5 =>
  (bif (r5.2 != (0 : Int)) then
  some ((0 : Int), r5.2)
else
  let v6 : Int := (IntKind.i64.wrap ((1000000000000000 : Int) - x0))
  (g_ratio_Whole (IntKind.i64.wrap (v6 + (1 : Int)))).bind fun r7 =>
  (g_ratio_Cmp r5.1 r7).bind fun r8 =>
  (bif (decide (r8.1 ≥ (0 : Int))) then
  some ((0 : Int), (253 : Int))
else
  (g_ratio_Whole (IntKind.i64.wrap (0 - x0))).bind fun r9 =>
  (g_ratio_Cmp r5.1 r9).bind fun r10 =>
  (bif (decide (r10.1 ≤ (0 : Int))) then
  some ((0 : Int), (0 : Int))
else
  (g_decimal_RoundInt r5.1 (0 : Int) (3 : Int)).bind fun r11 =>
  (bif (r11.2 != (0 : Int)) then
  some ((0 : Int), r11.2)
else
  some ((IntKind.i64.wrap (x0 + r11.1)), (0 : Int))))))))))))

/-! fundadmin/fundadminlaw32.mark -/
noncomputable def g_law32_mark (x0 : Int) : Option (((Bool × (List Int)) × (Bool × (List Int))) × Int) :=
  (g_scene_Ratio x0 (1 : Int)).bind fun r1 =>
  some (r1, (0 : Int))

/-! fundadmin/fundadminlaw32.awake -/
noncomputable def g_law32_awake  : Option Bool :=
  (g_scene_Ratio (1 : Int) (5 : Int)).bind fun r1 =>
  (g_scene_Ratio (0 : Int) (1 : Int)).bind fun r2 =>
  (g_law32_mark (100 : Int)).bind fun r3 =>
  (g_law32_mark (120 : Int)).bind fun r4 =>
  (g_scene_Ratio (130 : Int) (1 : Int)).bind fun r5 =>
  (g_equalisation_Adjust (r1, (r2, (2 : Int))) r3 r4 r5 (9 : Int)).bind fun r6 =>
  (g_law32_mark (100 : Int)).bind fun r7 =>
  (g_law32_mark (80 : Int)).bind fun r8 =>
  (g_scene_Ratio (90 : Int) (1 : Int)).bind fun r9 =>
  (g_equalisation_Adjust (r1, (r2, (2 : Int))) r7 r8 r9 (9 : Int)).bind fun r10 =>
  (g_scene_Ratio (124 : Int) (1 : Int)).bind fun r11 =>
  (g_equalisation_Settle (1000 : Int) r6.1 r11).bind fun r12 =>
  (g_scene_Ratio (90 : Int) (1 : Int)).bind fun r13 =>
  (g_equalisation_Settle (1000 : Int) r10.1 r13).bind fun r14 =>
  (bif (r6.2 == (0 : Int)) then
  (bif (r10.2 == (0 : Int)) then
  (bif (r12.2 == (0 : Int)) then
  (bif (r14.2 == (0 : Int)) then
  (g_scene_Ratio (4 : Int) (1 : Int)).bind fun r15 =>
  let v16 : Bool := (((r6.1.1.1 == r15.1.1) && (List.isEqv r6.1.1.2 r15.1.2 (eqv (.int .u32)))) && ((r6.1.2.1 == r15.2.1) && (List.isEqv r6.1.2.2 r15.2.2 (eqv (.int .u32)))))
  (bif v16 then
  (g_scene_Ratio (-2 : Int) (1 : Int)).bind fun r17 =>
  let v18 : Bool := (((r10.1.1.1 == r17.1.1) && (List.isEqv r10.1.1.2 r17.1.2 (eqv (.int .u32)))) && ((r10.1.2.1 == r17.2.1) && (List.isEqv r10.1.2.2 r17.2.2 (eqv (.int .u32)))))
  (bif v18 then
  (bif (r12.1 == (1032 : Int)) then
  some (r14.1 == (977 : Int))
else
  some false)
else
  some false)
else
  some false)
else
  some false)
else
  some false)
else
  some false)
else
  some false)

/-! fundadmin/fundadminlaw32.EqualisationAdjusts -/
noncomputable def g_law32_EqualisationAdjusts (x0 : (((Bool × (List Int)) × (Bool × (List Int))) × (((Bool × (List Int)) × (Bool × (List Int))) × Int))) (x1 : (((Bool × (List Int)) × (Bool × (List Int))) × Int)) (x2 : (((Bool × (List Int)) × (Bool × (List Int))) × Int)) (x3 : ((Bool × (List Int)) × (Bool × (List Int)))) (x4 : Int) : Option Bool :=
  (g_equalisation_Adjust x0 x1 x2 x3 x4).bind fun r1 =>
  (g_ref32_Adjust x0 x1 x2 x3 x4).bind fun r2 =>
  let v3 : Bool := (((r1.1.1.1 == r2.1.1.1) && (List.isEqv r1.1.1.2 r2.1.1.2 (eqv (.int .u32)))) && ((r1.1.2.1 == r2.1.2.1) && (List.isEqv r1.1.2.2 r2.1.2.2 (eqv (.int .u32)))))
  (bif v3 then
  (bif (r1.2 == r2.2) then
  (g_law32_awake).bind fun r4 =>
  some r4
else
  some false)
else
  some false)

end Go.Ev
