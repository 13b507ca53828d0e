/- What the functions of the program and of its reference compute: made arguments. -/
import Derived.Test.YtgadoabnjcahoaaGreatDefsW
set_option exponentiation.threshold 2000
namespace Go.Ev
set_option linter.unusedVariables false

/-! fundadmin/fundadminscene.Mod -/
noncomputable def g_scene_Mod (x0 : Int) (x1 : Int) : Option Int :=
  (bif (decide (x1 < (1 : Int))) then
  some (0 : Int)
else
  (bif decide (x1 = 0) then
  none
else
  (bif (decide ((x0.tmod x1) < (0 : Int))) then
  some (IntKind.i64.wrap ((x0.tmod x1) + x1))
else
  some (x0.tmod x1))))

/-! (*fundadmin/fundadminscene.Tape).Next -/
noncomputable def g_scene_Tape_Next (x0 : ((List Int) × Int)) (x1 : Int) : Option (Int × ((List Int) × Int)) :=
  (bif (decide (x0.2 ≥ (x0.1.length : Int))) then
  some ((0 : Int), x0)
else
  let v1 : Int := (IntKind.i64.wrap ((IntKind.i64.wrap (x0.2 + (1 : Int))) - (1 : Int)))
  (bif (inb v1 x0.1.length) then
  (g_scene_Mod (x0.1.getD v1.toNat (0 : Int)) x1).bind fun r2 =>
  some (r2, (x0.1, (IntKind.i64.wrap (x0.2 + (1 : Int)))))
else
  none))

/-! (*fundadmin/fundadminscene.Tape).Pick -/
noncomputable def g_scene_Tape_Pick (x0 : ((List Int) × Int)) (x1 : (List Int)) : Option (Int × ((List Int) × Int)) :=
  (g_scene_Tape_Next x0 (x1.length : Int)).bind fun r1 =>
  (bif (inb r1.1 x1.length) then
  some ((x1.getD r1.1.toNat (0 : Int)), r1.2)
else
  none)

/-! (*fundadmin/fundadminscene.Tape).Terms -/
noncomputable def g_scene_Tape_Terms (x0 : ((List Int) × Int)) : Option ((((Bool × (List Int)) × (Bool × (List Int))) × (((Bool × (List Int)) × (Bool × (List Int))) × Int)) × ((List Int) × Int)) :=
  (g_scene_Tape_Next x0 (101 : Int)).bind fun r1 =>
  let v2 : (List Int) := ([(20 : Int), (10 : Int), (0 : Int), (100 : Int), r1.1] : (List Int))
  (g_scene_Tape_Pick r1.2 v2).bind fun r3 =>
  (g_scene_Ratio r3.1 (100 : Int)).bind fun r4 =>
  let v5 : (List Int) := ([(0 : Int), (4 : Int), (0 : Int), (10 : Int), (100 : Int)] : (List Int))
  (g_scene_Tape_Pick r3.2 v5).bind fun r6 =>
  (g_scene_Ratio r6.1 (100 : Int)).bind fun r7 =>
  (g_scene_Tape_Next r6.2 (4 : Int)).bind fun r8 =>
  some ((r4, (r7, (IntKind.i64.wrap ((1 : Int) + r8.1)))), r8.2)

/-! (*fundadmin/fundadminscene.Tape).Water -/
noncomputable def g_scene_Tape_Water (x0 : ((List Int) × Int)) : Option ((((Bool × (List Int)) × (Bool × (List Int))) × Int) × ((List Int) × Int)) :=
  (g_scene_Tape_Next x0 (20000 : Int)).bind fun r1 =>
  let v2 : (List Int) := ([(100 : Int), (100 : Int), (1 : Int), (7 : Int)] : (List Int))
  (g_scene_Tape_Pick r1.2 v2).bind fun r3 =>
  (g_scene_Ratio (IntKind.i64.wrap ((1 : Int) + r1.1)) r3.1).bind fun r4 =>
  (g_scene_Tape_Next r3.2 (800 : Int)).bind fun r5 =>
  some ((r4, r5.1), r5.2)

/-! fundadmin/fundadminlaw31.made -/
noncomputable def g_law31_made (x0 : (List Int)) (x1 : Int) : Option ((((Bool × (List Int)) × (Bool × (List Int))) × (((Bool × (List Int)) × (Bool × (List Int))) × Int)) × ((((Bool × (List Int)) × (Bool × (List Int))) × Int) × (((Bool × (List Int)) × (Bool × (List Int))) × Int))) :=
  (g_scene_Tape_Terms (x0, (0 : Int))).bind fun r1 =>
  (g_scene_Tape_Water r1.2).bind fun r2 =>
  (g_exact_Of r2.1.1).bind fun r3 =>
  (g_scene_Tape_Next r2.2 (150 : Int)).bind fun r4 =>
  (g_exact_Over (IntKind.i64.wrap ((50 : Int) + r4.1)) (100 : Int)).bind fun r5 =>
  (g_exact_Mul r3 r5).bind fun r6 =>
  (g_scene_Mod x1 (1500 : Int)).bind fun r7 =>
  some (r1.1, (r2.1, (r6.1, (IntKind.i64.wrap (r2.1.2 + r7)))))

/-! fundadmin/fundadminlaw31.HighwaterOfMadeMarks -/
noncomputable def g_law31_HighwaterOfMadeMarks (x0 : (List Int)) (x1 : Int) : Option Bool :=
  (g_law31_made x0 x1).bind fun r1 =>
  (g_highwater_Threshold r1.1 r1.2.1 r1.2.2.2).bind fun r2 =>
  (g_ref31_Threshold r1.1 r1.2.1 r1.2.2.2).bind fun r3 =>
  (g_highwater_Fee r1.1 r1.2.1 r1.2.2.1 r1.2.2.2).bind fun r4 =>
  (g_ref31_Fee r1.1 r1.2.1 r1.2.2.1 r1.2.2.2).bind fun r5 =>
  (g_highwater_Crystallise r1.1 r1.2.1 r1.2.2.1 r1.2.2.2).bind fun r6 =>
  (g_ref31_Crystallise r1.1 r1.2.1 r1.2.2.1 r1.2.2.2).bind fun r7 =>
  (g_highwater_Crystallise r1.1 r1.2.1 r1.2.2.1 (IntKind.i64.wrap (r1.2.1.2 - (1 : Int)))).bind fun r8 =>
  let v9 : Bool := (((r2.1.1.1 == r3.1.1.1) && (List.isEqv r2.1.1.2 r3.1.1.2 (eqv (.int .u32)))) && ((r2.1.2.1 == r3.1.2.1) && (List.isEqv r2.1.2.2 r3.1.2.2 (eqv (.int .u32)))))
  (bif v9 then
  (bif (r2.2 == (0 : Int)) then
  let v10 : Bool := (((r4.1.1.1 == r5.1.1.1) && (List.isEqv r4.1.1.2 r5.1.1.2 (eqv (.int .u32)))) && ((r4.1.2.1 == r5.1.2.1) && (List.isEqv r4.1.2.2 r5.1.2.2 (eqv (.int .u32)))))
  (bif v10 then
  (bif (r4.2 == (0 : Int)) then
  let v11 : Bool := (((r6.1.1.1 == r7.1.1.1) && (List.isEqv r6.1.1.2 r7.1.1.2 (eqv (.int .u32)))) && ((r6.1.2.1 == r7.1.2.1) && (List.isEqv r6.1.2.2 r7.1.2.2 (eqv (.int .u32)))))
  (bif v11 then
  let v12 : Bool := ((((r6.2.1.1.1.1 == r7.2.1.1.1.1) && (List.isEqv r6.2.1.1.1.2 r7.2.1.1.1.2 (eqv (.int .u32)))) && ((r6.2.1.1.2.1 == r7.2.1.1.2.1) && (List.isEqv r6.2.1.1.2.2 r7.2.1.1.2.2 (eqv (.int .u32))))) && (r6.2.1.2 == r7.2.1.2))
  (bif v12 then
  (bif (r6.2.2 == (0 : Int)) then
  (bif (r8.2.2 != (0 : Int)) then
  (g_law31_awake).bind fun r13 =>
  some r13
else
  some false)
else
  some false)
else
  some false)
else
  some false)
else
  some false)
else
  some false)
else
  some false)
else
  some false)

/-! fundadmin/fundadminlaw31.HighwaterSpares -/
noncomputable def g_law31_HighwaterSpares_E99 (r1 : (((Bool × (List Int)) × (Bool × (List Int))) × Int)) (r2 : (((Bool × (List Int)) × (Bool × (List Int))) × Int)) (r3 : (((Bool × (List Int)) × (Bool × (List Int))) × Int)) (r4 : (((Bool × (List Int)) × (Bool × (List Int))) × Int)) (r5 : (((Bool × (List Int)) × (Bool × (List Int))) × Int)) : Option Bool :=
  (g_exact_Of r1.1).bind fun r6 =>
  (g_exact_Sub r2 r6).bind fun r7 =>
  (g_exact_Less r7 r3).bind fun r8 =>
  (bif (!r8) then
  (g_exact_Of r4.1).bind fun r9 =>
  (g_exact_Of r5.1).bind fun r10 =>
  (g_exact_Less r9 r10).bind fun r11 =>
  (bif (!r11) then
  (g_exact_Of r4.1).bind fun r12 =>
  (g_exact_Sign r12).bind fun r13 =>
  (bif (decide (r13 ≥ (0 : Int))) then
  (g_law31_awake).bind fun r14 =>
  some r14
else
  some false)
else
  some false)
else
  some false)
noncomputable def g_law31_HighwaterSpares (x0 : (List Int)) (x1 : Int) (x2 : Int) (x3 : Int) : Option Bool :=
  (g_law31_made x0 x1).bind fun r1 =>
  (g_highwater_Threshold r1.1 r1.2.1 r1.2.2.2).bind fun r2 =>
  (g_highwater_Fee r1.1 r1.2.1 r1.2.2.1 r1.2.2.2).bind fun r3 =>
  (g_exact_Of r1.2.2.1).bind fun r4 =>
  (g_scene_Mod x2 (100000 : Int)).bind fun r5 =>
  (g_exact_Over r5 (100 : Int)).bind fun r6 =>
  (g_exact_Add r4 r6).bind fun r7 =>
  (g_highwater_Fee r1.1 r1.2.1 r7.1 r1.2.2.2).bind fun r8 =>
  (g_scene_Mod x3 (800 : Int)).bind fun r9 =>
  (g_highwater_Fee r1.1 r1.2.1 r1.2.2.1 (IntKind.i64.wrap (r1.2.2.2 + r9))).bind fun r10 =>
  (bif (r2.2 != (0 : Int)) then
  some false
else
  (bif (r3.2 != (0 : Int)) then
  some false
else
  (bif (r8.2 != (0 : Int)) then
  some false
else
  (bif (r10.2 != (0 : Int)) then
  some false
else
  (g_exact_Of r1.2.2.1).bind fun r11 =>
  (g_exact_Of r3.1).bind fun r12 =>
  (g_exact_Sub r11 r12).bind fun r13 =>
  (g_exact_Of r1.2.2.1).bind fun r14 =>
  (g_exact_Less r13 r14).bind fun r15 =>
  (bif r15 then
  (g_exact_Of r2.1).bind fun r16 =>
  (g_exact_Less r13 r16).bind fun r17 =>
  (bif r17 then
  some false
else
  (g_law31_HighwaterSpares_E99 r8 r7 r13 r3 r10))
else
  (g_law31_HighwaterSpares_E99 r8 r7 r13 r3 r10))))))

/-! fundadmin/fundadminlaw31.HighwaterIsPaidOnce -/
noncomputable def g_law31_HighwaterIsPaidOnce (x0 : (List Int)) (x1 : Int) (x2 : Int) : Option Bool :=
  (g_law31_made x0 x1).bind fun r1 =>
  (g_highwater_Crystallise r1.1 r1.2.1 r1.2.2.1 r1.2.2.2).bind fun r2 =>
  (bif (r2.2.2 != (0 : Int)) then
  some false
else
  (g_exact_Of r2.1).bind fun r3 =>
  (g_exact_Sign r3).bind fun r4 =>
  (bif (r4 == (0 : Int)) then
  let v5 : Bool := ((((r2.2.1.1.1.1 == r1.2.1.1.1.1) && (List.isEqv r2.2.1.1.1.2 r1.2.1.1.1.2 (eqv (.int .u32)))) && ((r2.2.1.1.2.1 == r1.2.1.1.2.1) && (List.isEqv r2.2.1.1.2.2 r1.2.1.1.2.2 (eqv (.int .u32))))) && (r2.2.1.2 == r1.2.1.2))
  (bif v5 then
  (g_law31_awake).bind fun r6 =>
  some r6
else
  some false)
else
  (g_exact_Of r1.2.2.1).bind fun r7 =>
  (g_exact_Of r2.1).bind fun r8 =>
  (g_exact_Sub r7 r8).bind fun r9 =>
  (g_scene_Mod x2 (800 : Int)).bind fun r10 =>
  (g_highwater_Fee r1.1 r2.2.1 r9.1 (IntKind.i64.wrap (r1.2.2.2 + r10))).bind fun r11 =>
  (g_exact_Sign r9).bind fun r12 =>
  (bif (decide (r12 ≤ (0 : Int))) then
  some false
else
  (g_exact_Of r2.2.1.1).bind fun r13 =>
  (g_exact_Sub r13 r9).bind fun r14 =>
  (bif (r11.2 == (0 : Int)) then
  (g_exact_Of r11.1).bind fun r15 =>
  (g_exact_Sign r15).bind fun r16 =>
  (bif (r16 == (0 : Int)) then
  (g_exact_Sign r14).bind fun r17 =>
  (bif (decide (r17 ≥ (0 : Int))) then
  (g_exact_Over (1 : Int) (1000000000 : Int)).bind fun r18 =>
  (g_exact_Less r14 r18).bind fun r19 =>
  (bif r19 then
  (bif (r2.2.1.2 == r1.2.2.2) then
  (g_law31_awake).bind fun r20 =>
  some r20
else
  some false)
else
  some false)
else
  some false)
else
  some false)
else
  some false))))

/-! fundadmin/fundadminlaw31.HighwaterScales -/
noncomputable def g_law31_HighwaterScales (x0 : (List Int)) (x1 : Int) (x2 : Int) : Option Bool :=
  (g_law31_made x0 x1).bind fun r1 =>
  (g_scene_Mod x2 (50 : Int)).bind fun r2 =>
  (g_exact_Over (IntKind.i64.wrap ((1 : Int) + r2)) (7 : Int)).bind fun r3 =>
  (g_exact_Of r1.2.1.1).bind fun r4 =>
  (g_exact_Mul r4 r3).bind fun r5 =>
  (g_highwater_Fee r1.1 r1.2.1 r1.2.2.1 r1.2.2.2).bind fun r6 =>
  (g_exact_Of r1.2.2.1).bind fun r7 =>
  (g_exact_Mul r7 r3).bind fun r8 =>
  (g_highwater_Fee r1.1 (r5.1, r1.2.1.2) r8.1 r1.2.2.2).bind fun r9 =>
  (g_scene_Ratio (0 : Int) (1 : Int)).bind fun r10 =>
  (g_highwater_Threshold (r1.1.1, (r10, r1.1.2.2)) r1.2.1 r1.2.2.2).bind fun r11 =>
  (bif (r6.2 == (0 : Int)) then
  (bif (r9.2 == (0 : Int)) then
  (bif (r11.2 == (0 : Int)) then
  let v12 : Bool := (((r11.1.1.1 == r1.2.1.1.1.1) && (List.isEqv r11.1.1.2 r1.2.1.1.1.2 (eqv (.int .u32)))) && ((r11.1.2.1 == r1.2.1.1.2.1) && (List.isEqv r11.1.2.2 r1.2.1.1.2.2 (eqv (.int .u32)))))
  (bif v12 then
  (g_exact_Of r6.1).bind fun r13 =>
  (g_exact_Mul r13 r3).bind fun r14 =>
  let v15 : Bool := (((r9.1.1.1 == r14.1.1.1) && (List.isEqv r9.1.1.2 r14.1.1.2 (eqv (.int .u32)))) && ((r9.1.2.1 == r14.1.2.1) && (List.isEqv r9.1.2.2 r14.1.2.2 (eqv (.int .u32)))))
  (bif v15 then
  (g_law31_awake).bind fun r16 =>
  some r16
else
  some false)
else
  some false)
else
  some false)
else
  some false)
else
  some false)

end Go.Ev
