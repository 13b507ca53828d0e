/- What the functions of the program and of its reference compute, as functions of plain data. -/
import Derived.Test.YtgadoabnjcahoaaGreatEvAV
set_option exponentiation.threshold 2000
namespace Go.Ev
set_option linter.unusedVariables false

/-! fundadmin/bigint.made -/
noncomputable def g_bigint_made (x0 : Bool) (x1 : (List Int)) : Option (Bool × (List Int)) :=
  (bif x0 then
  let v1 : Bool := (!(List.isEqv x1 (List.replicate 32 (0 : Int)) (eqv (.int .u32))))
  some (v1, x1)
else
  some (false, x1))

/-! fundadmin/bigint.FromInt -/
noncomputable def g_bigint_FromInt (x0 : Int) : Option (Bool × (List Int)) :=
  (bif (decide (x0 < (0 : Int))) then
  let v1 : Int := (IntKind.u32.wrap (IntKind.u64.wrap (0 - (IntKind.u64.wrap x0))))
  (bif decide ((32 : Int) < 0) then
  none
else
  let v2 : Int := ((IntKind.u64.wrap (0 - (IntKind.u64.wrap x0))).fdiv (2 ^ (min (32 : Int).toNat 64)))
  let v3 : (List Int) := (((List.replicate 32 (0 : Int)).set (0 : Int).toNat v1).set (1 : Int).toNat (IntKind.u32.wrap v2))
  (g_bigint_made (decide (x0 < (0 : Int))) v3).bind fun r4 =>
  some r4)
else
  (bif decide ((32 : Int) < 0) then
  none
else
  let v5 : Int := ((IntKind.u64.wrap x0).fdiv (2 ^ (min (32 : Int).toNat 64)))
  let v6 : (List Int) := (((List.replicate 32 (0 : Int)).set (0 : Int).toNat (IntKind.u32.wrap (IntKind.u64.wrap x0))).set (1 : Int).toNat (IntKind.u32.wrap v5))
  (g_bigint_made (decide (x0 < (0 : Int))) v6).bind fun r7 =>
  some r7))

/-! fundadmin/bigint.split -/
noncomputable def g_bigint_split (x0 : (Bool × (List Int))) : Option (Bool × (List Int)) :=
  (bif x0.1 then
  let v1 : Bool := (!(List.isEqv x0.2 (List.replicate 32 (0 : Int)) (eqv (.int .u32))))
  some (v1, x0.2)
else
  some (false, x0.2))

/-! (*fundadmin/bigint.mag).used -/
noncomputable def g_bigint_mag_used_L2 (x0 : (List Int)) (s2 : (Int × Unit)) : Option (Next (Int × Unit)) :=
  (bif (decide (s2.1 > (0 : Int))) then
  (bif (inb (IntKind.i64.wrap (s2.1 - (1 : Int))) 32) then
  let v3 : Int := (x0.getD (IntKind.i64.wrap (s2.1 - (1 : Int))).toNat (0 : Int))
  (bif (v3 == (0 : Int)) then
  some (.more ((IntKind.i64.wrap (s2.1 - (1 : Int))), ()))
else
  some (.out 0 (s2.1, ())))
else
  none)
else
  some (.out 0 (s2.1, ())))
noncomputable def g_bigint_mag_used (x0 : (List Int)) : Option (Int × (List Int)) :=
  (loopD (S := (Int × Unit)) (g_bigint_mag_used_L2 x0) ((32 : Int), ())).bind fun o3 =>
  some (o3.2.1, x0)

/-! math/bits.Len32 -/
def g_bits_Len32_s1 : ByteArray := ByteArray.mk #[0, 1, 2, 2, 3, 3, 3, 3, 4, 4, 4, 4, 4, 4, 4, 4, 5, 5, 5, 5, 5, 5, 5, 5, 5, 5, 5, 5, 5, 5, 5, 5, 6, 6, 6, 6, 6, 6, 6, 6, 6, 6, 6, 6, 6, 6, 6, 6, 6, 6, 6, 6, 6, 6, 6, 6, 6, 6, 6, 6, 6, 6, 6, 6, 7, 7, 7, 7, 7, 7, 7, 7, 7, 7, 7, 7, 7, 7, 7, 7, 7, 7, 7, 7, 7, 7, 7, 7, 7, 7, 7, 7, 7, 7, 7, 7, 7, 7, 7, 7, 7, 7, 7, 7, 7, 7, 7, 7, 7, 7, 7, 7, 7, 7, 7, 7, 7, 7, 7, 7, 7, 7, 7, 7, 7, 7, 7, 7, 8, 8, 8, 8, 8, 8, 8, 8, 8, 8, 8, 8, 8, 8, 8, 8, 8, 8, 8, 8, 8, 8, 8, 8, 8, 8, 8, 8, 8, 8, 8, 8, 8, 8, 8, 8, 8, 8, 8, 8, 8, 8, 8, 8, 8, 8, 8, 8, 8, 8, 8, 8, 8, 8, 8, 8, 8, 8, 8, 8, 8, 8, 8, 8, 8, 8, 8, 8, 8, 8, 8, 8, 8, 8, 8, 8, 8, 8, 8, 8, 8, 8, 8, 8, 8, 8, 8, 8, 8, 8, 8, 8, 8, 8, 8, 8, 8, 8, 8, 8, 8, 8, 8, 8, 8, 8, 8, 8, 8, 8, 8, 8, 8, 8, 8, 8, 8, 8, 8, 8, 8, 8, 8, 8, 8, 8, 8, 8]
noncomputable def g_bits_Len32_T8 (x0 : Int) : Option Int :=
  (bif decide ((8 : Int) < 0) then
  none
else
  let v2 : Int := ((x0.fdiv (2 ^ (min (16 : Int).toNat 32))).fdiv (2 ^ (min (8 : Int).toNat 32)))
  (bif (inb (IntKind.u8.wrap v2) g_bits_Len32_s1.size) then
  let v3 : Int := ((g_bits_Len32_s1.data.toList.getD (IntKind.u8.wrap v2).toNat 0).toNat : Int)
  let v4 : Int := (IntKind.i64.wrap ((IntKind.i64.wrap ((16 : Int) + (8 : Int))) + (IntKind.i64.wrap v3)))
  some v4
else
  none))

noncomputable def g_bits_Len32_T8_2 (x0 : Int) : Option Int :=
  (bif decide ((8 : Int) < 0) then
  none
else
  let v2 : Int := (IntKind.u8.wrap (x0.fdiv (2 ^ (min (8 : Int).toNat 32))))
  (bif (inb v2 g_bits_Len32_s1.size) then
  let v3 : Int := ((g_bits_Len32_s1.data.toList.getD v2.toNat 0).toNat : Int)
  let v4 : Int := (IntKind.i64.wrap ((IntKind.i64.wrap ((0 : Int) + (8 : Int))) + (IntKind.i64.wrap v3)))
  some v4
else
  none))
noncomputable def g_bits_Len32 (x0 : Int) : Option Int :=
  (bif (decide (x0 ≥ (65536 : Int))) then
  (bif decide ((16 : Int) < 0) then
  none
else
  let v1 : Bool := (decide ((x0.fdiv (2 ^ (min (16 : Int).toNat 32))) ≥ (256 : Int)))
  (bif v1 then
  (g_bits_Len32_T8 x0)
else
  let v5 : Int := (IntKind.u8.wrap (x0.fdiv (2 ^ (min (16 : Int).toNat 32))))
  (bif (inb v5 g_bits_Len32_s1.size) then
  let v6 : Int := ((g_bits_Len32_s1.data.toList.getD v5.toNat 0).toNat : Int)
  let v7 : Int := (IntKind.i64.wrap ((16 : Int) + (IntKind.i64.wrap v6)))
  some v7
else
  none)))
else
  (bif (decide (x0 ≥ (256 : Int))) then
  (g_bits_Len32_T8_2 x0)
else
  (bif (inb (IntKind.u8.wrap x0) g_bits_Len32_s1.size) then
  let v11 : Int := ((g_bits_Len32_s1.data.toList.getD (IntKind.u8.wrap x0).toNat 0).toNat : Int)
  let v12 : Int := (IntKind.i64.wrap ((0 : Int) + (IntKind.i64.wrap v11)))
  some v12
else
  none)))

/-! (*fundadmin/bigint.mag).bits -/
noncomputable def g_bigint_mag_bits (x0 : (List Int)) : Option (Int × (List Int)) :=
  (g_bigint_mag_used x0).bind fun r1 =>
  (bif (r1.1 == (0 : Int)) then
  some ((0 : Int), r1.2)
else
  let v2 : Int := (IntKind.i64.wrap ((32 : Int) * (IntKind.i64.wrap (r1.1 - (1 : Int)))))
  (bif (inb (IntKind.i64.wrap (r1.1 - (1 : Int))) 32) then
  let v3 : Int := (r1.2.getD (IntKind.i64.wrap (r1.1 - (1 : Int))).toNat (0 : Int))
  (g_bits_Len32 v3).bind fun r4 =>
  some ((IntKind.i64.wrap (v2 + r4)), r1.2)
else
  none))

/-! fundadmin/bigint.Bits -/
noncomputable def g_bigint_Bits (x0 : (Bool × (List Int))) : Option Int :=
  (g_bigint_split x0).bind fun r1 =>
  (g_bigint_mag_bits r1.2).bind fun r2 =>
  some r2.1

/-! fundadmin/ratio.fits -/
noncomputable def g_ratio_fits (x0 : ((Bool × (List Int)) × (Bool × (List Int)))) : Option Bool :=
  (g_bigint_Bits x0.1).bind fun r1 =>
  (bif (decide (r1 ≤ (480 : Int))) then
  (g_bigint_Bits x0.2).bind fun r2 =>
  some (decide (r2 ≤ (480 : Int)))
else
  some false)

/-! fundadmin/bigint.Sign -/
noncomputable def g_bigint_Sign (x0 : (Bool × (List Int))) : Option Int :=
  (g_bigint_split x0).bind fun r1 =>
  (bif r1.1 then
  some (-1 : Int)
else
  let v2 : Bool := (List.isEqv r1.2 (List.replicate 32 (0 : Int)) (eqv (.int .u32)))
  (bif v2 then
  some (0 : Int)
else
  some (1 : Int)))

/-! fundadmin/ratio.canonical -/
noncomputable def g_ratio_canonical (x0 : (Bool × (List Int))) : Option Bool :=
  (bif (!x0.1) then
  some true
else
  (g_bigint_Sign x0).bind fun r1 =>
  some (decide (r1 < (0 : Int))))

/-! fundadmin/bigint.compare -/
noncomputable def g_bigint_compare_L2 (x0 : (List Int)) (x1 : (List Int)) (s3 : ((Int × Int) × Unit)) : Option (Next ((Int × Int) × Unit)) :=
  (bif (decide (s3.1.2 ≥ (0 : Int))) then
  (bif (inb s3.1.2 32) then
  (bif (inb s3.1.2 32) then
  let v4 : Bool := (decide ((x0.getD s3.1.2.toNat (0 : Int)) < (x1.getD s3.1.2.toNat (0 : Int))))
  (bif v4 then
  some (.out 0 (((-1 : Int), s3.1.2), ()))
else
  (bif (inb s3.1.2 32) then
  (bif (inb s3.1.2 32) then
  let v5 : Bool := (decide ((x0.getD s3.1.2.toNat (0 : Int)) > (x1.getD s3.1.2.toNat (0 : Int))))
  (bif v5 then
  some (.out 0 (((1 : Int), s3.1.2), ()))
else
  some (.more ((s3.1.1, (IntKind.i64.wrap (s3.1.2 - (1 : Int)))), ())))
else
  none)
else
  none))
else
  none)
else
  none)
else
  some (.out 1 ((s3.1.1, s3.1.2), ())))
noncomputable def g_bigint_compare (x0 : (List Int)) (x1 : (List Int)) : Option (Int × ((List Int) × (List Int))) :=
  (loopD (S := ((Int × Int) × Unit)) (g_bigint_compare_L2 x0 x1) (((0 : Int), (31 : Int)), ())).bind fun o4 =>
  (bif Nat.beq o4.1 0 then
  some (o4.2.1.1, (x0, x1))
else
  some ((0 : Int), (x0, x1)))

/-! math/bits.Div32 -/
noncomputable def g_bits_Div32_E15 (x0 : Int) (x1 : Int) (x2 : Int) : Option (Int × Int) :=
  (bif decide ((32 : Int) < 0) then
  none
else
  let v4 : Int := (IntKind.u64.wrap ((IntKind.u64.wrap x0) * 2 ^ (min (32 : Int).toNat 64)))
  let v5 : Int := (IntKind.u64.wrap ((((BitVec.ofInt 64 v4) ||| (BitVec.ofInt 64 (IntKind.u64.wrap x1))).toNat : Int)))
  (bif decide ((IntKind.u64.wrap x2) = 0) then
  none
else
  let v6 : Int := (IntKind.u64.wrap (v5.tdiv (IntKind.u64.wrap x2)))
  (bif decide ((IntKind.u64.wrap x2) = 0) then
  none
else
  let v7 : Int := (IntKind.u32.wrap (v5.tmod (IntKind.u64.wrap x2)))
  some ((IntKind.u32.wrap v6), v7))))
noncomputable def g_bits_Div32 (x0 : Int) (x1 : Int) (x2 : Int) : Option (Int × Int) :=
  (bif (x2 != (0 : Int)) then
  (bif (decide (x2 ≤ x0)) then
  none
else
  (g_bits_Div32_E15 x0 x1 x2))
else
  (g_bits_Div32_E15 x0 x1 x2))

/-! (*fundadmin/bigint.mag).short -/
noncomputable def g_bigint_mag_short_L3 (x1 : Int) (s2 : ((Int × Int) × (List Int))) : Option (Next ((Int × Int) × (List Int))) :=
  (bif (decide (s2.1.2 ≥ (0 : Int))) then
  (bif (inb s2.1.2 32) then
  (g_bits_Div32 s2.1.1 (s2.2.getD s2.1.2.toNat (0 : Int)) x1).bind fun r3 =>
  (bif (inb s2.1.2 32) then
  some (.more ((r3.2, (IntKind.i64.wrap (s2.1.2 - (1 : Int)))), (s2.2.set s2.1.2.toNat r3.1)))
else
  none)
else
  none)
else
  some (.out 0 ((s2.1.1, s2.1.2), s2.2)))
noncomputable def g_bigint_mag_short (x0 : (List Int)) (x1 : Int) : Option (Int × (List Int)) :=
  (g_bigint_mag_used x0).bind fun r1 =>
  (loopD (S := ((Int × Int) × (List Int))) (g_bigint_mag_short_L3 x1) (((0 : Int), (IntKind.i64.wrap (r1.1 - (1 : Int)))), r1.2)).bind fun o4 =>
  some (o4.2.1.1, o4.2.2)

/-! math/bits.LeadingZeros32 -/
noncomputable def g_bits_LeadingZeros32 (x0 : Int) : Option Int :=
  (g_bits_Len32 x0).bind fun r1 =>
  some (IntKind.i64.wrap ((32 : Int) - r1))

/-! math/bits.Sub32 -/
noncomputable def g_bits_Sub32 (x0 : Int) (x1 : Int) (x2 : Int) : Option (Int × Int) :=
  let v1 : Int := (IntKind.u32.wrap ((IntKind.u32.wrap (x0 - x1)) - x2))
  let v2 : Int := (IntKind.u32.wrap (((BitVec.ofInt 32 (4294967295)) ^^^ (BitVec.ofInt 32 x0)).toNat : Int))
  let v3 : Int := (IntKind.u32.wrap ((((BitVec.ofInt 32 v2) &&& (BitVec.ofInt 32 x1)).toNat : Int)))
  let v4 : Int := (IntKind.u32.wrap ((((BitVec.ofInt 32 x0) ^^^ (BitVec.ofInt 32 x1)).toNat : Int)))
  let v5 : Int := (IntKind.u32.wrap (((BitVec.ofInt 32 (4294967295)) ^^^ (BitVec.ofInt 32 v4)).toNat : Int))
  let v6 : Int := (IntKind.u32.wrap ((((BitVec.ofInt 32 v5) &&& (BitVec.ofInt 32 v1)).toNat : Int)))
  let v7 : Int := (IntKind.u32.wrap ((((BitVec.ofInt 32 v3) ||| (BitVec.ofInt 32 v6)).toNat : Int)))
  (bif decide ((31 : Int) < 0) then
  none
else
  some (v1, (v7.fdiv (2 ^ (min (31 : Int).toNat 32)))))

/-! math/bits.Add32 -/
noncomputable def g_bits_Add32 (x0 : Int) (x1 : Int) (x2 : Int) : Option (Int × Int) :=
  let v1 : Int := (IntKind.u64.wrap ((IntKind.u64.wrap x0) + (IntKind.u64.wrap x1)))
  let v2 : Int := (IntKind.u32.wrap (IntKind.u64.wrap (v1 + (IntKind.u64.wrap x2))))
  (bif decide ((32 : Int) < 0) then
  none
else
  let v3 : Int := ((IntKind.u64.wrap (v1 + (IntKind.u64.wrap x2))).fdiv (2 ^ (min (32 : Int).toNat 64)))
  some (v2, (IntKind.u32.wrap v3)))

/-! fundadmin/bigint.divide -/
noncomputable def g_bigint_divide_L12 (r1 : Int) (r2 : (Int × ((List Int) × (List Int)))) (s3 : (Int × (List Int))) : Option (Next (Int × (List Int))) :=
  (bif (decide (s3.1 ≥ (0 : Int))) then
  (bif (inb s3.1 32) then
  (bif decide (r1 < 0) then
  none
else
  let v4 : Int := (IntKind.u32.wrap ((r2.2.2.getD s3.1.toNat (0 : Int)) * 2 ^ (min r1.toNat 32)))
  (bif (inb s3.1 32) then
  (bif (decide (s3.1 > (0 : Int))) then
  (bif (decide (r1 > (0 : Int))) then
  (bif (inb s3.1 32) then
  let v5 : Int := ((s3.2.set s3.1.toNat v4).getD s3.1.toNat (0 : Int))
  (bif (inb (IntKind.i64.wrap (s3.1 - (1 : Int))) 32) then
  let v6 : Int := (r2.2.2.getD (IntKind.i64.wrap (s3.1 - (1 : Int))).toNat (0 : Int))
  (bif decide ((IntKind.i64.wrap ((32 : Int) - r1)) < 0) then
  none
else
  let v7 : Int := (v6.fdiv (2 ^ (min (IntKind.i64.wrap ((32 : Int) - r1)).toNat 32)))
  let v8 : Int := (IntKind.u32.wrap ((((BitVec.ofInt 32 v5) ||| (BitVec.ofInt 32 v7)).toNat : Int)))
  (bif (inb s3.1 32) then
  some (.more ((IntKind.i64.wrap (s3.1 - (1 : Int))), ((s3.2.set s3.1.toNat v4).set s3.1.toNat v8)))
else
  none))
else
  none)
else
  none)
else
  some (.more ((IntKind.i64.wrap (s3.1 - (1 : Int))), (s3.2.set s3.1.toNat v4))))
else
  some (.more ((IntKind.i64.wrap (s3.1 - (1 : Int))), (s3.2.set s3.1.toNat v4))))
else
  none))
else
  none)
else
  some (.out 0 (s3.1, s3.2)))

noncomputable def g_bigint_divide_T117 (s1 : (Int × (List Int))) (v2 : Int) (r3 : (Int × ((List Int) × (List Int)))) (r4 : Int) : Option (Next (Int × (List Int))) :=
  (bif (inb s1.1 33) then
  let v5 : Int := ((s1.2.set s1.1.toNat v2).getD s1.1.toNat (0 : Int))
  (bif (inb (IntKind.i64.wrap (s1.1 - (1 : Int))) 32) then
  let v6 : Int := (r3.2.1.getD (IntKind.i64.wrap (s1.1 - (1 : Int))).toNat (0 : Int))
  (bif decide ((IntKind.i64.wrap ((32 : Int) - r4)) < 0) then
  none
else
  let v7 : Int := (v6.fdiv (2 ^ (min (IntKind.i64.wrap ((32 : Int) - r4)).toNat 32)))
  let v8 : Int := (IntKind.u32.wrap ((((BitVec.ofInt 32 v5) ||| (BitVec.ofInt 32 v7)).toNat : Int)))
  (bif (inb s1.1 33) then
  let v9 : (List Int) := ((s1.2.set s1.1.toNat v2).set s1.1.toNat v8)
  some (.more ((IntKind.i64.wrap (s1.1 - (1 : Int))), v9))
else
  none))
else
  none)
else
  none)

noncomputable def g_bigint_divide_T117_2 (s1 : (Int × (List Int))) (r2 : (Int × ((List Int) × (List Int)))) (r3 : Int) : Option (Next (Int × (List Int))) :=
  (bif (inb s1.1 33) then
  (bif (inb (IntKind.i64.wrap (s1.1 - (1 : Int))) 32) then
  let v4 : Int := (r2.2.1.getD (IntKind.i64.wrap (s1.1 - (1 : Int))).toNat (0 : Int))
  (bif decide ((IntKind.i64.wrap ((32 : Int) - r3)) < 0) then
  none
else
  let v5 : Int := (v4.fdiv (2 ^ (min (IntKind.i64.wrap ((32 : Int) - r3)).toNat 32)))
  let v6 : Int := (IntKind.u32.wrap ((((BitVec.ofInt 32 (s1.2.getD s1.1.toNat (0 : Int))) ||| (BitVec.ofInt 32 v5)).toNat : Int)))
  (bif (inb s1.1 33) then
  some (.more ((IntKind.i64.wrap (s1.1 - (1 : Int))), (s1.2.set s1.1.toNat v6)))
else
  none))
else
  none)
else
  none)

noncomputable def g_bigint_divide_L18 (r1 : (Int × (List Int))) (r2 : Int) (r3 : (Int × ((List Int) × (List Int)))) (s4 : (Int × (List Int))) : Option (Next (Int × (List Int))) :=
  (bif (decide (s4.1 ≥ (0 : Int))) then
  (bif (decide (s4.1 < r1.1)) then
  (bif (inb s4.1 32) then
  (bif decide (r2 < 0) then
  none
else
  let v5 : Int := (IntKind.u32.wrap ((r3.2.1.getD s4.1.toNat (0 : Int)) * 2 ^ (min r2.toNat 32)))
  (bif (inb s4.1 33) then
  (bif (decide (s4.1 > (0 : Int))) then
  (bif (decide (r2 > (0 : Int))) then
  (g_bigint_divide_T117 s4 v5 r3 r2)
else
  some (.more ((IntKind.i64.wrap (s4.1 - (1 : Int))), (s4.2.set s4.1.toNat v5))))
else
  some (.more ((IntKind.i64.wrap (s4.1 - (1 : Int))), (s4.2.set s4.1.toNat v5))))
else
  none))
else
  none)
else
  (bif (decide (s4.1 > (0 : Int))) then
  (bif (decide (r2 > (0 : Int))) then
  (g_bigint_divide_T117_2 s4 r3 r2)
else
  some (.more ((IntKind.i64.wrap (s4.1 - (1 : Int))), s4.2)))
else
  some (.more ((IntKind.i64.wrap (s4.1 - (1 : Int))), s4.2))))
else
  some (.out 0 (s4.1, s4.2)))

noncomputable def g_bigint_divide_L30 (v1 : Int) (v2 : Int) (s3 : (Int × ((List Int) × (List Int)))) (r4 : (Int × (List Int))) (s5 : ((Int × Int) × Unit)) : Option (Next ((Int × Int) × Unit)) :=
  (bif (decide (s5.1.1 > (4294967295 : Int))) then
  let v6 : Int := (IntKind.u64.wrap (s5.1.2 + (IntKind.u64.wrap v1)))
  (bif (decide (v6 > (4294967295 : Int))) then
  some (.out 0 (((IntKind.u64.wrap (s5.1.1 - (1 : Int))), v6), ()))
else
  some (.more (((IntKind.u64.wrap (s5.1.1 - (1 : Int))), v6), ())))
else
  let v7 : Int := (IntKind.u64.wrap (s5.1.1 * (IntKind.u64.wrap v2)))
  (bif decide ((32 : Int) < 0) then
  none
else
  let v8 : Int := (IntKind.u64.wrap (s5.1.2 * 2 ^ (min (32 : Int).toNat 64)))
  let v9 : Int := (IntKind.i64.wrap ((IntKind.i64.wrap (s3.1 + r4.1)) - (2 : Int)))
  (bif (inb v9 33) then
  let v10 : Int := (IntKind.u64.wrap (s3.2.2.getD v9.toNat (0 : Int)))
  let v11 : Int := (IntKind.u64.wrap ((((BitVec.ofInt 64 v8) ||| (BitVec.ofInt 64 v10)).toNat : Int)))
  (bif (decide (v7 > v11)) then
  let v12 : Int := (IntKind.u64.wrap (s5.1.2 + (IntKind.u64.wrap v1)))
  (bif (decide (v12 > (4294967295 : Int))) then
  some (.out 0 (((IntKind.u64.wrap (s5.1.1 - (1 : Int))), v12), ()))
else
  some (.more (((IntKind.u64.wrap (s5.1.1 - (1 : Int))), v12), ())))
else
  some (.out 0 ((s5.1.1, s5.1.2), ())))
else
  none)))

noncomputable def g_bigint_divide_L37 (r1 : (Int × (List Int))) (o2 : (Nat × (Int × (List Int)))) (o3 : (Nat × ((Int × Int) × Unit))) (s4 : (Int × ((List Int) × (List Int)))) (s5 : ((Int × (Int × Int)) × (List Int))) : Option (Next ((Int × (Int × Int)) × (List Int))) :=
  (bif (decide (s5.1.2.2 < r1.1)) then
  (bif (inb s5.1.2.2 32) then
  let v6 : Int := (IntKind.u64.wrap (o2.2.2.getD s5.1.2.2.toNat (0 : Int)))
  let v7 : Int := (IntKind.u64.wrap ((IntKind.u64.wrap (o3.2.1.1 * v6)) + s5.1.2.1))
  (bif decide ((32 : Int) < 0) then
  none
else
  (bif (inb (IntKind.i64.wrap (s5.1.2.2 + s4.1)) 33) then
  let v8 : Int := (s5.2.getD (IntKind.i64.wrap (s5.1.2.2 + s4.1)).toNat (0 : Int))
  (g_bits_Sub32 v8 (IntKind.u32.wrap v7) s5.1.1).bind fun r9 =>
  (bif (inb (IntKind.i64.wrap (s5.1.2.2 + s4.1)) 33) then
  let v10 : (List Int) := (s5.2.set (IntKind.i64.wrap (s5.1.2.2 + s4.1)).toNat r9.1)
  some (.more ((r9.2, ((v7.fdiv (2 ^ (min (32 : Int).toNat 64))), (IntKind.i64.wrap (s5.1.2.2 + (1 : Int))))), v10))
else
  none)
else
  none))
else
  none)
else
  some (.out 0 ((s5.1.1, (s5.1.2.1, s5.1.2.2)), s5.2)))

noncomputable def g_bigint_divide_L48 (r1 : (Int × (List Int))) (s2 : (Int × ((List Int) × (List Int)))) (o3 : (Nat × (Int × (List Int)))) (s4 : ((Int × Int) × (List Int))) : Option (Next ((Int × Int) × (List Int))) :=
  (bif (decide (s4.1.2 < r1.1)) then
  (bif (inb (IntKind.i64.wrap (s4.1.2 + s2.1)) 33) then
  let v5 : Int := (s4.2.getD (IntKind.i64.wrap (s4.1.2 + s2.1)).toNat (0 : Int))
  (bif (inb s4.1.2 32) then
  (g_bits_Add32 v5 (o3.2.2.getD s4.1.2.toNat (0 : Int)) s4.1.1).bind fun r6 =>
  (bif (inb (IntKind.i64.wrap (s4.1.2 + s2.1)) 33) then
  let v7 : (List Int) := (s4.2.set (IntKind.i64.wrap (s4.1.2 + s2.1)).toNat r6.1)
  some (.more ((r6.2, (IntKind.i64.wrap (s4.1.2 + (1 : Int)))), v7))
else
  none)
else
  none)
else
  none)
else
  some (.out 0 ((s4.1.1, s4.1.2), s4.2)))

noncomputable def g_bigint_divide_L26 (r1 : (Int × (List Int))) (v2 : Int) (v3 : Int) (o4 : (Nat × (Int × (List Int)))) (s5 : (Int × ((List Int) × (List Int)))) : Option (Next (Int × ((List Int) × (List Int)))) :=
  (bif (decide (s5.1 ≥ (0 : Int))) then
  (bif (inb (IntKind.i64.wrap (s5.1 + r1.1)) 33) then
  let v6 : Int := (s5.2.2.getD (IntKind.i64.wrap (s5.1 + r1.1)).toNat (0 : Int))
  (bif decide ((32 : Int) < 0) then
  none
else
  let v7 : Int := (IntKind.u64.wrap ((IntKind.u64.wrap v6) * 2 ^ (min (32 : Int).toNat 64)))
  let v8 : Int := (IntKind.i64.wrap ((IntKind.i64.wrap (s5.1 + r1.1)) - (1 : Int)))
  (bif (inb v8 33) then
  let v9 : Int := (IntKind.u64.wrap (s5.2.2.getD v8.toNat (0 : Int)))
  let v10 : Int := (IntKind.u64.wrap ((((BitVec.ofInt 64 v7) ||| (BitVec.ofInt 64 v9)).toNat : Int)))
  (bif decide ((IntKind.u64.wrap v2) = 0) then
  none
else
  let v11 : Int := (IntKind.u64.wrap (v10.tdiv (IntKind.u64.wrap v2)))
  (bif decide ((IntKind.u64.wrap v2) = 0) then
  none
else
  (loopD (S := ((Int × Int) × Unit)) (g_bigint_divide_L30 v2 v3 s5 r1) ((v11, (v10.tmod (IntKind.u64.wrap v2))), ())).bind fun o12 =>
  (loopD (S := ((Int × (Int × Int)) × (List Int))) (g_bigint_divide_L37 r1 o4 o12 s5) (((0 : Int), ((0 : Int), (0 : Int))), s5.2.2)).bind fun o13 =>
  (bif (inb (IntKind.i64.wrap (s5.1 + r1.1)) 33) then
  let v14 : Int := (o13.2.2.getD (IntKind.i64.wrap (s5.1 + r1.1)).toNat (0 : Int))
  (g_bits_Sub32 v14 (IntKind.u32.wrap o13.2.1.2.1) o13.2.1.1).bind fun r15 =>
  (bif (inb (IntKind.i64.wrap (s5.1 + r1.1)) 33) then
  let v16 : (List Int) := (o13.2.2.set (IntKind.i64.wrap (s5.1 + r1.1)).toNat r15.1)
  (bif (decide (r15.2 > (0 : Int))) then
  (loopD (S := ((Int × Int) × (List Int))) (g_bigint_divide_L48 r1 s5 o4) (((0 : Int), (0 : Int)), v16)).bind fun o17 =>
  (bif (inb (IntKind.i64.wrap (s5.1 + r1.1)) 33) then
  let v18 : Int := (o17.2.2.getD (IntKind.i64.wrap (s5.1 + r1.1)).toNat (0 : Int))
  (bif (inb (IntKind.i64.wrap (s5.1 + r1.1)) 33) then
  let v19 : (List Int) := (o17.2.2.set (IntKind.i64.wrap (s5.1 + r1.1)).toNat (IntKind.u32.wrap (v18 + o17.2.1.1)))
  let v20 : Int := (IntKind.u32.wrap (IntKind.u64.wrap (o12.2.1.1 - (1 : Int))))
  (bif (inb s5.1 32) then
  some (.more ((IntKind.i64.wrap (s5.1 - (1 : Int))), ((s5.2.1.set s5.1.toNat v20), v19)))
else
  none)
else
  none)
else
  none)
else
  (bif (inb s5.1 32) then
  let v21 : (List Int) := (s5.2.1.set s5.1.toNat (IntKind.u32.wrap o12.2.1.1))
  some (.more ((IntKind.i64.wrap (s5.1 - (1 : Int))), (v21, v16)))
else
  none))
else
  none)
else
  none)))
else
  none))
else
  none)
else
  some (.out 0 (s5.1, (s5.2.1, s5.2.2))))

noncomputable def g_bigint_divide_L55 (r1 : (Int × (List Int))) (r2 : Int) (o3 : (Nat × (Int × ((List Int) × (List Int))))) (s4 : (Int × (List Int))) : Option (Next (Int × (List Int))) :=
  (bif (decide (s4.1 < r1.1)) then
  (bif (inb s4.1 33) then
  (bif decide (r2 < 0) then
  none
else
  let v5 : Int := ((o3.2.2.2.getD s4.1.toNat (0 : Int)).fdiv (2 ^ (min r2.toNat 32)))
  (bif (inb s4.1 32) then
  (bif (decide (r2 > (0 : Int))) then
  (bif (inb s4.1 32) then
  let v6 : Int := ((s4.2.set s4.1.toNat v5).getD s4.1.toNat (0 : Int))
  (bif (inb (IntKind.i64.wrap (s4.1 + (1 : Int))) 33) then
  let v7 : Int := (o3.2.2.2.getD (IntKind.i64.wrap (s4.1 + (1 : Int))).toNat (0 : Int))
  (bif decide ((IntKind.i64.wrap ((32 : Int) - r2)) < 0) then
  none
else
  let v8 : Int := (IntKind.u32.wrap (v7 * 2 ^ (min (IntKind.i64.wrap ((32 : Int) - r2)).toNat 32)))
  let v9 : Int := (IntKind.u32.wrap ((((BitVec.ofInt 32 v6) ||| (BitVec.ofInt 32 v8)).toNat : Int)))
  (bif (inb s4.1 32) then
  let v10 : (List Int) := ((s4.2.set s4.1.toNat v5).set s4.1.toNat v9)
  some (.more ((IntKind.i64.wrap (s4.1 + (1 : Int))), v10))
else
  none))
else
  none)
else
  none)
else
  some (.more ((IntKind.i64.wrap (s4.1 + (1 : Int))), (s4.2.set s4.1.toNat v5))))
else
  none))
else
  none)
else
  some (.out 0 (s4.1, s4.2)))
noncomputable def g_bigint_divide (x0 : (List Int)) (x1 : (List Int)) : Option (((List Int) × (List Int)) × ((List Int) × (List Int))) :=
  (g_bigint_mag_used x1).bind fun r1 =>
  (g_bigint_mag_used x0).bind fun r2 =>
  (g_bigint_compare r2.2 r1.2).bind fun r3 =>
  (bif (decide (r3.1 < (0 : Int))) then
  some (((List.replicate 32 (0 : Int)), r3.2.1), (r3.2.1, r3.2.2))
else
  (bif (r1.1 == (1 : Int)) then
  (bif (inb (0 : Int) 32) then
  (g_bigint_mag_short r3.2.1 (r3.2.2.getD (0 : Int).toNat (0 : Int))).bind fun r4 =>
  (bif (inb (0 : Int) 32) then
  let v5 : (List Int) := ((List.replicate 32 (0 : Int)).set (0 : Int).toNat r4.1)
  some ((r4.2, v5), (r3.2.1, r3.2.2))
else
  none)
else
  none)
else
  (bif (inb (IntKind.i64.wrap (r1.1 - (1 : Int))) 32) then
  let v6 : Int := (r3.2.2.getD (IntKind.i64.wrap (r1.1 - (1 : Int))).toNat (0 : Int))
  (g_bits_LeadingZeros32 v6).bind fun r7 =>
  (loopD (S := (Int × (List Int))) (g_bigint_divide_L12 r7 r3) ((IntKind.i64.wrap (r1.1 - (1 : Int))), (List.replicate 32 (0 : Int)))).bind fun o14 =>
  (loopD (S := (Int × (List Int))) (g_bigint_divide_L18 r2 r7 r3) (r2.1, (List.replicate 33 (0 : Int)))).bind fun o25 =>
  (bif (inb (IntKind.i64.wrap (r1.1 - (1 : Int))) 32) then
  let v26 : Int := (o14.2.2.getD (IntKind.i64.wrap (r1.1 - (1 : Int))).toNat (0 : Int))
  (bif (inb (IntKind.i64.wrap (r1.1 - (2 : Int))) 32) then
  let v27 : Int := (o14.2.2.getD (IntKind.i64.wrap (r1.1 - (2 : Int))).toNat (0 : Int))
  (loopD (S := (Int × ((List Int) × (List Int)))) (g_bigint_divide_L26 r1 v26 v27 o14) ((IntKind.i64.wrap (r2.1 - r1.1)), ((List.replicate 32 (0 : Int)), o25.2.2))).bind fun o63 =>
  (loopD (S := (Int × (List Int))) (g_bigint_divide_L55 r1 r7 o63) ((0 : Int), (List.replicate 32 (0 : Int)))).bind fun o71 =>
  some ((o63.2.2.1, o71.2.2), (r3.2.1, r3.2.2))
else
  none)
else
  none)
else
  none)))

/-! fundadmin/bigint.Gcd -/
noncomputable def g_bigint_Gcd_L3 (s1 : (Unit × ((List Int) × (List Int)))) : Option (Next (Unit × ((List Int) × (List Int)))) :=
  let v2 : Bool := (!(List.isEqv s1.2.2 (List.replicate 32 (0 : Int)) (eqv (.int .u32))))
  (bif v2 then
  (g_bigint_divide s1.2.1 s1.2.2).bind fun r3 =>
  some (.more ((), (r3.2.2, r3.1.2)))
else
  some (.out 0 ((), (s1.2.1, s1.2.2))))
noncomputable def g_bigint_Gcd (x0 : (Bool × (List Int))) (x1 : (Bool × (List Int))) : Option (Bool × (List Int)) :=
  (g_bigint_split x0).bind fun r1 =>
  (g_bigint_split x1).bind fun r2 =>
  (loopD (S := (Unit × ((List Int) × (List Int)))) g_bigint_Gcd_L3 ((), (r1.2, r2.2))).bind fun o6 =>
  (g_bigint_made false o6.2.2.1).bind fun r7 =>
  some r7

/-! fundadmin/ratio.Valid -/
noncomputable def g_ratio_Valid (x0 : ((Bool × (List Int)) × (Bool × (List Int)))) : Option Bool :=
  (g_ratio_fits x0).bind fun r1 =>
  (bif r1 then
  (g_ratio_canonical x0.1).bind fun r2 =>
  (bif r2 then
  (g_ratio_canonical x0.2).bind fun r3 =>
  (bif r3 then
  (g_bigint_Sign x0.2).bind fun r4 =>
  (bif (decide (r4 > (0 : Int))) then
  (g_bigint_Gcd x0.1 x0.2).bind fun r5 =>
  (g_bigint_FromInt (1 : Int)).bind fun r6 =>
  let v7 : Bool := ((r5.1 == r6.1) && (List.isEqv r5.2 r6.2 (eqv (.int .u32))))
  some v7
else
  some false)
else
  some false)
else
  some false)
else
  some false)

/-! fundadmin/bigint.Cmp -/
noncomputable def g_bigint_Cmp (x0 : (Bool × (List Int))) (x1 : (Bool × (List Int))) : Option Int :=
  (g_bigint_Sign x0).bind fun r1 =>
  (g_bigint_Sign x1).bind fun r2 =>
  (bif (r1 != r2) then
  (bif (decide (r1 < r2)) then
  some (-1 : Int)
else
  some (1 : Int))
else
  (g_bigint_split x0).bind fun r3 =>
  (g_bigint_split x1).bind fun r4 =>
  (g_bigint_compare r3.2 r4.2).bind fun r5 =>
  some (IntKind.i64.wrap (r1 * r5.1)))

/-! fundadmin/bigint.times -/
noncomputable def g_bigint_times_L8 (r1 : (Int × (List Int))) (s2 : (Int × (List Int))) (r3 : (Int × (List Int))) (s4 : ((Int × Int) × (List Int))) : Option (Next ((Int × Int) × (List Int))) :=
  (bif (decide (s4.1.2 < r1.1)) then
  (bif (inb s2.1 32) then
  let v5 : Int := (IntKind.u64.wrap (r3.2.getD s2.1.toNat (0 : Int)))
  (bif (inb s4.1.2 32) then
  let v6 : Int := (IntKind.u64.wrap (r1.2.getD s4.1.2.toNat (0 : Int)))
  (bif (inb (IntKind.i64.wrap (s2.1 + s4.1.2)) 64) then
  let v7 : Int := (s4.2.getD (IntKind.i64.wrap (s2.1 + s4.1.2)).toNat (0 : Int))
  let v8 : Int := (IntKind.u64.wrap ((IntKind.u64.wrap (v5 * v6)) + (IntKind.u64.wrap v7)))
  let v9 : Int := (IntKind.u32.wrap (IntKind.u64.wrap (v8 + s4.1.1)))
  (bif decide ((32 : Int) < 0) then
  none
else
  let v10 : Int := ((IntKind.u64.wrap (v8 + s4.1.1)).fdiv (2 ^ (min (32 : Int).toNat 64)))
  (bif (inb (IntKind.i64.wrap (s2.1 + s4.1.2)) 64) then
  let v11 : (List Int) := (s4.2.set (IntKind.i64.wrap (s2.1 + s4.1.2)).toNat v9)
  some (.more ((v10, (IntKind.i64.wrap (s4.1.2 + (1 : Int)))), v11))
else
  none))
else
  none)
else
  none)
else
  none)
else
  some (.out 0 ((s4.1.1, s4.1.2), s4.2)))

noncomputable def g_bigint_times_L4 (r1 : (Int × (List Int))) (r2 : (Int × (List Int))) (s3 : (Int × (List Int))) : Option (Next (Int × (List Int))) :=
  (bif (decide (s3.1 < r1.1)) then
  (loopD (S := ((Int × Int) × (List Int))) (g_bigint_times_L8 r2 s3 r1) (((0 : Int), (0 : Int)), s3.2)).bind fun o4 =>
  (bif (inb (IntKind.i64.wrap (s3.1 + r2.1)) 64) then
  let v5 : (List Int) := (o4.2.2.set (IntKind.i64.wrap (s3.1 + r2.1)).toNat (IntKind.u32.wrap o4.2.1.1))
  some (.more ((IntKind.i64.wrap (s3.1 + (1 : Int))), v5))
else
  none)
else
  some (.out 0 (s3.1, s3.2)))
noncomputable def g_bigint_times (x0 : (List Int)) (x1 : (List Int)) : Option (((List Int) × Bool) × ((List Int) × (List Int))) :=
  (g_bigint_mag_used x0).bind fun r1 =>
  (g_bigint_mag_used x1).bind fun r2 =>
  (loopD (S := (Int × (List Int))) (g_bigint_times_L4 r1 r2) ((0 : Int), (List.replicate 64 (0 : Int)))).bind fun o14 =>
  (bif decide (0 ≤ (0 : Int) ∧ (0 : Int) ≤ (32 : Int) ∧ (32 : Int) ≤ (64 : Int)) then
  (bif decide ((32 : Int) ≤ (32 : Int) - (0 : Int)) then
  (bif decide (0 ≤ (32 : Int) ∧ (32 : Int) ≤ (64 : Int) ∧ (64 : Int) ≤ (64 : Int)) then
  (bif decide ((32 : Int) ≤ (64 : Int) - (32 : Int)) then
  let v15 : Bool := (List.isEqv ((o14.2.2.drop 32).take 32) (List.replicate 32 (0 : Int)) (eqv (.int .u32)))
  some ((((o14.2.2.drop 0).take 32), v15), (r1.2, r2.2))
else
  none)
else
  none)
else
  none)
else
  none)

/-! fundadmin/bigint.Mul -/
noncomputable def g_bigint_Mul (x0 : (Bool × (List Int))) (x1 : (Bool × (List Int))) : Option ((Bool × (List Int)) × Int) :=
  (g_bigint_split x0).bind fun r1 =>
  (g_bigint_split x1).bind fun r2 =>
  (g_bigint_times r1.2 r2.2).bind fun r3 =>
  (bif (!r3.1.2) then
  some ((false, (List.replicate 32 (0 : Int))), (10 : Int))
else
  (g_bigint_made (!(r1.1 == r2.1)) r3.1.1).bind fun r4 =>
  some (r4, (0 : Int)))

/-! fundadmin/ratio.product -/
noncomputable def g_ratio_product (x0 : (Bool × (List Int))) (x1 : (Bool × (List Int))) : Option (Bool × (List Int)) :=
  (g_bigint_Mul x0 x1).bind fun r1 =>
  some r1.1

/-! fundadmin/ratio.Cmp -/
noncomputable def g_ratio_Cmp (x0 : ((Bool × (List Int)) × (Bool × (List Int)))) (x1 : ((Bool × (List Int)) × (Bool × (List Int)))) : Option (Int × Int) :=
  (g_ratio_Valid x0).bind fun r1 =>
  (bif (!r1) then
  some ((0 : Int), (20 : Int))
else
  (g_ratio_Valid x1).bind fun r2 =>
  (bif (!r2) then
  some ((0 : Int), (20 : Int))
else
  (g_ratio_product x0.1 x1.2).bind fun r3 =>
  (g_ratio_product x1.1 x0.2).bind fun r4 =>
  (g_bigint_Cmp r3 r4).bind fun r5 =>
  some (r5, (0 : Int))))

/-! fundadmin/ratio.Whole -/
noncomputable def g_ratio_Whole (x0 : Int) : Option ((Bool × (List Int)) × (Bool × (List Int))) :=
  (g_bigint_FromInt x0).bind fun r1 =>
  (g_bigint_FromInt (1 : Int)).bind fun r2 =>
  some (r1, r2)

/-! fundadmin/ratio.Sign -/
noncomputable def g_ratio_Sign (x0 : ((Bool × (List Int)) × (Bool × (List Int)))) : Option (Int × Int) :=
  (g_ratio_Valid x0).bind fun r1 =>
  (bif (!r1) then
  some ((0 : Int), (20 : Int))
else
  (g_bigint_Sign x0.1).bind fun r2 =>
  some (r2, (0 : Int)))

/-! fundadmin/highwater.part -/
noncomputable def g_highwater_part (x0 : ((Bool × (List Int)) × (Bool × (List Int)))) : Option Bool :=
  (g_ratio_Sign x0).bind fun r1 =>
  (bif (r1.2 != (0 : Int)) then
  some false
else
  (bif (decide (r1.1 < (0 : Int))) then
  some false
else
  (g_ratio_Whole (1 : Int)).bind fun r2 =>
  (g_ratio_Cmp x0 r2).bind fun r3 =>
  some (decide (r3.1 ≤ (0 : Int)))))

/-! fundadmin/highwater.Check -/
noncomputable def g_highwater_Check (x0 : (((Bool × (List Int)) × (Bool × (List Int))) × (((Bool × (List Int)) × (Bool × (List Int))) × Int))) : Option Int :=
  (g_highwater_part x0.1).bind fun r1 =>
  (bif (!r1) then
  some (310 : Int)
else
  (g_highwater_part x0.2.1).bind fun r2 =>
  (bif (!r2) then
  some (310 : Int)
else
  (bif (decide (x0.2.2 < (1 : Int))) then
  some (310 : Int)
else
  (bif (decide (x0.2.2 > (4 : Int))) then
  some (310 : Int)
else
  some (0 : Int)))))

/-! fundadmin/highwater.above -/
noncomputable def g_highwater_above (x0 : ((Bool × (List Int)) × (Bool × (List Int)))) : Option Bool :=
  (g_ratio_Sign x0).bind fun r1 =>
  (bif (r1.2 == (0 : Int)) then
  some (decide (r1.1 > (0 : Int)))
else
  some false)

/-! fundadmin/highwater.CheckWater -/
noncomputable def g_highwater_CheckWater (x0 : (((Bool × (List Int)) × (Bool × (List Int))) × Int)) : Option Int :=
  (g_highwater_above x0.1).bind fun r1 =>
  (bif (!r1) then
  some (311 : Int)
else
  (bif (decide (x0.2 < (0 : Int))) then
  some (311 : Int)
else
  (bif (decide (x0.2 > (73048 : Int))) then
  some (311 : Int)
else
  some (0 : Int))))

/-! fundadmin/highwater.check -/
noncomputable def g_highwater_check (x0 : (((Bool × (List Int)) × (Bool × (List Int))) × (((Bool × (List Int)) × (Bool × (List Int))) × Int))) (x1 : (((Bool × (List Int)) × (Bool × (List Int))) × Int)) : Option Int :=
  (g_highwater_Check x0).bind fun r1 =>
  (bif (r1 != (0 : Int)) then
  some r1
else
  (g_highwater_CheckWater x1).bind fun r2 =>
  some r2)

/-! fundadmin/bigint.Neg -/
noncomputable def g_bigint_Neg (x0 : (Bool × (List Int))) : Option (Bool × (List Int)) :=
  (g_bigint_split x0).bind fun r1 =>
  (g_bigint_made (!r1.1) r1.2).bind fun r2 =>
  some r2

/-! fundadmin/bigint.minus -/
noncomputable def g_bigint_minus_L4 (x0 : (List Int)) (x1 : (List Int)) (s3 : ((Int × Int) × (List Int))) : Option (Next ((Int × Int) × (List Int))) :=
  (bif (decide (s3.1.2 < (32 : Int))) then
  (bif (inb s3.1.2 32) then
  (bif (inb s3.1.2 32) then
  (g_bits_Sub32 (x0.getD s3.1.2.toNat (0 : Int)) (x1.getD s3.1.2.toNat (0 : Int)) s3.1.1).bind fun r4 =>
  (bif (inb s3.1.2 32) then
  some (.more ((r4.2, (IntKind.i64.wrap (s3.1.2 + (1 : Int)))), (s3.2.set s3.1.2.toNat r4.1)))
else
  none)
else
  none)
else
  none)
else
  some (.out 0 ((s3.1.1, s3.1.2), s3.2)))
noncomputable def g_bigint_minus (x0 : (List Int)) (x1 : (List Int)) : Option ((List Int) × ((List Int) × (List Int))) :=
  (loopD (S := ((Int × Int) × (List Int))) (g_bigint_minus_L4 x0 x1) (((0 : Int), (0 : Int)), (List.replicate 32 (0 : Int)))).bind fun o3 =>
  some (o3.2.2, (x0, x1))

/-! fundadmin/bigint.plus -/
noncomputable def g_bigint_plus_L4 (x0 : (List Int)) (x1 : (List Int)) (s3 : ((Int × Int) × (List Int))) : Option (Next ((Int × Int) × (List Int))) :=
  (bif (decide (s3.1.2 < (32 : Int))) then
  (bif (inb s3.1.2 32) then
  (bif (inb s3.1.2 32) then
  (g_bits_Add32 (x0.getD s3.1.2.toNat (0 : Int)) (x1.getD s3.1.2.toNat (0 : Int)) s3.1.1).bind fun r4 =>
  (bif (inb s3.1.2 32) then
  some (.more ((r4.2, (IntKind.i64.wrap (s3.1.2 + (1 : Int)))), (s3.2.set s3.1.2.toNat r4.1)))
else
  none)
else
  none)
else
  none)
else
  some (.out 0 ((s3.1.1, s3.1.2), s3.2)))
noncomputable def g_bigint_plus (x0 : (List Int)) (x1 : (List Int)) : Option (((List Int) × Bool) × ((List Int) × (List Int))) :=
  (loopD (S := ((Int × Int) × (List Int))) (g_bigint_plus_L4 x0 x1) (((0 : Int), (0 : Int)), (List.replicate 32 (0 : Int)))).bind fun o3 =>
  some ((o3.2.2, (o3.2.1.1 == (0 : Int))), (x0, x1))

/-! fundadmin/bigint.DivMod -/
noncomputable def g_bigint_DivMod (x0 : (Bool × (List Int))) (x1 : (Bool × (List Int))) : Option ((Bool × (List Int)) × ((Bool × (List Int)) × Int)) :=
  (g_bigint_split x0).bind fun r1 =>
  (g_bigint_split x1).bind fun r2 =>
  let v3 : Bool := (List.isEqv r2.2 (List.replicate 32 (0 : Int)) (eqv (.int .u32)))
  (bif v3 then
  some ((false, (List.replicate 32 (0 : Int))), ((false, (List.replicate 32 (0 : Int))), (11 : Int)))
else
  (g_bigint_divide r1.2 r2.2).bind fun r4 =>
  (bif r1.1 then
  let v5 : Bool := (!(List.isEqv r4.1.2 (List.replicate 32 (0 : Int)) (eqv (.int .u32))))
  (bif v5 then
  let v6 : (List Int) := ((List.replicate 32 (0 : Int)).set (0 : Int).toNat (1 : Int))
  (g_bigint_plus r4.1.1 v6).bind fun r7 =>
  (g_bigint_minus r4.2.2 r4.1.2).bind fun r8 =>
  (g_bigint_made (!(r1.1 == r2.1)) r7.1.1).bind fun r9 =>
  (g_bigint_made false r8.1).bind fun r10 =>
  some (r9, (r10, (0 : Int)))
else
  (g_bigint_made (!(r1.1 == r2.1)) r4.1.1).bind fun r11 =>
  (g_bigint_made false r4.1.2).bind fun r12 =>
  some (r11, (r12, (0 : Int))))
else
  (g_bigint_made (!(r1.1 == r2.1)) r4.1.1).bind fun r13 =>
  (g_bigint_made false r4.1.2).bind fun r14 =>
  some (r13, (r14, (0 : Int)))))

/-! fundadmin/ratio.whole -/
noncomputable def g_ratio_whole (x0 : (Bool × (List Int))) (x1 : (Bool × (List Int))) : Option (Bool × (List Int)) :=
  (g_bigint_DivMod x0 x1).bind fun r1 =>
  some r1.1

/-! fundadmin/ratio.Make -/
noncomputable def g_ratio_Make (x0 : (Bool × (List Int))) (x1 : (Bool × (List Int))) : Option (((Bool × (List Int)) × (Bool × (List Int))) × Int) :=
  (g_bigint_Sign x1).bind fun r1 =>
  (bif (r1 == (0 : Int)) then
  some (((false, (List.replicate 32 (0 : Int))), (false, (List.replicate 32 (0 : Int)))), (11 : Int))
else
  (g_bigint_Gcd x0 x1).bind fun r2 =>
  (g_bigint_Sign x1).bind fun r3 =>
  (bif (decide (r3 < (0 : Int))) then
  (g_bigint_Neg r2).bind fun r4 =>
  (g_ratio_whole x0 r4).bind fun r5 =>
  (g_ratio_whole x1 r4).bind fun r6 =>
  (g_ratio_fits (r5, r6)).bind fun r7 =>
  (bif (!r7) then
  some (((false, (List.replicate 32 (0 : Int))), (false, (List.replicate 32 (0 : Int)))), (10 : Int))
else
  some ((r5, r6), (0 : Int)))
else
  (g_ratio_whole x0 r2).bind fun r8 =>
  (g_ratio_whole x1 r2).bind fun r9 =>
  (g_ratio_fits (r8, r9)).bind fun r10 =>
  (bif (!r10) then
  some (((false, (List.replicate 32 (0 : Int))), (false, (List.replicate 32 (0 : Int)))), (10 : Int))
else
  some ((r8, r9), (0 : Int)))))

/-! fundadmin/ratio.Mul -/
noncomputable def g_ratio_Mul (x0 : ((Bool × (List Int)) × (Bool × (List Int)))) (x1 : ((Bool × (List Int)) × (Bool × (List Int)))) : Option (((Bool × (List Int)) × (Bool × (List Int))) × Int) :=
  (g_ratio_Valid x0).bind fun r1 =>
  (bif (!r1) then
  some (((false, (List.replicate 32 (0 : Int))), (false, (List.replicate 32 (0 : Int)))), (20 : Int))
else
  (g_ratio_Valid x1).bind fun r2 =>
  (bif (!r2) then
  some (((false, (List.replicate 32 (0 : Int))), (false, (List.replicate 32 (0 : Int)))), (20 : Int))
else
  (g_ratio_product x0.1 x1.1).bind fun r3 =>
  (g_ratio_product x0.2 x1.2).bind fun r4 =>
  (g_ratio_Make r3 r4).bind fun r5 =>
  some (r5.1, r5.2)))

/-! fundadmin/date.valid -/
noncomputable def g_date_valid (x0 : Int) : Option Bool :=
  (bif (decide (x0 ≥ (0 : Int))) then
  some (decide (x0 ≤ (73048 : Int)))
else
  some false)

/-! fundadmin/date.yearStart -/
noncomputable def g_date_yearStart (x0 : Int) : Option Int :=
  let v1 : Int := (IntKind.i64.wrap ((365 : Int) * (IntKind.i64.wrap (x0 - (2000 : Int)))))
  let v2 : Int := (IntKind.i64.wrap ((IntKind.i64.wrap (x0 - (2000 : Int))) + (3 : Int)))
  (bif decide ((4 : Int) = 0) then
  none
else
  let v3 : Int := (IntKind.i64.wrap (v1 + (IntKind.i64.wrap (v2.tdiv (4 : Int)))))
  (bif (decide (x0 > (2100 : Int))) then
  some (IntKind.i64.wrap (v3 - (1 : Int)))
else
  some v3))

/-! fundadmin/date.Leap -/
noncomputable def g_date_Leap (x0 : Int) : Option Bool :=
  (bif decide ((4 : Int) = 0) then
  none
else
  (bif ((x0.tmod (4 : Int)) == (0 : Int)) then
  (bif decide ((100 : Int) = 0) then
  none
else
  (bif ((x0.tmod (100 : Int)) != (0 : Int)) then
  some true
else
  (bif decide ((400 : Int) = 0) then
  none
else
  some ((x0.tmod (400 : Int)) == (0 : Int)))))
else
  some false))

/-! fundadmin/date.ahead -/
noncomputable def g_date_ahead (x0 : Int) (x1 : Int) : Option Int :=
  (bif (x1 == (12 : Int)) then
  let v1 : Int := (IntKind.i64.wrap ((IntKind.i64.wrap ((0 : Int) + (30 : Int))) + (31 : Int)))
  let v2 : Int := (IntKind.i64.wrap ((IntKind.i64.wrap (v1 + (30 : Int))) + (31 : Int)))
  let v3 : Int := (IntKind.i64.wrap ((IntKind.i64.wrap (v2 + (31 : Int))) + (30 : Int)))
  let v4 : Int := (IntKind.i64.wrap ((IntKind.i64.wrap (v3 + (31 : Int))) + (30 : Int)))
  let v5 : Int := (IntKind.i64.wrap ((IntKind.i64.wrap (v4 + (31 : Int))) + (28 : Int)))
  (g_date_Leap x0).bind fun r6 =>
  (bif r6 then
  let v7 : Int := (IntKind.i64.wrap ((IntKind.i64.wrap (v5 + (1 : Int))) + (31 : Int)))
  some v7
else
  some (IntKind.i64.wrap (v5 + (31 : Int))))
else
  (bif (x1 == (11 : Int)) then
  let v8 : Int := (IntKind.i64.wrap ((IntKind.i64.wrap ((0 : Int) + (31 : Int))) + (30 : Int)))
  let v9 : Int := (IntKind.i64.wrap ((IntKind.i64.wrap (v8 + (31 : Int))) + (31 : Int)))
  let v10 : Int := (IntKind.i64.wrap ((IntKind.i64.wrap (v9 + (30 : Int))) + (31 : Int)))
  let v11 : Int := (IntKind.i64.wrap ((IntKind.i64.wrap (v10 + (30 : Int))) + (31 : Int)))
  (g_date_Leap x0).bind fun r12 =>
  (bif r12 then
  let v13 : Int := (IntKind.i64.wrap ((IntKind.i64.wrap (v11 + (28 : Int))) + (1 : Int)))
  some (IntKind.i64.wrap (v13 + (31 : Int)))
else
  let v14 : Int := (IntKind.i64.wrap ((IntKind.i64.wrap (v11 + (28 : Int))) + (31 : Int)))
  some v14)
else
  (bif (x1 == (10 : Int)) then
  let v15 : Int := (IntKind.i64.wrap ((IntKind.i64.wrap ((0 : Int) + (30 : Int))) + (31 : Int)))
  let v16 : Int := (IntKind.i64.wrap ((IntKind.i64.wrap (v15 + (31 : Int))) + (30 : Int)))
  let v17 : Int := (IntKind.i64.wrap ((IntKind.i64.wrap (v16 + (31 : Int))) + (30 : Int)))
  let v18 : Int := (IntKind.i64.wrap ((IntKind.i64.wrap (v17 + (31 : Int))) + (28 : Int)))
  (g_date_Leap x0).bind fun r19 =>
  (bif r19 then
  let v20 : Int := (IntKind.i64.wrap ((IntKind.i64.wrap (v18 + (1 : Int))) + (31 : Int)))
  some v20
else
  some (IntKind.i64.wrap (v18 + (31 : Int))))
else
  (bif (x1 == (9 : Int)) then
  let v21 : Int := (IntKind.i64.wrap ((IntKind.i64.wrap ((0 : Int) + (31 : Int))) + (31 : Int)))
  let v22 : Int := (IntKind.i64.wrap ((IntKind.i64.wrap (v21 + (30 : Int))) + (31 : Int)))
  let v23 : Int := (IntKind.i64.wrap ((IntKind.i64.wrap (v22 + (30 : Int))) + (31 : Int)))
  (g_date_Leap x0).bind fun r24 =>
  (bif r24 then
  let v25 : Int := (IntKind.i64.wrap ((IntKind.i64.wrap (v23 + (28 : Int))) + (1 : Int)))
  some (IntKind.i64.wrap (v25 + (31 : Int)))
else
  let v26 : Int := (IntKind.i64.wrap ((IntKind.i64.wrap (v23 + (28 : Int))) + (31 : Int)))
  some v26)
else
  (bif (x1 == (8 : Int)) then
  let v27 : Int := (IntKind.i64.wrap ((IntKind.i64.wrap ((0 : Int) + (31 : Int))) + (30 : Int)))
  let v28 : Int := (IntKind.i64.wrap ((IntKind.i64.wrap (v27 + (31 : Int))) + (30 : Int)))
  let v29 : Int := (IntKind.i64.wrap ((IntKind.i64.wrap (v28 + (31 : Int))) + (28 : Int)))
  (g_date_Leap x0).bind fun r30 =>
  (bif r30 then
  let v31 : Int := (IntKind.i64.wrap ((IntKind.i64.wrap (v29 + (1 : Int))) + (31 : Int)))
  some v31
else
  some (IntKind.i64.wrap (v29 + (31 : Int))))
else
  (bif (x1 == (7 : Int)) then
  let v32 : Int := (IntKind.i64.wrap ((IntKind.i64.wrap ((0 : Int) + (30 : Int))) + (31 : Int)))
  let v33 : Int := (IntKind.i64.wrap ((IntKind.i64.wrap (v32 + (30 : Int))) + (31 : Int)))
  (g_date_Leap x0).bind fun r34 =>
  (bif r34 then
  let v35 : Int := (IntKind.i64.wrap ((IntKind.i64.wrap (v33 + (28 : Int))) + (1 : Int)))
  some (IntKind.i64.wrap (v35 + (31 : Int)))
else
  let v36 : Int := (IntKind.i64.wrap ((IntKind.i64.wrap (v33 + (28 : Int))) + (31 : Int)))
  some v36)
else
  (bif (x1 == (6 : Int)) then
  let v37 : Int := (IntKind.i64.wrap ((IntKind.i64.wrap ((0 : Int) + (31 : Int))) + (30 : Int)))
  let v38 : Int := (IntKind.i64.wrap ((IntKind.i64.wrap (v37 + (31 : Int))) + (28 : Int)))
  (g_date_Leap x0).bind fun r39 =>
  (bif r39 then
  let v40 : Int := (IntKind.i64.wrap ((IntKind.i64.wrap (v38 + (1 : Int))) + (31 : Int)))
  some v40
else
  some (IntKind.i64.wrap (v38 + (31 : Int))))
else
  (bif (x1 == (5 : Int)) then
  let v41 : Int := (IntKind.i64.wrap ((IntKind.i64.wrap ((0 : Int) + (30 : Int))) + (31 : Int)))
  (g_date_Leap x0).bind fun r42 =>
  (bif r42 then
  let v43 : Int := (IntKind.i64.wrap ((IntKind.i64.wrap (v41 + (28 : Int))) + (1 : Int)))
  some (IntKind.i64.wrap (v43 + (31 : Int)))
else
  let v44 : Int := (IntKind.i64.wrap ((IntKind.i64.wrap (v41 + (28 : Int))) + (31 : Int)))
  some v44)
else
  (bif (x1 == (4 : Int)) then
  let v45 : Int := (IntKind.i64.wrap ((IntKind.i64.wrap ((0 : Int) + (31 : Int))) + (28 : Int)))
  (g_date_Leap x0).bind fun r46 =>
  (bif r46 then
  let v47 : Int := (IntKind.i64.wrap ((IntKind.i64.wrap (v45 + (1 : Int))) + (31 : Int)))
  some v47
else
  some (IntKind.i64.wrap (v45 + (31 : Int))))
else
  (bif (x1 == (3 : Int)) then
  (g_date_Leap x0).bind fun r48 =>
  (bif r48 then
  let v49 : Int := (IntKind.i64.wrap ((IntKind.i64.wrap ((0 : Int) + (28 : Int))) + (1 : Int)))
  some (IntKind.i64.wrap (v49 + (31 : Int)))
else
  let v50 : Int := (IntKind.i64.wrap ((IntKind.i64.wrap ((0 : Int) + (28 : Int))) + (31 : Int)))
  some v50)
else
  (bif (x1 == (2 : Int)) then
  some (IntKind.i64.wrap ((0 : Int) + (31 : Int)))
else
  some (0 : Int))))))))))))

/-! fundadmin/date.Civil -/
noncomputable def g_date_Civil_L4 (x0 : Int) (s2 : (Int × Unit)) : Option (Next (Int × Unit)) :=
  (g_date_yearStart (IntKind.i64.wrap (s2.1 + (1 : Int)))).bind fun r3 =>
  (bif (decide (r3 ≤ x0)) then
  some (.more ((IntKind.i64.wrap (s2.1 + (1 : Int))), ()))
else
  some (.out 0 (s2.1, ())))
noncomputable def g_date_Civil (x0 : Int) : Option (Int × (Int × (Int × Int))) :=
  (g_date_valid x0).bind fun r1 =>
  (bif (!r1) then
  some ((0 : Int), ((0 : Int), ((0 : Int), (50 : Int))))
else
  (bif decide ((366 : Int) = 0) then
  none
else
  let v2 : Int := (IntKind.i64.wrap ((2000 : Int) + (IntKind.i64.wrap (x0.tdiv (366 : Int)))))
  (loopD (S := (Int × Unit)) (g_date_Civil_L4 x0) (v2, ())).bind fun o5 =>
  (g_date_yearStart o5.2.1).bind fun r6 =>
  (bif decide ((31 : Int) = 0) then
  none
else
  let v7 : Int := (IntKind.i64.wrap ((IntKind.i64.wrap (x0 - r6)).tdiv (31 : Int)))
  let v8 : Bool := (decide ((IntKind.i64.wrap ((1 : Int) + v7)) < (12 : Int)))
  (bif v8 then
  let v9 : Int := (IntKind.i64.wrap ((IntKind.i64.wrap ((1 : Int) + v7)) + (1 : Int)))
  (g_date_ahead o5.2.1 v9).bind fun r10 =>
  (bif (decide (r10 ≤ (IntKind.i64.wrap (x0 - r6)))) then
  let v11 : Int := (IntKind.i64.wrap ((IntKind.i64.wrap ((1 : Int) + v7)) + (1 : Int)))
  (g_date_ahead o5.2.1 v11).bind fun r12 =>
  let v13 : Int := (IntKind.i64.wrap ((IntKind.i64.wrap (x0 - r6)) - r12))
  some (o5.2.1, (v11, ((IntKind.i64.wrap (v13 + (1 : Int))), (0 : Int))))
else
  (g_date_ahead o5.2.1 (IntKind.i64.wrap ((1 : Int) + v7))).bind fun r14 =>
  let v15 : Int := (IntKind.i64.wrap ((IntKind.i64.wrap (x0 - r6)) - r14))
  some (o5.2.1, ((IntKind.i64.wrap ((1 : Int) + v7)), ((IntKind.i64.wrap (v15 + (1 : Int))), (0 : Int)))))
else
  (g_date_ahead o5.2.1 (IntKind.i64.wrap ((1 : Int) + v7))).bind fun r16 =>
  let v17 : Int := (IntKind.i64.wrap ((IntKind.i64.wrap (x0 - r6)) - r16))
  some (o5.2.1, ((IntKind.i64.wrap ((1 : Int) + v7)), ((IntKind.i64.wrap (v17 + (1 : Int))), (0 : Int))))))))

/-! fundadmin/daycount.position -/
noncomputable def g_daycount_position (x0 : Int) : Option Int :=
  (g_date_Civil x0).bind fun r1 =>
  let v2 : Int := (IntKind.i64.wrap ((IntKind.i64.wrap ((360 : Int) * r1.1)) + (IntKind.i64.wrap ((30 : Int) * r1.2.1))))
  let v3 : Int := (IntKind.i64.wrap (v2 + (min r1.2.2.1 (30 : Int))))
  some v3

/-! fundadmin/daycount.Days -/
noncomputable def g_daycount_Days (x0 : Int) (x1 : Int) (x2 : Int) : Option (Int × Int) :=
  (bif (decide (x0 < (1 : Int))) then
  some ((0 : Int), (60 : Int))
else
  (bif (decide (x0 > (4 : Int))) then
  some ((0 : Int), (60 : Int))
else
  (bif (decide (x1 < (0 : Int))) then
  some ((0 : Int), (50 : Int))
else
  (bif (decide (x1 > (73048 : Int))) then
  some ((0 : Int), (50 : Int))
else
  (bif (decide (x2 < (0 : Int))) then
  some ((0 : Int), (50 : Int))
else
  (bif (decide (x2 > (73048 : Int))) then
  some ((0 : Int), (50 : Int))
else
  (bif (decide (x2 < x1)) then
  some ((0 : Int), (61 : Int))
else
  (bif (x0 == (4 : Int)) then
  (g_daycount_position x2).bind fun r1 =>
  (g_daycount_position x1).bind fun r2 =>
  some ((IntKind.i64.wrap (r1 - r2)), (0 : Int))
else
  some ((IntKind.i64.wrap (x2 - x1)), (0 : Int))))))))))

/-! fundadmin/bigint.Add -/
noncomputable def g_bigint_Add (x0 : (Bool × (List Int))) (x1 : (Bool × (List Int))) : Option ((Bool × (List Int)) × Int) :=
  (g_bigint_split x0).bind fun r1 =>
  (g_bigint_split x1).bind fun r2 =>
  (bif (!(r1.1 == r2.1)) then
  (g_bigint_compare r1.2 r2.2).bind fun r3 =>
  (bif (decide (r3.1 < (0 : Int))) then
  (g_bigint_minus r3.2.2 r3.2.1).bind fun r4 =>
  (g_bigint_made r2.1 r4.1).bind fun r5 =>
  some (r5, (0 : Int))
else
  (g_bigint_minus r3.2.1 r3.2.2).bind fun r6 =>
  (g_bigint_made r1.1 r6.1).bind fun r7 =>
  some (r7, (0 : Int)))
else
  (g_bigint_plus r1.2 r2.2).bind fun r8 =>
  (bif (!r8.1.2) then
  some ((false, (List.replicate 32 (0 : Int))), (10 : Int))
else
  (g_bigint_made r1.1 r8.1.1).bind fun r9 =>
  some (r9, (0 : Int))))

/-! fundadmin/ratio.Add -/
noncomputable def g_ratio_Add (x0 : ((Bool × (List Int)) × (Bool × (List Int)))) (x1 : ((Bool × (List Int)) × (Bool × (List Int)))) : Option (((Bool × (List Int)) × (Bool × (List Int))) × Int) :=
  (g_ratio_Valid x0).bind fun r1 =>
  (bif (!r1) then
  some (((false, (List.replicate 32 (0 : Int))), (false, (List.replicate 32 (0 : Int)))), (20 : Int))
else
  (g_ratio_Valid x1).bind fun r2 =>
  (bif (!r2) then
  some (((false, (List.replicate 32 (0 : Int))), (false, (List.replicate 32 (0 : Int)))), (20 : Int))
else
  (g_ratio_product x1.1 x0.2).bind fun r3 =>
  (g_ratio_product x0.1 x1.2).bind fun r4 =>
  (g_bigint_Add r4 r3).bind fun r5 =>
  (g_ratio_product x0.2 x1.2).bind fun r6 =>
  (g_ratio_Make r5.1 r6).bind fun r7 =>
  some (r7.1, r7.2)))

/-! fundadmin/ratio.Of -/
noncomputable def g_ratio_Of (x0 : Int) (x1 : Int) : Option (((Bool × (List Int)) × (Bool × (List Int))) × Int) :=
  (g_bigint_FromInt x0).bind fun r1 =>
  (g_bigint_FromInt x1).bind fun r2 =>
  (g_ratio_Make r1 r2).bind fun r3 =>
  some (r3.1, r3.2)

/-! fundadmin/date.Length -/
noncomputable def g_date_Length (x0 : Int) (x1 : Int) : Option (Int × Int) :=
  (bif (decide (x0 < (2000 : Int))) then
  some ((0 : Int), (51 : Int))
else
  (bif (decide (x0 > (2199 : Int))) then
  some ((0 : Int), (51 : Int))
else
  (bif (decide (x1 < (1 : Int))) then
  some ((0 : Int), (51 : Int))
else
  (bif (decide (x1 > (12 : Int))) then
  some ((0 : Int), (51 : Int))
else
  (bif (x1 == (12 : Int)) then
  some ((31 : Int), (0 : Int))
else
  (g_date_ahead x0 (IntKind.i64.wrap (x1 + (1 : Int)))).bind fun r1 =>
  (g_date_ahead x0 x1).bind fun r2 =>
  some ((IntKind.i64.wrap (r1 - r2)), (0 : Int)))))))

/-! fundadmin/date.FromCivil -/
noncomputable def g_date_FromCivil (x0 : Int) (x1 : Int) (x2 : Int) : Option (Int × Int) :=
  (g_date_Length x0 x1).bind fun r1 =>
  (bif (r1.2 != (0 : Int)) then
  some ((0 : Int), (51 : Int))
else
  (bif (decide (x2 < (1 : Int))) then
  some ((0 : Int), (51 : Int))
else
  (bif (decide (x2 > r1.1)) then
  some ((0 : Int), (51 : Int))
else
  (g_date_yearStart x0).bind fun r2 =>
  (g_date_ahead x0 x1).bind fun r3 =>
  let v4 : Int := (IntKind.i64.wrap ((IntKind.i64.wrap (r2 + r3)) + x2))
  some ((IntKind.i64.wrap (v4 - (1 : Int))), (0 : Int)))))

/-! fundadmin/daycount.actual -/
noncomputable def g_daycount_actual_L2 (x1 : Int) (s2 : ((Int × (Int × Int)) × Unit)) : Option (Next ((Int × (Int × Int)) × Unit)) :=
  (bif (decide (s2.1.1 < x1)) then
  (g_date_Civil s2.1.1).bind fun r3 =>
  (g_date_FromCivil (IntKind.i64.wrap (r3.1 + (1 : Int))) (1 : Int) (1 : Int)).bind fun r4 =>
  (bif (r4.2 != (0 : Int)) then
  (g_date_Leap r3.1).bind fun r5 =>
  (bif r5 then
  let v6 : Int := (IntKind.i64.wrap (s2.1.2.2 + (IntKind.i64.wrap (x1 - s2.1.1))))
  some (.more ((x1, (s2.1.2.1, v6)), ()))
else
  let v7 : Int := (IntKind.i64.wrap (s2.1.2.1 + (IntKind.i64.wrap (x1 - s2.1.1))))
  some (.more ((x1, (v7, s2.1.2.2)), ())))
else
  (bif (decide (r4.1 > x1)) then
  (g_date_Leap r3.1).bind fun r8 =>
  (bif r8 then
  let v9 : Int := (IntKind.i64.wrap (s2.1.2.2 + (IntKind.i64.wrap (x1 - s2.1.1))))
  some (.more ((x1, (s2.1.2.1, v9)), ()))
else
  let v10 : Int := (IntKind.i64.wrap (s2.1.2.1 + (IntKind.i64.wrap (x1 - s2.1.1))))
  some (.more ((x1, (v10, s2.1.2.2)), ())))
else
  (g_date_Leap r3.1).bind fun r11 =>
  (bif r11 then
  let v12 : Int := (IntKind.i64.wrap (s2.1.2.2 + (IntKind.i64.wrap (r4.1 - s2.1.1))))
  some (.more ((r4.1, (s2.1.2.1, v12)), ()))
else
  let v13 : Int := (IntKind.i64.wrap (s2.1.2.1 + (IntKind.i64.wrap (r4.1 - s2.1.1))))
  some (.more ((r4.1, (v13, s2.1.2.2)), ())))))
else
  some (.out 0 ((s2.1.1, (s2.1.2.1, s2.1.2.2)), ())))
noncomputable def g_daycount_actual (x0 : Int) (x1 : Int) : Option (((Bool × (List Int)) × (Bool × (List Int))) × Int) :=
  (loopD (S := ((Int × (Int × Int)) × Unit)) (g_daycount_actual_L2 x1) ((x0, ((0 : Int), (0 : Int))), ())).bind fun o13 =>
  (g_ratio_Of o13.2.1.2.1 (365 : Int)).bind fun r14 =>
  (g_ratio_Of o13.2.1.2.2 (366 : Int)).bind fun r15 =>
  (g_ratio_Add r14.1 r15.1).bind fun r16 =>
  some (r16.1, r16.2)

/-! fundadmin/daycount.Fraction -/
noncomputable def g_daycount_Fraction (x0 : Int) (x1 : Int) (x2 : Int) : Option (((Bool × (List Int)) × (Bool × (List Int))) × Int) :=
  (g_daycount_Days x0 x1 x2).bind fun r1 =>
  (bif (r1.2 != (0 : Int)) then
  some (((false, (List.replicate 32 (0 : Int))), (false, (List.replicate 32 (0 : Int)))), r1.2)
else
  (bif (x0 == (3 : Int)) then
  (g_daycount_actual x1 x2).bind fun r2 =>
  some (r2.1, r2.2)
else
  (bif (x0 == (2 : Int)) then
  (g_ratio_Of r1.1 (365 : Int)).bind fun r3 =>
  some (r3.1, r3.2)
else
  (g_ratio_Of r1.1 (360 : Int)).bind fun r4 =>
  some (r4.1, r4.2))))

/-! fundadmin/highwater.threshold -/
noncomputable def g_highwater_threshold (x0 : (((Bool × (List Int)) × (Bool × (List Int))) × (((Bool × (List Int)) × (Bool × (List Int))) × Int))) (x1 : (((Bool × (List Int)) × (Bool × (List Int))) × Int)) (x2 : Int) : Option (((Bool × (List Int)) × (Bool × (List Int))) × Int) :=
  (bif (decide (x2 < (0 : Int))) then
  some (((false, (List.replicate 32 (0 : Int))), (false, (List.replicate 32 (0 : Int)))), (50 : Int))
else
  (bif (decide (x2 > (73048 : Int))) then
  some (((false, (List.replicate 32 (0 : Int))), (false, (List.replicate 32 (0 : Int)))), (50 : Int))
else
  (g_daycount_Fraction x0.2.2 x1.2 x2).bind fun r1 =>
  (bif (r1.2 != (0 : Int)) then
  some (((false, (List.replicate 32 (0 : Int))), (false, (List.replicate 32 (0 : Int)))), r1.2)
else
  (bif ((0 : Int) != (0 : Int)) then
  (g_ratio_Whole (1 : Int)).bind fun r2 =>
  (bif ((0 : Int) != (0 : Int)) then
  (bif ((0 : Int) != (0 : Int)) then
  some (((false, (List.replicate 32 (0 : Int))), (false, (List.replicate 32 (0 : Int)))), (0 : Int))
else
  (g_ratio_Mul x1.1 ((false, (List.replicate 32 (0 : Int))), (false, (List.replicate 32 (0 : Int))))).bind fun r3 =>
  some (r3.1, r3.2))
else
  (g_ratio_Add r2 ((false, (List.replicate 32 (0 : Int))), (false, (List.replicate 32 (0 : Int))))).bind fun r4 =>
  (bif (r4.2 != (0 : Int)) then
  some (((false, (List.replicate 32 (0 : Int))), (false, (List.replicate 32 (0 : Int)))), r4.2)
else
  (g_ratio_Mul x1.1 r4.1).bind fun r5 =>
  some (r5.1, r5.2)))
else
  (g_ratio_Mul x0.2.1 r1.1).bind fun r6 =>
  (g_ratio_Whole (1 : Int)).bind fun r7 =>
  (bif (r6.2 != (0 : Int)) then
  (bif (r6.2 != (0 : Int)) then
  some (((false, (List.replicate 32 (0 : Int))), (false, (List.replicate 32 (0 : Int)))), r6.2)
else
  (g_ratio_Mul x1.1 ((false, (List.replicate 32 (0 : Int))), (false, (List.replicate 32 (0 : Int))))).bind fun r8 =>
  some (r8.1, r8.2))
else
  (g_ratio_Add r7 r6.1).bind fun r9 =>
  (bif (r9.2 != (0 : Int)) then
  some (((false, (List.replicate 32 (0 : Int))), (false, (List.replicate 32 (0 : Int)))), r9.2)
else
  (g_ratio_Mul x1.1 r9.1).bind fun r10 =>
  some (r10.1, r10.2)))))))

/-! fundadmin/ratio.Sub -/
noncomputable def g_ratio_Sub (x0 : ((Bool × (List Int)) × (Bool × (List Int)))) (x1 : ((Bool × (List Int)) × (Bool × (List Int)))) : Option (((Bool × (List Int)) × (Bool × (List Int))) × Int) :=
  (g_ratio_Valid x0).bind fun r1 =>
  (bif (!r1) then
  some (((false, (List.replicate 32 (0 : Int))), (false, (List.replicate 32 (0 : Int)))), (20 : Int))
else
  (g_ratio_Valid x1).bind fun r2 =>
  (bif (!r2) then
  some (((false, (List.replicate 32 (0 : Int))), (false, (List.replicate 32 (0 : Int)))), (20 : Int))
else
  (g_ratio_product x1.1 x0.2).bind fun r3 =>
  (g_bigint_Neg r3).bind fun r4 =>
  (g_ratio_product x0.1 x1.2).bind fun r5 =>
  (g_bigint_Add r5 r4).bind fun r6 =>
  (g_ratio_product x0.2 x1.2).bind fun r7 =>
  (g_ratio_Make r6.1 r7).bind fun r8 =>
  some (r8.1, r8.2)))

/-! fundadmin/highwater.Fee -/
noncomputable def g_highwater_Fee (x0 : (((Bool × (List Int)) × (Bool × (List Int))) × (((Bool × (List Int)) × (Bool × (List Int))) × Int))) (x1 : (((Bool × (List Int)) × (Bool × (List Int))) × Int)) (x2 : ((Bool × (List Int)) × (Bool × (List Int)))) (x3 : Int) : Option (((Bool × (List Int)) × (Bool × (List Int))) × Int) :=
  (g_highwater_check x0 x1).bind fun r1 =>
  (bif (r1 != (0 : Int)) then
  some (((false, (List.replicate 32 (0 : Int))), (false, (List.replicate 32 (0 : Int)))), r1)
else
  (g_highwater_above x2).bind fun r2 =>
  (bif (!r2) then
  some (((false, (List.replicate 32 (0 : Int))), (false, (List.replicate 32 (0 : Int)))), (312 : Int))
else
  (g_highwater_threshold x0 x1 x3).bind fun r3 =>
  (bif (r3.2 != (0 : Int)) then
  some (((false, (List.replicate 32 (0 : Int))), (false, (List.replicate 32 (0 : Int)))), r3.2)
else
  (g_ratio_Cmp x2 r3.1).bind fun r4 =>
  (bif (decide (r4.1 ≤ (0 : Int))) then
  (g_ratio_Whole (0 : Int)).bind fun r5 =>
  some (r5, (0 : Int))
else
  (bif ((0 : Int) != (0 : Int)) then
  (bif ((0 : Int) != (0 : Int)) then
  some (((false, (List.replicate 32 (0 : Int))), (false, (List.replicate 32 (0 : Int)))), (0 : Int))
else
  (g_ratio_Mul x0.1 ((false, (List.replicate 32 (0 : Int))), (false, (List.replicate 32 (0 : Int))))).bind fun r6 =>
  some (r6.1, r6.2))
else
  (g_ratio_Sub x2 r3.1).bind fun r7 =>
  (bif (r7.2 != (0 : Int)) then
  some (((false, (List.replicate 32 (0 : Int))), (false, (List.replicate 32 (0 : Int)))), r7.2)
else
  (g_ratio_Mul x0.1 r7.1).bind fun r8 =>
  some (r8.1, r8.2)))))))

/-! fundadmin/decimal.check -/
noncomputable def g_decimal_check (x0 : ((Bool × (List Int)) × (Bool × (List Int)))) (x1 : Int) : Option Int :=
  (g_ratio_Valid x0).bind fun r1 =>
  (bif (!r1) then
  some (20 : Int)
else
  (bif (decide (x1 < (0 : Int))) then
  some (30 : Int)
else
  (bif (decide (x1 > (9 : Int))) then
  some (30 : Int)
else
  some (0 : Int))))

/-! fundadmin/decimal.power -/
noncomputable def g_decimal_power_L3 (x0 : Int) (s2 : ((Int × Int) × Unit)) : Option (Next ((Int × Int) × Unit)) :=
  (bif (decide (s2.1.2 < x0)) then
  some (.more (((IntKind.i64.wrap (s2.1.1 * (10 : Int))), (IntKind.i64.wrap (s2.1.2 + (1 : Int)))), ()))
else
  some (.out 0 ((s2.1.1, s2.1.2), ())))
noncomputable def g_decimal_power (x0 : Int) : Option Int :=
  (loopD (S := ((Int × Int) × Unit)) (g_decimal_power_L3 x0) (((1 : Int), (0 : Int)), ())).bind fun o2 =>
  some o2.2.1.1

/-! fundadmin/decimal.scaled -/
noncomputable def g_decimal_scaled (x0 : ((Bool × (List Int)) × (Bool × (List Int)))) (x1 : Int) : Option ((Bool × (List Int)) × (Bool × (List Int))) :=
  (g_decimal_power x1).bind fun r1 =>
  (g_bigint_FromInt r1).bind fun r2 =>
  (g_bigint_Mul x0.1 r2).bind fun r3 =>
  (g_bigint_DivMod r3.1 x0.2).bind fun r4 =>
  some (r4.1, r4.2.1)

/-! (fundadmin/decimal.between).down -/
noncomputable def g_decimal_between_down (x0 : ((Bool × (List Int)) × (Int × Bool))) : Option Bool :=
  some x0.2.2

/-! (fundadmin/decimal.between).up -/
noncomputable def g_decimal_between_up (x0 : ((Bool × (List Int)) × (Int × Bool))) : Option Bool :=
  some (!x0.2.2)

/-! (fundadmin/decimal.between).floor -/
noncomputable def g_decimal_between_floor (x0 : ((Bool × (List Int)) × (Int × Bool))) : Option Bool :=
  some false

/-! (fundadmin/decimal.between).ceil -/
noncomputable def g_decimal_between_ceil (x0 : ((Bool × (List Int)) × (Int × Bool))) : Option Bool :=
  some true

/-! (fundadmin/decimal.between).halfUp -/
noncomputable def g_decimal_between_halfUp (x0 : ((Bool × (List Int)) × (Int × Bool))) : Option Bool :=
  (bif (x0.2.1 == (0 : Int)) then
  (g_decimal_between_up x0).bind fun r1 =>
  some r1
else
  some (decide (x0.2.1 > (0 : Int))))

/-! (fundadmin/decimal.between).halfEven -/
noncomputable def g_decimal_between_halfEven (x0 : ((Bool × (List Int)) × (Int × Bool))) : Option Bool :=
  (bif (x0.2.1 == (0 : Int)) then
  (bif (inb (0 : Int) 32) then
  (bif decide ((2 : Int) = 0) then
  none
else
  let v1 : Int := ((x0.1.2.getD (0 : Int).toNat (0 : Int)).tmod (2 : Int))
  some (v1 == (1 : Int)))
else
  none)
else
  some (decide (x0.2.1 > (0 : Int))))

/-! fundadmin/decimal.Round -/
noncomputable def g_decimal_Round_E47 (r1 : ((Bool × (List Int)) × (Bool × (List Int)))) (r2 : Int) (r3 : Int) : Option ((Bool × (List Int)) × Int) :=
  (g_bigint_Sign r1.2).bind fun r4 =>
  (bif (r4 == (0 : Int)) then
  some (r1.1, (0 : Int))
else
  (g_decimal_between_down (r1.1, (r2, (decide (r3 < (0 : Int)))))).bind fun r5 =>
  (bif (!r5) then
  some (r1.1, (0 : Int))
else
  (g_bigint_FromInt (1 : Int)).bind fun r6 =>
  (g_bigint_Add r1.1 r6).bind fun r7 =>
  some (r7.1, (0 : Int))))

noncomputable def g_decimal_Round_E47_2 (r1 : ((Bool × (List Int)) × (Bool × (List Int)))) (r2 : Int) (r3 : Int) : Option ((Bool × (List Int)) × Int) :=
  (g_bigint_Sign r1.2).bind fun r4 =>
  (bif (r4 == (0 : Int)) then
  some (r1.1, (0 : Int))
else
  (g_decimal_between_up (r1.1, (r2, (decide (r3 < (0 : Int)))))).bind fun r5 =>
  (bif (!r5) then
  some (r1.1, (0 : Int))
else
  (g_bigint_FromInt (1 : Int)).bind fun r6 =>
  (g_bigint_Add r1.1 r6).bind fun r7 =>
  some (r7.1, (0 : Int))))

noncomputable def g_decimal_Round_E47_3 (r1 : ((Bool × (List Int)) × (Bool × (List Int)))) (r2 : Int) (r3 : Int) : Option ((Bool × (List Int)) × Int) :=
  (g_bigint_Sign r1.2).bind fun r4 =>
  (bif (r4 == (0 : Int)) then
  some (r1.1, (0 : Int))
else
  (g_decimal_between_floor (r1.1, (r2, (decide (r3 < (0 : Int)))))).bind fun r5 =>
  (bif (!r5) then
  some (r1.1, (0 : Int))
else
  (g_bigint_FromInt (1 : Int)).bind fun r6 =>
  (g_bigint_Add r1.1 r6).bind fun r7 =>
  some (r7.1, (0 : Int))))

noncomputable def g_decimal_Round_E47_4 (r1 : ((Bool × (List Int)) × (Bool × (List Int)))) (r2 : Int) (r3 : Int) : Option ((Bool × (List Int)) × Int) :=
  (g_bigint_Sign r1.2).bind fun r4 =>
  (bif (r4 == (0 : Int)) then
  some (r1.1, (0 : Int))
else
  (g_decimal_between_ceil (r1.1, (r2, (decide (r3 < (0 : Int)))))).bind fun r5 =>
  (bif (!r5) then
  some (r1.1, (0 : Int))
else
  (g_bigint_FromInt (1 : Int)).bind fun r6 =>
  (g_bigint_Add r1.1 r6).bind fun r7 =>
  some (r7.1, (0 : Int))))

noncomputable def g_decimal_Round_E47_5 (r1 : ((Bool × (List Int)) × (Bool × (List Int)))) (r2 : Int) (r3 : Int) : Option ((Bool × (List Int)) × Int) :=
  (g_bigint_Sign r1.2).bind fun r4 =>
  (bif (r4 == (0 : Int)) then
  some (r1.1, (0 : Int))
else
  (g_decimal_between_halfUp (r1.1, (r2, (decide (r3 < (0 : Int)))))).bind fun r5 =>
  (bif (!r5) then
  some (r1.1, (0 : Int))
else
  (g_bigint_FromInt (1 : Int)).bind fun r6 =>
  (g_bigint_Add r1.1 r6).bind fun r7 =>
  some (r7.1, (0 : Int))))

noncomputable def g_decimal_Round_E47_6 (r1 : ((Bool × (List Int)) × (Bool × (List Int)))) (r2 : Int) (r3 : Int) : Option ((Bool × (List Int)) × Int) :=
  (g_bigint_Sign r1.2).bind fun r4 =>
  (bif (r4 == (0 : Int)) then
  some (r1.1, (0 : Int))
else
  (g_decimal_between_halfEven (r1.1, (r2, (decide (r3 < (0 : Int)))))).bind fun r5 =>
  (bif (!r5) then
  some (r1.1, (0 : Int))
else
  (g_bigint_FromInt (1 : Int)).bind fun r6 =>
  (g_bigint_Add r1.1 r6).bind fun r7 =>
  some (r7.1, (0 : Int))))
noncomputable def g_decimal_Round (x0 : ((Bool × (List Int)) × (Bool × (List Int)))) (x1 : Int) (x2 : Int) : Option ((Bool × (List Int)) × Int) :=
  (g_decimal_check x0 x1).bind fun r1 =>
  (bif (r1 != (0 : Int)) then
  some ((false, (List.replicate 32 (0 : Int))), r1)
else
  (g_decimal_scaled x0 x1).bind fun r2 =>
  (g_bigint_Add r2.2 r2.2).bind fun r3 =>
  (g_bigint_Cmp r3.1 x0.2).bind fun r4 =>
  (g_bigint_Sign x0.1).bind fun r5 =>
  (bif (x2 == (1 : Int)) then
  (g_decimal_Round_E47 r2 r4 r5)
else
  (bif (x2 == (2 : Int)) then
  (g_decimal_Round_E47_2 r2 r4 r5)
else
  (bif (x2 == (3 : Int)) then
  (g_decimal_Round_E47_3 r2 r4 r5)
else
  (bif (x2 == (4 : Int)) then
  (g_decimal_Round_E47_4 r2 r4 r5)
else
  (bif (x2 == (5 : Int)) then
  (g_decimal_Round_E47_5 r2 r4 r5)
else
  (bif (x2 == (6 : Int)) then
  (g_decimal_Round_E47_6 r2 r4 r5)
else
  some ((false, (List.replicate 32 (0 : Int))), (31 : Int)))))))))

/-! fundadmin/decimal.Quantize -/
noncomputable def g_decimal_Quantize (x0 : ((Bool × (List Int)) × (Bool × (List Int)))) (x1 : Int) (x2 : Int) : Option (((Bool × (List Int)) × (Bool × (List Int))) × Int) :=
  (g_decimal_Round x0 x1 x2).bind fun r1 =>
  (bif (r1.2 != (0 : Int)) then
  some (((false, (List.replicate 32 (0 : Int))), (false, (List.replicate 32 (0 : Int)))), r1.2)
else
  (g_decimal_power x1).bind fun r2 =>
  (g_bigint_FromInt r2).bind fun r3 =>
  (g_ratio_Make r1.1 r3).bind fun r4 =>
  some (r4.1, r4.2))

/-! fundadmin/highwater.Crystallise -/
noncomputable def g_highwater_Crystallise (x0 : (((Bool × (List Int)) × (Bool × (List Int))) × (((Bool × (List Int)) × (Bool × (List Int))) × Int))) (x1 : (((Bool × (List Int)) × (Bool × (List Int))) × Int)) (x2 : ((Bool × (List Int)) × (Bool × (List Int)))) (x3 : Int) : Option (((Bool × (List Int)) × (Bool × (List Int))) × ((((Bool × (List Int)) × (Bool × (List Int))) × Int) × Int)) :=
  (g_highwater_Fee x0 x1 x2 x3).bind fun r1 =>
  (bif (r1.2 != (0 : Int)) then
  some (((false, (List.replicate 32 (0 : Int))), (false, (List.replicate 32 (0 : Int)))), ((((false, (List.replicate 32 (0 : Int))), (false, (List.replicate 32 (0 : Int)))), (0 : Int)), r1.2))
else
  (g_ratio_Whole (0 : Int)).bind fun r2 =>
  let v3 : Bool := (((r1.1.1.1 == r2.1.1) && (List.isEqv r1.1.1.2 r2.1.2 (eqv (.int .u32)))) && ((r1.1.2.1 == r2.2.1) && (List.isEqv r1.1.2.2 r2.2.2 (eqv (.int .u32)))))
  (bif v3 then
  some (r1.1, (x1, (0 : Int)))
else
  (g_ratio_Sub x2 r1.1).bind fun r4 =>
  (bif (r4.2 != (0 : Int)) then
  some (((false, (List.replicate 32 (0 : Int))), (false, (List.replicate 32 (0 : Int)))), ((((false, (List.replicate 32 (0 : Int))), (false, (List.replicate 32 (0 : Int)))), (0 : Int)), r4.2))
else
  (g_decimal_Quantize r4.1 (9 : Int) (4 : Int)).bind fun r5 =>
  (bif (r5.2 != (0 : Int)) then
  some (((false, (List.replicate 32 (0 : Int))), (false, (List.replicate 32 (0 : Int)))), ((((false, (List.replicate 32 (0 : Int))), (false, (List.replicate 32 (0 : Int)))), (0 : Int)), r5.2))
else
  some (r1.1, ((r5.1, x3), (0 : Int)))))))

/-! fundadmin/fundadminref01.limbs -/
noncomputable def g_ref01_limbs_L2 (x0 : (List Int)) (s2 : (Int × Unit)) : Option (Next (Int × Unit)) :=
  (bif (decide (s2.1 > (0 : Int))) then
  (bif (inb (IntKind.i64.wrap (s2.1 - (1 : Int))) 32) then
  let v3 : Int := (x0.getD (IntKind.i64.wrap (s2.1 - (1 : Int))).toNat (0 : Int))
  (bif (v3 == (0 : Int)) then
  some (.more ((IntKind.i64.wrap (s2.1 - (1 : Int))), ()))
else
  some (.out 0 (s2.1, ())))
else
  none)
else
  some (.out 0 (s2.1, ())))
noncomputable def g_ref01_limbs (x0 : (List Int)) : Option Int :=
  (loopD (S := (Int × Unit)) (g_ref01_limbs_L2 x0) ((32 : Int), ())).bind fun o3 =>
  some o3.2.1

/-! fundadmin/fundadminref01.zero -/
noncomputable def g_ref01_zero (x0 : (List Int)) : Option Bool :=
  (g_ref01_limbs x0).bind fun r1 =>
  some (r1 == (0 : Int))

/-! fundadmin/fundadminref01.Sign -/
noncomputable def g_ref01_Sign (x0 : (Bool × (List Int))) : Option Int :=
  (g_ref01_zero x0.2).bind fun r1 =>
  (bif r1 then
  some (0 : Int)
else
  (bif x0.1 then
  some (-1 : Int)
else
  some (1 : Int)))

/-! fundadmin/fundadminref01.Bits -/
noncomputable def g_ref01_Bits_L6 (s1 : ((Int × Int) × Unit)) : Option (Next ((Int × Int) × Unit)) :=
  (bif (decide (s1.1.2 > (0 : Int))) then
  (bif decide ((1 : Int) < 0) then
  none
else
  some (.more (((IntKind.i64.wrap (s1.1.1 + (1 : Int))), (s1.1.2.fdiv (2 ^ (min (1 : Int).toNat 32)))), ())))
else
  some (.out 0 ((s1.1.1, s1.1.2), ())))
noncomputable def g_ref01_Bits (x0 : (Bool × (List Int))) : Option Int :=
  (g_ref01_limbs x0.2).bind fun r1 =>
  (bif (r1 == (0 : Int)) then
  some (0 : Int)
else
  let v2 : Int := (IntKind.i64.wrap ((32 : Int) * (IntKind.i64.wrap (r1 - (1 : Int)))))
  (bif (inb (IntKind.i64.wrap (r1 - (1 : Int))) 32) then
  let v3 : Int := (x0.2.getD (IntKind.i64.wrap (r1 - (1 : Int))).toNat (0 : Int))
  (loopD (S := ((Int × Int) × Unit)) g_ref01_Bits_L6 ((v2, v3), ())).bind fun o5 =>
  some o5.2.1.1
else
  none))

/-! fundadmin/fundadminref01.canonical -/
noncomputable def g_ref01_canonical (x0 : Bool) (x1 : (List Int)) : Option (Bool × (List Int)) :=
  (bif x0 then
  (g_ref01_zero x1).bind fun r1 =>
  some ((!r1), x1)
else
  some (false, x1))

/-! fundadmin/fundadminref01.compare -/
noncomputable def g_ref01_compare_L2 (x0 : (List Int)) (x1 : (List Int)) (s3 : ((Int × Int) × Unit)) : Option (Next ((Int × Int) × Unit)) :=
  (bif (decide (s3.1.2 ≥ (0 : Int))) then
  (bif (inb s3.1.2 32) then
  (bif (inb s3.1.2 32) then
  let v4 : Bool := (decide ((x0.getD s3.1.2.toNat (0 : Int)) < (x1.getD s3.1.2.toNat (0 : Int))))
  (bif v4 then
  some (.out 0 (((-1 : Int), s3.1.2), ()))
else
  (bif (inb s3.1.2 32) then
  (bif (inb s3.1.2 32) then
  let v5 : Bool := (decide ((x0.getD s3.1.2.toNat (0 : Int)) > (x1.getD s3.1.2.toNat (0 : Int))))
  (bif v5 then
  some (.out 0 (((1 : Int), s3.1.2), ()))
else
  some (.more ((s3.1.1, (IntKind.i64.wrap (s3.1.2 - (1 : Int)))), ())))
else
  none)
else
  none))
else
  none)
else
  none)
else
  some (.out 1 ((s3.1.1, s3.1.2), ())))
noncomputable def g_ref01_compare (x0 : (List Int)) (x1 : (List Int)) : Option Int :=
  (loopD (S := ((Int × Int) × Unit)) (g_ref01_compare_L2 x0 x1) (((0 : Int), (31 : Int)), ())).bind fun o4 =>
  (bif Nat.beq o4.1 0 then
  some o4.2.1.1
else
  some (0 : Int))

/-! fundadmin/fundadminref01.difference -/
noncomputable def g_ref01_difference_L4 (x0 : (List Int)) (x1 : (List Int)) (s3 : ((Int × Int) × (List Int))) : Option (Next ((Int × Int) × (List Int))) :=
  (bif (decide (s3.1.2 < (32 : Int))) then
  (bif (inb s3.1.2 32) then
  let v4 : Int := (IntKind.u64.wrap (x0.getD s3.1.2.toNat (0 : Int)))
  (bif (inb s3.1.2 32) then
  let v5 : Int := (IntKind.u64.wrap (x1.getD s3.1.2.toNat (0 : Int)))
  let v6 : Int := (IntKind.u64.wrap ((IntKind.u64.wrap (v4 - v5)) - s3.1.1))
  (bif (inb s3.1.2 32) then
  (bif decide ((63 : Int) < 0) then
  none
else
  some (.more (((v6.fdiv (2 ^ (min (63 : Int).toNat 64))), (IntKind.i64.wrap (s3.1.2 + (1 : Int)))), (s3.2.set s3.1.2.toNat (IntKind.u32.wrap v6)))))
else
  none)
else
  none)
else
  none)
else
  some (.out 0 ((s3.1.1, s3.1.2), s3.2)))
noncomputable def g_ref01_difference (x0 : (List Int)) (x1 : (List Int)) : Option (List Int) :=
  (loopD (S := ((Int × Int) × (List Int))) (g_ref01_difference_L4 x0 x1) (((0 : Int), (0 : Int)), (List.replicate 32 (0 : Int)))).bind fun o5 =>
  some o5.2.2

/-! fundadmin/fundadminref01.small -/
noncomputable def g_ref01_small (x0 : Int) : Option (List Int) :=
  (bif decide ((32 : Int) < 0) then
  none
else
  let v1 : Int := (IntKind.u32.wrap (x0.fdiv (2 ^ (min (32 : Int).toNat 64))))
  (bif (inb (0 : Int) 32) then
  let v2 : (List Int) := ((List.replicate 32 (0 : Int)).set (0 : Int).toNat (IntKind.u32.wrap x0))
  (bif (inb (1 : Int) 32) then
  some (v2.set (1 : Int).toNat v1)
else
  none)
else
  none))

/-! fundadmin/fundadminref01.low -/
noncomputable def g_ref01_low (x0 : (List Int)) : Option Int :=
  (bif (inb (1 : Int) 32) then
  let v1 : Int := (IntKind.u64.wrap (x0.getD (1 : Int).toNat (0 : Int)))
  (bif decide ((32 : Int) < 0) then
  none
else
  let v2 : Int := (IntKind.u64.wrap (v1 * 2 ^ (min (32 : Int).toNat 64)))
  (bif (inb (0 : Int) 32) then
  let v3 : Int := (IntKind.u64.wrap (x0.getD (0 : Int).toNat (0 : Int)))
  let v4 : Int := (IntKind.u64.wrap ((((BitVec.ofInt 64 v2) ||| (BitVec.ofInt 64 v3)).toNat : Int)))
  some v4
else
  none))
else
  none)

/-! fundadmin/fundadminref01.shifted -/
noncomputable def g_ref01_shifted_L4 (x0 : (List Int)) (x1 : Int) (s3 : (Int × (List Int))) : Option (Next (Int × (List Int))) :=
  let v4 : Int := (IntKind.i64.wrap (s3.1 + (IntKind.i64.wrap (x1.tdiv (32 : Int)))))
  (bif (decide (v4 < (32 : Int))) then
  let v5 : Int := (IntKind.i64.wrap (s3.1 + (IntKind.i64.wrap (x1.tdiv (32 : Int)))))
  (bif (inb v5 32) then
  (bif decide ((IntKind.u64.wrap (x1.tmod (32 : Int))) < 0) then
  none
else
  let v6 : Int := ((x0.getD v5.toNat (0 : Int)).fdiv (2 ^ (min (IntKind.u64.wrap (x1.tmod (32 : Int))).toNat 32)))
  (bif (inb s3.1 32) then
  let v7 : Bool := (decide ((IntKind.u64.wrap (x1.tmod (32 : Int))) > (0 : Int)))
  (bif v7 then
  let v8 : Int := (IntKind.i64.wrap (s3.1 + (IntKind.i64.wrap (x1.tdiv (32 : Int)))))
  let v9 : Bool := (decide ((IntKind.i64.wrap (v8 + (1 : Int))) < (32 : Int)))
  (bif v9 then
  (bif (inb s3.1 32) then
  let v10 : Int := ((s3.2.set s3.1.toNat v6).getD s3.1.toNat (0 : Int))
  let v11 : Int := (IntKind.i64.wrap (s3.1 + (IntKind.i64.wrap (x1.tdiv (32 : Int)))))
  (bif (inb (IntKind.i64.wrap (v11 + (1 : Int))) 32) then
  let v12 : Int := (x0.getD (IntKind.i64.wrap (v11 + (1 : Int))).toNat (0 : Int))
  let v13 : Int := (IntKind.u64.wrap ((32 : Int) - (IntKind.u64.wrap (x1.tmod (32 : Int)))))
  (bif decide (v13 < 0) then
  none
else
  let v14 : Int := (IntKind.u32.wrap (v12 * 2 ^ (min v13.toNat 32)))
  let v15 : Int := (IntKind.u32.wrap ((((BitVec.ofInt 32 v10) ||| (BitVec.ofInt 32 v14)).toNat : Int)))
  (bif (inb s3.1 32) then
  some (.more ((IntKind.i64.wrap (s3.1 + (1 : Int))), ((s3.2.set s3.1.toNat v6).set s3.1.toNat v15)))
else
  none))
else
  none)
else
  none)
else
  some (.more ((IntKind.i64.wrap (s3.1 + (1 : Int))), (s3.2.set s3.1.toNat v6))))
else
  some (.more ((IntKind.i64.wrap (s3.1 + (1 : Int))), (s3.2.set s3.1.toNat v6))))
else
  none))
else
  none)
else
  some (.out 0 (s3.1, s3.2)))
noncomputable def g_ref01_shifted (x0 : (List Int)) (x1 : Int) : Option (List Int) :=
  (bif decide ((32 : Int) = 0) then
  none
else
  (bif decide ((32 : Int) = 0) then
  none
else
  (loopD (S := (Int × (List Int))) (g_ref01_shifted_L4 x0 x1) ((0 : Int), (List.replicate 32 (0 : Int)))).bind fun o14 =>
  some o14.2.2))

/-! fundadmin/fundadminref01.double -/
noncomputable def g_ref01_double_L2 (s1 : ((Int × Int) × (List Int))) : Option (Next ((Int × Int) × (List Int))) :=
  (bif (decide (s1.1.2 < (32 : Int))) then
  (bif (inb s1.1.2 32) then
  (bif decide ((1 : Int) < 0) then
  none
else
  let v2 : Int := (IntKind.u32.wrap ((s1.2.getD s1.1.2.toNat (0 : Int)) * 2 ^ (min (1 : Int).toNat 32)))
  let v3 : Int := (IntKind.u32.wrap ((((BitVec.ofInt 32 v2) ||| (BitVec.ofInt 32 s1.1.1)).toNat : Int)))
  (bif (inb s1.1.2 32) then
  (bif decide ((31 : Int) < 0) then
  none
else
  let v4 : Int := ((s1.2.getD s1.1.2.toNat (0 : Int)).fdiv (2 ^ (min (31 : Int).toNat 32)))
  (bif (inb s1.1.2 32) then
  some (.more ((v4, (IntKind.i64.wrap (s1.1.2 + (1 : Int)))), (s1.2.set s1.1.2.toNat v3)))
else
  none))
else
  none))
else
  none)
else
  some (.out 0 ((s1.1.1, s1.1.2), s1.2)))
noncomputable def g_ref01_double (x0 : (List Int)) (x1 : Int) : Option ((List Int) × Bool) :=
  (loopD (S := ((Int × Int) × (List Int))) g_ref01_double_L2 ((x1, (0 : Int)), x0)).bind fun o5 =>
  some (o5.2.2, (o5.2.1.1 == (1 : Int)))

/-! fundadmin/fundadminref01.divide -/
noncomputable def g_ref01_divide_T75 (x1 : (List Int)) (r2 : ((List Int) × Bool)) (s3 : (Int × ((List Int) × (List Int)))) : Option (Next (Int × ((List Int) × (List Int)))) :=
  (g_ref01_difference r2.1 x1).bind fun r4 =>
  (bif decide ((32 : Int) = 0) then
  none
else
  (bif (inb (IntKind.i64.wrap (s3.1.tdiv (32 : Int))) 32) then
  let v5 : Int := (s3.2.1.getD (IntKind.i64.wrap (s3.1.tdiv (32 : Int))).toNat (0 : Int))
  (bif decide ((32 : Int) = 0) then
  none
else
  (bif decide ((IntKind.u64.wrap (s3.1.tmod (32 : Int))) < 0) then
  none
else
  let v6 : Int := (IntKind.u32.wrap ((1 : Int) * 2 ^ (min (IntKind.u64.wrap (s3.1.tmod (32 : Int))).toNat 32)))
  let v7 : Int := (IntKind.u32.wrap ((((BitVec.ofInt 32 v5) ||| (BitVec.ofInt 32 v6)).toNat : Int)))
  (bif (inb (IntKind.i64.wrap (s3.1.tdiv (32 : Int))) 32) then
  let v8 : (List Int) := (s3.2.1.set (IntKind.i64.wrap (s3.1.tdiv (32 : Int))).toNat v7)
  some (.more ((IntKind.i64.wrap (s3.1 - (1 : Int))), (v8, r4)))
else
  none)))
else
  none))

noncomputable def g_ref01_divide_T52 (x0 : (List Int)) (x1 : (List Int)) (s3 : (Int × ((List Int) × (List Int)))) : Option (Next (Int × ((List Int) × (List Int)))) :=
  (bif decide ((32 : Int) = 0) then
  none
else
  (bif (inb (IntKind.i64.wrap (s3.1.tdiv (32 : Int))) 32) then
  let v4 : Int := (x0.getD (IntKind.i64.wrap (s3.1.tdiv (32 : Int))).toNat (0 : Int))
  (bif decide ((32 : Int) = 0) then
  none
else
  (bif decide ((IntKind.u64.wrap (s3.1.tmod (32 : Int))) < 0) then
  none
else
  let v5 : Int := (v4.fdiv (2 ^ (min (IntKind.u64.wrap (s3.1.tmod (32 : Int))).toNat 32)))
  let v6 : Int := (IntKind.u32.wrap ((((BitVec.ofInt 32 v5) &&& (BitVec.ofInt 32 (1 : Int))).toNat : Int)))
  (g_ref01_double s3.2.2 v6).bind fun r7 =>
  (bif r7.2 then
  (g_ref01_divide_T75 x1 r7 s3)
else
  (g_ref01_compare r7.1 x1).bind fun r8 =>
  (bif (decide (r8 ≥ (0 : Int))) then
  (g_ref01_divide_T75 x1 r7 s3)
else
  some (.more ((IntKind.i64.wrap (s3.1 - (1 : Int))), (s3.2.1, r7.1)))))))
else
  none))

noncomputable def g_ref01_divide_L8 (x0 : (List Int)) (x1 : (List Int)) (s3 : (Int × ((List Int) × (List Int)))) : Option (Next (Int × ((List Int) × (List Int)))) :=
  (bif (decide (s3.1 ≥ (0 : Int))) then
  (g_ref01_divide_T52 x0 x1 s3)
else
  some (.out 0 (s3.1, (s3.2.1, s3.2.2))))

noncomputable def g_ref01_divide_E39 (x0 : (List Int)) (x1 : (List Int)) (r3 : Int) (r4 : Int) : Option ((List Int) × (List Int)) :=
  let v5 : Int := (IntKind.i64.wrap (r3 - (IntKind.i64.wrap (r4 - (1 : Int)))))
  (g_ref01_shifted x0 v5).bind fun r6 =>
  let v7 : Int := (IntKind.i64.wrap (r3 - (IntKind.i64.wrap (r4 - (1 : Int)))))
  (loopD (S := (Int × ((List Int) × (List Int)))) (g_ref01_divide_L8 x0 x1) ((IntKind.i64.wrap (v7 - (1 : Int))), ((List.replicate 32 (0 : Int)), r6))).bind fun o8 =>
  some (o8.2.2.1, o8.2.2.2)
noncomputable def g_ref01_divide (x0 : (List Int)) (x1 : (List Int)) : Option ((List Int) × (List Int)) :=
  (g_ref01_limbs x0).bind fun r1 =>
  (bif (decide (r1 ≤ (2 : Int))) then
  (g_ref01_limbs x1).bind fun r2 =>
  (bif (decide (r2 ≤ (2 : Int))) then
  (g_ref01_low x0).bind fun r3 =>
  (g_ref01_low x1).bind fun r4 =>
  (bif decide (r4 = 0) then
  none
else
  (g_ref01_small (IntKind.u64.wrap (r3.tdiv r4))).bind fun r5 =>
  (g_ref01_low x0).bind fun r6 =>
  (g_ref01_low x1).bind fun r7 =>
  (bif decide (r7 = 0) then
  none
else
  (g_ref01_small (r6.tmod r7)).bind fun r8 =>
  some (r5, r8)))
else
  (g_ref01_Bits (false, x0)).bind fun r9 =>
  (g_ref01_Bits (false, x1)).bind fun r10 =>
  let v11 : Bool := (decide (r9 ≤ (IntKind.i64.wrap (r10 - (1 : Int)))))
  (bif v11 then
  some ((List.replicate 32 (0 : Int)), x0)
else
  (g_ref01_divide_E39 x0 x1 r9 r10)))
else
  (g_ref01_Bits (false, x0)).bind fun r32 =>
  (g_ref01_Bits (false, x1)).bind fun r33 =>
  let v34 : Bool := (decide (r32 ≤ (IntKind.i64.wrap (r33 - (1 : Int)))))
  (bif v34 then
  some ((List.replicate 32 (0 : Int)), x0)
else
  (g_ref01_divide_E39 x0 x1 r32 r33)))

/-! fundadmin/fundadminref01.Gcd -/
noncomputable def g_ref01_Gcd_L2 (s1 : (Unit × ((List Int) × (List Int)))) : Option (Next (Unit × ((List Int) × (List Int)))) :=
  (g_ref01_zero s1.2.2).bind fun r2 =>
  (bif (!r2) then
  (g_ref01_divide s1.2.1 s1.2.2).bind fun r3 =>
  some (.more ((), (s1.2.2, r3.2)))
else
  some (.out 0 ((), (s1.2.1, s1.2.2))))
noncomputable def g_ref01_Gcd (x0 : (Bool × (List Int))) (x1 : (Bool × (List Int))) : Option (Bool × (List Int)) :=
  (loopD (S := (Unit × ((List Int) × (List Int)))) g_ref01_Gcd_L2 ((), (x0.2, x1.2))).bind fun o4 =>
  (g_ref01_canonical false o4.2.2.1).bind fun r5 =>
  some r5

/-! fundadmin/fundadminref01.Neg -/
noncomputable def g_ref01_Neg (x0 : (Bool × (List Int))) : Option (Bool × (List Int)) :=
  (g_ref01_canonical (!x0.1) x0.2).bind fun r1 =>
  some r1

/-! fundadmin/fundadminref01.sum -/
noncomputable def g_ref01_sum_L4 (x0 : (List Int)) (x1 : (List Int)) (s3 : ((Int × Int) × (List Int))) : Option (Next ((Int × Int) × (List Int))) :=
  (bif (decide (s3.1.2 < (32 : Int))) then
  (bif (inb s3.1.2 32) then
  let v4 : Int := (IntKind.u64.wrap (x0.getD s3.1.2.toNat (0 : Int)))
  (bif (inb s3.1.2 32) then
  let v5 : Int := (IntKind.u64.wrap (x1.getD s3.1.2.toNat (0 : Int)))
  let v6 : Int := (IntKind.u64.wrap ((IntKind.u64.wrap (v4 + v5)) + s3.1.1))
  (bif (inb s3.1.2 32) then
  (bif decide ((32 : Int) < 0) then
  none
else
  some (.more (((v6.fdiv (2 ^ (min (32 : Int).toNat 64))), (IntKind.i64.wrap (s3.1.2 + (1 : Int)))), (s3.2.set s3.1.2.toNat (IntKind.u32.wrap v6)))))
else
  none)
else
  none)
else
  none)
else
  some (.out 0 ((s3.1.1, s3.1.2), s3.2)))
noncomputable def g_ref01_sum (x0 : (List Int)) (x1 : (List Int)) : Option ((List Int) × Bool) :=
  (loopD (S := ((Int × Int) × (List Int))) (g_ref01_sum_L4 x0 x1) (((0 : Int), (0 : Int)), (List.replicate 32 (0 : Int)))).bind fun o5 =>
  some (o5.2.2, (o5.2.1.1 == (0 : Int)))

/-! fundadmin/fundadminref01.DivMod -/
noncomputable def g_ref01_DivMod (x0 : (Bool × (List Int))) (x1 : (Bool × (List Int))) : Option ((Bool × (List Int)) × ((Bool × (List Int)) × Int)) :=
  (g_ref01_zero x1.2).bind fun r1 =>
  (bif r1 then
  some ((false, (List.replicate 32 (0 : Int))), ((false, (List.replicate 32 (0 : Int))), (11 : Int)))
else
  (g_ref01_divide x0.2 x1.2).bind fun r2 =>
  (bif x0.1 then
  (g_ref01_zero r2.2).bind fun r3 =>
  (bif (!r3) then
  (g_ref01_difference x1.2 r2.2).bind fun r4 =>
  (bif (inb (0 : Int) 32) then
  let v5 : (List Int) := ((List.replicate 32 (0 : Int)).set (0 : Int).toNat (1 : Int))
  (g_ref01_sum r2.1 v5).bind fun r6 =>
  (g_ref01_canonical (!(x0.1 == x1.1)) r6.1).bind fun r7 =>
  (g_ref01_canonical false r4).bind fun r8 =>
  some (r7, (r8, (0 : Int)))
else
  none)
else
  (g_ref01_canonical (!(x0.1 == x1.1)) r2.1).bind fun r9 =>
  (g_ref01_canonical false r2.2).bind fun r10 =>
  some (r9, (r10, (0 : Int))))
else
  (g_ref01_canonical (!(x0.1 == x1.1)) r2.1).bind fun r11 =>
  (g_ref01_canonical false r2.2).bind fun r12 =>
  some (r11, (r12, (0 : Int)))))

/-! fundadmin/fundadminref02.Make -/
noncomputable def g_ref02_Make (x0 : (Bool × (List Int))) (x1 : (Bool × (List Int))) : Option (((Bool × (List Int)) × (Bool × (List Int))) × Int) :=
  (g_ref01_Sign x1).bind fun r1 =>
  (bif (r1 == (0 : Int)) then
  some (((false, (List.replicate 32 (0 : Int))), (false, (List.replicate 32 (0 : Int)))), (11 : Int))
else
  (g_ref01_Gcd x0 x1).bind fun r2 =>
  (g_ref01_DivMod x0 r2).bind fun r3 =>
  (g_ref01_DivMod x1 r2).bind fun r4 =>
  (g_ref01_Sign r4.1).bind fun r5 =>
  (bif (decide (r5 < (0 : Int))) then
  (g_ref01_Neg r3.1).bind fun r6 =>
  (g_ref01_Neg r4.1).bind fun r7 =>
  (g_ref01_Bits r6).bind fun r8 =>
  (bif (decide (r8 > (480 : Int))) then
  some (((false, (List.replicate 32 (0 : Int))), (false, (List.replicate 32 (0 : Int)))), (10 : Int))
else
  (g_ref01_Bits r7).bind fun r9 =>
  (bif (decide (r9 > (480 : Int))) then
  some (((false, (List.replicate 32 (0 : Int))), (false, (List.replicate 32 (0 : Int)))), (10 : Int))
else
  some ((r6, r7), (0 : Int))))
else
  (g_ref01_Bits r3.1).bind fun r10 =>
  (bif (decide (r10 > (480 : Int))) then
  some (((false, (List.replicate 32 (0 : Int))), (false, (List.replicate 32 (0 : Int)))), (10 : Int))
else
  (g_ref01_Bits r4.1).bind fun r11 =>
  (bif (decide (r11 > (480 : Int))) then
  some (((false, (List.replicate 32 (0 : Int))), (false, (List.replicate 32 (0 : Int)))), (10 : Int))
else
  some ((r3.1, r4.1), (0 : Int))))))

/-! fundadmin/fundadminref01.FromInt -/
noncomputable def g_ref01_FromInt (x0 : Int) : Option (Bool × (List Int)) :=
  (bif (decide (x0 < (0 : Int))) then
  let v1 : Int := (IntKind.u32.wrap (IntKind.u64.wrap (0 - (IntKind.u64.wrap x0))))
  (bif decide ((32 : Int) < 0) then
  none
else
  let v2 : Int := ((IntKind.u64.wrap (0 - (IntKind.u64.wrap x0))).fdiv (2 ^ (min (32 : Int).toNat 64)))
  (bif (inb (0 : Int) 32) then
  (bif (inb (1 : Int) 32) then
  some ((decide (x0 < (0 : Int))), (((List.replicate 32 (0 : Int)).set (0 : Int).toNat v1).set (1 : Int).toNat (IntKind.u32.wrap v2)))
else
  none)
else
  none))
else
  (bif decide ((32 : Int) < 0) then
  none
else
  let v3 : Int := ((IntKind.u64.wrap x0).fdiv (2 ^ (min (32 : Int).toNat 64)))
  (bif (inb (0 : Int) 32) then
  (bif (inb (1 : Int) 32) then
  some ((decide (x0 < (0 : Int))), (((List.replicate 32 (0 : Int)).set (0 : Int).toNat (IntKind.u32.wrap (IntKind.u64.wrap x0))).set (1 : Int).toNat (IntKind.u32.wrap v3)))
else
  none)
else
  none)))

/-! fundadmin/fundadminref02.Of -/
noncomputable def g_ref02_Of (x0 : Int) (x1 : Int) : Option (((Bool × (List Int)) × (Bool × (List Int))) × Int) :=
  (g_ref01_FromInt x0).bind fun r1 =>
  (g_ref01_FromInt x1).bind fun r2 =>
  (g_ref02_Make r1 r2).bind fun r3 =>
  some (r3.1, r3.2)

/-! fundadmin/fundadminexact.Over -/
noncomputable def g_exact_Over (x0 : Int) (x1 : Int) : Option (((Bool × (List Int)) × (Bool × (List Int))) × Int) :=
  (g_ref02_Of x0 x1).bind fun r1 =>
  some (r1.1, r1.2)

/-! fundadmin/fundadminscene.Ratio -/
noncomputable def g_scene_Ratio (x0 : Int) (x1 : Int) : Option ((Bool × (List Int)) × (Bool × (List Int))) :=
  (g_exact_Over x0 (max x1 (1 : Int))).bind fun r1 =>
  some r1.1

/-! fundadmin/fundadminref02.Valid -/
noncomputable def g_ref02_Valid_E17 (x0 : ((Bool × (List Int)) × (Bool × (List Int)))) : Option Bool :=
  (g_ref01_Bits x0.1).bind fun r2 =>
  (bif (decide (r2 ≤ (480 : Int))) then
  (g_ref01_Bits x0.2).bind fun r3 =>
  (bif (decide (r3 ≤ (480 : Int))) then
  (g_ref01_Gcd x0.1 x0.2).bind fun r4 =>
  (g_ref01_FromInt (1 : Int)).bind fun r5 =>
  let v6 : Bool := ((r4.1 == r5.1) && (List.isEqv r4.2 r5.2 (eqv (.int .u32))))
  some v6
else
  some false)
else
  some false)
noncomputable def g_ref02_Valid (x0 : ((Bool × (List Int)) × (Bool × (List Int)))) : Option Bool :=
  (bif x0.1.1 then
  (g_ref01_Sign x0.1).bind fun r1 =>
  (bif (r1 == (0 : Int)) then
  some false
else
  (g_ref01_Sign x0.2).bind fun r2 =>
  (bif (decide (r2 ≤ (0 : Int))) then
  some false
else
  (g_ref02_Valid_E17 x0)))
else
  (g_ref01_Sign x0.2).bind fun r8 =>
  (bif (decide (r8 ≤ (0 : Int))) then
  some false
else
  (g_ref02_Valid_E17 x0)))

/-! fundadmin/fundadminref01.Mul -/
noncomputable def g_ref01_Mul_L8 (x0 : (Bool × (List Int))) (x1 : (Bool × (List Int))) (r3 : Int) (s4 : (Int × (List Int))) (s5 : ((Int × Int) × (List Int))) : Option (Next ((Int × Int) × (List Int))) :=
  (bif (decide (s5.1.2 < r3)) then
  (bif (inb s4.1 32) then
  let v6 : Int := (IntKind.u64.wrap (x0.2.getD s4.1.toNat (0 : Int)))
  (bif (inb s5.1.2 32) then
  let v7 : Int := (IntKind.u64.wrap (x1.2.getD s5.1.2.toNat (0 : Int)))
  (bif (inb (IntKind.i64.wrap (s4.1 + s5.1.2)) 64) then
  let v8 : Int := (s5.2.getD (IntKind.i64.wrap (s4.1 + s5.1.2)).toNat (0 : Int))
  let v9 : Int := (IntKind.u64.wrap ((IntKind.u64.wrap (v6 * v7)) + (IntKind.u64.wrap v8)))
  let v10 : Int := (IntKind.u32.wrap (IntKind.u64.wrap (v9 + s5.1.1)))
  (bif (inb (IntKind.i64.wrap (s4.1 + s5.1.2)) 64) then
  let v11 : (List Int) := (s5.2.set (IntKind.i64.wrap (s4.1 + s5.1.2)).toNat v10)
  (bif decide ((32 : Int) < 0) then
  none
else
  let v12 : Int := ((IntKind.u64.wrap (v9 + s5.1.1)).fdiv (2 ^ (min (32 : Int).toNat 64)))
  some (.more ((v12, (IntKind.i64.wrap (s5.1.2 + (1 : Int)))), v11)))
else
  none)
else
  none)
else
  none)
else
  none)
else
  some (.out 0 ((s5.1.1, s5.1.2), s5.2)))

noncomputable def g_ref01_Mul_L4 (x0 : (Bool × (List Int))) (x1 : (Bool × (List Int))) (r3 : Int) (r4 : Int) (s5 : (Int × (List Int))) : Option (Next (Int × (List Int))) :=
  (bif (decide (s5.1 < r3)) then
  (loopD (S := ((Int × Int) × (List Int))) (g_ref01_Mul_L8 x0 x1 r4 s5) (((0 : Int), (0 : Int)), s5.2)).bind fun o6 =>
  (bif (inb (IntKind.i64.wrap (s5.1 + r4)) 64) then
  let v7 : (List Int) := (o6.2.2.set (IntKind.i64.wrap (s5.1 + r4)).toNat (IntKind.u32.wrap o6.2.1.1))
  some (.more ((IntKind.i64.wrap (s5.1 + (1 : Int))), v7))
else
  none)
else
  some (.out 0 (s5.1, s5.2)))

noncomputable def g_ref01_Mul_L16 (o1 : (Nat × (Int × (List Int)))) (s2 : ((Int × Int) × ((Bool × (List Int)) × (List Int)))) : Option (Next ((Int × Int) × ((Bool × (List Int)) × (List Int)))) :=
  (bif (decide (s2.1.2 < (32 : Int))) then
  (bif (inb (IntKind.i64.wrap ((32 : Int) + s2.1.2)) 64) then
  let v3 : Int := (o1.2.2.getD (IntKind.i64.wrap ((32 : Int) + s2.1.2)).toNat (0 : Int))
  (bif (v3 != (0 : Int)) then
  some (.out 0 (((10 : Int), s2.1.2), ((false, (List.replicate 32 (0 : Int))), s2.2.2)))
else
  (bif (inb s2.1.2 64) then
  (bif (inb s2.1.2 32) then
  let v4 : (List Int) := (s2.2.2.set s2.1.2.toNat (o1.2.2.getD s2.1.2.toNat (0 : Int)))
  some (.more ((s2.1.1, (IntKind.i64.wrap (s2.1.2 + (1 : Int)))), (s2.2.1, v4)))
else
  none)
else
  none))
else
  none)
else
  some (.out 1 ((s2.1.1, s2.1.2), (s2.2.1, s2.2.2))))
noncomputable def g_ref01_Mul (x0 : (Bool × (List Int))) (x1 : (Bool × (List Int))) : Option ((Bool × (List Int)) × Int) :=
  (g_ref01_limbs x0.2).bind fun r1 =>
  (g_ref01_limbs x1.2).bind fun r2 =>
  (loopD (S := (Int × (List Int))) (g_ref01_Mul_L4 x0 x1 r1 r2) ((0 : Int), (List.replicate 64 (0 : Int)))).bind fun o14 =>
  (loopD (S := ((Int × Int) × ((Bool × (List Int)) × (List Int)))) (g_ref01_Mul_L16 o14) (((0 : Int), (0 : Int)), ((false, (List.replicate 32 (0 : Int))), (List.replicate 32 (0 : Int))))).bind fun o18 =>
  (bif Nat.beq o18.1 0 then
  some (o18.2.2.1, o18.2.1.1)
else
  (g_ref01_canonical (!(x0.1 == x1.1)) o18.2.2.2).bind fun r19 =>
  some (r19, (0 : Int)))

/-! fundadmin/fundadminref02.product -/
noncomputable def g_ref02_product (x0 : (Bool × (List Int))) (x1 : (Bool × (List Int))) : Option (Bool × (List Int)) :=
  (g_ref01_Mul x0 x1).bind fun r1 =>
  some r1.1

/-! fundadmin/fundadminref01.Add -/
noncomputable def g_ref01_Add (x0 : (Bool × (List Int))) (x1 : (Bool × (List Int))) : Option ((Bool × (List Int)) × Int) :=
  (g_ref01_canonical x0.1 x0.2).bind fun r1 =>
  (g_ref01_canonical x1.1 x1.2).bind fun r2 =>
  (bif (r1.1 == r2.1) then
  (g_ref01_sum r1.2 r2.2).bind fun r3 =>
  (bif (!r3.2) then
  some ((false, (List.replicate 32 (0 : Int))), (10 : Int))
else
  (g_ref01_canonical r1.1 r3.1).bind fun r4 =>
  some (r4, (0 : Int)))
else
  (g_ref01_compare r1.2 r2.2).bind fun r5 =>
  (bif (decide (r5 < (0 : Int))) then
  (g_ref01_difference r2.2 r1.2).bind fun r6 =>
  (g_ref01_canonical r2.1 r6).bind fun r7 =>
  some (r7, (0 : Int))
else
  (g_ref01_difference r1.2 r2.2).bind fun r8 =>
  (g_ref01_canonical r1.1 r8).bind fun r9 =>
  some (r9, (0 : Int))))

/-! fundadmin/fundadminref02.Add -/
noncomputable def g_ref02_Add (x0 : ((Bool × (List Int)) × (Bool × (List Int)))) (x1 : ((Bool × (List Int)) × (Bool × (List Int)))) : Option (((Bool × (List Int)) × (Bool × (List Int))) × Int) :=
  (g_ref02_Valid x0).bind fun r1 =>
  (bif (!r1) then
  some (((false, (List.replicate 32 (0 : Int))), (false, (List.replicate 32 (0 : Int)))), (20 : Int))
else
  (g_ref02_Valid x1).bind fun r2 =>
  (bif (!r2) then
  some (((false, (List.replicate 32 (0 : Int))), (false, (List.replicate 32 (0 : Int)))), (20 : Int))
else
  (g_ref02_product x0.1 x1.2).bind fun r3 =>
  (g_ref02_product x1.1 x0.2).bind fun r4 =>
  (g_ref01_Add r3 r4).bind fun r5 =>
  (g_ref02_product x0.2 x1.2).bind fun r6 =>
  (g_ref02_Make r5.1 r6).bind fun r7 =>
  some (r7.1, r7.2)))

/-! fundadmin/fundadminref02.Mul -/
noncomputable def g_ref02_Mul (x0 : ((Bool × (List Int)) × (Bool × (List Int)))) (x1 : ((Bool × (List Int)) × (Bool × (List Int)))) : Option (((Bool × (List Int)) × (Bool × (List Int))) × Int) :=
  (g_ref02_Valid x0).bind fun r1 =>
  (bif (!r1) then
  some (((false, (List.replicate 32 (0 : Int))), (false, (List.replicate 32 (0 : Int)))), (20 : Int))
else
  (g_ref02_Valid x1).bind fun r2 =>
  (bif (!r2) then
  some (((false, (List.replicate 32 (0 : Int))), (false, (List.replicate 32 (0 : Int)))), (20 : Int))
else
  (g_ref02_product x0.1 x1.1).bind fun r3 =>
  (g_ref02_product x0.2 x1.2).bind fun r4 =>
  (g_ref02_Make r3 r4).bind fun r5 =>
  some (r5.1, r5.2)))

/-! fundadmin/fundadminref05.Out -/
noncomputable def g_ref05_Out (x0 : Int) : Option Bool :=
  (bif (decide (x0 < (0 : Int))) then
  some true
else
  some (decide (x0 > (73048 : Int))))

/-! fundadmin/fundadminref05.Leap -/
noncomputable def g_ref05_Leap (x0 : Int) : Option Bool :=
  (bif decide ((4 : Int) = 0) then
  none
else
  (bif ((x0.tmod (4 : Int)) == (0 : Int)) then
  (bif decide ((100 : Int) = 0) then
  none
else
  (bif ((x0.tmod (100 : Int)) != (0 : Int)) then
  some true
else
  (bif decide ((400 : Int) = 0) then
  none
else
  some ((x0.tmod (400 : Int)) == (0 : Int)))))
else
  some false))

/-! fundadmin/fundadminref05.days -/
noncomputable def g_ref05_days (x0 : Int) : Option Int :=
  (g_ref05_Leap x0).bind fun r1 =>
  (bif r1 then
  some (366 : Int)
else
  some (365 : Int))

/-! fundadmin/fundadminref05.length -/
noncomputable def g_ref05_length (x0 : Int) (x1 : Int) : Option Int :=
  (bif (x1 == (2 : Int)) then
  (g_ref05_days x0).bind fun r1 =>
  some (IntKind.i64.wrap (r1 - (337 : Int)))
else
  (bif (x1 == (4 : Int)) then
  (bif (x1 == (4 : Int)) then
  some (30 : Int)
else
  some (31 : Int))
else
  (bif (x1 == (6 : Int)) then
  (bif (x1 == (6 : Int)) then
  some (30 : Int)
else
  some (31 : Int))
else
  (bif (x1 == (9 : Int)) then
  (bif (x1 == (9 : Int)) then
  some (30 : Int)
else
  some (31 : Int))
else
  (bif (x1 == (11 : Int)) then
  some (30 : Int)
else
  some (31 : Int))))))

/-! fundadmin/fundadminref05.Civil -/
noncomputable def g_ref05_Civil_L4 (s1 : ((Int × Int) × Unit)) : Option (Next ((Int × Int) × Unit)) :=
  (g_ref05_days s1.1.2).bind fun r2 =>
  (bif (decide (s1.1.1 ≥ r2)) then
  (g_ref05_days s1.1.2).bind fun r3 =>
  some (.more (((IntKind.i64.wrap (s1.1.1 - r3)), (IntKind.i64.wrap (s1.1.2 + (1 : Int)))), ()))
else
  some (.out 0 ((s1.1.1, s1.1.2), ())))

noncomputable def g_ref05_Civil_L7 (o1 : (Nat × ((Int × Int) × Unit))) (s2 : ((Int × Int) × Unit)) : Option (Next ((Int × Int) × Unit)) :=
  (g_ref05_length o1.2.1.2 s2.1.2).bind fun r3 =>
  (bif (decide (s2.1.1 ≥ r3)) then
  (g_ref05_length o1.2.1.2 s2.1.2).bind fun r4 =>
  some (.more (((IntKind.i64.wrap (s2.1.1 - r4)), (IntKind.i64.wrap (s2.1.2 + (1 : Int)))), ()))
else
  some (.out 0 ((s2.1.1, s2.1.2), ())))
noncomputable def g_ref05_Civil (x0 : Int) : Option (Int × (Int × (Int × Int))) :=
  (g_ref05_Out x0).bind fun r1 =>
  (bif r1 then
  some ((0 : Int), ((0 : Int), ((0 : Int), (50 : Int))))
else
  (loopD (S := ((Int × Int) × Unit)) g_ref05_Civil_L4 ((x0, (2000 : Int)), ())).bind fun o5 =>
  (loopD (S := ((Int × Int) × Unit)) (g_ref05_Civil_L7 o5) ((o5.2.1.1, (1 : Int)), ())).bind fun o9 =>
  some (o5.2.1.2, (o9.2.1.2, ((IntKind.i64.wrap (o9.2.1.1 + (1 : Int))), (0 : Int)))))

/-! fundadmin/fundadminref05.Length -/
noncomputable def g_ref05_Length (x0 : Int) (x1 : Int) : Option (Int × Int) :=
  (bif (decide (x0 < (2000 : Int))) then
  some ((0 : Int), (51 : Int))
else
  (bif (decide (x0 > (2199 : Int))) then
  some ((0 : Int), (51 : Int))
else
  (bif (decide (x1 < (1 : Int))) then
  some ((0 : Int), (51 : Int))
else
  (bif (decide (x1 > (12 : Int))) then
  some ((0 : Int), (51 : Int))
else
  (g_ref05_length x0 x1).bind fun r1 =>
  some (r1, (0 : Int))))))

/-! fundadmin/fundadminref05.FromCivil -/
noncomputable def g_ref05_FromCivil_L6 (x0 : Int) (s2 : ((Int × Int) × Unit)) : Option (Next ((Int × Int) × Unit)) :=
  (bif (decide (s2.1.2 < x0)) then
  (g_ref05_days s2.1.2).bind fun r3 =>
  some (.more (((IntKind.i64.wrap (s2.1.1 + r3)), (IntKind.i64.wrap (s2.1.2 + (1 : Int)))), ()))
else
  some (.out 0 ((s2.1.1, s2.1.2), ())))

noncomputable def g_ref05_FromCivil_L10 (x0 : Int) (x1 : Int) (s3 : ((Int × Int) × Unit)) : Option (Next ((Int × Int) × Unit)) :=
  (bif (decide (s3.1.2 < x1)) then
  (g_ref05_length x0 s3.1.2).bind fun r4 =>
  some (.more (((IntKind.i64.wrap (s3.1.1 + r4)), (IntKind.i64.wrap (s3.1.2 + (1 : Int)))), ()))
else
  some (.out 0 ((s3.1.1, s3.1.2), ())))
noncomputable def g_ref05_FromCivil (x0 : Int) (x1 : Int) (x2 : Int) : Option (Int × Int) :=
  (g_ref05_Length x0 x1).bind fun r1 =>
  (bif (r1.2 != (0 : Int)) then
  some ((0 : Int), (51 : Int))
else
  (bif (decide (x2 < (1 : Int))) then
  some ((0 : Int), (51 : Int))
else
  (bif (decide (x2 > r1.1)) then
  some ((0 : Int), (51 : Int))
else
  (loopD (S := ((Int × Int) × Unit)) (g_ref05_FromCivil_L6 x0) (((IntKind.i64.wrap (x2 - (1 : Int))), (2000 : Int)), ())).bind fun o4 =>
  (loopD (S := ((Int × Int) × Unit)) (g_ref05_FromCivil_L10 x0 x1) ((o4.2.1.1, (1 : Int)), ())).bind fun o7 =>
  some (o7.2.1.1, (0 : Int)))))

/-! fundadmin/fundadminref06.actual -/
noncomputable def g_ref06_actual_L3 (x1 : Int) (s2 : ((Int × (Int × Int)) × Unit)) : Option (Next ((Int × (Int × Int)) × Unit)) :=
  (bif (decide (s2.1.2.2 < x1)) then
  (g_ref05_Civil s2.1.2.2).bind fun r3 =>
  (g_ref05_FromCivil r3.1 (12 : Int) (31 : Int)).bind fun r4 =>
  (g_ref05_Leap r3.1).bind fun r5 =>
  (bif r5 then
  let v6 : Int := (IntKind.i64.wrap ((min x1 (IntKind.i64.wrap (r4.1 + (1 : Int)))) - s2.1.2.2))
  some (.more ((s2.1.1, ((IntKind.i64.wrap (s2.1.2.1 + v6)), (min x1 (IntKind.i64.wrap (r4.1 + (1 : Int)))))), ()))
else
  let v7 : Int := (IntKind.i64.wrap ((min x1 (IntKind.i64.wrap (r4.1 + (1 : Int)))) - s2.1.2.2))
  some (.more (((IntKind.i64.wrap (s2.1.1 + v7)), (s2.1.2.1, (min x1 (IntKind.i64.wrap (r4.1 + (1 : Int)))))), ())))
else
  some (.out 0 ((s2.1.1, (s2.1.2.1, s2.1.2.2)), ())))
noncomputable def g_ref06_actual (x0 : Int) (x1 : Int) : Option ((Bool × (List Int)) × (Bool × (List Int))) :=
  (loopD (S := ((Int × (Int × Int)) × Unit)) (g_ref06_actual_L3 x1) (((0 : Int), ((0 : Int), x0)), ())).bind fun o7 =>
  (g_ref02_Of o7.2.1.1 (365 : Int)).bind fun r8 =>
  (g_ref02_Of o7.2.1.2.1 (366 : Int)).bind fun r9 =>
  (g_ref02_Add r8.1 r9.1).bind fun r10 =>
  some r10.1

/-! fundadmin/fundadminref02.negative -/
noncomputable def g_ref02_negative (x0 : ((Bool × (List Int)) × (Bool × (List Int)))) : Option ((Bool × (List Int)) × (Bool × (List Int))) :=
  (g_ref01_Neg x0.1).bind fun r1 =>
  some (r1, x0.2)

/-! fundadmin/fundadminref02.Sub -/
noncomputable def g_ref02_Sub (x0 : ((Bool × (List Int)) × (Bool × (List Int)))) (x1 : ((Bool × (List Int)) × (Bool × (List Int)))) : Option (((Bool × (List Int)) × (Bool × (List Int))) × Int) :=
  (g_ref02_Valid x0).bind fun r1 =>
  (bif (!r1) then
  some (((false, (List.replicate 32 (0 : Int))), (false, (List.replicate 32 (0 : Int)))), (20 : Int))
else
  (g_ref02_Valid x1).bind fun r2 =>
  (bif (!r2) then
  some (((false, (List.replicate 32 (0 : Int))), (false, (List.replicate 32 (0 : Int)))), (20 : Int))
else
  (g_ref02_negative x1).bind fun r3 =>
  (g_ref02_Add x0 r3).bind fun r4 =>
  some (r4.1, r4.2)))

end Go.Ev
