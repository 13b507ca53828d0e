/- What the functions of the program and of its reference compute: equalisation. -/
import Derived.Test.YtgadoabnjcahoaaGreatDefsV
set_option exponentiation.threshold 2000
namespace Go.Ev
set_option linter.unusedVariables false

/-! fundadmin/equalisation.Adjust -/
noncomputable def g_equalisation_Adjust (x0 : (((Bool × (List Int)) × (Bool × (List Int))) × (((Bool × (List Int)) × (Bool × (List Int))) × Int))) (x1 : (((Bool × (List Int)) × (Bool × (List Int))) × Int)) (x2 : (((Bool × (List Int)) × (Bool × (List Int))) × Int)) (x3 : ((Bool × (List Int)) × (Bool × (List Int)))) (x4 : Int) : Option (((Bool × (List Int)) × (Bool × (List Int))) × Int) :=
  (g_highwater_Fee x0 x1 x3 x4).bind fun r1 =>
  (bif (r1.2 != (0 : Int)) then
  some (((false, (List.replicate 32 (0 : Int))), (false, (List.replicate 32 (0 : Int)))), r1.2)
else
  (g_highwater_Fee x0 x2 x3 x4).bind fun r2 =>
  (bif (r2.2 != (0 : Int)) then
  some (((false, (List.replicate 32 (0 : Int))), (false, (List.replicate 32 (0 : Int)))), r2.2)
else
  (g_ratio_Sub r1.1 r2.1).bind fun r3 =>
  some (r3.1, r3.2)))

/-! fundadmin/ratio.Quo$1 -/
noncomputable def g_ratio_Quo_1 (x0 : ((Bool × (List Int)) × (Bool × (List Int)))) (x1 : ((Bool × (List Int)) × (Bool × (List Int)))) : Option ((Bool × (List Int)) × (Bool × (List Int))) :=
  (g_ratio_product x0.1 x1.2).bind fun r1 =>
  (g_ratio_product x0.2 x1.1).bind fun r2 =>
  some (r1, r2)

/-! fundadmin/ratio.Quo -/
noncomputable def g_ratio_Quo (x0 : ((Bool × (List Int)) × (Bool × (List Int)))) (x1 : ((Bool × (List Int)) × (Bool × (List Int)))) : Option (((Bool × (List Int)) × (Bool × (List Int))) × Int) :=
  (g_ratio_Valid x0).bind fun r1 =>
  (bif (!r1) then
  some (((false, (List.replicate 32 (0 : Int))), (false, (List.replicate 32 (0 : Int)))), (20 : Int))
else
  (g_ratio_Valid x1).bind fun r2 =>
  (bif (!r2) then
  some (((false, (List.replicate 32 (0 : Int))), (false, (List.replicate 32 (0 : Int)))), (20 : Int))
else
  (g_ratio_Quo_1 x0 x1).bind fun r3 =>
  (g_ratio_Make r3.1 r3.2).bind fun r4 =>
  some (r4.1, r4.2)))

end Go.Ev
