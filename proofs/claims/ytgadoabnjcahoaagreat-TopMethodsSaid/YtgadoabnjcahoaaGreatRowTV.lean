/- A slice of whole numbers that comes in is a tape for made arguments. -/
import Derived.Test.YtgadoabnjcahoaaGreatRowKV
import Derived.Test.YtgadoabnjcahoaaGreatThmsCV
import Derived.Test.YtgadoabnjcahoaaGreatLawDV
set_option exponentiation.threshold 2000
namespace Go.Proofs.YtgadoabnjcahoaaGreat
open Go.Ev
set_option linter.unusedVariables false

theorem intsWF {x : List Int} (h : InR (.sl (.int .i64)) x) : TapeOK (x, 0) := by
  obtain ⟨hl, hx⟩ := h
  have e : maxLen = 9223372036854775807 := rfl
  refine ⟨Int.le_refl 0, by show (0 : Int) ≤ (x.length : Int); omega, by show (x.length : Int) ≤ 9223372036854775807; omega, fun i => ?_⟩
  show I64 (x.getD i 0)
  by_cases hi : i < x.length
  · rw [List.getD_eq_getElem?_getD, List.getElem?_eq_getElem hi, Option.getD_some]
    exact i64WF (hx x[i] (List.getElem_mem hi))
  · rw [List.getD_eq_getElem?_getD, List.getElem?_eq_none (by omega), Option.getD_none]
    exact i64_0

end Go.Proofs.YtgadoabnjcahoaaGreat
