/- A law's row: its arguments read as typed values, and what its contract says of the call. -/
import Derived.Test.YtgadoabnjcahoaaGreatEvBV
import Derived.OpenShut
import Derived.Carry
import Derived.Test.YtgadoabnjcahoaaGreatThmsV
import Derived.Test.YtgadoabnjcahoaaGreatLawBV
import Derived.Test.YtgadoabnjcahoaaGreatRows
import Derived.WalkKit
import Derived.ProofKit
import Derived.SizedLaws
import Derived.ChangeOld
set_option exponentiation.threshold 2000
namespace Go.Ev
set_option linter.unusedVariables false
set_option linter.unusedSimpArgs false

/-- The whole numbers in a value fit their kinds; the lists have their lengths. -/
def InR : (τ : Ty) → τ.den → Prop
  | .int k, n => (Lit.int k n).wf = true
  | .bool, _ => True
  | .str, s => s.size ≤ maxLen
  | .pair a b, x => InR a x.1 ∧ InR b x.2
  | .one a, x => InR a x
  | .arr n e, l => l.length = n ∧ ∀ x ∈ l, InR e x
  | .sl e, l => l.length ≤ maxLen ∧ ∀ x ∈ l, InR e x
  | .vec _, _ => True
  | .hdl _ _, _ => True

section
variable {H : Type} {enc : TypeId × Value → H} {P : Program} {w : World} {base : Nat} {spare : Nat → Bool} {held : Bool}

/-- What was there before a call. -/
def old (w : World) : Stab := fun b _ => b < w.heap.size

/-- The contract of a law that answers true, as the row's walk. -/
theorem walk_of {f : FuncId} {sg : Sg} {F : denL sg → Option (denR [(0, .bool)] (refN 0 sg))} (ok : SpecOK P f (mkSpec sg [(0, .bool)] F)) {args : List Arg} {x : denL sg} (hd : decArgs sg args = some x)
    (hr : refN 0 sg = []) {y : denR [(0, .bool)] (refN 0 sg)} (hF : F x = some y) (hy : encL [(0, .bool)] (res1 [(0, .bool)] (refN 0 sg) y) = [⟨.bool, true⟩]) {vals : List Value} (ha : ArgRel (old w) w args vals []) :
    Calls P f vals.toArray w fun e w' => e = .returned (.bool true) ∧ Go.RowKit.Below w.heap.size w w' := by
  obtain ⟨res, refs, hk, hc⟩ := ok.ok args (List TV × List TV) (fun a b => some (a, b)) ([⟨.bool, true⟩], encL (refN 0 sg) (res2 [(0, .bool)] (refN 0 sg) y)) (by
    unfold mkSpec
    rw [hd]
    simp only [hF, Option.bind_some, hy])
  injection hk with hk
  injection hk with h1 h2
  subst h1
  refine (hc (old w) w vals [] ha (List.nodup_nil) (fun b i h => h)).mono fun e w' hp => ?_
  obtain ⟨v, S', he, hv, _, hext, _, _⟩ := hp
  subst he
  refine ⟨?_, ⟨hext.os, hext.tape, hext.output, hext.size, fun k hk => hext.frame k hk (fun n hn => absurd hn (by unfold below; simp))⟩⟩
  rw [rel_bool (b := true) hv]

theorem beq_self : ∀ τ : Ty, Ty.beq τ τ = true
  | .int k => by simp [Ty.beq]
  | .bool => rfl
  | .str => rfl
  | .pair a b => by simp [Ty.beq, beq_self a, beq_self b]
  | .one a => by simp [Ty.beq, beq_self a]
  | .arr n e => by simp [Ty.beq, beq_self e]
  | .sl e => by simp [Ty.beq, beq_self e]
  | .vec e => by simp [Ty.beq, beq_self e]
  | .hdl n e => by simp [Ty.beq, beq_self e]

theorem as_self (τ : Ty) (x : τ.den) : (TV.mk τ x).as τ = some x := by
  unfold TV.as
  rw [dif_pos (beq_self τ)]

theorem dec_one (τ : Ty) (x : τ.den) : decArgs [(0, τ)] [.val ⟨τ, x⟩] = some x := as_self τ x

theorem cell_old {b o : Nat} {v : Value} (h : w.cell? ⟨b, o, none⟩ = some v) : b < w.heap.size := by
  unfold World.cell? at h
  dsimp only at h
  cases hb : w.heap[b]? with
  | none => rw [hb] at h; simp at h
  | some _ => exact (Array.getElem?_eq_some_iff.1 hb).1

theorem repL_ints {S : Stab} {k : IntKind} : ∀ l : List Int, RepL (Rep S w (.int k)) l (l.map (Value.int k))
  | [] => rfl
  | x :: l => ⟨[.int k x], l.map (Value.int k), rfl, rfl, repL_ints l⟩

/-- A slice of whole numbers, opened. -/
theorem open_ints_arg {r : Reach} {b0 : Nat} {k : IntKind} {t e : TypeId} (ht : P.underlying t = some (.slice e)) (he : P.underlying e = some (.int k)) (hc : P.cellsOf e = 1) {v : Value} {d : DataW H} {ps : List MemPlace}
    (hval : Value.okWide P w r b0 t v) (hd : DataW.Trod enc P w base spare held t v d ps) :
    ∃ x : (Ty.sl (.int k)).den, (∃ cs, Rep (old w) w (.sl (.int k)) x cs ∧ v = (Ty.sl (.int k)).pack cs) ∧ InR (.sl (.int k)) x := by
  obtain ⟨a, len, cap, rfl⟩ := Go.WideShapes.okWide_slice ht hval
  obtain ⟨fuel, hy⟩ := hd
  rcases Go.ChangeShapes.open_ints ht he hc hy with ⟨hcs, _⟩ | ⟨x, l, c, zs, hcs, _, hl, hm, hz, _, hcell, hwz⟩
  · simp [Value.cells] at hcs
    obtain ⟨rfl, rfl, rfl⟩ := hcs
    exact ⟨[], ⟨_, ⟨none, 0, rfl, Nat.le_refl _, .inl rfl⟩, rfl⟩, Nat.zero_le _, fun x hx => by simp at hx⟩
  · simp [Value.cells] at hcs
    obtain ⟨rfl, rfl, rfl⟩ := hcs
    have hlz : len ≤ zs.length := by rw [hz]; split <;> omega
    have htl : (zs.take len).length = len := by rw [List.length_take]; omega
    refine ⟨zs.take len, ⟨[.slice (some x) (zs.take len).length cap], ⟨some x, cap, rfl, by rw [htl]; exact hl, ?_⟩, by rw [htl]; rfl⟩, by rw [htl]; omega, fun n hn => hwz n (List.mem_of_mem_take hn)⟩
    by_cases h0 : len = 0
    · left; rw [h0]; simp
    · right
      obtain ⟨b, off, rfl, hj⟩ := ints_at hcell (by omega)
      refine ⟨b, off, (zs.take len).map (Value.int k), rfl, repL_ints _, fun i v hv => ?_⟩
      rw [List.getElem?_map, List.getElem?_take] at hv
      split at hv
      · rename_i hi
        have hiz : i < zs.length := by omega
        rw [List.getElem?_eq_getElem hiz, Option.map_some, Option.some.injEq] at hv
        subst hv
        have hc2 := hj i hiz
        rw [List.getD_eq_getElem?_getD, List.getElem?_eq_getElem hiz, Option.getD_some] at hc2
        exact ⟨cell_old hc2, hc2⟩
      · simp at hv
end

end Go.Ev

namespace Go.Proofs.YtgadoabnjcahoaaGreat
open Go.Ev
set_option linter.unusedVariables false

theorem seat_own : ownKnob Tryz.prog.godebug = none := by kernel_rfl
theorem seat_laid : laidOutB Tryz.prog = true := by kernel_rfl

theorem band {a b : Bool} (h : a = true) (k : b = true) : (a && b) = true := by rw [h, k]; rfl
theorem and_l {a b : Bool} (h : (a && b) = true) : a = true := (Bool.and_eq_true_iff.1 h).1
theorem and_r {a b : Bool} (h : (a && b) = true) : b = true := (Bool.and_eq_true_iff.1 h).2

theorem seat_laid2 : laidOutB Tryz.pinned.checked.prog = true := seat_laid
theorem seat_rowed : mapsRowed Tryz.pinned.checked.prog = true := by kernel_rfl
theorem seat_s2 : (Tryz.pinned.checked.prog.stops == []) = true := by kernel_rfl
theorem seat_s4 : (Tryz.pinned.checked.prog.stopKnobs == []) = true := by kernel_rfl
theorem seat_heard : Tryz.pinned.checked.prog.stopsHeard = true := by kernel_rfl
theorem seat_enter : Tryz.pinned.checked.prog.mayEnter = true := by kernel_rfl
theorem seat_lifts : (Rows.highwaterChecksRow.lifted == Tryz.pinned.checked.prog.liftsFinal) = true := by kernel_rfl

theorem i64WF {x : Int} (h : InR (.int .i64) x) : I64 x := by
  have := Go.bounds_i64 h
  unfold I64; omega

end Go.Proofs.YtgadoabnjcahoaaGreat
