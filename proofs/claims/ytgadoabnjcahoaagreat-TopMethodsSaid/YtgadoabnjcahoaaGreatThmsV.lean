/- Each function of the program that these laws reach computes what is written down of it, for all arguments. -/
import Derived.Test.YtgadoabnjcahoaaGreatChecked
import Derived.Eval
import Derived.Test.YtgadoabnjcahoaaGreatEvBV
import Derived.Test.YtgadoabnjcahoaaGreatDefsV
set_option exponentiation.threshold 2000
namespace Go.Ev
open Go.Proofs
set_option linter.unusedVariables false

def tab : List (Nat × (Ty × Nat)) := [
  (3, ((.int .i64), 0)),
  (4, (.bool, 0)),
  (5, ((.int .u8), 0)),
  (9, (.str, 0)),
  (22, ((.int .u32), 0)),
  (23, ((.arr 32 (.int .u32)), 0)),
  (25, ((.pair .bool (.arr 32 (.int .u32))), 2)),
  (27, ((.pair (.pair .bool (.arr 32 (.int .u32))) (.pair .bool (.arr 32 (.int .u32)))), 2)),
  (29, ((.pair (.pair (.pair .bool (.arr 32 (.int .u32))) (.pair .bool (.arr 32 (.int .u32)))) (.pair (.pair (.pair .bool (.arr 32 (.int .u32))) (.pair .bool (.arr 32 (.int .u32)))) (.int .i64))), 3)),
  (31, ((.pair (.pair (.pair .bool (.arr 32 (.int .u32))) (.pair .bool (.arr 32 (.int .u32)))) (.int .i64)), 2)),
  (32, ((.int .i64), 0)),
  (43, ((.sl (.int .i64)), 0)),
  (48, ((.pair (.pair (.pair .bool (.arr 32 (.int .u32))) (.pair .bool (.arr 32 (.int .u32)))) (.int .i64)), 2)),
  (60, ((.sl (.pair (.int .i64) (.pair (.pair (.pair .bool (.arr 32 (.int .u32))) (.pair .bool (.arr 32 (.int .u32)))) (.int .i64)))), 0)),
  (63, ((.sl (.pair (.pair .bool (.arr 32 (.int .u32))) (.pair .bool (.arr 32 (.int .u32))))), 0)),
  (76, ((.sl (.pair (.int .i64) (.pair (.pair (.pair .bool (.arr 32 (.int .u32))) (.pair .bool (.arr 32 (.int .u32)))) (.pair (.pair (.pair .bool (.arr 32 (.int .u32))) (.pair .bool (.arr 32 (.int .u32)))) (.int .i64))))), 0)),
  (78, ((.pair (.int .i64) (.pair (.pair (.pair .bool (.arr 32 (.int .u32))) (.pair .bool (.arr 32 (.int .u32)))) (.pair (.pair (.pair .bool (.arr 32 (.int .u32))) (.pair .bool (.arr 32 (.int .u32)))) (.int .i64)))), 3)),
  (79, ((.sl (.pair (.int .i64) (.pair (.int .i64) (.pair (.pair .bool (.arr 32 (.int .u32))) (.pair .bool (.arr 32 (.int .u32))))))), 0)),
  (83, ((.pair (.int .i64) (.pair (.int .i64) (.pair (.pair .bool (.arr 32 (.int .u32))) (.pair .bool (.arr 32 (.int .u32)))))), 3)),
  (85, ((.pair (.int .i64) (.pair (.pair (.pair .bool (.arr 32 (.int .u32))) (.pair .bool (.arr 32 (.int .u32)))) (.int .i64))), 2)),
  (97, ((.one (.int .i64)), 1)),
  (111, ((.arr 256 (.pair (.int .i64) (.pair (.pair (.pair .bool (.arr 32 (.int .u32))) (.pair .bool (.arr 32 (.int .u32)))) (.int .i64)))), 0)),
  (114, ((.pair (.sl (.int .i64)) (.int .i64)), 2)),
  (147, ((.arr 32 (.int .u32)), 0)),
  (152, ((.int .u64), 0)),
  (154, ((.int .u64), 0)),
  (159, ((.pair (.pair .bool (.arr 32 (.int .u32))) (.pair (.int .i64) .bool)), 3)),
  (165, ((.arr 64 (.int .u32)), 0)),
  (182, ((.arr 33 (.int .u32)), 0))]

def allT (q : Nat → Ty → Nat → Prop) : List (Nat × (Ty × Nat)) → Prop
  | [] => True
  | e :: r => q e.1 e.2.1 e.2.2 ∧ allT q r

theorem allT_lk {q : Nat → Ty → Nat → Prop} : ∀ {l : List (Nat × (Ty × Nat))}, allT q l → ∀ T τ n, lk T l = some (τ, n) → q T τ n
  | [], _, T, τ, n, h => by simp [lk] at h
  | e :: r, h, T, τ, n, hl => by
    obtain ⟨u, σ, m⟩ := e
    by_cases e : T = u
    · subst e; rw [lk_cons_same] at hl; injection hl with hl; injection hl with h1 h2; subst h1; subst h2; exact h.1
    · rw [lk_cons_ne _ _ e] at hl; exact allT_lk h.2 T τ n hl

theorem ty3_ok : TyOK Tryz.prog tab 3 (.int .i64) 0 := ⟨by kernel_rfl, by kernel_rfl⟩
theorem ty4_ok : TyOK Tryz.prog tab 4 .bool 0 := ⟨by kernel_rfl, by kernel_rfl⟩
theorem ty5_ok : TyOK Tryz.prog tab 5 (.int .u8) 0 := ⟨by kernel_rfl, by kernel_rfl⟩
theorem ty9_ok : TyOK Tryz.prog tab 9 .str 0 := ⟨by kernel_rfl, by kernel_rfl⟩
theorem ty22_ok : TyOK Tryz.prog tab 22 (.int .u32) 0 := ⟨by kernel_rfl, by kernel_rfl⟩
theorem ty23_ok : TyOK Tryz.prog tab 23 (.arr 32 (.int .u32)) 0 := ⟨by kernel_rfl, by kernel_rfl⟩
theorem ty25_ok : TyOK Tryz.prog tab 25 (.pair .bool (.arr 32 (.int .u32))) 2 := ⟨by kernel_rfl, by kernel_rfl⟩
theorem ty27_ok : TyOK Tryz.prog tab 27 (.pair (.pair .bool (.arr 32 (.int .u32))) (.pair .bool (.arr 32 (.int .u32)))) 2 := ⟨by kernel_rfl, by kernel_rfl⟩
theorem ty29_ok : TyOK Tryz.prog tab 29 (.pair (.pair (.pair .bool (.arr 32 (.int .u32))) (.pair .bool (.arr 32 (.int .u32)))) (.pair (.pair (.pair .bool (.arr 32 (.int .u32))) (.pair .bool (.arr 32 (.int .u32)))) (.int .i64))) 3 := ⟨by kernel_rfl, by kernel_rfl⟩
theorem ty31_ok : TyOK Tryz.prog tab 31 (.pair (.pair (.pair .bool (.arr 32 (.int .u32))) (.pair .bool (.arr 32 (.int .u32)))) (.int .i64)) 2 := ⟨by kernel_rfl, by kernel_rfl⟩
theorem ty32_ok : TyOK Tryz.prog tab 32 (.int .i64) 0 := ⟨by kernel_rfl, by kernel_rfl⟩
theorem ty43_ok : TyOK Tryz.prog tab 43 (.sl (.int .i64)) 0 := ⟨by kernel_rfl, by kernel_rfl⟩
theorem ty48_ok : TyOK Tryz.prog tab 48 (.pair (.pair (.pair .bool (.arr 32 (.int .u32))) (.pair .bool (.arr 32 (.int .u32)))) (.int .i64)) 2 := ⟨by kernel_rfl, by kernel_rfl⟩
theorem ty60_ok : TyOK Tryz.prog tab 60 (.sl (.pair (.int .i64) (.pair (.pair (.pair .bool (.arr 32 (.int .u32))) (.pair .bool (.arr 32 (.int .u32)))) (.int .i64)))) 0 := ⟨by kernel_rfl, by kernel_rfl⟩
theorem ty63_ok : TyOK Tryz.prog tab 63 (.sl (.pair (.pair .bool (.arr 32 (.int .u32))) (.pair .bool (.arr 32 (.int .u32))))) 0 := ⟨by kernel_rfl, by kernel_rfl⟩
theorem ty76_ok : TyOK Tryz.prog tab 76 (.sl (.pair (.int .i64) (.pair (.pair (.pair .bool (.arr 32 (.int .u32))) (.pair .bool (.arr 32 (.int .u32)))) (.pair (.pair (.pair .bool (.arr 32 (.int .u32))) (.pair .bool (.arr 32 (.int .u32)))) (.int .i64))))) 0 := ⟨by kernel_rfl, by kernel_rfl⟩
theorem ty78_ok : TyOK Tryz.prog tab 78 (.pair (.int .i64) (.pair (.pair (.pair .bool (.arr 32 (.int .u32))) (.pair .bool (.arr 32 (.int .u32)))) (.pair (.pair (.pair .bool (.arr 32 (.int .u32))) (.pair .bool (.arr 32 (.int .u32)))) (.int .i64)))) 3 := ⟨by kernel_rfl, by kernel_rfl⟩
theorem ty79_ok : TyOK Tryz.prog tab 79 (.sl (.pair (.int .i64) (.pair (.int .i64) (.pair (.pair .bool (.arr 32 (.int .u32))) (.pair .bool (.arr 32 (.int .u32))))))) 0 := ⟨by kernel_rfl, by kernel_rfl⟩
theorem ty83_ok : TyOK Tryz.prog tab 83 (.pair (.int .i64) (.pair (.int .i64) (.pair (.pair .bool (.arr 32 (.int .u32))) (.pair .bool (.arr 32 (.int .u32)))))) 3 := ⟨by kernel_rfl, by kernel_rfl⟩
theorem ty85_ok : TyOK Tryz.prog tab 85 (.pair (.int .i64) (.pair (.pair (.pair .bool (.arr 32 (.int .u32))) (.pair .bool (.arr 32 (.int .u32)))) (.int .i64))) 2 := ⟨by kernel_rfl, by kernel_rfl⟩
theorem ty97_ok : TyOK Tryz.prog tab 97 (.one (.int .i64)) 1 := ⟨by kernel_rfl, by kernel_rfl⟩
theorem ty111_ok : TyOK Tryz.prog tab 111 (.arr 256 (.pair (.int .i64) (.pair (.pair (.pair .bool (.arr 32 (.int .u32))) (.pair .bool (.arr 32 (.int .u32)))) (.int .i64)))) 0 := TyOK.big 68 8 (by kernel_rfl) (by kernel_rfl)
theorem ty114_ok : TyOK Tryz.prog tab 114 (.pair (.sl (.int .i64)) (.int .i64)) 2 := ⟨by kernel_rfl, by kernel_rfl⟩
theorem ty147_ok : TyOK Tryz.prog tab 147 (.arr 32 (.int .u32)) 0 := ⟨by kernel_rfl, by kernel_rfl⟩
theorem ty152_ok : TyOK Tryz.prog tab 152 (.int .u64) 0 := ⟨by kernel_rfl, by kernel_rfl⟩
theorem ty154_ok : TyOK Tryz.prog tab 154 (.int .u64) 0 := ⟨by kernel_rfl, by kernel_rfl⟩
theorem ty159_ok : TyOK Tryz.prog tab 159 (.pair (.pair .bool (.arr 32 (.int .u32))) (.pair (.int .i64) .bool)) 3 := ⟨by kernel_rfl, by kernel_rfl⟩
theorem ty165_ok : TyOK Tryz.prog tab 165 (.arr 64 (.int .u32)) 0 := ⟨by kernel_rfl, by kernel_rfl⟩
theorem ty182_ok : TyOK Tryz.prog tab 182 (.arr 33 (.int .u32)) 0 := ⟨by kernel_rfl, by kernel_rfl⟩
theorem tab_ok : TabOK Tryz.prog tab := allT_lk (q := TyOK Tryz.prog tab) (show allT _ tab from ⟨ty3_ok, ty4_ok, ty5_ok, ty9_ok, ty22_ok, ty23_ok, ty25_ok, ty27_ok, ty29_ok, ty31_ok, ty32_ok, ty43_ok, ty48_ok, ty60_ok, ty63_ok, ty76_ok, ty78_ok, ty79_ok, ty83_ok, ty85_ok, ty97_ok, ty111_ok, ty114_ok, ty147_ok, ty152_ok, ty154_ok, ty159_ok, ty165_ok, ty182_ok, trivial⟩)

theorem tq23_ok : EqOK Tryz.prog 23 := ⟨by kernel_rfl, by kernel_rfl, by kernel_rfl⟩
theorem tq25_ok : EqOK Tryz.prog 25 := ⟨by kernel_rfl, by kernel_rfl, by kernel_rfl⟩
theorem tq27_ok : EqOK Tryz.prog 27 := ⟨by kernel_rfl, by kernel_rfl, by kernel_rfl⟩
theorem tq29_ok : EqOK Tryz.prog 29 := ⟨by kernel_rfl, by kernel_rfl, by kernel_rfl⟩
theorem tq31_ok : EqOK Tryz.prog 31 := ⟨by kernel_rfl, by kernel_rfl, by kernel_rfl⟩
theorem tq48_ok : EqOK Tryz.prog 48 := ⟨by kernel_rfl, by kernel_rfl, by kernel_rfl⟩
theorem tq78_ok : EqOK Tryz.prog 78 := ⟨by kernel_rfl, by kernel_rfl, by kernel_rfl⟩
theorem tq83_ok : EqOK Tryz.prog 83 := ⟨by kernel_rfl, by kernel_rfl, by kernel_rfl⟩
theorem tq85_ok : EqOK Tryz.prog 85 := ⟨by kernel_rfl, by kernel_rfl, by kernel_rfl⟩
theorem tq97_ok : EqOK Tryz.prog 97 := ⟨by kernel_rfl, by kernel_rfl, by kernel_rfl⟩
theorem tq111_ok : EqOK Tryz.prog 111 := ⟨by kernel_rfl, by kernel_rfl, by kernel_rfl⟩
theorem tq147_ok : EqOK Tryz.prog 147 := ⟨by kernel_rfl, by kernel_rfl, by kernel_rfl⟩
theorem tq159_ok : EqOK Tryz.prog 159 := ⟨by kernel_rfl, by kernel_rfl, by kernel_rfl⟩
theorem tq165_ok : EqOK Tryz.prog 165 := ⟨by kernel_rfl, by kernel_rfl, by kernel_rfl⟩
theorem tq182_ok : EqOK Tryz.prog 182 := ⟨by kernel_rfl, by kernel_rfl, by kernel_rfl⟩
theorem eq_ok : ∀ T τ n, lk T tab = some (τ, n) → τ.agg = true → τ.eqOk = true → EqOK Tryz.prog T :=
  allT_lk (q := fun T τ _ => τ.agg = true → τ.eqOk = true → EqOK Tryz.prog T) (show allT _ tab from ⟨(fun h h' => by first | exact absurd h (by decide) | exact absurd h' (by decide)), (fun h h' => by first | exact absurd h (by decide) | exact absurd h' (by decide)), (fun h h' => by first | exact absurd h (by decide) | exact absurd h' (by decide)), (fun h h' => by first | exact absurd h (by decide) | exact absurd h' (by decide)), (fun h h' => by first | exact absurd h (by decide) | exact absurd h' (by decide)), fun _ _ => tq23_ok, fun _ _ => tq25_ok, fun _ _ => tq27_ok, fun _ _ => tq29_ok, fun _ _ => tq31_ok, (fun h h' => by first | exact absurd h (by decide) | exact absurd h' (by decide)), (fun h h' => by first | exact absurd h (by decide) | exact absurd h' (by decide)), fun _ _ => tq48_ok, (fun h h' => by first | exact absurd h (by decide) | exact absurd h' (by decide)), (fun h h' => by first | exact absurd h (by decide) | exact absurd h' (by decide)), (fun h h' => by first | exact absurd h (by decide) | exact absurd h' (by decide)), fun _ _ => tq78_ok, (fun h h' => by first | exact absurd h (by decide) | exact absurd h' (by decide)), fun _ _ => tq83_ok, fun _ _ => tq85_ok, fun _ _ => tq97_ok, fun _ _ => tq111_ok, (fun h h' => by first | exact absurd h (by decide) | exact absurd h' (by decide)), fun _ _ => tq147_ok, (fun h h' => by first | exact absurd h (by decide) | exact absurd h' (by decide)), (fun h h' => by first | exact absurd h (by decide) | exact absurd h' (by decide)), fun _ _ => tq159_ok, fun _ _ => tq165_ok, fun _ _ => tq182_ok, trivial⟩)

def ftab : List Nat := [35]
theorem isFn {T : Nat} (h : (match Tryz.prog.underlying T with | some (.func _ _ _) => true | _ => false) = true) : ∃ a b c, Tryz.prog.underlying T = some (.func a b c) := by
  split at h
  · rename_i a b c e; exact ⟨a, b, c, e⟩
  · simp at h
theorem ft_ok : ∀ T, ftab.any (Nat.beq T) = true → ∃ a b c, Tryz.prog.underlying T = some (.func a b c) := by
  intro T h
  simp only [ftab, List.any_cons, List.any_nil, Bool.or_false, Nat.beq_eq] at h
  subst h; exact isFn (by kernel_rfl)

def eltab : List (Nat × (Nat × (Nat × Nat))) := [(60, (85, (68, 280))), (63, (27, (66, 264))), (76, (78, (134, 544))), (79, (83, (68, 280)))]
theorem elt_of {T e sz by' : Nat} (h : Tryz.prog.underlying T = some (.slice e)) (k : (match Tryz.prog.info? e with | some i => (match i.zero with | some z => Nat.beq i.size sz && (Nat.beq i.bytes by' && (Nat.beq z.cells.size sz && (Nat.blt 0 sz && Nat.blt 0 by'))) | none => false) | none => false) = true) : EltOK Tryz.prog T e sz by' := by
  split at k
  · rename_i i hi
    split at k
    · rename_i z hz
      simp only [Bool.and_eq_true] at k
      exact ⟨h, ⟨i, z, hi, hz, Nat.eq_of_beq_eq_true k.1, Nat.eq_of_beq_eq_true k.2.1, Nat.eq_of_beq_eq_true k.2.2.1⟩, by simpa using k.2.2.2.1, by simpa using k.2.2.2.2⟩
    · simp at k
  · simp at k

theorem el60_ok : EltOK Tryz.prog 60 85 68 280 := elt_of (by kernel_rfl) (by kernel_rfl)
theorem el63_ok : EltOK Tryz.prog 63 27 66 264 := elt_of (by kernel_rfl) (by kernel_rfl)
theorem el76_ok : EltOK Tryz.prog 76 78 134 544 := elt_of (by kernel_rfl) (by kernel_rfl)
theorem el79_ok : EltOK Tryz.prog 79 83 68 280 := elt_of (by kernel_rfl) (by kernel_rfl)
theorem el_cons {T : Nat} {q : Nat × (Nat × Nat)} {l : List (Nat × (Nat × (Nat × Nat)))} (h : EltOK Tryz.prog T q.1 q.2.1 q.2.2) (k : ∀ T q, lk T l = some q → EltOK Tryz.prog T q.1 q.2.1 q.2.2) : ∀ T' q', lk T' ((T, q) :: l) = some q' → EltOK Tryz.prog T' q'.1 q'.2.1 q'.2.2 := by
  intro T' q' hq
  by_cases e : T' = T
  · subst e; rw [lk_cons_same] at hq; injection hq with hq; subst hq; exact h
  · rw [lk_cons_ne _ _ e] at hq; exact k T' q' hq
theorem el_ok : ∀ T q, lk T eltab = some q → EltOK Tryz.prog T q.1 q.2.1 q.2.2 := (el_cons el60_ok (el_cons el63_ok (el_cons el76_ok (el_cons el79_ok (fun T q h => by simp [lk] at h)))))

theorem mixed_ok : Tryz.prog.follows .mixedOrders = true := Checked.mixed Tryz.checked

theorem goes {f : Nat} {fn : Func} (h : Tryz.prog.funcs[f]? = some fn) (h' : (fn.name == "runtime.NumGoroutine" || fn.body.isNone) = false) : Goes Tryz.prog f := Goes.of (by rw [h]; exact congrArg some h')

end Go.Ev

namespace Go.Ev
open Go.Proofs
set_option linter.unusedVariables false

/-! fundadmin/bigint.made -/
noncomputable def spec138 : Spec := mkSpec [(0, .bool), (0, (.arr 32 (.int .u32)))] [(0, (.pair .bool (.arr 32 (.int .u32))))] (fun p => g_bigint_made p.1 p.2)
noncomputable def env138 : Env := { tab := tab, fns := [], bodies := [], loops := [], joins := [], fts := ftab, elts := eltab }
theorem eq138 : ∀ p, evFn env138 (inlN env138 0) 0 138 Tryz.f138 (argS 0 [(0, .bool), (0, (.arr 32 (.int .u32)))] p) (argO 0 [(0, .bool), (0, (.arr 32 (.int .u32)))] p) (denR [(0, (.pair .bool (.arr 32 (.int .u32))))] (refN 0 [(0, .bool), (0, (.arr 32 (.int .u32)))])) (decR [(0, .bool), (0, (.arr 32 (.int .u32)))] [(0, (.pair .bool (.arr 32 (.int .u32))))]) = g_bigint_made p.1 p.2 := fun p => by kernel_rfl
theorem ok138 : SpecOK Tryz.prog 138 spec138 :=
  fn_ok mixed_ok ⟨⟨tab_ok, fns_nil⟩, eq_ok, ft_ok, el_ok⟩ bodies_nil Tryz.func138 (goes Tryz.func138 (by kernel_rfl)) 0 [(0, .bool), (0, (.arr 32 (.int .u32)))] [(0, (.pair .bool (.arr 32 (.int .u32))))] _ eq138

/-! fundadmin/bigint.FromInt -/
noncomputable def spec102 : Spec := mkSpec [(0, (.int .i64))] [(0, (.pair .bool (.arr 32 (.int .u32))))] (fun p => g_bigint_FromInt p)
noncomputable def env102 : Env := { tab := tab, fns := [(138, spec138)], bodies := [], loops := [], joins := [], fts := ftab, elts := eltab }
theorem eq102 : ∀ p, evFn env102 (inlN env102 0) 0 102 Tryz.f102 (argS 0 [(0, (.int .i64))] p) (argO 0 [(0, (.int .i64))] p) (denR [(0, (.pair .bool (.arr 32 (.int .u32))))] (refN 0 [(0, (.int .i64))])) (decR [(0, (.int .i64))] [(0, (.pair .bool (.arr 32 (.int .u32))))]) = g_bigint_FromInt p := fun p => by kernel_rfl
theorem ok102 : SpecOK Tryz.prog 102 spec102 :=
  fn_ok mixed_ok ⟨⟨tab_ok, (fns_cons ok138 fns_nil)⟩, eq_ok, ft_ok, el_ok⟩ bodies_nil Tryz.func102 (goes Tryz.func102 (by kernel_rfl)) 0 [(0, (.int .i64))] [(0, (.pair .bool (.arr 32 (.int .u32))))] _ eq102

/-! fundadmin/bigint.split -/
noncomputable def spec135 : Spec := mkSpec [(0, (.pair .bool (.arr 32 (.int .u32))))] [(0, .bool), (0, (.arr 32 (.int .u32)))] (fun p => g_bigint_split p)
noncomputable def env135 : Env := { tab := tab, fns := [], bodies := [], loops := [], joins := [], fts := ftab, elts := eltab }
theorem eq135 : ∀ p, evFn env135 (inlN env135 0) 0 135 Tryz.f135 (argS 0 [(0, (.pair .bool (.arr 32 (.int .u32))))] p) (argO 0 [(0, (.pair .bool (.arr 32 (.int .u32))))] p) (denR [(0, .bool), (0, (.arr 32 (.int .u32)))] (refN 0 [(0, (.pair .bool (.arr 32 (.int .u32))))])) (decR [(0, (.pair .bool (.arr 32 (.int .u32))))] [(0, .bool), (0, (.arr 32 (.int .u32)))]) = g_bigint_split p := fun p => by kernel_rfl
theorem ok135 : SpecOK Tryz.prog 135 spec135 :=
  fn_ok mixed_ok ⟨⟨tab_ok, fns_nil⟩, eq_ok, ft_ok, el_ok⟩ bodies_nil Tryz.func135 (goes Tryz.func135 (by kernel_rfl)) 0 [(0, (.pair .bool (.arr 32 (.int .u32))))] [(0, .bool), (0, (.arr 32 (.int .u32)))] _ eq135

/-! (*fundadmin/bigint.mag).used -/
noncomputable def spec181 : Spec := mkSpec [(1, (.arr 32 (.int .u32)))] [(0, (.int .i64))] (fun p => g_bigint_mag_used p)
noncomputable def env181 : Env := { tab := tab, fns := [], bodies := [], loops := [(181, [(2, { keepT := [0, 2], keepO := [0], varT := [(3, (.int .i64))], varO := [], outs := [.exit 0] })])], joins := [], fts := ftab, elts := eltab }
theorem eq181 : ∀ p, evFn env181 (inlN env181 0) 0 181 Tryz.f181 (argS 0 [(1, (.arr 32 (.int .u32)))] p) (argO 0 [(1, (.arr 32 (.int .u32)))] p) (denR [(0, (.int .i64))] (refN 0 [(1, (.arr 32 (.int .u32)))])) (decR [(1, (.arr 32 (.int .u32)))] [(0, (.int .i64))]) = g_bigint_mag_used p := fun p => by kernel_rfl
theorem ok181 : SpecOK Tryz.prog 181 spec181 :=
  fn_ok mixed_ok ⟨⟨tab_ok, fns_nil⟩, eq_ok, ft_ok, el_ok⟩ bodies_nil Tryz.func181 (goes Tryz.func181 (by kernel_rfl)) 0 [(1, (.arr 32 (.int .u32)))] [(0, (.int .i64))] _ eq181

/-! math/bits.Len32 -/
noncomputable def spec186 : Spec := mkSpec [(0, (.int .u32))] [(0, (.int .i64))] (fun p => g_bits_Len32 p)
noncomputable def env186 : Env := { tab := tab, fns := [], bodies := [], loops := [], joins := [], fts := ftab, elts := eltab }
theorem eq186 : ∀ p, evFn env186 (inlN env186 0) 0 186 Tryz.f186 (argS 0 [(0, (.int .u32))] p) (argO 0 [(0, (.int .u32))] p) (denR [(0, (.int .i64))] (refN 0 [(0, (.int .u32))])) (decR [(0, (.int .u32))] [(0, (.int .i64))]) = g_bits_Len32 p := fun p => by kernel_rfl
theorem ok186 : SpecOK Tryz.prog 186 spec186 :=
  fn_ok mixed_ok ⟨⟨tab_ok, fns_nil⟩, eq_ok, ft_ok, el_ok⟩ bodies_nil Tryz.func186 (goes Tryz.func186 (by kernel_rfl)) 0 [(0, (.int .u32))] [(0, (.int .i64))] _ eq186

/-! (*fundadmin/bigint.mag).bits -/
noncomputable def spec154 : Spec := mkSpec [(1, (.arr 32 (.int .u32)))] [(0, (.int .i64))] (fun p => g_bigint_mag_bits p)
noncomputable def env154 : Env := { tab := tab, fns := [(181, spec181), (186, spec186)], bodies := [], loops := [], joins := [], fts := ftab, elts := eltab }
theorem eq154 : ∀ p, evFn env154 (inlN env154 0) 0 154 Tryz.f154 (argS 0 [(1, (.arr 32 (.int .u32)))] p) (argO 0 [(1, (.arr 32 (.int .u32)))] p) (denR [(0, (.int .i64))] (refN 0 [(1, (.arr 32 (.int .u32)))])) (decR [(1, (.arr 32 (.int .u32)))] [(0, (.int .i64))]) = g_bigint_mag_bits p := fun p => by kernel_rfl
theorem ok154 : SpecOK Tryz.prog 154 spec154 :=
  fn_ok mixed_ok ⟨⟨tab_ok, (fns_cons ok181 (fns_cons ok186 fns_nil))⟩, eq_ok, ft_ok, el_ok⟩ bodies_nil Tryz.func154 (goes Tryz.func154 (by kernel_rfl)) 0 [(1, (.arr 32 (.int .u32)))] [(0, (.int .i64))] _ eq154

/-! fundadmin/bigint.Bits -/
noncomputable def spec152 : Spec := mkSpec [(0, (.pair .bool (.arr 32 (.int .u32))))] [(0, (.int .i64))] (fun p => g_bigint_Bits p)
noncomputable def env152 : Env := { tab := tab, fns := [(135, spec135), (154, spec154)], bodies := [], loops := [], joins := [], fts := ftab, elts := eltab }
theorem eq152 : ∀ p, evFn env152 (inlN env152 0) 0 152 Tryz.f152 (argS 0 [(0, (.pair .bool (.arr 32 (.int .u32))))] p) (argO 0 [(0, (.pair .bool (.arr 32 (.int .u32))))] p) (denR [(0, (.int .i64))] (refN 0 [(0, (.pair .bool (.arr 32 (.int .u32))))])) (decR [(0, (.pair .bool (.arr 32 (.int .u32))))] [(0, (.int .i64))]) = g_bigint_Bits p := fun p => by kernel_rfl
theorem ok152 : SpecOK Tryz.prog 152 spec152 :=
  fn_ok mixed_ok ⟨⟨tab_ok, (fns_cons ok135 (fns_cons ok154 fns_nil))⟩, eq_ok, ft_ok, el_ok⟩ bodies_nil Tryz.func152 (goes Tryz.func152 (by kernel_rfl)) 0 [(0, (.pair .bool (.arr 32 (.int .u32))))] [(0, (.int .i64))] _ eq152

/-! fundadmin/ratio.fits -/
noncomputable def spec125 : Spec := mkSpec [(0, (.pair (.pair .bool (.arr 32 (.int .u32))) (.pair .bool (.arr 32 (.int .u32)))))] [(0, .bool)] (fun p => g_ratio_fits p)
noncomputable def env125 : Env := { tab := tab, fns := [(152, spec152)], bodies := [], loops := [], joins := [], fts := ftab, elts := eltab }
theorem eq125 : ∀ p, evFn env125 (inlN env125 0) 0 125 Tryz.f125 (argS 0 [(0, (.pair (.pair .bool (.arr 32 (.int .u32))) (.pair .bool (.arr 32 (.int .u32)))))] p) (argO 0 [(0, (.pair (.pair .bool (.arr 32 (.int .u32))) (.pair .bool (.arr 32 (.int .u32)))))] p) (denR [(0, .bool)] (refN 0 [(0, (.pair (.pair .bool (.arr 32 (.int .u32))) (.pair .bool (.arr 32 (.int .u32)))))])) (decR [(0, (.pair (.pair .bool (.arr 32 (.int .u32))) (.pair .bool (.arr 32 (.int .u32)))))] [(0, .bool)]) = g_ratio_fits p := fun p => by kernel_rfl
theorem ok125 : SpecOK Tryz.prog 125 spec125 :=
  fn_ok mixed_ok ⟨⟨tab_ok, (fns_cons ok152 fns_nil)⟩, eq_ok, ft_ok, el_ok⟩ bodies_nil Tryz.func125 (goes Tryz.func125 (by kernel_rfl)) 0 [(0, (.pair (.pair .bool (.arr 32 (.int .u32))) (.pair .bool (.arr 32 (.int .u32)))))] [(0, .bool)] _ eq125

/-! fundadmin/bigint.Sign -/
noncomputable def spec127 : Spec := mkSpec [(0, (.pair .bool (.arr 32 (.int .u32))))] [(0, (.int .i64))] (fun p => g_bigint_Sign p)
noncomputable def env127 : Env := { tab := tab, fns := [(135, spec135)], bodies := [], loops := [], joins := [], fts := ftab, elts := eltab }
theorem eq127 : ∀ p, evFn env127 (inlN env127 0) 0 127 Tryz.f127 (argS 0 [(0, (.pair .bool (.arr 32 (.int .u32))))] p) (argO 0 [(0, (.pair .bool (.arr 32 (.int .u32))))] p) (denR [(0, (.int .i64))] (refN 0 [(0, (.pair .bool (.arr 32 (.int .u32))))])) (decR [(0, (.pair .bool (.arr 32 (.int .u32))))] [(0, (.int .i64))]) = g_bigint_Sign p := fun p => by kernel_rfl
theorem ok127 : SpecOK Tryz.prog 127 spec127 :=
  fn_ok mixed_ok ⟨⟨tab_ok, (fns_cons ok135 fns_nil)⟩, eq_ok, ft_ok, el_ok⟩ bodies_nil Tryz.func127 (goes Tryz.func127 (by kernel_rfl)) 0 [(0, (.pair .bool (.arr 32 (.int .u32))))] [(0, (.int .i64))] _ eq127

/-! fundadmin/ratio.canonical -/
noncomputable def spec126 : Spec := mkSpec [(0, (.pair .bool (.arr 32 (.int .u32))))] [(0, .bool)] (fun p => g_ratio_canonical p)
noncomputable def env126 : Env := { tab := tab, fns := [(127, spec127)], bodies := [], loops := [], joins := [], fts := ftab, elts := eltab }
theorem eq126 : ∀ p, evFn env126 (inlN env126 0) 0 126 Tryz.f126 (argS 0 [(0, (.pair .bool (.arr 32 (.int .u32))))] p) (argO 0 [(0, (.pair .bool (.arr 32 (.int .u32))))] p) (denR [(0, .bool)] (refN 0 [(0, (.pair .bool (.arr 32 (.int .u32))))])) (decR [(0, (.pair .bool (.arr 32 (.int .u32))))] [(0, .bool)]) = g_ratio_canonical p := fun p => by kernel_rfl
theorem ok126 : SpecOK Tryz.prog 126 spec126 :=
  fn_ok mixed_ok ⟨⟨tab_ok, (fns_cons ok127 fns_nil)⟩, eq_ok, ft_ok, el_ok⟩ bodies_nil Tryz.func126 (goes Tryz.func126 (by kernel_rfl)) 0 [(0, (.pair .bool (.arr 32 (.int .u32))))] [(0, .bool)] _ eq126

/-! fundadmin/bigint.compare -/
noncomputable def spec136 : Spec := mkSpec [(1, (.arr 32 (.int .u32))), (1, (.arr 32 (.int .u32)))] [(0, (.int .i64))] (fun p => g_bigint_compare p.1 p.2)
noncomputable def env136 : Env := { tab := tab, fns := [], bodies := [], loops := [(136, [(2, { keepT := [0, 1], keepO := [0, 1], varT := [(4, (.int .i64)), (5, (.int .i64))], varO := [], outs := [.ret, .exit 0] })])], joins := [], fts := ftab, elts := eltab }
theorem eq136 : ∀ p, evFn env136 (inlN env136 0) 0 136 Tryz.f136 (argS 0 [(1, (.arr 32 (.int .u32))), (1, (.arr 32 (.int .u32)))] p) (argO 0 [(1, (.arr 32 (.int .u32))), (1, (.arr 32 (.int .u32)))] p) (denR [(0, (.int .i64))] (refN 0 [(1, (.arr 32 (.int .u32))), (1, (.arr 32 (.int .u32)))])) (decR [(1, (.arr 32 (.int .u32))), (1, (.arr 32 (.int .u32)))] [(0, (.int .i64))]) = g_bigint_compare p.1 p.2 := fun p => by kernel_rfl
theorem ok136 : SpecOK Tryz.prog 136 spec136 :=
  fn_ok mixed_ok ⟨⟨tab_ok, fns_nil⟩, eq_ok, ft_ok, el_ok⟩ bodies_nil Tryz.func136 (goes Tryz.func136 (by kernel_rfl)) 0 [(1, (.arr 32 (.int .u32))), (1, (.arr 32 (.int .u32)))] [(0, (.int .i64))] _ eq136

/-! math/bits.Div32 -/
noncomputable def spec195 : Spec := mkSpec [(0, (.int .u32)), (0, (.int .u32)), (0, (.int .u32))] [(0, (.int .u32)), (0, (.int .u32))] (fun p => g_bits_Div32 p.1 p.2.1 p.2.2)
noncomputable def env195 : Env := { tab := tab, fns := [], bodies := [], loops := [], joins := [], fts := ftab, elts := eltab }
theorem eq195 : ∀ p, evFn env195 (inlN env195 0) 0 195 Tryz.f195 (argS 0 [(0, (.int .u32)), (0, (.int .u32)), (0, (.int .u32))] p) (argO 0 [(0, (.int .u32)), (0, (.int .u32)), (0, (.int .u32))] p) (denR [(0, (.int .u32)), (0, (.int .u32))] (refN 0 [(0, (.int .u32)), (0, (.int .u32)), (0, (.int .u32))])) (decR [(0, (.int .u32)), (0, (.int .u32)), (0, (.int .u32))] [(0, (.int .u32)), (0, (.int .u32))]) = g_bits_Div32 p.1 p.2.1 p.2.2 := fun p => by kernel_rfl
theorem ok195 : SpecOK Tryz.prog 195 spec195 :=
  fn_ok mixed_ok ⟨⟨tab_ok, fns_nil⟩, eq_ok, ft_ok, el_ok⟩ bodies_nil Tryz.func195 (goes Tryz.func195 (by kernel_rfl)) 0 [(0, (.int .u32)), (0, (.int .u32)), (0, (.int .u32))] [(0, (.int .u32)), (0, (.int .u32))] _ eq195

/-! (*fundadmin/bigint.mag).short -/
noncomputable def spec182 : Spec := mkSpec [(1, (.arr 32 (.int .u32))), (0, (.int .u32))] [(0, (.int .u32))] (fun p => g_bigint_mag_short p.1 p.2)
noncomputable def env182 : Env := { tab := tab, fns := [(181, spec181), (195, spec195)], bodies := [], loops := [(182, [(3, { keepT := [0, 1, 4], keepO := [], varT := [(5, (.int .u32)), (6, (.int .i64))], varO := [(0, (.arr 32 (.int .u32)))], outs := [.exit 0] })])], joins := [], fts := ftab, elts := eltab }
theorem eq182 : ∀ p, evFn env182 (inlN env182 0) 0 182 Tryz.f182 (argS 0 [(1, (.arr 32 (.int .u32))), (0, (.int .u32))] p) (argO 0 [(1, (.arr 32 (.int .u32))), (0, (.int .u32))] p) (denR [(0, (.int .u32))] (refN 0 [(1, (.arr 32 (.int .u32))), (0, (.int .u32))])) (decR [(1, (.arr 32 (.int .u32))), (0, (.int .u32))] [(0, (.int .u32))]) = g_bigint_mag_short p.1 p.2 := fun p => by kernel_rfl
theorem ok182 : SpecOK Tryz.prog 182 spec182 :=
  fn_ok mixed_ok ⟨⟨tab_ok, (fns_cons ok181 (fns_cons ok195 fns_nil))⟩, eq_ok, ft_ok, el_ok⟩ bodies_nil Tryz.func182 (goes Tryz.func182 (by kernel_rfl)) 0 [(1, (.arr 32 (.int .u32))), (0, (.int .u32))] [(0, (.int .u32))] _ eq182

/-! math/bits.LeadingZeros32 -/
noncomputable def spec183 : Spec := mkSpec [(0, (.int .u32))] [(0, (.int .i64))] (fun p => g_bits_LeadingZeros32 p)
noncomputable def env183 : Env := { tab := tab, fns := [(186, spec186)], bodies := [], loops := [], joins := [], fts := ftab, elts := eltab }
theorem eq183 : ∀ p, evFn env183 (inlN env183 0) 0 183 Tryz.f183 (argS 0 [(0, (.int .u32))] p) (argO 0 [(0, (.int .u32))] p) (denR [(0, (.int .i64))] (refN 0 [(0, (.int .u32))])) (decR [(0, (.int .u32))] [(0, (.int .i64))]) = g_bits_LeadingZeros32 p := fun p => by kernel_rfl
theorem ok183 : SpecOK Tryz.prog 183 spec183 :=
  fn_ok mixed_ok ⟨⟨tab_ok, (fns_cons ok186 fns_nil)⟩, eq_ok, ft_ok, el_ok⟩ bodies_nil Tryz.func183 (goes Tryz.func183 (by kernel_rfl)) 0 [(0, (.int .u32))] [(0, (.int .i64))] _ eq183

/-! math/bits.Sub32 -/
noncomputable def spec184 : Spec := mkSpec [(0, (.int .u32)), (0, (.int .u32)), (0, (.int .u32))] [(0, (.int .u32)), (0, (.int .u32))] (fun p => g_bits_Sub32 p.1 p.2.1 p.2.2)
noncomputable def env184 : Env := { tab := tab, fns := [], bodies := [], loops := [], joins := [], fts := ftab, elts := eltab }
theorem eq184 : ∀ p, evFn env184 (inlN env184 0) 0 184 Tryz.f184 (argS 0 [(0, (.int .u32)), (0, (.int .u32)), (0, (.int .u32))] p) (argO 0 [(0, (.int .u32)), (0, (.int .u32)), (0, (.int .u32))] p) (denR [(0, (.int .u32)), (0, (.int .u32))] (refN 0 [(0, (.int .u32)), (0, (.int .u32)), (0, (.int .u32))])) (decR [(0, (.int .u32)), (0, (.int .u32)), (0, (.int .u32))] [(0, (.int .u32)), (0, (.int .u32))]) = g_bits_Sub32 p.1 p.2.1 p.2.2 := fun p => by kernel_rfl
theorem ok184 : SpecOK Tryz.prog 184 spec184 :=
  fn_ok mixed_ok ⟨⟨tab_ok, fns_nil⟩, eq_ok, ft_ok, el_ok⟩ bodies_nil Tryz.func184 (goes Tryz.func184 (by kernel_rfl)) 0 [(0, (.int .u32)), (0, (.int .u32)), (0, (.int .u32))] [(0, (.int .u32)), (0, (.int .u32))] _ eq184

/-! math/bits.Add32 -/
noncomputable def spec185 : Spec := mkSpec [(0, (.int .u32)), (0, (.int .u32)), (0, (.int .u32))] [(0, (.int .u32)), (0, (.int .u32))] (fun p => g_bits_Add32 p.1 p.2.1 p.2.2)
noncomputable def env185 : Env := { tab := tab, fns := [], bodies := [], loops := [], joins := [], fts := ftab, elts := eltab }
theorem eq185 : ∀ p, evFn env185 (inlN env185 0) 0 185 Tryz.f185 (argS 0 [(0, (.int .u32)), (0, (.int .u32)), (0, (.int .u32))] p) (argO 0 [(0, (.int .u32)), (0, (.int .u32)), (0, (.int .u32))] p) (denR [(0, (.int .u32)), (0, (.int .u32))] (refN 0 [(0, (.int .u32)), (0, (.int .u32)), (0, (.int .u32))])) (decR [(0, (.int .u32)), (0, (.int .u32)), (0, (.int .u32))] [(0, (.int .u32)), (0, (.int .u32))]) = g_bits_Add32 p.1 p.2.1 p.2.2 := fun p => by kernel_rfl
theorem ok185 : SpecOK Tryz.prog 185 spec185 :=
  fn_ok mixed_ok ⟨⟨tab_ok, fns_nil⟩, eq_ok, ft_ok, el_ok⟩ bodies_nil Tryz.func185 (goes Tryz.func185 (by kernel_rfl)) 0 [(0, (.int .u32)), (0, (.int .u32)), (0, (.int .u32))] [(0, (.int .u32)), (0, (.int .u32))] _ eq185

/-! fundadmin/bigint.divide -/
noncomputable def spec153 : Spec := mkSpec [(1, (.arr 32 (.int .u32))), (1, (.arr 32 (.int .u32)))] [(0, (.arr 32 (.int .u32))), (0, (.arr 32 (.int .u32)))] (fun p => g_bigint_divide p.1 p.2)
noncomputable def env153 : Env := { tab := tab, fns := [(181, spec181), (136, spec136), (182, spec182), (183, spec183), (184, spec184), (185, spec185)], bodies := [], loops := [(153, [(12, { keepT := [0, 1, 4, 5, 6, 7, 8, 9, 10], keepO := [0, 1, 4, 5, 9], varT := [(11, (.int .i64))], varO := [(10, (.arr 32 (.int .u32)))], outs := [.exit 1] }), (18, { keepT := [0, 4, 5, 6, 7, 8, 9, 10], keepO := [0, 1, 4, 5, 10], varT := [(12, (.int .i64))], varO := [(9, (.arr 33 (.int .u32)))], outs := [.exit 3] }), (30, { keepT := [4, 5, 6, 8, 9, 10, 13, 14, 15, 16, 145, 146, 149, 150, 151, 152, 153, 154, 155, 156, 157, 158, 159, 160, 161, 162, 163, 164, 165, 166, 167, 168, 169], keepO := [0, 1, 4, 5, 9, 10], varT := [(17, (.int .u64)), (18, (.int .u64))], varO := [], outs := [.exit 7] }), (37, { keepT := [4, 5, 6, 8, 9, 10, 13, 14, 15, 16, 17, 18, 145, 146, 149, 150, 151, 152, 153, 154, 155, 156, 157, 158, 159, 160, 161, 162, 163, 164, 165, 166, 167, 168, 169, 195], keepO := [0, 1, 4, 5, 10], varT := [(19, (.int .u32)), (20, (.int .u64)), (196, (.int .i64))], varO := [(9, (.arr 33 (.int .u32)))], outs := [.exit 9] }), (48, { keepT := [4, 5, 6, 8, 9, 10, 13, 14, 15, 16, 17, 18, 19, 20, 145, 146, 149, 150, 151, 152, 153, 154, 155, 156, 157, 158, 159, 160, 161, 162, 163, 164, 165, 166, 167, 168, 169, 195, 196, 226, 227, 228, 229, 230, 231, 232, 233, 234, 235, 236, 237, 238, 239, 240, 241, 242, 243, 244, 245, 246], keepO := [0, 1, 4, 5, 10], varT := [(23, (.int .u32)), (247, (.int .i64))], varO := [(9, (.arr 33 (.int .u32)))], outs := [.exit 11] }), (26, { keepT := [4, 5, 6, 8, 9, 10, 13, 14], keepO := [0, 1, 5, 10], varT := [(15, (.int .i64))], varO := [(4, (.arr 32 (.int .u32))), (9, (.arr 33 (.int .u32)))], outs := [.exit 5] }), (55, { keepT := [4, 5, 8, 9, 280], keepO := [0, 1, 4, 9, 10], varT := [(281, (.int .i64))], varO := [(5, (.arr 32 (.int .u32)))], outs := [.exit 13] })])], joins := [], fts := ftab, elts := eltab }
theorem eq153 : ∀ p, evFn env153 (inlN env153 0) 0 153 Tryz.f153 (argS 0 [(1, (.arr 32 (.int .u32))), (1, (.arr 32 (.int .u32)))] p) (argO 0 [(1, (.arr 32 (.int .u32))), (1, (.arr 32 (.int .u32)))] p) (denR [(0, (.arr 32 (.int .u32))), (0, (.arr 32 (.int .u32)))] (refN 0 [(1, (.arr 32 (.int .u32))), (1, (.arr 32 (.int .u32)))])) (decR [(1, (.arr 32 (.int .u32))), (1, (.arr 32 (.int .u32)))] [(0, (.arr 32 (.int .u32))), (0, (.arr 32 (.int .u32)))]) = g_bigint_divide p.1 p.2 := fun p => by kernel_rfl
theorem ok153 : SpecOK Tryz.prog 153 spec153 :=
  fn_ok mixed_ok ⟨⟨tab_ok, (fns_cons ok181 (fns_cons ok136 (fns_cons ok182 (fns_cons ok183 (fns_cons ok184 (fns_cons ok185 fns_nil))))))⟩, eq_ok, ft_ok, el_ok⟩ bodies_nil Tryz.func153 (goes Tryz.func153 (by kernel_rfl)) 0 [(1, (.arr 32 (.int .u32))), (1, (.arr 32 (.int .u32)))] [(0, (.arr 32 (.int .u32))), (0, (.arr 32 (.int .u32)))] _ eq153

/-! fundadmin/bigint.Gcd -/
noncomputable def spec128 : Spec := mkSpec [(0, (.pair .bool (.arr 32 (.int .u32)))), (0, (.pair .bool (.arr 32 (.int .u32))))] [(0, (.pair .bool (.arr 32 (.int .u32))))] (fun p => g_bigint_Gcd p.1 p.2)
noncomputable def env128 : Env := { tab := tab, fns := [(135, spec135), (153, spec153), (138, spec138)], bodies := [], loops := [(128, [(3, { keepT := [4, 6, 8], keepO := [2, 3, 4], varT := [], varO := [(6, (.arr 32 (.int .u32))), (8, (.arr 32 (.int .u32)))], outs := [.exit 0] })])], joins := [], fts := ftab, elts := eltab }
theorem eq128 : ∀ p, evFn env128 (inlN env128 0) 0 128 Tryz.f128 (argS 0 [(0, (.pair .bool (.arr 32 (.int .u32)))), (0, (.pair .bool (.arr 32 (.int .u32))))] p) (argO 0 [(0, (.pair .bool (.arr 32 (.int .u32)))), (0, (.pair .bool (.arr 32 (.int .u32))))] p) (denR [(0, (.pair .bool (.arr 32 (.int .u32))))] (refN 0 [(0, (.pair .bool (.arr 32 (.int .u32)))), (0, (.pair .bool (.arr 32 (.int .u32))))])) (decR [(0, (.pair .bool (.arr 32 (.int .u32)))), (0, (.pair .bool (.arr 32 (.int .u32))))] [(0, (.pair .bool (.arr 32 (.int .u32))))]) = g_bigint_Gcd p.1 p.2 := fun p => by kernel_rfl
theorem ok128 : SpecOK Tryz.prog 128 spec128 :=
  fn_ok mixed_ok ⟨⟨tab_ok, (fns_cons ok135 (fns_cons ok153 (fns_cons ok138 fns_nil)))⟩, eq_ok, ft_ok, el_ok⟩ bodies_nil Tryz.func128 (goes Tryz.func128 (by kernel_rfl)) 0 [(0, (.pair .bool (.arr 32 (.int .u32)))), (0, (.pair .bool (.arr 32 (.int .u32))))] [(0, (.pair .bool (.arr 32 (.int .u32))))] _ eq128

/-! fundadmin/ratio.Valid -/
noncomputable def spec93 : Spec := mkSpec [(0, (.pair (.pair .bool (.arr 32 (.int .u32))) (.pair .bool (.arr 32 (.int .u32)))))] [(0, .bool)] (fun p => g_ratio_Valid p)
noncomputable def env93 : Env := { tab := tab, fns := [(125, spec125), (126, spec126), (127, spec127), (128, spec128), (102, spec102)], bodies := [], loops := [], joins := [], fts := ftab, elts := eltab }
theorem eq93 : ∀ p, evFn env93 (inlN env93 0) 0 93 Tryz.f93 (argS 0 [(0, (.pair (.pair .bool (.arr 32 (.int .u32))) (.pair .bool (.arr 32 (.int .u32)))))] p) (argO 0 [(0, (.pair (.pair .bool (.arr 32 (.int .u32))) (.pair .bool (.arr 32 (.int .u32)))))] p) (denR [(0, .bool)] (refN 0 [(0, (.pair (.pair .bool (.arr 32 (.int .u32))) (.pair .bool (.arr 32 (.int .u32)))))])) (decR [(0, (.pair (.pair .bool (.arr 32 (.int .u32))) (.pair .bool (.arr 32 (.int .u32)))))] [(0, .bool)]) = g_ratio_Valid p := fun p => by kernel_rfl
theorem ok93 : SpecOK Tryz.prog 93 spec93 :=
  fn_ok mixed_ok ⟨⟨tab_ok, (fns_cons ok125 (fns_cons ok126 (fns_cons ok127 (fns_cons ok128 (fns_cons ok102 fns_nil)))))⟩, eq_ok, ft_ok, el_ok⟩ bodies_nil Tryz.func93 (goes Tryz.func93 (by kernel_rfl)) 0 [(0, (.pair (.pair .bool (.arr 32 (.int .u32))) (.pair .bool (.arr 32 (.int .u32)))))] [(0, .bool)] _ eq93

/-! fundadmin/bigint.Cmp -/
noncomputable def spec100 : Spec := mkSpec [(0, (.pair .bool (.arr 32 (.int .u32)))), (0, (.pair .bool (.arr 32 (.int .u32))))] [(0, (.int .i64))] (fun p => g_bigint_Cmp p.1 p.2)
noncomputable def env100 : Env := { tab := tab, fns := [(127, spec127), (135, spec135), (136, spec136)], bodies := [], loops := [], joins := [], fts := ftab, elts := eltab }
theorem eq100 : ∀ p, evFn env100 (inlN env100 0) 0 100 Tryz.f100 (argS 0 [(0, (.pair .bool (.arr 32 (.int .u32)))), (0, (.pair .bool (.arr 32 (.int .u32))))] p) (argO 0 [(0, (.pair .bool (.arr 32 (.int .u32)))), (0, (.pair .bool (.arr 32 (.int .u32))))] p) (denR [(0, (.int .i64))] (refN 0 [(0, (.pair .bool (.arr 32 (.int .u32)))), (0, (.pair .bool (.arr 32 (.int .u32))))])) (decR [(0, (.pair .bool (.arr 32 (.int .u32)))), (0, (.pair .bool (.arr 32 (.int .u32))))] [(0, (.int .i64))]) = g_bigint_Cmp p.1 p.2 := fun p => by kernel_rfl
theorem ok100 : SpecOK Tryz.prog 100 spec100 :=
  fn_ok mixed_ok ⟨⟨tab_ok, (fns_cons ok127 (fns_cons ok135 (fns_cons ok136 fns_nil)))⟩, eq_ok, ft_ok, el_ok⟩ bodies_nil Tryz.func100 (goes Tryz.func100 (by kernel_rfl)) 0 [(0, (.pair .bool (.arr 32 (.int .u32)))), (0, (.pair .bool (.arr 32 (.int .u32))))] [(0, (.int .i64))] _ eq100

/-! fundadmin/bigint.times -/
noncomputable def spec164 : Spec := mkSpec [(1, (.arr 32 (.int .u32))), (1, (.arr 32 (.int .u32)))] [(0, (.arr 32 (.int .u32))), (0, .bool)] (fun p => g_bigint_times p.1 p.2)
noncomputable def env164 : Env := { tab := tab, fns := [(181, spec181)], bodies := [], loops := [(164, [(8, { keepT := [0, 1, 4, 5, 6, 8, 9, 17, 18, 19, 20, 21], keepO := [0, 1, 4], varT := [(10, (.int .u64)), (22, (.int .i64))], varO := [(6, (.arr 64 (.int .u32)))], outs := [.exit 2] }), (4, { keepT := [0, 1, 4, 5, 6, 8, 17], keepO := [0, 1, 4], varT := [(18, (.int .i64))], varO := [(6, (.arr 64 (.int .u32)))], outs := [.exit 0] })])], joins := [], fts := ftab, elts := eltab }
theorem eq164 : ∀ p, evFn env164 (inlN env164 0) 0 164 Tryz.f164 (argS 0 [(1, (.arr 32 (.int .u32))), (1, (.arr 32 (.int .u32)))] p) (argO 0 [(1, (.arr 32 (.int .u32))), (1, (.arr 32 (.int .u32)))] p) (denR [(0, (.arr 32 (.int .u32))), (0, .bool)] (refN 0 [(1, (.arr 32 (.int .u32))), (1, (.arr 32 (.int .u32)))])) (decR [(1, (.arr 32 (.int .u32))), (1, (.arr 32 (.int .u32)))] [(0, (.arr 32 (.int .u32))), (0, .bool)]) = g_bigint_times p.1 p.2 := fun p => by kernel_rfl
theorem ok164 : SpecOK Tryz.prog 164 spec164 :=
  fn_ok mixed_ok ⟨⟨tab_ok, (fns_cons ok181 fns_nil)⟩, eq_ok, ft_ok, el_ok⟩ bodies_nil Tryz.func164 (goes Tryz.func164 (by kernel_rfl)) 0 [(1, (.arr 32 (.int .u32))), (1, (.arr 32 (.int .u32)))] [(0, (.arr 32 (.int .u32))), (0, .bool)] _ eq164

/-! fundadmin/bigint.Mul -/
noncomputable def spec137 : Spec := mkSpec [(0, (.pair .bool (.arr 32 (.int .u32)))), (0, (.pair .bool (.arr 32 (.int .u32))))] [(0, (.pair .bool (.arr 32 (.int .u32)))), (0, (.int .i64))] (fun p => g_bigint_Mul p.1 p.2)
noncomputable def env137 : Env := { tab := tab, fns := [(135, spec135), (164, spec164), (138, spec138)], bodies := [], loops := [], joins := [], fts := ftab, elts := eltab }
theorem eq137 : ∀ p, evFn env137 (inlN env137 0) 0 137 Tryz.f137 (argS 0 [(0, (.pair .bool (.arr 32 (.int .u32)))), (0, (.pair .bool (.arr 32 (.int .u32))))] p) (argO 0 [(0, (.pair .bool (.arr 32 (.int .u32)))), (0, (.pair .bool (.arr 32 (.int .u32))))] p) (denR [(0, (.pair .bool (.arr 32 (.int .u32)))), (0, (.int .i64))] (refN 0 [(0, (.pair .bool (.arr 32 (.int .u32)))), (0, (.pair .bool (.arr 32 (.int .u32))))])) (decR [(0, (.pair .bool (.arr 32 (.int .u32)))), (0, (.pair .bool (.arr 32 (.int .u32))))] [(0, (.pair .bool (.arr 32 (.int .u32)))), (0, (.int .i64))]) = g_bigint_Mul p.1 p.2 := fun p => by kernel_rfl
theorem ok137 : SpecOK Tryz.prog 137 spec137 :=
  fn_ok mixed_ok ⟨⟨tab_ok, (fns_cons ok135 (fns_cons ok164 (fns_cons ok138 fns_nil)))⟩, eq_ok, ft_ok, el_ok⟩ bodies_nil Tryz.func137 (goes Tryz.func137 (by kernel_rfl)) 0 [(0, (.pair .bool (.arr 32 (.int .u32)))), (0, (.pair .bool (.arr 32 (.int .u32))))] [(0, (.pair .bool (.arr 32 (.int .u32)))), (0, (.int .i64))] _ eq137

/-! fundadmin/ratio.product -/
noncomputable def spec101 : Spec := mkSpec [(0, (.pair .bool (.arr 32 (.int .u32)))), (0, (.pair .bool (.arr 32 (.int .u32))))] [(0, (.pair .bool (.arr 32 (.int .u32))))] (fun p => g_ratio_product p.1 p.2)
noncomputable def env101 : Env := { tab := tab, fns := [(137, spec137)], bodies := [], loops := [], joins := [], fts := ftab, elts := eltab }
theorem eq101 : ∀ p, evFn env101 (inlN env101 0) 0 101 Tryz.f101 (argS 0 [(0, (.pair .bool (.arr 32 (.int .u32)))), (0, (.pair .bool (.arr 32 (.int .u32))))] p) (argO 0 [(0, (.pair .bool (.arr 32 (.int .u32)))), (0, (.pair .bool (.arr 32 (.int .u32))))] p) (denR [(0, (.pair .bool (.arr 32 (.int .u32))))] (refN 0 [(0, (.pair .bool (.arr 32 (.int .u32)))), (0, (.pair .bool (.arr 32 (.int .u32))))])) (decR [(0, (.pair .bool (.arr 32 (.int .u32)))), (0, (.pair .bool (.arr 32 (.int .u32))))] [(0, (.pair .bool (.arr 32 (.int .u32))))]) = g_ratio_product p.1 p.2 := fun p => by kernel_rfl
theorem ok101 : SpecOK Tryz.prog 101 spec101 :=
  fn_ok mixed_ok ⟨⟨tab_ok, (fns_cons ok137 fns_nil)⟩, eq_ok, ft_ok, el_ok⟩ bodies_nil Tryz.func101 (goes Tryz.func101 (by kernel_rfl)) 0 [(0, (.pair .bool (.arr 32 (.int .u32)))), (0, (.pair .bool (.arr 32 (.int .u32))))] [(0, (.pair .bool (.arr 32 (.int .u32))))] _ eq101

/-! fundadmin/ratio.Cmp -/
noncomputable def spec64 : Spec := mkSpec [(0, (.pair (.pair .bool (.arr 32 (.int .u32))) (.pair .bool (.arr 32 (.int .u32))))), (0, (.pair (.pair .bool (.arr 32 (.int .u32))) (.pair .bool (.arr 32 (.int .u32)))))] [(0, (.int .i64)), (0, (.int .i64))] (fun p => g_ratio_Cmp p.1 p.2)
noncomputable def env64 : Env := { tab := tab, fns := [(93, spec93), (101, spec101), (100, spec100)], bodies := [], loops := [], joins := [], fts := ftab, elts := eltab }
theorem eq64 : ∀ p, evFn env64 (inlN env64 0) 0 64 Tryz.f64 (argS 0 [(0, (.pair (.pair .bool (.arr 32 (.int .u32))) (.pair .bool (.arr 32 (.int .u32))))), (0, (.pair (.pair .bool (.arr 32 (.int .u32))) (.pair .bool (.arr 32 (.int .u32)))))] p) (argO 0 [(0, (.pair (.pair .bool (.arr 32 (.int .u32))) (.pair .bool (.arr 32 (.int .u32))))), (0, (.pair (.pair .bool (.arr 32 (.int .u32))) (.pair .bool (.arr 32 (.int .u32)))))] p) (denR [(0, (.int .i64)), (0, (.int .i64))] (refN 0 [(0, (.pair (.pair .bool (.arr 32 (.int .u32))) (.pair .bool (.arr 32 (.int .u32))))), (0, (.pair (.pair .bool (.arr 32 (.int .u32))) (.pair .bool (.arr 32 (.int .u32)))))])) (decR [(0, (.pair (.pair .bool (.arr 32 (.int .u32))) (.pair .bool (.arr 32 (.int .u32))))), (0, (.pair (.pair .bool (.arr 32 (.int .u32))) (.pair .bool (.arr 32 (.int .u32)))))] [(0, (.int .i64)), (0, (.int .i64))]) = g_ratio_Cmp p.1 p.2 := fun p => by kernel_rfl
theorem ok64 : SpecOK Tryz.prog 64 spec64 :=
  fn_ok mixed_ok ⟨⟨tab_ok, (fns_cons ok93 (fns_cons ok101 (fns_cons ok100 fns_nil)))⟩, eq_ok, ft_ok, el_ok⟩ bodies_nil Tryz.func64 (goes Tryz.func64 (by kernel_rfl)) 0 [(0, (.pair (.pair .bool (.arr 32 (.int .u32))) (.pair .bool (.arr 32 (.int .u32))))), (0, (.pair (.pair .bool (.arr 32 (.int .u32))) (.pair .bool (.arr 32 (.int .u32)))))] [(0, (.int .i64)), (0, (.int .i64))] _ eq64

/-! fundadmin/ratio.Whole -/
noncomputable def spec65 : Spec := mkSpec [(0, (.int .i64))] [(0, (.pair (.pair .bool (.arr 32 (.int .u32))) (.pair .bool (.arr 32 (.int .u32)))))] (fun p => g_ratio_Whole p)
noncomputable def env65 : Env := { tab := tab, fns := [(102, spec102)], bodies := [], loops := [], joins := [], fts := ftab, elts := eltab }
theorem eq65 : ∀ p, evFn env65 (inlN env65 0) 0 65 Tryz.f65 (argS 0 [(0, (.int .i64))] p) (argO 0 [(0, (.int .i64))] p) (denR [(0, (.pair (.pair .bool (.arr 32 (.int .u32))) (.pair .bool (.arr 32 (.int .u32)))))] (refN 0 [(0, (.int .i64))])) (decR [(0, (.int .i64))] [(0, (.pair (.pair .bool (.arr 32 (.int .u32))) (.pair .bool (.arr 32 (.int .u32)))))]) = g_ratio_Whole p := fun p => by kernel_rfl
theorem ok65 : SpecOK Tryz.prog 65 spec65 :=
  fn_ok mixed_ok ⟨⟨tab_ok, (fns_cons ok102 fns_nil)⟩, eq_ok, ft_ok, el_ok⟩ bodies_nil Tryz.func65 (goes Tryz.func65 (by kernel_rfl)) 0 [(0, (.int .i64))] [(0, (.pair (.pair .bool (.arr 32 (.int .u32))) (.pair .bool (.arr 32 (.int .u32)))))] _ eq65

/-! fundadmin/ratio.Sign -/
noncomputable def spec94 : Spec := mkSpec [(0, (.pair (.pair .bool (.arr 32 (.int .u32))) (.pair .bool (.arr 32 (.int .u32)))))] [(0, (.int .i64)), (0, (.int .i64))] (fun p => g_ratio_Sign p)
noncomputable def env94 : Env := { tab := tab, fns := [(93, spec93), (127, spec127)], bodies := [], loops := [], joins := [], fts := ftab, elts := eltab }
theorem eq94 : ∀ p, evFn env94 (inlN env94 0) 0 94 Tryz.f94 (argS 0 [(0, (.pair (.pair .bool (.arr 32 (.int .u32))) (.pair .bool (.arr 32 (.int .u32)))))] p) (argO 0 [(0, (.pair (.pair .bool (.arr 32 (.int .u32))) (.pair .bool (.arr 32 (.int .u32)))))] p) (denR [(0, (.int .i64)), (0, (.int .i64))] (refN 0 [(0, (.pair (.pair .bool (.arr 32 (.int .u32))) (.pair .bool (.arr 32 (.int .u32)))))])) (decR [(0, (.pair (.pair .bool (.arr 32 (.int .u32))) (.pair .bool (.arr 32 (.int .u32)))))] [(0, (.int .i64)), (0, (.int .i64))]) = g_ratio_Sign p := fun p => by kernel_rfl
theorem ok94 : SpecOK Tryz.prog 94 spec94 :=
  fn_ok mixed_ok ⟨⟨tab_ok, (fns_cons ok93 (fns_cons ok127 fns_nil))⟩, eq_ok, ft_ok, el_ok⟩ bodies_nil Tryz.func94 (goes Tryz.func94 (by kernel_rfl)) 0 [(0, (.pair (.pair .bool (.arr 32 (.int .u32))) (.pair .bool (.arr 32 (.int .u32)))))] [(0, (.int .i64)), (0, (.int .i64))] _ eq94

/-! fundadmin/highwater.part -/
noncomputable def spec56 : Spec := mkSpec [(0, (.pair (.pair .bool (.arr 32 (.int .u32))) (.pair .bool (.arr 32 (.int .u32)))))] [(0, .bool)] (fun p => g_highwater_part p)
noncomputable def env56 : Env := { tab := tab, fns := [(94, spec94), (65, spec65), (64, spec64)], bodies := [], loops := [], joins := [], fts := ftab, elts := eltab }
theorem eq56 : ∀ p, evFn env56 (inlN env56 0) 0 56 Tryz.f56 (argS 0 [(0, (.pair (.pair .bool (.arr 32 (.int .u32))) (.pair .bool (.arr 32 (.int .u32)))))] p) (argO 0 [(0, (.pair (.pair .bool (.arr 32 (.int .u32))) (.pair .bool (.arr 32 (.int .u32)))))] p) (denR [(0, .bool)] (refN 0 [(0, (.pair (.pair .bool (.arr 32 (.int .u32))) (.pair .bool (.arr 32 (.int .u32)))))])) (decR [(0, (.pair (.pair .bool (.arr 32 (.int .u32))) (.pair .bool (.arr 32 (.int .u32)))))] [(0, .bool)]) = g_highwater_part p := fun p => by kernel_rfl
theorem ok56 : SpecOK Tryz.prog 56 spec56 :=
  fn_ok mixed_ok ⟨⟨tab_ok, (fns_cons ok94 (fns_cons ok65 (fns_cons ok64 fns_nil)))⟩, eq_ok, ft_ok, el_ok⟩ bodies_nil Tryz.func56 (goes Tryz.func56 (by kernel_rfl)) 0 [(0, (.pair (.pair .bool (.arr 32 (.int .u32))) (.pair .bool (.arr 32 (.int .u32)))))] [(0, .bool)] _ eq56

/-! fundadmin/highwater.Check -/
noncomputable def spec15 : Spec := mkSpec [(0, (.pair (.pair (.pair .bool (.arr 32 (.int .u32))) (.pair .bool (.arr 32 (.int .u32)))) (.pair (.pair (.pair .bool (.arr 32 (.int .u32))) (.pair .bool (.arr 32 (.int .u32)))) (.int .i64))))] [(0, (.int .i64))] (fun p => g_highwater_Check p)
noncomputable def env15 : Env := { tab := tab, fns := [(56, spec56)], bodies := [], loops := [], joins := [], fts := ftab, elts := eltab }
theorem eq15 : ∀ p, evFn env15 (inlN env15 0) 0 15 Tryz.f15 (argS 0 [(0, (.pair (.pair (.pair .bool (.arr 32 (.int .u32))) (.pair .bool (.arr 32 (.int .u32)))) (.pair (.pair (.pair .bool (.arr 32 (.int .u32))) (.pair .bool (.arr 32 (.int .u32)))) (.int .i64))))] p) (argO 0 [(0, (.pair (.pair (.pair .bool (.arr 32 (.int .u32))) (.pair .bool (.arr 32 (.int .u32)))) (.pair (.pair (.pair .bool (.arr 32 (.int .u32))) (.pair .bool (.arr 32 (.int .u32)))) (.int .i64))))] p) (denR [(0, (.int .i64))] (refN 0 [(0, (.pair (.pair (.pair .bool (.arr 32 (.int .u32))) (.pair .bool (.arr 32 (.int .u32)))) (.pair (.pair (.pair .bool (.arr 32 (.int .u32))) (.pair .bool (.arr 32 (.int .u32)))) (.int .i64))))])) (decR [(0, (.pair (.pair (.pair .bool (.arr 32 (.int .u32))) (.pair .bool (.arr 32 (.int .u32)))) (.pair (.pair (.pair .bool (.arr 32 (.int .u32))) (.pair .bool (.arr 32 (.int .u32)))) (.int .i64))))] [(0, (.int .i64))]) = g_highwater_Check p := fun p => by kernel_rfl
theorem ok15 : SpecOK Tryz.prog 15 spec15 :=
  fn_ok mixed_ok ⟨⟨tab_ok, (fns_cons ok56 fns_nil)⟩, eq_ok, ft_ok, el_ok⟩ bodies_nil Tryz.func15 (goes Tryz.func15 (by kernel_rfl)) 0 [(0, (.pair (.pair (.pair .bool (.arr 32 (.int .u32))) (.pair .bool (.arr 32 (.int .u32)))) (.pair (.pair (.pair .bool (.arr 32 (.int .u32))) (.pair .bool (.arr 32 (.int .u32)))) (.int .i64))))] [(0, (.int .i64))] _ eq15

/-! fundadmin/highwater.above -/
noncomputable def spec58 : Spec := mkSpec [(0, (.pair (.pair .bool (.arr 32 (.int .u32))) (.pair .bool (.arr 32 (.int .u32)))))] [(0, .bool)] (fun p => g_highwater_above p)
noncomputable def env58 : Env := { tab := tab, fns := [(94, spec94)], bodies := [], loops := [], joins := [], fts := ftab, elts := eltab }
theorem eq58 : ∀ p, evFn env58 (inlN env58 0) 0 58 Tryz.f58 (argS 0 [(0, (.pair (.pair .bool (.arr 32 (.int .u32))) (.pair .bool (.arr 32 (.int .u32)))))] p) (argO 0 [(0, (.pair (.pair .bool (.arr 32 (.int .u32))) (.pair .bool (.arr 32 (.int .u32)))))] p) (denR [(0, .bool)] (refN 0 [(0, (.pair (.pair .bool (.arr 32 (.int .u32))) (.pair .bool (.arr 32 (.int .u32)))))])) (decR [(0, (.pair (.pair .bool (.arr 32 (.int .u32))) (.pair .bool (.arr 32 (.int .u32)))))] [(0, .bool)]) = g_highwater_above p := fun p => by kernel_rfl
theorem ok58 : SpecOK Tryz.prog 58 spec58 :=
  fn_ok mixed_ok ⟨⟨tab_ok, (fns_cons ok94 fns_nil)⟩, eq_ok, ft_ok, el_ok⟩ bodies_nil Tryz.func58 (goes Tryz.func58 (by kernel_rfl)) 0 [(0, (.pair (.pair .bool (.arr 32 (.int .u32))) (.pair .bool (.arr 32 (.int .u32)))))] [(0, .bool)] _ eq58

/-! fundadmin/highwater.CheckWater -/
noncomputable def spec17 : Spec := mkSpec [(0, (.pair (.pair (.pair .bool (.arr 32 (.int .u32))) (.pair .bool (.arr 32 (.int .u32)))) (.int .i64)))] [(0, (.int .i64))] (fun p => g_highwater_CheckWater p)
noncomputable def env17 : Env := { tab := tab, fns := [(58, spec58)], bodies := [], loops := [], joins := [], fts := ftab, elts := eltab }
theorem eq17 : ∀ p, evFn env17 (inlN env17 0) 0 17 Tryz.f17 (argS 0 [(0, (.pair (.pair (.pair .bool (.arr 32 (.int .u32))) (.pair .bool (.arr 32 (.int .u32)))) (.int .i64)))] p) (argO 0 [(0, (.pair (.pair (.pair .bool (.arr 32 (.int .u32))) (.pair .bool (.arr 32 (.int .u32)))) (.int .i64)))] p) (denR [(0, (.int .i64))] (refN 0 [(0, (.pair (.pair (.pair .bool (.arr 32 (.int .u32))) (.pair .bool (.arr 32 (.int .u32)))) (.int .i64)))])) (decR [(0, (.pair (.pair (.pair .bool (.arr 32 (.int .u32))) (.pair .bool (.arr 32 (.int .u32)))) (.int .i64)))] [(0, (.int .i64))]) = g_highwater_CheckWater p := fun p => by kernel_rfl
theorem ok17 : SpecOK Tryz.prog 17 spec17 :=
  fn_ok mixed_ok ⟨⟨tab_ok, (fns_cons ok58 fns_nil)⟩, eq_ok, ft_ok, el_ok⟩ bodies_nil Tryz.func17 (goes Tryz.func17 (by kernel_rfl)) 0 [(0, (.pair (.pair (.pair .bool (.arr 32 (.int .u32))) (.pair .bool (.arr 32 (.int .u32)))) (.int .i64)))] [(0, (.int .i64))] _ eq17

/-! fundadmin/highwater.check -/
noncomputable def spec60 : Spec := mkSpec [(0, (.pair (.pair (.pair .bool (.arr 32 (.int .u32))) (.pair .bool (.arr 32 (.int .u32)))) (.pair (.pair (.pair .bool (.arr 32 (.int .u32))) (.pair .bool (.arr 32 (.int .u32)))) (.int .i64)))), (0, (.pair (.pair (.pair .bool (.arr 32 (.int .u32))) (.pair .bool (.arr 32 (.int .u32)))) (.int .i64)))] [(0, (.int .i64))] (fun p => g_highwater_check p.1 p.2)
noncomputable def env60 : Env := { tab := tab, fns := [(15, spec15), (17, spec17)], bodies := [], loops := [], joins := [], fts := ftab, elts := eltab }
theorem eq60 : ∀ p, evFn env60 (inlN env60 0) 0 60 Tryz.f60 (argS 0 [(0, (.pair (.pair (.pair .bool (.arr 32 (.int .u32))) (.pair .bool (.arr 32 (.int .u32)))) (.pair (.pair (.pair .bool (.arr 32 (.int .u32))) (.pair .bool (.arr 32 (.int .u32)))) (.int .i64)))), (0, (.pair (.pair (.pair .bool (.arr 32 (.int .u32))) (.pair .bool (.arr 32 (.int .u32)))) (.int .i64)))] p) (argO 0 [(0, (.pair (.pair (.pair .bool (.arr 32 (.int .u32))) (.pair .bool (.arr 32 (.int .u32)))) (.pair (.pair (.pair .bool (.arr 32 (.int .u32))) (.pair .bool (.arr 32 (.int .u32)))) (.int .i64)))), (0, (.pair (.pair (.pair .bool (.arr 32 (.int .u32))) (.pair .bool (.arr 32 (.int .u32)))) (.int .i64)))] p) (denR [(0, (.int .i64))] (refN 0 [(0, (.pair (.pair (.pair .bool (.arr 32 (.int .u32))) (.pair .bool (.arr 32 (.int .u32)))) (.pair (.pair (.pair .bool (.arr 32 (.int .u32))) (.pair .bool (.arr 32 (.int .u32)))) (.int .i64)))), (0, (.pair (.pair (.pair .bool (.arr 32 (.int .u32))) (.pair .bool (.arr 32 (.int .u32)))) (.int .i64)))])) (decR [(0, (.pair (.pair (.pair .bool (.arr 32 (.int .u32))) (.pair .bool (.arr 32 (.int .u32)))) (.pair (.pair (.pair .bool (.arr 32 (.int .u32))) (.pair .bool (.arr 32 (.int .u32)))) (.int .i64)))), (0, (.pair (.pair (.pair .bool (.arr 32 (.int .u32))) (.pair .bool (.arr 32 (.int .u32)))) (.int .i64)))] [(0, (.int .i64))]) = g_highwater_check p.1 p.2 := fun p => by kernel_rfl
theorem ok60 : SpecOK Tryz.prog 60 spec60 :=
  fn_ok mixed_ok ⟨⟨tab_ok, (fns_cons ok15 (fns_cons ok17 fns_nil))⟩, eq_ok, ft_ok, el_ok⟩ bodies_nil Tryz.func60 (goes Tryz.func60 (by kernel_rfl)) 0 [(0, (.pair (.pair (.pair .bool (.arr 32 (.int .u32))) (.pair .bool (.arr 32 (.int .u32)))) (.pair (.pair (.pair .bool (.arr 32 (.int .u32))) (.pair .bool (.arr 32 (.int .u32)))) (.int .i64)))), (0, (.pair (.pair (.pair .bool (.arr 32 (.int .u32))) (.pair .bool (.arr 32 (.int .u32)))) (.int .i64)))] [(0, (.int .i64))] _ eq60

/-! fundadmin/bigint.Neg -/
noncomputable def spec140 : Spec := mkSpec [(0, (.pair .bool (.arr 32 (.int .u32))))] [(0, (.pair .bool (.arr 32 (.int .u32))))] (fun p => g_bigint_Neg p)
noncomputable def env140 : Env := { tab := tab, fns := [(135, spec135), (138, spec138)], bodies := [], loops := [], joins := [], fts := ftab, elts := eltab }
theorem eq140 : ∀ p, evFn env140 (inlN env140 0) 0 140 Tryz.f140 (argS 0 [(0, (.pair .bool (.arr 32 (.int .u32))))] p) (argO 0 [(0, (.pair .bool (.arr 32 (.int .u32))))] p) (denR [(0, (.pair .bool (.arr 32 (.int .u32))))] (refN 0 [(0, (.pair .bool (.arr 32 (.int .u32))))])) (decR [(0, (.pair .bool (.arr 32 (.int .u32))))] [(0, (.pair .bool (.arr 32 (.int .u32))))]) = g_bigint_Neg p := fun p => by kernel_rfl
theorem ok140 : SpecOK Tryz.prog 140 spec140 :=
  fn_ok mixed_ok ⟨⟨tab_ok, (fns_cons ok135 (fns_cons ok138 fns_nil))⟩, eq_ok, ft_ok, el_ok⟩ bodies_nil Tryz.func140 (goes Tryz.func140 (by kernel_rfl)) 0 [(0, (.pair .bool (.arr 32 (.int .u32))))] [(0, (.pair .bool (.arr 32 (.int .u32))))] _ eq140

/-! fundadmin/bigint.minus -/
noncomputable def spec165 : Spec := mkSpec [(1, (.arr 32 (.int .u32))), (1, (.arr 32 (.int .u32)))] [(0, (.arr 32 (.int .u32)))] (fun p => g_bigint_minus p.1 p.2)
noncomputable def env165 : Env := { tab := tab, fns := [(184, spec184)], bodies := [], loops := [(165, [(4, { keepT := [0, 1, 4, 5], keepO := [0, 1, 4], varT := [(6, (.int .u32)), (8, (.int .i64))], varO := [(5, (.arr 32 (.int .u32)))], outs := [.exit 0] })])], joins := [], fts := ftab, elts := eltab }
theorem eq165 : ∀ p, evFn env165 (inlN env165 0) 0 165 Tryz.f165 (argS 0 [(1, (.arr 32 (.int .u32))), (1, (.arr 32 (.int .u32)))] p) (argO 0 [(1, (.arr 32 (.int .u32))), (1, (.arr 32 (.int .u32)))] p) (denR [(0, (.arr 32 (.int .u32)))] (refN 0 [(1, (.arr 32 (.int .u32))), (1, (.arr 32 (.int .u32)))])) (decR [(1, (.arr 32 (.int .u32))), (1, (.arr 32 (.int .u32)))] [(0, (.arr 32 (.int .u32)))]) = g_bigint_minus p.1 p.2 := fun p => by kernel_rfl
theorem ok165 : SpecOK Tryz.prog 165 spec165 :=
  fn_ok mixed_ok ⟨⟨tab_ok, (fns_cons ok184 fns_nil)⟩, eq_ok, ft_ok, el_ok⟩ bodies_nil Tryz.func165 (goes Tryz.func165 (by kernel_rfl)) 0 [(1, (.arr 32 (.int .u32))), (1, (.arr 32 (.int .u32)))] [(0, (.arr 32 (.int .u32)))] _ eq165

/-! fundadmin/bigint.plus -/
noncomputable def spec166 : Spec := mkSpec [(1, (.arr 32 (.int .u32))), (1, (.arr 32 (.int .u32)))] [(0, (.arr 32 (.int .u32))), (0, .bool)] (fun p => g_bigint_plus p.1 p.2)
noncomputable def env166 : Env := { tab := tab, fns := [(185, spec185)], bodies := [], loops := [(166, [(4, { keepT := [0, 1, 4, 5, 6], keepO := [0, 1, 4], varT := [(7, (.int .u32)), (9, (.int .i64))], varO := [(6, (.arr 32 (.int .u32)))], outs := [.exit 0] })])], joins := [], fts := ftab, elts := eltab }
theorem eq166 : ∀ p, evFn env166 (inlN env166 0) 0 166 Tryz.f166 (argS 0 [(1, (.arr 32 (.int .u32))), (1, (.arr 32 (.int .u32)))] p) (argO 0 [(1, (.arr 32 (.int .u32))), (1, (.arr 32 (.int .u32)))] p) (denR [(0, (.arr 32 (.int .u32))), (0, .bool)] (refN 0 [(1, (.arr 32 (.int .u32))), (1, (.arr 32 (.int .u32)))])) (decR [(1, (.arr 32 (.int .u32))), (1, (.arr 32 (.int .u32)))] [(0, (.arr 32 (.int .u32))), (0, .bool)]) = g_bigint_plus p.1 p.2 := fun p => by kernel_rfl
theorem ok166 : SpecOK Tryz.prog 166 spec166 :=
  fn_ok mixed_ok ⟨⟨tab_ok, (fns_cons ok185 fns_nil)⟩, eq_ok, ft_ok, el_ok⟩ bodies_nil Tryz.func166 (goes Tryz.func166 (by kernel_rfl)) 0 [(1, (.arr 32 (.int .u32))), (1, (.arr 32 (.int .u32)))] [(0, (.arr 32 (.int .u32))), (0, .bool)] _ eq166

/-! fundadmin/bigint.DivMod -/
noncomputable def spec167 : Spec := mkSpec [(0, (.pair .bool (.arr 32 (.int .u32)))), (0, (.pair .bool (.arr 32 (.int .u32))))] [(0, (.pair .bool (.arr 32 (.int .u32)))), (0, (.pair .bool (.arr 32 (.int .u32)))), (0, (.int .i64))] (fun p => g_bigint_DivMod p.1 p.2)
noncomputable def env167 : Env := { tab := tab, fns := [(135, spec135), (153, spec153), (166, spec166), (165, spec165), (138, spec138)], bodies := [], loops := [], joins := [], fts := ftab, elts := eltab }
theorem eq167 : ∀ p, evFn env167 (inlN env167 0) 0 167 Tryz.f167 (argS 0 [(0, (.pair .bool (.arr 32 (.int .u32)))), (0, (.pair .bool (.arr 32 (.int .u32))))] p) (argO 0 [(0, (.pair .bool (.arr 32 (.int .u32)))), (0, (.pair .bool (.arr 32 (.int .u32))))] p) (denR [(0, (.pair .bool (.arr 32 (.int .u32)))), (0, (.pair .bool (.arr 32 (.int .u32)))), (0, (.int .i64))] (refN 0 [(0, (.pair .bool (.arr 32 (.int .u32)))), (0, (.pair .bool (.arr 32 (.int .u32))))])) (decR [(0, (.pair .bool (.arr 32 (.int .u32)))), (0, (.pair .bool (.arr 32 (.int .u32))))] [(0, (.pair .bool (.arr 32 (.int .u32)))), (0, (.pair .bool (.arr 32 (.int .u32)))), (0, (.int .i64))]) = g_bigint_DivMod p.1 p.2 := fun p => by kernel_rfl
theorem ok167 : SpecOK Tryz.prog 167 spec167 :=
  fn_ok mixed_ok ⟨⟨tab_ok, (fns_cons ok135 (fns_cons ok153 (fns_cons ok166 (fns_cons ok165 (fns_cons ok138 fns_nil)))))⟩, eq_ok, ft_ok, el_ok⟩ bodies_nil Tryz.func167 (goes Tryz.func167 (by kernel_rfl)) 0 [(0, (.pair .bool (.arr 32 (.int .u32)))), (0, (.pair .bool (.arr 32 (.int .u32))))] [(0, (.pair .bool (.arr 32 (.int .u32)))), (0, (.pair .bool (.arr 32 (.int .u32)))), (0, (.int .i64))] _ eq167

/-! fundadmin/ratio.whole -/
noncomputable def spec145 : Spec := mkSpec [(0, (.pair .bool (.arr 32 (.int .u32)))), (0, (.pair .bool (.arr 32 (.int .u32))))] [(0, (.pair .bool (.arr 32 (.int .u32))))] (fun p => g_ratio_whole p.1 p.2)
noncomputable def env145 : Env := { tab := tab, fns := [(167, spec167)], bodies := [], loops := [], joins := [], fts := ftab, elts := eltab }
theorem eq145 : ∀ p, evFn env145 (inlN env145 0) 0 145 Tryz.f145 (argS 0 [(0, (.pair .bool (.arr 32 (.int .u32)))), (0, (.pair .bool (.arr 32 (.int .u32))))] p) (argO 0 [(0, (.pair .bool (.arr 32 (.int .u32)))), (0, (.pair .bool (.arr 32 (.int .u32))))] p) (denR [(0, (.pair .bool (.arr 32 (.int .u32))))] (refN 0 [(0, (.pair .bool (.arr 32 (.int .u32)))), (0, (.pair .bool (.arr 32 (.int .u32))))])) (decR [(0, (.pair .bool (.arr 32 (.int .u32)))), (0, (.pair .bool (.arr 32 (.int .u32))))] [(0, (.pair .bool (.arr 32 (.int .u32))))]) = g_ratio_whole p.1 p.2 := fun p => by kernel_rfl
theorem ok145 : SpecOK Tryz.prog 145 spec145 :=
  fn_ok mixed_ok ⟨⟨tab_ok, (fns_cons ok167 fns_nil)⟩, eq_ok, ft_ok, el_ok⟩ bodies_nil Tryz.func145 (goes Tryz.func145 (by kernel_rfl)) 0 [(0, (.pair .bool (.arr 32 (.int .u32)))), (0, (.pair .bool (.arr 32 (.int .u32))))] [(0, (.pair .bool (.arr 32 (.int .u32))))] _ eq145

/-! fundadmin/ratio.Make -/
noncomputable def spec107 : Spec := mkSpec [(0, (.pair .bool (.arr 32 (.int .u32)))), (0, (.pair .bool (.arr 32 (.int .u32))))] [(0, (.pair (.pair .bool (.arr 32 (.int .u32))) (.pair .bool (.arr 32 (.int .u32))))), (0, (.int .i64))] (fun p => g_ratio_Make p.1 p.2)
noncomputable def env107 : Env := { tab := tab, fns := [(127, spec127), (128, spec128), (140, spec140), (145, spec145), (125, spec125)], bodies := [], loops := [], joins := [], fts := ftab, elts := eltab }
theorem eq107 : ∀ p, evFn env107 (inlN env107 0) 0 107 Tryz.f107 (argS 0 [(0, (.pair .bool (.arr 32 (.int .u32)))), (0, (.pair .bool (.arr 32 (.int .u32))))] p) (argO 0 [(0, (.pair .bool (.arr 32 (.int .u32)))), (0, (.pair .bool (.arr 32 (.int .u32))))] p) (denR [(0, (.pair (.pair .bool (.arr 32 (.int .u32))) (.pair .bool (.arr 32 (.int .u32))))), (0, (.int .i64))] (refN 0 [(0, (.pair .bool (.arr 32 (.int .u32)))), (0, (.pair .bool (.arr 32 (.int .u32))))])) (decR [(0, (.pair .bool (.arr 32 (.int .u32)))), (0, (.pair .bool (.arr 32 (.int .u32))))] [(0, (.pair (.pair .bool (.arr 32 (.int .u32))) (.pair .bool (.arr 32 (.int .u32))))), (0, (.int .i64))]) = g_ratio_Make p.1 p.2 := fun p => by kernel_rfl
theorem ok107 : SpecOK Tryz.prog 107 spec107 :=
  fn_ok mixed_ok ⟨⟨tab_ok, (fns_cons ok127 (fns_cons ok128 (fns_cons ok140 (fns_cons ok145 (fns_cons ok125 fns_nil)))))⟩, eq_ok, ft_ok, el_ok⟩ bodies_nil Tryz.func107 (goes Tryz.func107 (by kernel_rfl)) 0 [(0, (.pair .bool (.arr 32 (.int .u32)))), (0, (.pair .bool (.arr 32 (.int .u32))))] [(0, (.pair (.pair .bool (.arr 32 (.int .u32))) (.pair .bool (.arr 32 (.int .u32))))), (0, (.int .i64))] _ eq107

/-! fundadmin/ratio.Mul -/
noncomputable def spec68 : Spec := mkSpec [(0, (.pair (.pair .bool (.arr 32 (.int .u32))) (.pair .bool (.arr 32 (.int .u32))))), (0, (.pair (.pair .bool (.arr 32 (.int .u32))) (.pair .bool (.arr 32 (.int .u32)))))] [(0, (.pair (.pair .bool (.arr 32 (.int .u32))) (.pair .bool (.arr 32 (.int .u32))))), (0, (.int .i64))] (fun p => g_ratio_Mul p.1 p.2)
noncomputable def env68 : Env := { tab := tab, fns := [(93, spec93), (101, spec101), (107, spec107)], bodies := [(103, Tryz.f103), (105, Tryz.f105)], loops := [], joins := [], fts := ftab, elts := eltab }
theorem eq68 : ∀ p, evFn env68 (inlN env68 8) 0 68 Tryz.f68 (argS 0 [(0, (.pair (.pair .bool (.arr 32 (.int .u32))) (.pair .bool (.arr 32 (.int .u32))))), (0, (.pair (.pair .bool (.arr 32 (.int .u32))) (.pair .bool (.arr 32 (.int .u32)))))] p) (argO 0 [(0, (.pair (.pair .bool (.arr 32 (.int .u32))) (.pair .bool (.arr 32 (.int .u32))))), (0, (.pair (.pair .bool (.arr 32 (.int .u32))) (.pair .bool (.arr 32 (.int .u32)))))] p) (denR [(0, (.pair (.pair .bool (.arr 32 (.int .u32))) (.pair .bool (.arr 32 (.int .u32))))), (0, (.int .i64))] (refN 0 [(0, (.pair (.pair .bool (.arr 32 (.int .u32))) (.pair .bool (.arr 32 (.int .u32))))), (0, (.pair (.pair .bool (.arr 32 (.int .u32))) (.pair .bool (.arr 32 (.int .u32)))))])) (decR [(0, (.pair (.pair .bool (.arr 32 (.int .u32))) (.pair .bool (.arr 32 (.int .u32))))), (0, (.pair (.pair .bool (.arr 32 (.int .u32))) (.pair .bool (.arr 32 (.int .u32)))))] [(0, (.pair (.pair .bool (.arr 32 (.int .u32))) (.pair .bool (.arr 32 (.int .u32))))), (0, (.int .i64))]) = g_ratio_Mul p.1 p.2 := fun p => by kernel_rfl
theorem ok68 : SpecOK Tryz.prog 68 spec68 :=
  fn_ok mixed_ok ⟨⟨tab_ok, (fns_cons ok93 (fns_cons ok101 (fns_cons ok107 fns_nil)))⟩, eq_ok, ft_ok, el_ok⟩ (bodies_cons Tryz.func103 (goes Tryz.func103 (by kernel_rfl)) (bodies_cons Tryz.func105 (goes Tryz.func105 (by kernel_rfl)) bodies_nil)) Tryz.func68 (goes Tryz.func68 (by kernel_rfl)) 8 [(0, (.pair (.pair .bool (.arr 32 (.int .u32))) (.pair .bool (.arr 32 (.int .u32))))), (0, (.pair (.pair .bool (.arr 32 (.int .u32))) (.pair .bool (.arr 32 (.int .u32)))))] [(0, (.pair (.pair .bool (.arr 32 (.int .u32))) (.pair .bool (.arr 32 (.int .u32))))), (0, (.int .i64))] _ eq68

/-! fundadmin/date.valid -/
noncomputable def spec187 : Spec := mkSpec [(0, (.int .i64))] [(0, .bool)] (fun p => g_date_valid p)
noncomputable def env187 : Env := { tab := tab, fns := [], bodies := [], loops := [], joins := [], fts := ftab, elts := eltab }
theorem eq187 : ∀ p, evFn env187 (inlN env187 0) 0 187 Tryz.f187 (argS 0 [(0, (.int .i64))] p) (argO 0 [(0, (.int .i64))] p) (denR [(0, .bool)] (refN 0 [(0, (.int .i64))])) (decR [(0, (.int .i64))] [(0, .bool)]) = g_date_valid p := fun p => by kernel_rfl
theorem ok187 : SpecOK Tryz.prog 187 spec187 :=
  fn_ok mixed_ok ⟨⟨tab_ok, fns_nil⟩, eq_ok, ft_ok, el_ok⟩ bodies_nil Tryz.func187 (goes Tryz.func187 (by kernel_rfl)) 0 [(0, (.int .i64))] [(0, .bool)] _ eq187

/-! fundadmin/date.yearStart -/
noncomputable def spec188 : Spec := mkSpec [(0, (.int .i64))] [(0, (.int .i64))] (fun p => g_date_yearStart p)
noncomputable def env188 : Env := { tab := tab, fns := [], bodies := [], loops := [], joins := [], fts := ftab, elts := eltab }
theorem eq188 : ∀ p, evFn env188 (inlN env188 0) 0 188 Tryz.f188 (argS 0 [(0, (.int .i64))] p) (argO 0 [(0, (.int .i64))] p) (denR [(0, (.int .i64))] (refN 0 [(0, (.int .i64))])) (decR [(0, (.int .i64))] [(0, (.int .i64))]) = g_date_yearStart p := fun p => by kernel_rfl
theorem ok188 : SpecOK Tryz.prog 188 spec188 :=
  fn_ok mixed_ok ⟨⟨tab_ok, fns_nil⟩, eq_ok, ft_ok, el_ok⟩ bodies_nil Tryz.func188 (goes Tryz.func188 (by kernel_rfl)) 0 [(0, (.int .i64))] [(0, (.int .i64))] _ eq188

/-! fundadmin/date.Leap -/
noncomputable def spec158 : Spec := mkSpec [(0, (.int .i64))] [(0, .bool)] (fun p => g_date_Leap p)
noncomputable def env158 : Env := { tab := tab, fns := [], bodies := [], loops := [], joins := [], fts := ftab, elts := eltab }
theorem eq158 : ∀ p, evFn env158 (inlN env158 0) 0 158 Tryz.f158 (argS 0 [(0, (.int .i64))] p) (argO 0 [(0, (.int .i64))] p) (denR [(0, .bool)] (refN 0 [(0, (.int .i64))])) (decR [(0, (.int .i64))] [(0, .bool)]) = g_date_Leap p := fun p => by kernel_rfl
theorem ok158 : SpecOK Tryz.prog 158 spec158 :=
  fn_ok mixed_ok ⟨⟨tab_ok, fns_nil⟩, eq_ok, ft_ok, el_ok⟩ bodies_nil Tryz.func158 (goes Tryz.func158 (by kernel_rfl)) 0 [(0, (.int .i64))] [(0, .bool)] _ eq158

/-! fundadmin/date.ahead -/
noncomputable def spec189 : Spec := mkSpec [(0, (.int .i64)), (0, (.int .i64))] [(0, (.int .i64))] (fun p => g_date_ahead p.1 p.2)
noncomputable def env189 : Env := { tab := tab, fns := [(158, spec158)], bodies := [], loops := [], joins := [], fts := ftab, elts := eltab }
theorem eq189 : ∀ p, evFn env189 (inlN env189 0) 0 189 Tryz.f189 (argS 0 [(0, (.int .i64)), (0, (.int .i64))] p) (argO 0 [(0, (.int .i64)), (0, (.int .i64))] p) (denR [(0, (.int .i64))] (refN 0 [(0, (.int .i64)), (0, (.int .i64))])) (decR [(0, (.int .i64)), (0, (.int .i64))] [(0, (.int .i64))]) = g_date_ahead p.1 p.2 := fun p => by kernel_rfl
theorem ok189 : SpecOK Tryz.prog 189 spec189 :=
  fn_ok mixed_ok ⟨⟨tab_ok, (fns_cons ok158 fns_nil)⟩, eq_ok, ft_ok, el_ok⟩ bodies_nil Tryz.func189 (goes Tryz.func189 (by kernel_rfl)) 0 [(0, (.int .i64)), (0, (.int .i64))] [(0, (.int .i64))] _ eq189

/-! fundadmin/date.Civil -/
noncomputable def spec156 : Spec := mkSpec [(0, (.int .i64))] [(0, (.int .i64)), (0, (.int .i64)), (0, (.int .i64)), (0, (.int .i64))] (fun p => g_date_Civil p)
noncomputable def env156 : Env := { tab := tab, fns := [(187, spec187), (188, spec188), (189, spec189)], bodies := [], loops := [(156, [(4, { keepT := [0, 3, 4, 5], keepO := [], varT := [(2, (.int .i64))], varO := [], outs := [.exit 0] })])], joins := [], fts := ftab, elts := eltab }
theorem eq156 : ∀ p, evFn env156 (inlN env156 0) 0 156 Tryz.f156 (argS 0 [(0, (.int .i64))] p) (argO 0 [(0, (.int .i64))] p) (denR [(0, (.int .i64)), (0, (.int .i64)), (0, (.int .i64)), (0, (.int .i64))] (refN 0 [(0, (.int .i64))])) (decR [(0, (.int .i64))] [(0, (.int .i64)), (0, (.int .i64)), (0, (.int .i64)), (0, (.int .i64))]) = g_date_Civil p := fun p => by kernel_rfl
theorem ok156 : SpecOK Tryz.prog 156 spec156 :=
  fn_ok mixed_ok ⟨⟨tab_ok, (fns_cons ok187 (fns_cons ok188 (fns_cons ok189 fns_nil)))⟩, eq_ok, ft_ok, el_ok⟩ bodies_nil Tryz.func156 (goes Tryz.func156 (by kernel_rfl)) 0 [(0, (.int .i64))] [(0, (.int .i64)), (0, (.int .i64)), (0, (.int .i64)), (0, (.int .i64))] _ eq156

/-! fundadmin/daycount.position -/
noncomputable def spec155 : Spec := mkSpec [(0, (.int .i64))] [(0, (.int .i64))] (fun p => g_daycount_position p)
noncomputable def env155 : Env := { tab := tab, fns := [(156, spec156)], bodies := [], loops := [], joins := [], fts := ftab, elts := eltab }
theorem eq155 : ∀ p, evFn env155 (inlN env155 0) 0 155 Tryz.f155 (argS 0 [(0, (.int .i64))] p) (argO 0 [(0, (.int .i64))] p) (denR [(0, (.int .i64))] (refN 0 [(0, (.int .i64))])) (decR [(0, (.int .i64))] [(0, (.int .i64))]) = g_daycount_position p := fun p => by kernel_rfl
theorem ok155 : SpecOK Tryz.prog 155 spec155 :=
  fn_ok mixed_ok ⟨⟨tab_ok, (fns_cons ok156 fns_nil)⟩, eq_ok, ft_ok, el_ok⟩ bodies_nil Tryz.func155 (goes Tryz.func155 (by kernel_rfl)) 0 [(0, (.int .i64))] [(0, (.int .i64))] _ eq155

/-! fundadmin/daycount.Days -/
noncomputable def spec130 : Spec := mkSpec [(0, (.int .i64)), (0, (.int .i64)), (0, (.int .i64))] [(0, (.int .i64)), (0, (.int .i64))] (fun p => g_daycount_Days p.1 p.2.1 p.2.2)
noncomputable def env130 : Env := { tab := tab, fns := [(155, spec155)], bodies := [], loops := [], joins := [], fts := ftab, elts := eltab }
theorem eq130 : ∀ p, evFn env130 (inlN env130 0) 0 130 Tryz.f130 (argS 0 [(0, (.int .i64)), (0, (.int .i64)), (0, (.int .i64))] p) (argO 0 [(0, (.int .i64)), (0, (.int .i64)), (0, (.int .i64))] p) (denR [(0, (.int .i64)), (0, (.int .i64))] (refN 0 [(0, (.int .i64)), (0, (.int .i64)), (0, (.int .i64))])) (decR [(0, (.int .i64)), (0, (.int .i64)), (0, (.int .i64))] [(0, (.int .i64)), (0, (.int .i64))]) = g_daycount_Days p.1 p.2.1 p.2.2 := fun p => by kernel_rfl
theorem ok130 : SpecOK Tryz.prog 130 spec130 :=
  fn_ok mixed_ok ⟨⟨tab_ok, (fns_cons ok155 fns_nil)⟩, eq_ok, ft_ok, el_ok⟩ bodies_nil Tryz.func130 (goes Tryz.func130 (by kernel_rfl)) 0 [(0, (.int .i64)), (0, (.int .i64)), (0, (.int .i64))] [(0, (.int .i64)), (0, (.int .i64))] _ eq130

/-! fundadmin/bigint.Add -/
noncomputable def spec141 : Spec := mkSpec [(0, (.pair .bool (.arr 32 (.int .u32)))), (0, (.pair .bool (.arr 32 (.int .u32))))] [(0, (.pair .bool (.arr 32 (.int .u32)))), (0, (.int .i64))] (fun p => g_bigint_Add p.1 p.2)
noncomputable def env141 : Env := { tab := tab, fns := [(135, spec135), (136, spec136), (165, spec165), (138, spec138), (166, spec166)], bodies := [], loops := [], joins := [], fts := ftab, elts := eltab }
theorem eq141 : ∀ p, evFn env141 (inlN env141 0) 0 141 Tryz.f141 (argS 0 [(0, (.pair .bool (.arr 32 (.int .u32)))), (0, (.pair .bool (.arr 32 (.int .u32))))] p) (argO 0 [(0, (.pair .bool (.arr 32 (.int .u32)))), (0, (.pair .bool (.arr 32 (.int .u32))))] p) (denR [(0, (.pair .bool (.arr 32 (.int .u32)))), (0, (.int .i64))] (refN 0 [(0, (.pair .bool (.arr 32 (.int .u32)))), (0, (.pair .bool (.arr 32 (.int .u32))))])) (decR [(0, (.pair .bool (.arr 32 (.int .u32)))), (0, (.pair .bool (.arr 32 (.int .u32))))] [(0, (.pair .bool (.arr 32 (.int .u32)))), (0, (.int .i64))]) = g_bigint_Add p.1 p.2 := fun p => by kernel_rfl
theorem ok141 : SpecOK Tryz.prog 141 spec141 :=
  fn_ok mixed_ok ⟨⟨tab_ok, (fns_cons ok135 (fns_cons ok136 (fns_cons ok165 (fns_cons ok138 (fns_cons ok166 fns_nil)))))⟩, eq_ok, ft_ok, el_ok⟩ bodies_nil Tryz.func141 (goes Tryz.func141 (by kernel_rfl)) 0 [(0, (.pair .bool (.arr 32 (.int .u32)))), (0, (.pair .bool (.arr 32 (.int .u32))))] [(0, (.pair .bool (.arr 32 (.int .u32)))), (0, (.int .i64))] _ eq141

/-! fundadmin/ratio.Add -/
noncomputable def spec98 : Spec := mkSpec [(0, (.pair (.pair .bool (.arr 32 (.int .u32))) (.pair .bool (.arr 32 (.int .u32))))), (0, (.pair (.pair .bool (.arr 32 (.int .u32))) (.pair .bool (.arr 32 (.int .u32)))))] [(0, (.pair (.pair .bool (.arr 32 (.int .u32))) (.pair .bool (.arr 32 (.int .u32))))), (0, (.int .i64))] (fun p => g_ratio_Add p.1 p.2)
noncomputable def env98 : Env := { tab := tab, fns := [(93, spec93), (101, spec101), (141, spec141), (107, spec107)], bodies := [(104, Tryz.f104), (103, Tryz.f103), (139, Tryz.f139)], loops := [], joins := [], fts := ftab, elts := eltab }
theorem eq98 : ∀ p, evFn env98 (inlN env98 8) 0 98 Tryz.f98 (argS 0 [(0, (.pair (.pair .bool (.arr 32 (.int .u32))) (.pair .bool (.arr 32 (.int .u32))))), (0, (.pair (.pair .bool (.arr 32 (.int .u32))) (.pair .bool (.arr 32 (.int .u32)))))] p) (argO 0 [(0, (.pair (.pair .bool (.arr 32 (.int .u32))) (.pair .bool (.arr 32 (.int .u32))))), (0, (.pair (.pair .bool (.arr 32 (.int .u32))) (.pair .bool (.arr 32 (.int .u32)))))] p) (denR [(0, (.pair (.pair .bool (.arr 32 (.int .u32))) (.pair .bool (.arr 32 (.int .u32))))), (0, (.int .i64))] (refN 0 [(0, (.pair (.pair .bool (.arr 32 (.int .u32))) (.pair .bool (.arr 32 (.int .u32))))), (0, (.pair (.pair .bool (.arr 32 (.int .u32))) (.pair .bool (.arr 32 (.int .u32)))))])) (decR [(0, (.pair (.pair .bool (.arr 32 (.int .u32))) (.pair .bool (.arr 32 (.int .u32))))), (0, (.pair (.pair .bool (.arr 32 (.int .u32))) (.pair .bool (.arr 32 (.int .u32)))))] [(0, (.pair (.pair .bool (.arr 32 (.int .u32))) (.pair .bool (.arr 32 (.int .u32))))), (0, (.int .i64))]) = g_ratio_Add p.1 p.2 := fun p => by kernel_rfl
theorem ok98 : SpecOK Tryz.prog 98 spec98 :=
  fn_ok mixed_ok ⟨⟨tab_ok, (fns_cons ok93 (fns_cons ok101 (fns_cons ok141 (fns_cons ok107 fns_nil))))⟩, eq_ok, ft_ok, el_ok⟩ (bodies_cons Tryz.func104 (goes Tryz.func104 (by kernel_rfl)) (bodies_cons Tryz.func103 (goes Tryz.func103 (by kernel_rfl)) (bodies_cons Tryz.func139 (goes Tryz.func139 (by kernel_rfl)) bodies_nil))) Tryz.func98 (goes Tryz.func98 (by kernel_rfl)) 8 [(0, (.pair (.pair .bool (.arr 32 (.int .u32))) (.pair .bool (.arr 32 (.int .u32))))), (0, (.pair (.pair .bool (.arr 32 (.int .u32))) (.pair .bool (.arr 32 (.int .u32)))))] [(0, (.pair (.pair .bool (.arr 32 (.int .u32))) (.pair .bool (.arr 32 (.int .u32))))), (0, (.int .i64))] _ eq98

/-! fundadmin/ratio.Of -/
noncomputable def spec132 : Spec := mkSpec [(0, (.int .i64)), (0, (.int .i64))] [(0, (.pair (.pair .bool (.arr 32 (.int .u32))) (.pair .bool (.arr 32 (.int .u32))))), (0, (.int .i64))] (fun p => g_ratio_Of p.1 p.2)
noncomputable def env132 : Env := { tab := tab, fns := [(102, spec102), (107, spec107)], bodies := [], loops := [], joins := [], fts := ftab, elts := eltab }
theorem eq132 : ∀ p, evFn env132 (inlN env132 0) 0 132 Tryz.f132 (argS 0 [(0, (.int .i64)), (0, (.int .i64))] p) (argO 0 [(0, (.int .i64)), (0, (.int .i64))] p) (denR [(0, (.pair (.pair .bool (.arr 32 (.int .u32))) (.pair .bool (.arr 32 (.int .u32))))), (0, (.int .i64))] (refN 0 [(0, (.int .i64)), (0, (.int .i64))])) (decR [(0, (.int .i64)), (0, (.int .i64))] [(0, (.pair (.pair .bool (.arr 32 (.int .u32))) (.pair .bool (.arr 32 (.int .u32))))), (0, (.int .i64))]) = g_ratio_Of p.1 p.2 := fun p => by kernel_rfl
theorem ok132 : SpecOK Tryz.prog 132 spec132 :=
  fn_ok mixed_ok ⟨⟨tab_ok, (fns_cons ok102 (fns_cons ok107 fns_nil))⟩, eq_ok, ft_ok, el_ok⟩ bodies_nil Tryz.func132 (goes Tryz.func132 (by kernel_rfl)) 0 [(0, (.int .i64)), (0, (.int .i64))] [(0, (.pair (.pair .bool (.arr 32 (.int .u32))) (.pair .bool (.arr 32 (.int .u32))))), (0, (.int .i64))] _ eq132

/-! fundadmin/date.Length -/
noncomputable def spec190 : Spec := mkSpec [(0, (.int .i64)), (0, (.int .i64))] [(0, (.int .i64)), (0, (.int .i64))] (fun p => g_date_Length p.1 p.2)
noncomputable def env190 : Env := { tab := tab, fns := [(189, spec189)], bodies := [], loops := [], joins := [], fts := ftab, elts := eltab }
theorem eq190 : ∀ p, evFn env190 (inlN env190 0) 0 190 Tryz.f190 (argS 0 [(0, (.int .i64)), (0, (.int .i64))] p) (argO 0 [(0, (.int .i64)), (0, (.int .i64))] p) (denR [(0, (.int .i64)), (0, (.int .i64))] (refN 0 [(0, (.int .i64)), (0, (.int .i64))])) (decR [(0, (.int .i64)), (0, (.int .i64))] [(0, (.int .i64)), (0, (.int .i64))]) = g_date_Length p.1 p.2 := fun p => by kernel_rfl
theorem ok190 : SpecOK Tryz.prog 190 spec190 :=
  fn_ok mixed_ok ⟨⟨tab_ok, (fns_cons ok189 fns_nil)⟩, eq_ok, ft_ok, el_ok⟩ bodies_nil Tryz.func190 (goes Tryz.func190 (by kernel_rfl)) 0 [(0, (.int .i64)), (0, (.int .i64))] [(0, (.int .i64)), (0, (.int .i64))] _ eq190

/-! fundadmin/date.FromCivil -/
noncomputable def spec157 : Spec := mkSpec [(0, (.int .i64)), (0, (.int .i64)), (0, (.int .i64))] [(0, (.int .i64)), (0, (.int .i64))] (fun p => g_date_FromCivil p.1 p.2.1 p.2.2)
noncomputable def env157 : Env := { tab := tab, fns := [(190, spec190), (188, spec188), (189, spec189)], bodies := [], loops := [], joins := [], fts := ftab, elts := eltab }
theorem eq157 : ∀ p, evFn env157 (inlN env157 0) 0 157 Tryz.f157 (argS 0 [(0, (.int .i64)), (0, (.int .i64)), (0, (.int .i64))] p) (argO 0 [(0, (.int .i64)), (0, (.int .i64)), (0, (.int .i64))] p) (denR [(0, (.int .i64)), (0, (.int .i64))] (refN 0 [(0, (.int .i64)), (0, (.int .i64)), (0, (.int .i64))])) (decR [(0, (.int .i64)), (0, (.int .i64)), (0, (.int .i64))] [(0, (.int .i64)), (0, (.int .i64))]) = g_date_FromCivil p.1 p.2.1 p.2.2 := fun p => by kernel_rfl
theorem ok157 : SpecOK Tryz.prog 157 spec157 :=
  fn_ok mixed_ok ⟨⟨tab_ok, (fns_cons ok190 (fns_cons ok188 (fns_cons ok189 fns_nil)))⟩, eq_ok, ft_ok, el_ok⟩ bodies_nil Tryz.func157 (goes Tryz.func157 (by kernel_rfl)) 0 [(0, (.int .i64)), (0, (.int .i64)), (0, (.int .i64))] [(0, (.int .i64)), (0, (.int .i64))] _ eq157

/-! fundadmin/daycount.actual -/
noncomputable def spec131 : Spec := mkSpec [(0, (.int .i64)), (0, (.int .i64))] [(0, (.pair (.pair .bool (.arr 32 (.int .u32))) (.pair .bool (.arr 32 (.int .u32))))), (0, (.int .i64))] (fun p => g_daycount_actual p.1 p.2)
noncomputable def env131 : Env := { tab := tab, fns := [(156, spec156), (157, spec157), (158, spec158), (132, spec132), (98, spec98)], bodies := [], loops := [(131, [(2, { keepT := [1, 4, 5], keepO := [4], varT := [(0, (.int .i64)), (6, (.int .i64)), (7, (.int .i64))], varO := [], outs := [.exit 0] })])], joins := [], fts := ftab, elts := eltab }
theorem eq131 : ∀ p, evFn env131 (inlN env131 0) 0 131 Tryz.f131 (argS 0 [(0, (.int .i64)), (0, (.int .i64))] p) (argO 0 [(0, (.int .i64)), (0, (.int .i64))] p) (denR [(0, (.pair (.pair .bool (.arr 32 (.int .u32))) (.pair .bool (.arr 32 (.int .u32))))), (0, (.int .i64))] (refN 0 [(0, (.int .i64)), (0, (.int .i64))])) (decR [(0, (.int .i64)), (0, (.int .i64))] [(0, (.pair (.pair .bool (.arr 32 (.int .u32))) (.pair .bool (.arr 32 (.int .u32))))), (0, (.int .i64))]) = g_daycount_actual p.1 p.2 := fun p => by kernel_rfl
theorem ok131 : SpecOK Tryz.prog 131 spec131 :=
  fn_ok mixed_ok ⟨⟨tab_ok, (fns_cons ok156 (fns_cons ok157 (fns_cons ok158 (fns_cons ok132 (fns_cons ok98 fns_nil)))))⟩, eq_ok, ft_ok, el_ok⟩ bodies_nil Tryz.func131 (goes Tryz.func131 (by kernel_rfl)) 0 [(0, (.int .i64)), (0, (.int .i64))] [(0, (.pair (.pair .bool (.arr 32 (.int .u32))) (.pair .bool (.arr 32 (.int .u32))))), (0, (.int .i64))] _ eq131

/-! fundadmin/daycount.Fraction -/
noncomputable def spec97 : Spec := mkSpec [(0, (.int .i64)), (0, (.int .i64)), (0, (.int .i64))] [(0, (.pair (.pair .bool (.arr 32 (.int .u32))) (.pair .bool (.arr 32 (.int .u32))))), (0, (.int .i64))] (fun p => g_daycount_Fraction p.1 p.2.1 p.2.2)
noncomputable def env97 : Env := { tab := tab, fns := [(130, spec130), (131, spec131), (132, spec132)], bodies := [], loops := [], joins := [], fts := ftab, elts := eltab }
theorem eq97 : ∀ p, evFn env97 (inlN env97 0) 0 97 Tryz.f97 (argS 0 [(0, (.int .i64)), (0, (.int .i64)), (0, (.int .i64))] p) (argO 0 [(0, (.int .i64)), (0, (.int .i64)), (0, (.int .i64))] p) (denR [(0, (.pair (.pair .bool (.arr 32 (.int .u32))) (.pair .bool (.arr 32 (.int .u32))))), (0, (.int .i64))] (refN 0 [(0, (.int .i64)), (0, (.int .i64)), (0, (.int .i64))])) (decR [(0, (.int .i64)), (0, (.int .i64)), (0, (.int .i64))] [(0, (.pair (.pair .bool (.arr 32 (.int .u32))) (.pair .bool (.arr 32 (.int .u32))))), (0, (.int .i64))]) = g_daycount_Fraction p.1 p.2.1 p.2.2 := fun p => by kernel_rfl
theorem ok97 : SpecOK Tryz.prog 97 spec97 :=
  fn_ok mixed_ok ⟨⟨tab_ok, (fns_cons ok130 (fns_cons ok131 (fns_cons ok132 fns_nil)))⟩, eq_ok, ft_ok, el_ok⟩ bodies_nil Tryz.func97 (goes Tryz.func97 (by kernel_rfl)) 0 [(0, (.int .i64)), (0, (.int .i64)), (0, (.int .i64))] [(0, (.pair (.pair .bool (.arr 32 (.int .u32))) (.pair .bool (.arr 32 (.int .u32))))), (0, (.int .i64))] _ eq97

/-! fundadmin/highwater.threshold -/
noncomputable def spec61 : Spec := mkSpec [(0, (.pair (.pair (.pair .bool (.arr 32 (.int .u32))) (.pair .bool (.arr 32 (.int .u32)))) (.pair (.pair (.pair .bool (.arr 32 (.int .u32))) (.pair .bool (.arr 32 (.int .u32)))) (.int .i64)))), (0, (.pair (.pair (.pair .bool (.arr 32 (.int .u32))) (.pair .bool (.arr 32 (.int .u32)))) (.int .i64))), (0, (.int .i64))] [(0, (.pair (.pair .bool (.arr 32 (.int .u32))) (.pair .bool (.arr 32 (.int .u32))))), (0, (.int .i64))] (fun p => g_highwater_threshold p.1 p.2.1 p.2.2)
noncomputable def env61 : Env := { tab := tab, fns := [(97, spec97), (65, spec65), (68, spec68), (98, spec98)], bodies := [(66, Tryz.f66)], loops := [], joins := [], fts := ftab, elts := eltab }
theorem eq61 : ∀ p, evFn env61 (inlN env61 8) 0 61 Tryz.f61 (argS 0 [(0, (.pair (.pair (.pair .bool (.arr 32 (.int .u32))) (.pair .bool (.arr 32 (.int .u32)))) (.pair (.pair (.pair .bool (.arr 32 (.int .u32))) (.pair .bool (.arr 32 (.int .u32)))) (.int .i64)))), (0, (.pair (.pair (.pair .bool (.arr 32 (.int .u32))) (.pair .bool (.arr 32 (.int .u32)))) (.int .i64))), (0, (.int .i64))] p) (argO 0 [(0, (.pair (.pair (.pair .bool (.arr 32 (.int .u32))) (.pair .bool (.arr 32 (.int .u32)))) (.pair (.pair (.pair .bool (.arr 32 (.int .u32))) (.pair .bool (.arr 32 (.int .u32)))) (.int .i64)))), (0, (.pair (.pair (.pair .bool (.arr 32 (.int .u32))) (.pair .bool (.arr 32 (.int .u32)))) (.int .i64))), (0, (.int .i64))] p) (denR [(0, (.pair (.pair .bool (.arr 32 (.int .u32))) (.pair .bool (.arr 32 (.int .u32))))), (0, (.int .i64))] (refN 0 [(0, (.pair (.pair (.pair .bool (.arr 32 (.int .u32))) (.pair .bool (.arr 32 (.int .u32)))) (.pair (.pair (.pair .bool (.arr 32 (.int .u32))) (.pair .bool (.arr 32 (.int .u32)))) (.int .i64)))), (0, (.pair (.pair (.pair .bool (.arr 32 (.int .u32))) (.pair .bool (.arr 32 (.int .u32)))) (.int .i64))), (0, (.int .i64))])) (decR [(0, (.pair (.pair (.pair .bool (.arr 32 (.int .u32))) (.pair .bool (.arr 32 (.int .u32)))) (.pair (.pair (.pair .bool (.arr 32 (.int .u32))) (.pair .bool (.arr 32 (.int .u32)))) (.int .i64)))), (0, (.pair (.pair (.pair .bool (.arr 32 (.int .u32))) (.pair .bool (.arr 32 (.int .u32)))) (.int .i64))), (0, (.int .i64))] [(0, (.pair (.pair .bool (.arr 32 (.int .u32))) (.pair .bool (.arr 32 (.int .u32))))), (0, (.int .i64))]) = g_highwater_threshold p.1 p.2.1 p.2.2 := fun p => by kernel_rfl
theorem ok61 : SpecOK Tryz.prog 61 spec61 :=
  fn_ok mixed_ok ⟨⟨tab_ok, (fns_cons ok97 (fns_cons ok65 (fns_cons ok68 (fns_cons ok98 fns_nil))))⟩, eq_ok, ft_ok, el_ok⟩ (bodies_cons Tryz.func66 (goes Tryz.func66 (by kernel_rfl)) bodies_nil) Tryz.func61 (goes Tryz.func61 (by kernel_rfl)) 8 [(0, (.pair (.pair (.pair .bool (.arr 32 (.int .u32))) (.pair .bool (.arr 32 (.int .u32)))) (.pair (.pair (.pair .bool (.arr 32 (.int .u32))) (.pair .bool (.arr 32 (.int .u32)))) (.int .i64)))), (0, (.pair (.pair (.pair .bool (.arr 32 (.int .u32))) (.pair .bool (.arr 32 (.int .u32)))) (.int .i64))), (0, (.int .i64))] [(0, (.pair (.pair .bool (.arr 32 (.int .u32))) (.pair .bool (.arr 32 (.int .u32))))), (0, (.int .i64))] _ eq61

/-! fundadmin/ratio.Sub -/
noncomputable def spec67 : Spec := mkSpec [(0, (.pair (.pair .bool (.arr 32 (.int .u32))) (.pair .bool (.arr 32 (.int .u32))))), (0, (.pair (.pair .bool (.arr 32 (.int .u32))) (.pair .bool (.arr 32 (.int .u32)))))] [(0, (.pair (.pair .bool (.arr 32 (.int .u32))) (.pair .bool (.arr 32 (.int .u32))))), (0, (.int .i64))] (fun p => g_ratio_Sub p.1 p.2)
noncomputable def env67 : Env := { tab := tab, fns := [(93, spec93), (101, spec101), (140, spec140), (141, spec141), (107, spec107)], bodies := [(104, Tryz.f104), (103, Tryz.f103), (139, Tryz.f139)], loops := [], joins := [], fts := ftab, elts := eltab }
theorem eq67 : ∀ p, evFn env67 (inlN env67 8) 0 67 Tryz.f67 (argS 0 [(0, (.pair (.pair .bool (.arr 32 (.int .u32))) (.pair .bool (.arr 32 (.int .u32))))), (0, (.pair (.pair .bool (.arr 32 (.int .u32))) (.pair .bool (.arr 32 (.int .u32)))))] p) (argO 0 [(0, (.pair (.pair .bool (.arr 32 (.int .u32))) (.pair .bool (.arr 32 (.int .u32))))), (0, (.pair (.pair .bool (.arr 32 (.int .u32))) (.pair .bool (.arr 32 (.int .u32)))))] p) (denR [(0, (.pair (.pair .bool (.arr 32 (.int .u32))) (.pair .bool (.arr 32 (.int .u32))))), (0, (.int .i64))] (refN 0 [(0, (.pair (.pair .bool (.arr 32 (.int .u32))) (.pair .bool (.arr 32 (.int .u32))))), (0, (.pair (.pair .bool (.arr 32 (.int .u32))) (.pair .bool (.arr 32 (.int .u32)))))])) (decR [(0, (.pair (.pair .bool (.arr 32 (.int .u32))) (.pair .bool (.arr 32 (.int .u32))))), (0, (.pair (.pair .bool (.arr 32 (.int .u32))) (.pair .bool (.arr 32 (.int .u32)))))] [(0, (.pair (.pair .bool (.arr 32 (.int .u32))) (.pair .bool (.arr 32 (.int .u32))))), (0, (.int .i64))]) = g_ratio_Sub p.1 p.2 := fun p => by kernel_rfl
theorem ok67 : SpecOK Tryz.prog 67 spec67 :=
  fn_ok mixed_ok ⟨⟨tab_ok, (fns_cons ok93 (fns_cons ok101 (fns_cons ok140 (fns_cons ok141 (fns_cons ok107 fns_nil)))))⟩, eq_ok, ft_ok, el_ok⟩ (bodies_cons Tryz.func104 (goes Tryz.func104 (by kernel_rfl)) (bodies_cons Tryz.func103 (goes Tryz.func103 (by kernel_rfl)) (bodies_cons Tryz.func139 (goes Tryz.func139 (by kernel_rfl)) bodies_nil))) Tryz.func67 (goes Tryz.func67 (by kernel_rfl)) 8 [(0, (.pair (.pair .bool (.arr 32 (.int .u32))) (.pair .bool (.arr 32 (.int .u32))))), (0, (.pair (.pair .bool (.arr 32 (.int .u32))) (.pair .bool (.arr 32 (.int .u32)))))] [(0, (.pair (.pair .bool (.arr 32 (.int .u32))) (.pair .bool (.arr 32 (.int .u32))))), (0, (.int .i64))] _ eq67

/-! fundadmin/highwater.Fee -/
noncomputable def spec22 : Spec := mkSpec [(0, (.pair (.pair (.pair .bool (.arr 32 (.int .u32))) (.pair .bool (.arr 32 (.int .u32)))) (.pair (.pair (.pair .bool (.arr 32 (.int .u32))) (.pair .bool (.arr 32 (.int .u32)))) (.int .i64)))), (0, (.pair (.pair (.pair .bool (.arr 32 (.int .u32))) (.pair .bool (.arr 32 (.int .u32)))) (.int .i64))), (0, (.pair (.pair .bool (.arr 32 (.int .u32))) (.pair .bool (.arr 32 (.int .u32))))), (0, (.int .i64))] [(0, (.pair (.pair .bool (.arr 32 (.int .u32))) (.pair .bool (.arr 32 (.int .u32))))), (0, (.int .i64))] (fun p => g_highwater_Fee p.1 p.2.1 p.2.2.1 p.2.2.2)
noncomputable def env22 : Env := { tab := tab, fns := [(60, spec60), (58, spec58), (61, spec61), (64, spec64), (65, spec65), (68, spec68), (67, spec67)], bodies := [(66, Tryz.f66)], loops := [], joins := [], fts := ftab, elts := eltab }
theorem eq22 : ∀ p, evFn env22 (inlN env22 8) 0 22 Tryz.f22 (argS 0 [(0, (.pair (.pair (.pair .bool (.arr 32 (.int .u32))) (.pair .bool (.arr 32 (.int .u32)))) (.pair (.pair (.pair .bool (.arr 32 (.int .u32))) (.pair .bool (.arr 32 (.int .u32)))) (.int .i64)))), (0, (.pair (.pair (.pair .bool (.arr 32 (.int .u32))) (.pair .bool (.arr 32 (.int .u32)))) (.int .i64))), (0, (.pair (.pair .bool (.arr 32 (.int .u32))) (.pair .bool (.arr 32 (.int .u32))))), (0, (.int .i64))] p) (argO 0 [(0, (.pair (.pair (.pair .bool (.arr 32 (.int .u32))) (.pair .bool (.arr 32 (.int .u32)))) (.pair (.pair (.pair .bool (.arr 32 (.int .u32))) (.pair .bool (.arr 32 (.int .u32)))) (.int .i64)))), (0, (.pair (.pair (.pair .bool (.arr 32 (.int .u32))) (.pair .bool (.arr 32 (.int .u32)))) (.int .i64))), (0, (.pair (.pair .bool (.arr 32 (.int .u32))) (.pair .bool (.arr 32 (.int .u32))))), (0, (.int .i64))] p) (denR [(0, (.pair (.pair .bool (.arr 32 (.int .u32))) (.pair .bool (.arr 32 (.int .u32))))), (0, (.int .i64))] (refN 0 [(0, (.pair (.pair (.pair .bool (.arr 32 (.int .u32))) (.pair .bool (.arr 32 (.int .u32)))) (.pair (.pair (.pair .bool (.arr 32 (.int .u32))) (.pair .bool (.arr 32 (.int .u32)))) (.int .i64)))), (0, (.pair (.pair (.pair .bool (.arr 32 (.int .u32))) (.pair .bool (.arr 32 (.int .u32)))) (.int .i64))), (0, (.pair (.pair .bool (.arr 32 (.int .u32))) (.pair .bool (.arr 32 (.int .u32))))), (0, (.int .i64))])) (decR [(0, (.pair (.pair (.pair .bool (.arr 32 (.int .u32))) (.pair .bool (.arr 32 (.int .u32)))) (.pair (.pair (.pair .bool (.arr 32 (.int .u32))) (.pair .bool (.arr 32 (.int .u32)))) (.int .i64)))), (0, (.pair (.pair (.pair .bool (.arr 32 (.int .u32))) (.pair .bool (.arr 32 (.int .u32)))) (.int .i64))), (0, (.pair (.pair .bool (.arr 32 (.int .u32))) (.pair .bool (.arr 32 (.int .u32))))), (0, (.int .i64))] [(0, (.pair (.pair .bool (.arr 32 (.int .u32))) (.pair .bool (.arr 32 (.int .u32))))), (0, (.int .i64))]) = g_highwater_Fee p.1 p.2.1 p.2.2.1 p.2.2.2 := fun p => by kernel_rfl
theorem ok22 : SpecOK Tryz.prog 22 spec22 :=
  fn_ok mixed_ok ⟨⟨tab_ok, (fns_cons ok60 (fns_cons ok58 (fns_cons ok61 (fns_cons ok64 (fns_cons ok65 (fns_cons ok68 (fns_cons ok67 fns_nil)))))))⟩, eq_ok, ft_ok, el_ok⟩ (bodies_cons Tryz.func66 (goes Tryz.func66 (by kernel_rfl)) bodies_nil) Tryz.func22 (goes Tryz.func22 (by kernel_rfl)) 8 [(0, (.pair (.pair (.pair .bool (.arr 32 (.int .u32))) (.pair .bool (.arr 32 (.int .u32)))) (.pair (.pair (.pair .bool (.arr 32 (.int .u32))) (.pair .bool (.arr 32 (.int .u32)))) (.int .i64)))), (0, (.pair (.pair (.pair .bool (.arr 32 (.int .u32))) (.pair .bool (.arr 32 (.int .u32)))) (.int .i64))), (0, (.pair (.pair .bool (.arr 32 (.int .u32))) (.pair .bool (.arr 32 (.int .u32))))), (0, (.int .i64))] [(0, (.pair (.pair .bool (.arr 32 (.int .u32))) (.pair .bool (.arr 32 (.int .u32))))), (0, (.int .i64))] _ eq22

/-! fundadmin/decimal.check -/
noncomputable def spec142 : Spec := mkSpec [(0, (.pair (.pair .bool (.arr 32 (.int .u32))) (.pair .bool (.arr 32 (.int .u32))))), (0, (.int .i64))] [(0, (.int .i64))] (fun p => g_decimal_check p.1 p.2)
noncomputable def env142 : Env := { tab := tab, fns := [(93, spec93)], bodies := [], loops := [], joins := [], fts := ftab, elts := eltab }
theorem eq142 : ∀ p, evFn env142 (inlN env142 0) 0 142 Tryz.f142 (argS 0 [(0, (.pair (.pair .bool (.arr 32 (.int .u32))) (.pair .bool (.arr 32 (.int .u32))))), (0, (.int .i64))] p) (argO 0 [(0, (.pair (.pair .bool (.arr 32 (.int .u32))) (.pair .bool (.arr 32 (.int .u32))))), (0, (.int .i64))] p) (denR [(0, (.int .i64))] (refN 0 [(0, (.pair (.pair .bool (.arr 32 (.int .u32))) (.pair .bool (.arr 32 (.int .u32))))), (0, (.int .i64))])) (decR [(0, (.pair (.pair .bool (.arr 32 (.int .u32))) (.pair .bool (.arr 32 (.int .u32))))), (0, (.int .i64))] [(0, (.int .i64))]) = g_decimal_check p.1 p.2 := fun p => by kernel_rfl
theorem ok142 : SpecOK Tryz.prog 142 spec142 :=
  fn_ok mixed_ok ⟨⟨tab_ok, (fns_cons ok93 fns_nil)⟩, eq_ok, ft_ok, el_ok⟩ bodies_nil Tryz.func142 (goes Tryz.func142 (by kernel_rfl)) 0 [(0, (.pair (.pair .bool (.arr 32 (.int .u32))) (.pair .bool (.arr 32 (.int .u32))))), (0, (.int .i64))] [(0, (.int .i64))] _ eq142

/-! fundadmin/decimal.power -/
noncomputable def spec108 : Spec := mkSpec [(0, (.int .i64))] [(0, (.int .i64))] (fun p => g_decimal_power p)
noncomputable def env108 : Env := { tab := tab, fns := [], bodies := [], loops := [(108, [(3, { keepT := [2, 4], keepO := [], varT := [(3, (.int .i64)), (5, (.int .i64))], varO := [], outs := [.exit 0] })])], joins := [], fts := ftab, elts := eltab }
theorem eq108 : ∀ p, evFn env108 (inlN env108 0) 0 108 Tryz.f108 (argS 0 [(0, (.int .i64))] p) (argO 0 [(0, (.int .i64))] p) (denR [(0, (.int .i64))] (refN 0 [(0, (.int .i64))])) (decR [(0, (.int .i64))] [(0, (.int .i64))]) = g_decimal_power p := fun p => by kernel_rfl
theorem ok108 : SpecOK Tryz.prog 108 spec108 :=
  fn_ok mixed_ok ⟨⟨tab_ok, fns_nil⟩, eq_ok, ft_ok, el_ok⟩ bodies_nil Tryz.func108 (goes Tryz.func108 (by kernel_rfl)) 0 [(0, (.int .i64))] [(0, (.int .i64))] _ eq108

/-! fundadmin/decimal.scaled -/
noncomputable def spec143 : Spec := mkSpec [(0, (.pair (.pair .bool (.arr 32 (.int .u32))) (.pair .bool (.arr 32 (.int .u32))))), (0, (.int .i64))] [(0, (.pair .bool (.arr 32 (.int .u32)))), (0, (.pair .bool (.arr 32 (.int .u32))))] (fun p => g_decimal_scaled p.1 p.2)
noncomputable def env143 : Env := { tab := tab, fns := [(108, spec108), (102, spec102), (137, spec137), (167, spec167)], bodies := [], loops := [], joins := [], fts := ftab, elts := eltab }
theorem eq143 : ∀ p, evFn env143 (inlN env143 0) 0 143 Tryz.f143 (argS 0 [(0, (.pair (.pair .bool (.arr 32 (.int .u32))) (.pair .bool (.arr 32 (.int .u32))))), (0, (.int .i64))] p) (argO 0 [(0, (.pair (.pair .bool (.arr 32 (.int .u32))) (.pair .bool (.arr 32 (.int .u32))))), (0, (.int .i64))] p) (denR [(0, (.pair .bool (.arr 32 (.int .u32)))), (0, (.pair .bool (.arr 32 (.int .u32))))] (refN 0 [(0, (.pair (.pair .bool (.arr 32 (.int .u32))) (.pair .bool (.arr 32 (.int .u32))))), (0, (.int .i64))])) (decR [(0, (.pair (.pair .bool (.arr 32 (.int .u32))) (.pair .bool (.arr 32 (.int .u32))))), (0, (.int .i64))] [(0, (.pair .bool (.arr 32 (.int .u32)))), (0, (.pair .bool (.arr 32 (.int .u32))))]) = g_decimal_scaled p.1 p.2 := fun p => by kernel_rfl
theorem ok143 : SpecOK Tryz.prog 143 spec143 :=
  fn_ok mixed_ok ⟨⟨tab_ok, (fns_cons ok108 (fns_cons ok102 (fns_cons ok137 (fns_cons ok167 fns_nil))))⟩, eq_ok, ft_ok, el_ok⟩ bodies_nil Tryz.func143 (goes Tryz.func143 (by kernel_rfl)) 0 [(0, (.pair (.pair .bool (.arr 32 (.int .u32))) (.pair .bool (.arr 32 (.int .u32))))), (0, (.int .i64))] [(0, (.pair .bool (.arr 32 (.int .u32)))), (0, (.pair .bool (.arr 32 (.int .u32))))] _ eq143

/-! (fundadmin/decimal.between).down -/
noncomputable def spec168 : Spec := mkSpec [(0, (.pair (.pair .bool (.arr 32 (.int .u32))) (.pair (.int .i64) .bool)))] [(0, .bool)] (fun p => g_decimal_between_down p)
noncomputable def env168 : Env := { tab := tab, fns := [], bodies := [], loops := [], joins := [], fts := ftab, elts := eltab }
theorem eq168 : ∀ p, evFn env168 (inlN env168 0) 0 168 Tryz.f168 (argS 0 [(0, (.pair (.pair .bool (.arr 32 (.int .u32))) (.pair (.int .i64) .bool)))] p) (argO 0 [(0, (.pair (.pair .bool (.arr 32 (.int .u32))) (.pair (.int .i64) .bool)))] p) (denR [(0, .bool)] (refN 0 [(0, (.pair (.pair .bool (.arr 32 (.int .u32))) (.pair (.int .i64) .bool)))])) (decR [(0, (.pair (.pair .bool (.arr 32 (.int .u32))) (.pair (.int .i64) .bool)))] [(0, .bool)]) = g_decimal_between_down p := fun p => by kernel_rfl
theorem ok168 : SpecOK Tryz.prog 168 spec168 :=
  fn_ok mixed_ok ⟨⟨tab_ok, fns_nil⟩, eq_ok, ft_ok, el_ok⟩ bodies_nil Tryz.func168 (goes Tryz.func168 (by kernel_rfl)) 0 [(0, (.pair (.pair .bool (.arr 32 (.int .u32))) (.pair (.int .i64) .bool)))] [(0, .bool)] _ eq168

/-! (fundadmin/decimal.between).up -/
noncomputable def spec169 : Spec := mkSpec [(0, (.pair (.pair .bool (.arr 32 (.int .u32))) (.pair (.int .i64) .bool)))] [(0, .bool)] (fun p => g_decimal_between_up p)
noncomputable def env169 : Env := { tab := tab, fns := [], bodies := [], loops := [], joins := [], fts := ftab, elts := eltab }
theorem eq169 : ∀ p, evFn env169 (inlN env169 0) 0 169 Tryz.f169 (argS 0 [(0, (.pair (.pair .bool (.arr 32 (.int .u32))) (.pair (.int .i64) .bool)))] p) (argO 0 [(0, (.pair (.pair .bool (.arr 32 (.int .u32))) (.pair (.int .i64) .bool)))] p) (denR [(0, .bool)] (refN 0 [(0, (.pair (.pair .bool (.arr 32 (.int .u32))) (.pair (.int .i64) .bool)))])) (decR [(0, (.pair (.pair .bool (.arr 32 (.int .u32))) (.pair (.int .i64) .bool)))] [(0, .bool)]) = g_decimal_between_up p := fun p => by kernel_rfl
theorem ok169 : SpecOK Tryz.prog 169 spec169 :=
  fn_ok mixed_ok ⟨⟨tab_ok, fns_nil⟩, eq_ok, ft_ok, el_ok⟩ bodies_nil Tryz.func169 (goes Tryz.func169 (by kernel_rfl)) 0 [(0, (.pair (.pair .bool (.arr 32 (.int .u32))) (.pair (.int .i64) .bool)))] [(0, .bool)] _ eq169

/-! (fundadmin/decimal.between).floor -/
noncomputable def spec170 : Spec := mkSpec [(0, (.pair (.pair .bool (.arr 32 (.int .u32))) (.pair (.int .i64) .bool)))] [(0, .bool)] (fun p => g_decimal_between_floor p)
noncomputable def env170 : Env := { tab := tab, fns := [], bodies := [], loops := [], joins := [], fts := ftab, elts := eltab }
theorem eq170 : ∀ p, evFn env170 (inlN env170 0) 0 170 Tryz.f170 (argS 0 [(0, (.pair (.pair .bool (.arr 32 (.int .u32))) (.pair (.int .i64) .bool)))] p) (argO 0 [(0, (.pair (.pair .bool (.arr 32 (.int .u32))) (.pair (.int .i64) .bool)))] p) (denR [(0, .bool)] (refN 0 [(0, (.pair (.pair .bool (.arr 32 (.int .u32))) (.pair (.int .i64) .bool)))])) (decR [(0, (.pair (.pair .bool (.arr 32 (.int .u32))) (.pair (.int .i64) .bool)))] [(0, .bool)]) = g_decimal_between_floor p := fun p => by kernel_rfl
theorem ok170 : SpecOK Tryz.prog 170 spec170 :=
  fn_ok mixed_ok ⟨⟨tab_ok, fns_nil⟩, eq_ok, ft_ok, el_ok⟩ bodies_nil Tryz.func170 (goes Tryz.func170 (by kernel_rfl)) 0 [(0, (.pair (.pair .bool (.arr 32 (.int .u32))) (.pair (.int .i64) .bool)))] [(0, .bool)] _ eq170

/-! (fundadmin/decimal.between).ceil -/
noncomputable def spec171 : Spec := mkSpec [(0, (.pair (.pair .bool (.arr 32 (.int .u32))) (.pair (.int .i64) .bool)))] [(0, .bool)] (fun p => g_decimal_between_ceil p)
noncomputable def env171 : Env := { tab := tab, fns := [], bodies := [], loops := [], joins := [], fts := ftab, elts := eltab }
theorem eq171 : ∀ p, evFn env171 (inlN env171 0) 0 171 Tryz.f171 (argS 0 [(0, (.pair (.pair .bool (.arr 32 (.int .u32))) (.pair (.int .i64) .bool)))] p) (argO 0 [(0, (.pair (.pair .bool (.arr 32 (.int .u32))) (.pair (.int .i64) .bool)))] p) (denR [(0, .bool)] (refN 0 [(0, (.pair (.pair .bool (.arr 32 (.int .u32))) (.pair (.int .i64) .bool)))])) (decR [(0, (.pair (.pair .bool (.arr 32 (.int .u32))) (.pair (.int .i64) .bool)))] [(0, .bool)]) = g_decimal_between_ceil p := fun p => by kernel_rfl
theorem ok171 : SpecOK Tryz.prog 171 spec171 :=
  fn_ok mixed_ok ⟨⟨tab_ok, fns_nil⟩, eq_ok, ft_ok, el_ok⟩ bodies_nil Tryz.func171 (goes Tryz.func171 (by kernel_rfl)) 0 [(0, (.pair (.pair .bool (.arr 32 (.int .u32))) (.pair (.int .i64) .bool)))] [(0, .bool)] _ eq171

/-! (fundadmin/decimal.between).halfUp -/
noncomputable def spec172 : Spec := mkSpec [(0, (.pair (.pair .bool (.arr 32 (.int .u32))) (.pair (.int .i64) .bool)))] [(0, .bool)] (fun p => g_decimal_between_halfUp p)
noncomputable def env172 : Env := { tab := tab, fns := [(169, spec169)], bodies := [], loops := [], joins := [], fts := ftab, elts := eltab }
theorem eq172 : ∀ p, evFn env172 (inlN env172 0) 0 172 Tryz.f172 (argS 0 [(0, (.pair (.pair .bool (.arr 32 (.int .u32))) (.pair (.int .i64) .bool)))] p) (argO 0 [(0, (.pair (.pair .bool (.arr 32 (.int .u32))) (.pair (.int .i64) .bool)))] p) (denR [(0, .bool)] (refN 0 [(0, (.pair (.pair .bool (.arr 32 (.int .u32))) (.pair (.int .i64) .bool)))])) (decR [(0, (.pair (.pair .bool (.arr 32 (.int .u32))) (.pair (.int .i64) .bool)))] [(0, .bool)]) = g_decimal_between_halfUp p := fun p => by kernel_rfl
theorem ok172 : SpecOK Tryz.prog 172 spec172 :=
  fn_ok mixed_ok ⟨⟨tab_ok, (fns_cons ok169 fns_nil)⟩, eq_ok, ft_ok, el_ok⟩ bodies_nil Tryz.func172 (goes Tryz.func172 (by kernel_rfl)) 0 [(0, (.pair (.pair .bool (.arr 32 (.int .u32))) (.pair (.int .i64) .bool)))] [(0, .bool)] _ eq172

/-! (fundadmin/decimal.between).halfEven -/
noncomputable def spec173 : Spec := mkSpec [(0, (.pair (.pair .bool (.arr 32 (.int .u32))) (.pair (.int .i64) .bool)))] [(0, .bool)] (fun p => g_decimal_between_halfEven p)
noncomputable def env173 : Env := { tab := tab, fns := [], bodies := [], loops := [], joins := [], fts := ftab, elts := eltab }
theorem eq173 : ∀ p, evFn env173 (inlN env173 0) 0 173 Tryz.f173 (argS 0 [(0, (.pair (.pair .bool (.arr 32 (.int .u32))) (.pair (.int .i64) .bool)))] p) (argO 0 [(0, (.pair (.pair .bool (.arr 32 (.int .u32))) (.pair (.int .i64) .bool)))] p) (denR [(0, .bool)] (refN 0 [(0, (.pair (.pair .bool (.arr 32 (.int .u32))) (.pair (.int .i64) .bool)))])) (decR [(0, (.pair (.pair .bool (.arr 32 (.int .u32))) (.pair (.int .i64) .bool)))] [(0, .bool)]) = g_decimal_between_halfEven p := fun p => by kernel_rfl
theorem ok173 : SpecOK Tryz.prog 173 spec173 :=
  fn_ok mixed_ok ⟨⟨tab_ok, fns_nil⟩, eq_ok, ft_ok, el_ok⟩ bodies_nil Tryz.func173 (goes Tryz.func173 (by kernel_rfl)) 0 [(0, (.pair (.pair .bool (.arr 32 (.int .u32))) (.pair (.int .i64) .bool)))] [(0, .bool)] _ eq173

/-! fundadmin/decimal.Round -/
noncomputable def spec106 : Spec := mkSpec [(0, (.pair (.pair .bool (.arr 32 (.int .u32))) (.pair .bool (.arr 32 (.int .u32))))), (0, (.int .i64)), (0, (.int .i64))] [(0, (.pair .bool (.arr 32 (.int .u32)))), (0, (.int .i64))] (fun p => g_decimal_Round p.1 p.2.1 p.2.2)
noncomputable def env106 : Env := { tab := tab, fns := [(142, spec142), (143, spec143), (141, spec141), (100, spec100), (127, spec127), (168, spec168), (102, spec102), (169, spec169), (170, spec170), (171, spec171), (172, spec172), (173, spec173)], bodies := [(144, Tryz.f144)], loops := [], joins := [], fts := ftab, elts := eltab }
theorem eq106 : ∀ p, evFn env106 (inlN env106 8) 0 106 Tryz.f106 (argS 0 [(0, (.pair (.pair .bool (.arr 32 (.int .u32))) (.pair .bool (.arr 32 (.int .u32))))), (0, (.int .i64)), (0, (.int .i64))] p) (argO 0 [(0, (.pair (.pair .bool (.arr 32 (.int .u32))) (.pair .bool (.arr 32 (.int .u32))))), (0, (.int .i64)), (0, (.int .i64))] p) (denR [(0, (.pair .bool (.arr 32 (.int .u32)))), (0, (.int .i64))] (refN 0 [(0, (.pair (.pair .bool (.arr 32 (.int .u32))) (.pair .bool (.arr 32 (.int .u32))))), (0, (.int .i64)), (0, (.int .i64))])) (decR [(0, (.pair (.pair .bool (.arr 32 (.int .u32))) (.pair .bool (.arr 32 (.int .u32))))), (0, (.int .i64)), (0, (.int .i64))] [(0, (.pair .bool (.arr 32 (.int .u32)))), (0, (.int .i64))]) = g_decimal_Round p.1 p.2.1 p.2.2 := fun p => by kernel_rfl
theorem ok106 : SpecOK Tryz.prog 106 spec106 :=
  fn_ok mixed_ok ⟨⟨tab_ok, (fns_cons ok142 (fns_cons ok143 (fns_cons ok141 (fns_cons ok100 (fns_cons ok127 (fns_cons ok168 (fns_cons ok102 (fns_cons ok169 (fns_cons ok170 (fns_cons ok171 (fns_cons ok172 (fns_cons ok173 fns_nil))))))))))))⟩, eq_ok, ft_ok, el_ok⟩ (bodies_cons Tryz.func144 (goes Tryz.func144 (by kernel_rfl)) bodies_nil) Tryz.func106 (goes Tryz.func106 (by kernel_rfl)) 8 [(0, (.pair (.pair .bool (.arr 32 (.int .u32))) (.pair .bool (.arr 32 (.int .u32))))), (0, (.int .i64)), (0, (.int .i64))] [(0, (.pair .bool (.arr 32 (.int .u32)))), (0, (.int .i64))] _ eq106

/-! fundadmin/decimal.Quantize -/
noncomputable def spec69 : Spec := mkSpec [(0, (.pair (.pair .bool (.arr 32 (.int .u32))) (.pair .bool (.arr 32 (.int .u32))))), (0, (.int .i64)), (0, (.int .i64))] [(0, (.pair (.pair .bool (.arr 32 (.int .u32))) (.pair .bool (.arr 32 (.int .u32))))), (0, (.int .i64))] (fun p => g_decimal_Quantize p.1 p.2.1 p.2.2)
noncomputable def env69 : Env := { tab := tab, fns := [(106, spec106), (108, spec108), (102, spec102), (107, spec107)], bodies := [], loops := [], joins := [], fts := ftab, elts := eltab }
theorem eq69 : ∀ p, evFn env69 (inlN env69 0) 0 69 Tryz.f69 (argS 0 [(0, (.pair (.pair .bool (.arr 32 (.int .u32))) (.pair .bool (.arr 32 (.int .u32))))), (0, (.int .i64)), (0, (.int .i64))] p) (argO 0 [(0, (.pair (.pair .bool (.arr 32 (.int .u32))) (.pair .bool (.arr 32 (.int .u32))))), (0, (.int .i64)), (0, (.int .i64))] p) (denR [(0, (.pair (.pair .bool (.arr 32 (.int .u32))) (.pair .bool (.arr 32 (.int .u32))))), (0, (.int .i64))] (refN 0 [(0, (.pair (.pair .bool (.arr 32 (.int .u32))) (.pair .bool (.arr 32 (.int .u32))))), (0, (.int .i64)), (0, (.int .i64))])) (decR [(0, (.pair (.pair .bool (.arr 32 (.int .u32))) (.pair .bool (.arr 32 (.int .u32))))), (0, (.int .i64)), (0, (.int .i64))] [(0, (.pair (.pair .bool (.arr 32 (.int .u32))) (.pair .bool (.arr 32 (.int .u32))))), (0, (.int .i64))]) = g_decimal_Quantize p.1 p.2.1 p.2.2 := fun p => by kernel_rfl
theorem ok69 : SpecOK Tryz.prog 69 spec69 :=
  fn_ok mixed_ok ⟨⟨tab_ok, (fns_cons ok106 (fns_cons ok108 (fns_cons ok102 (fns_cons ok107 fns_nil))))⟩, eq_ok, ft_ok, el_ok⟩ bodies_nil Tryz.func69 (goes Tryz.func69 (by kernel_rfl)) 0 [(0, (.pair (.pair .bool (.arr 32 (.int .u32))) (.pair .bool (.arr 32 (.int .u32))))), (0, (.int .i64)), (0, (.int .i64))] [(0, (.pair (.pair .bool (.arr 32 (.int .u32))) (.pair .bool (.arr 32 (.int .u32))))), (0, (.int .i64))] _ eq69

/-! fundadmin/highwater.Crystallise -/
noncomputable def spec24 : Spec := mkSpec [(0, (.pair (.pair (.pair .bool (.arr 32 (.int .u32))) (.pair .bool (.arr 32 (.int .u32)))) (.pair (.pair (.pair .bool (.arr 32 (.int .u32))) (.pair .bool (.arr 32 (.int .u32)))) (.int .i64)))), (0, (.pair (.pair (.pair .bool (.arr 32 (.int .u32))) (.pair .bool (.arr 32 (.int .u32)))) (.int .i64))), (0, (.pair (.pair .bool (.arr 32 (.int .u32))) (.pair .bool (.arr 32 (.int .u32))))), (0, (.int .i64))] [(0, (.pair (.pair .bool (.arr 32 (.int .u32))) (.pair .bool (.arr 32 (.int .u32))))), (0, (.pair (.pair (.pair .bool (.arr 32 (.int .u32))) (.pair .bool (.arr 32 (.int .u32)))) (.int .i64))), (0, (.int .i64))] (fun p => g_highwater_Crystallise p.1 p.2.1 p.2.2.1 p.2.2.2)
noncomputable def env24 : Env := { tab := tab, fns := [(22, spec22), (65, spec65), (67, spec67), (69, spec69)], bodies := [(70, Tryz.f70)], loops := [], joins := [], fts := ftab, elts := eltab }
theorem eq24 : ∀ p, evFn env24 (inlN env24 8) 0 24 Tryz.f24 (argS 0 [(0, (.pair (.pair (.pair .bool (.arr 32 (.int .u32))) (.pair .bool (.arr 32 (.int .u32)))) (.pair (.pair (.pair .bool (.arr 32 (.int .u32))) (.pair .bool (.arr 32 (.int .u32)))) (.int .i64)))), (0, (.pair (.pair (.pair .bool (.arr 32 (.int .u32))) (.pair .bool (.arr 32 (.int .u32)))) (.int .i64))), (0, (.pair (.pair .bool (.arr 32 (.int .u32))) (.pair .bool (.arr 32 (.int .u32))))), (0, (.int .i64))] p) (argO 0 [(0, (.pair (.pair (.pair .bool (.arr 32 (.int .u32))) (.pair .bool (.arr 32 (.int .u32)))) (.pair (.pair (.pair .bool (.arr 32 (.int .u32))) (.pair .bool (.arr 32 (.int .u32)))) (.int .i64)))), (0, (.pair (.pair (.pair .bool (.arr 32 (.int .u32))) (.pair .bool (.arr 32 (.int .u32)))) (.int .i64))), (0, (.pair (.pair .bool (.arr 32 (.int .u32))) (.pair .bool (.arr 32 (.int .u32))))), (0, (.int .i64))] p) (denR [(0, (.pair (.pair .bool (.arr 32 (.int .u32))) (.pair .bool (.arr 32 (.int .u32))))), (0, (.pair (.pair (.pair .bool (.arr 32 (.int .u32))) (.pair .bool (.arr 32 (.int .u32)))) (.int .i64))), (0, (.int .i64))] (refN 0 [(0, (.pair (.pair (.pair .bool (.arr 32 (.int .u32))) (.pair .bool (.arr 32 (.int .u32)))) (.pair (.pair (.pair .bool (.arr 32 (.int .u32))) (.pair .bool (.arr 32 (.int .u32)))) (.int .i64)))), (0, (.pair (.pair (.pair .bool (.arr 32 (.int .u32))) (.pair .bool (.arr 32 (.int .u32)))) (.int .i64))), (0, (.pair (.pair .bool (.arr 32 (.int .u32))) (.pair .bool (.arr 32 (.int .u32))))), (0, (.int .i64))])) (decR [(0, (.pair (.pair (.pair .bool (.arr 32 (.int .u32))) (.pair .bool (.arr 32 (.int .u32)))) (.pair (.pair (.pair .bool (.arr 32 (.int .u32))) (.pair .bool (.arr 32 (.int .u32)))) (.int .i64)))), (0, (.pair (.pair (.pair .bool (.arr 32 (.int .u32))) (.pair .bool (.arr 32 (.int .u32)))) (.int .i64))), (0, (.pair (.pair .bool (.arr 32 (.int .u32))) (.pair .bool (.arr 32 (.int .u32))))), (0, (.int .i64))] [(0, (.pair (.pair .bool (.arr 32 (.int .u32))) (.pair .bool (.arr 32 (.int .u32))))), (0, (.pair (.pair (.pair .bool (.arr 32 (.int .u32))) (.pair .bool (.arr 32 (.int .u32)))) (.int .i64))), (0, (.int .i64))]) = g_highwater_Crystallise p.1 p.2.1 p.2.2.1 p.2.2.2 := fun p => by kernel_rfl
theorem ok24 : SpecOK Tryz.prog 24 spec24 :=
  fn_ok mixed_ok ⟨⟨tab_ok, (fns_cons ok22 (fns_cons ok65 (fns_cons ok67 (fns_cons ok69 fns_nil))))⟩, eq_ok, ft_ok, el_ok⟩ (bodies_cons Tryz.func70 (goes Tryz.func70 (by kernel_rfl)) bodies_nil) Tryz.func24 (goes Tryz.func24 (by kernel_rfl)) 8 [(0, (.pair (.pair (.pair .bool (.arr 32 (.int .u32))) (.pair .bool (.arr 32 (.int .u32)))) (.pair (.pair (.pair .bool (.arr 32 (.int .u32))) (.pair .bool (.arr 32 (.int .u32)))) (.int .i64)))), (0, (.pair (.pair (.pair .bool (.arr 32 (.int .u32))) (.pair .bool (.arr 32 (.int .u32)))) (.int .i64))), (0, (.pair (.pair .bool (.arr 32 (.int .u32))) (.pair .bool (.arr 32 (.int .u32))))), (0, (.int .i64))] [(0, (.pair (.pair .bool (.arr 32 (.int .u32))) (.pair .bool (.arr 32 (.int .u32))))), (0, (.pair (.pair (.pair .bool (.arr 32 (.int .u32))) (.pair .bool (.arr 32 (.int .u32)))) (.int .i64))), (0, (.int .i64))] _ eq24

/-! fundadmin/fundadminref01.limbs -/
noncomputable def spec150 : Spec := mkSpec [(0, (.arr 32 (.int .u32)))] [(0, (.int .i64))] (fun p => g_ref01_limbs p)
noncomputable def env150 : Env := { tab := tab, fns := [], bodies := [], loops := [(150, [(2, { keepT := [1, 2], keepO := [1], varT := [(3, (.int .i64))], varO := [], outs := [.exit 0] })])], joins := [], fts := ftab, elts := eltab }
theorem eq150 : ∀ p, evFn env150 (inlN env150 0) 0 150 Tryz.f150 (argS 0 [(0, (.arr 32 (.int .u32)))] p) (argO 0 [(0, (.arr 32 (.int .u32)))] p) (denR [(0, (.int .i64))] (refN 0 [(0, (.arr 32 (.int .u32)))])) (decR [(0, (.arr 32 (.int .u32)))] [(0, (.int .i64))]) = g_ref01_limbs p := fun p => by kernel_rfl
theorem ok150 : SpecOK Tryz.prog 150 spec150 :=
  fn_ok mixed_ok ⟨⟨tab_ok, fns_nil⟩, eq_ok, ft_ok, el_ok⟩ bodies_nil Tryz.func150 (goes Tryz.func150 (by kernel_rfl)) 0 [(0, (.arr 32 (.int .u32)))] [(0, (.int .i64))] _ eq150

/-! fundadmin/fundadminref01.zero -/
noncomputable def spec149 : Spec := mkSpec [(0, (.arr 32 (.int .u32)))] [(0, .bool)] (fun p => g_ref01_zero p)
noncomputable def env149 : Env := { tab := tab, fns := [(150, spec150)], bodies := [], loops := [], joins := [], fts := ftab, elts := eltab }
theorem eq149 : ∀ p, evFn env149 (inlN env149 0) 0 149 Tryz.f149 (argS 0 [(0, (.arr 32 (.int .u32)))] p) (argO 0 [(0, (.arr 32 (.int .u32)))] p) (denR [(0, .bool)] (refN 0 [(0, (.arr 32 (.int .u32)))])) (decR [(0, (.arr 32 (.int .u32)))] [(0, .bool)]) = g_ref01_zero p := fun p => by kernel_rfl
theorem ok149 : SpecOK Tryz.prog 149 spec149 :=
  fn_ok mixed_ok ⟨⟨tab_ok, (fns_cons ok150 fns_nil)⟩, eq_ok, ft_ok, el_ok⟩ bodies_nil Tryz.func149 (goes Tryz.func149 (by kernel_rfl)) 0 [(0, (.arr 32 (.int .u32)))] [(0, .bool)] _ eq149

/-! fundadmin/fundadminref01.Sign -/
noncomputable def spec112 : Spec := mkSpec [(0, (.pair .bool (.arr 32 (.int .u32))))] [(0, (.int .i64))] (fun p => g_ref01_Sign p)
noncomputable def env112 : Env := { tab := tab, fns := [(149, spec149)], bodies := [], loops := [], joins := [], fts := ftab, elts := eltab }
theorem eq112 : ∀ p, evFn env112 (inlN env112 0) 0 112 Tryz.f112 (argS 0 [(0, (.pair .bool (.arr 32 (.int .u32))))] p) (argO 0 [(0, (.pair .bool (.arr 32 (.int .u32))))] p) (denR [(0, (.int .i64))] (refN 0 [(0, (.pair .bool (.arr 32 (.int .u32))))])) (decR [(0, (.pair .bool (.arr 32 (.int .u32))))] [(0, (.int .i64))]) = g_ref01_Sign p := fun p => by kernel_rfl
theorem ok112 : SpecOK Tryz.prog 112 spec112 :=
  fn_ok mixed_ok ⟨⟨tab_ok, (fns_cons ok149 fns_nil)⟩, eq_ok, ft_ok, el_ok⟩ bodies_nil Tryz.func112 (goes Tryz.func112 (by kernel_rfl)) 0 [(0, (.pair .bool (.arr 32 (.int .u32))))] [(0, (.int .i64))] _ eq112

/-! fundadmin/fundadminref01.Bits -/
noncomputable def spec114 : Spec := mkSpec [(0, (.pair .bool (.arr 32 (.int .u32))))] [(0, (.int .i64))] (fun p => g_ref01_Bits p)
noncomputable def env114 : Env := { tab := tab, fns := [(150, spec150)], bodies := [], loops := [(114, [(6, { keepT := [2], keepO := [1], varT := [(4, (.int .i64)), (5, (.int .u32))], varO := [], outs := [.exit 0] })])], joins := [], fts := ftab, elts := eltab }
theorem eq114 : ∀ p, evFn env114 (inlN env114 0) 0 114 Tryz.f114 (argS 0 [(0, (.pair .bool (.arr 32 (.int .u32))))] p) (argO 0 [(0, (.pair .bool (.arr 32 (.int .u32))))] p) (denR [(0, (.int .i64))] (refN 0 [(0, (.pair .bool (.arr 32 (.int .u32))))])) (decR [(0, (.pair .bool (.arr 32 (.int .u32))))] [(0, (.int .i64))]) = g_ref01_Bits p := fun p => by kernel_rfl
theorem ok114 : SpecOK Tryz.prog 114 spec114 :=
  fn_ok mixed_ok ⟨⟨tab_ok, (fns_cons ok150 fns_nil)⟩, eq_ok, ft_ok, el_ok⟩ bodies_nil Tryz.func114 (goes Tryz.func114 (by kernel_rfl)) 0 [(0, (.pair .bool (.arr 32 (.int .u32))))] [(0, (.int .i64))] _ eq114

/-! fundadmin/fundadminref01.canonical -/
noncomputable def spec119 : Spec := mkSpec [(0, .bool), (0, (.arr 32 (.int .u32)))] [(0, (.pair .bool (.arr 32 (.int .u32))))] (fun p => g_ref01_canonical p.1 p.2)
noncomputable def env119 : Env := { tab := tab, fns := [(149, spec149)], bodies := [], loops := [], joins := [], fts := ftab, elts := eltab }
theorem eq119 : ∀ p, evFn env119 (inlN env119 0) 0 119 Tryz.f119 (argS 0 [(0, .bool), (0, (.arr 32 (.int .u32)))] p) (argO 0 [(0, .bool), (0, (.arr 32 (.int .u32)))] p) (denR [(0, (.pair .bool (.arr 32 (.int .u32))))] (refN 0 [(0, .bool), (0, (.arr 32 (.int .u32)))])) (decR [(0, .bool), (0, (.arr 32 (.int .u32)))] [(0, (.pair .bool (.arr 32 (.int .u32))))]) = g_ref01_canonical p.1 p.2 := fun p => by kernel_rfl
theorem ok119 : SpecOK Tryz.prog 119 spec119 :=
  fn_ok mixed_ok ⟨⟨tab_ok, (fns_cons ok149 fns_nil)⟩, eq_ok, ft_ok, el_ok⟩ bodies_nil Tryz.func119 (goes Tryz.func119 (by kernel_rfl)) 0 [(0, .bool), (0, (.arr 32 (.int .u32)))] [(0, (.pair .bool (.arr 32 (.int .u32))))] _ eq119

/-! fundadmin/fundadminref01.compare -/
noncomputable def spec121 : Spec := mkSpec [(0, (.arr 32 (.int .u32))), (0, (.arr 32 (.int .u32)))] [(0, (.int .i64))] (fun p => g_ref01_compare p.1 p.2)
noncomputable def env121 : Env := { tab := tab, fns := [], bodies := [], loops := [(121, [(2, { keepT := [2, 3], keepO := [2, 3], varT := [(4, (.int .i64)), (5, (.int .i64))], varO := [], outs := [.ret, .exit 0] })])], joins := [], fts := ftab, elts := eltab }
theorem eq121 : ∀ p, evFn env121 (inlN env121 0) 0 121 Tryz.f121 (argS 0 [(0, (.arr 32 (.int .u32))), (0, (.arr 32 (.int .u32)))] p) (argO 0 [(0, (.arr 32 (.int .u32))), (0, (.arr 32 (.int .u32)))] p) (denR [(0, (.int .i64))] (refN 0 [(0, (.arr 32 (.int .u32))), (0, (.arr 32 (.int .u32)))])) (decR [(0, (.arr 32 (.int .u32))), (0, (.arr 32 (.int .u32)))] [(0, (.int .i64))]) = g_ref01_compare p.1 p.2 := fun p => by kernel_rfl
theorem ok121 : SpecOK Tryz.prog 121 spec121 :=
  fn_ok mixed_ok ⟨⟨tab_ok, fns_nil⟩, eq_ok, ft_ok, el_ok⟩ bodies_nil Tryz.func121 (goes Tryz.func121 (by kernel_rfl)) 0 [(0, (.arr 32 (.int .u32))), (0, (.arr 32 (.int .u32)))] [(0, (.int .i64))] _ eq121

/-! fundadmin/fundadminref01.difference -/
noncomputable def spec122 : Spec := mkSpec [(0, (.arr 32 (.int .u32))), (0, (.arr 32 (.int .u32)))] [(0, (.arr 32 (.int .u32)))] (fun p => g_ref01_difference p.1 p.2)
noncomputable def env122 : Env := { tab := tab, fns := [], bodies := [], loops := [(122, [(4, { keepT := [2, 3, 4, 5], keepO := [2, 3, 4], varT := [(6, (.int .u64)), (7, (.int .i64))], varO := [(5, (.arr 32 (.int .u32)))], outs := [.exit 0] })])], joins := [], fts := ftab, elts := eltab }
theorem eq122 : ∀ p, evFn env122 (inlN env122 0) 0 122 Tryz.f122 (argS 0 [(0, (.arr 32 (.int .u32))), (0, (.arr 32 (.int .u32)))] p) (argO 0 [(0, (.arr 32 (.int .u32))), (0, (.arr 32 (.int .u32)))] p) (denR [(0, (.arr 32 (.int .u32)))] (refN 0 [(0, (.arr 32 (.int .u32))), (0, (.arr 32 (.int .u32)))])) (decR [(0, (.arr 32 (.int .u32))), (0, (.arr 32 (.int .u32)))] [(0, (.arr 32 (.int .u32)))]) = g_ref01_difference p.1 p.2 := fun p => by kernel_rfl
theorem ok122 : SpecOK Tryz.prog 122 spec122 :=
  fn_ok mixed_ok ⟨⟨tab_ok, fns_nil⟩, eq_ok, ft_ok, el_ok⟩ bodies_nil Tryz.func122 (goes Tryz.func122 (by kernel_rfl)) 0 [(0, (.arr 32 (.int .u32))), (0, (.arr 32 (.int .u32)))] [(0, (.arr 32 (.int .u32)))] _ eq122

/-! fundadmin/fundadminref01.small -/
noncomputable def spec177 : Spec := mkSpec [(0, (.int .u64))] [(0, (.arr 32 (.int .u32)))] (fun p => g_ref01_small p)
noncomputable def env177 : Env := { tab := tab, fns := [], bodies := [], loops := [], joins := [], fts := ftab, elts := eltab }
theorem eq177 : ∀ p, evFn env177 (inlN env177 0) 0 177 Tryz.f177 (argS 0 [(0, (.int .u64))] p) (argO 0 [(0, (.int .u64))] p) (denR [(0, (.arr 32 (.int .u32)))] (refN 0 [(0, (.int .u64))])) (decR [(0, (.int .u64))] [(0, (.arr 32 (.int .u32)))]) = g_ref01_small p := fun p => by kernel_rfl
theorem ok177 : SpecOK Tryz.prog 177 spec177 :=
  fn_ok mixed_ok ⟨⟨tab_ok, fns_nil⟩, eq_ok, ft_ok, el_ok⟩ bodies_nil Tryz.func177 (goes Tryz.func177 (by kernel_rfl)) 0 [(0, (.int .u64))] [(0, (.arr 32 (.int .u32)))] _ eq177

/-! fundadmin/fundadminref01.low -/
noncomputable def spec178 : Spec := mkSpec [(0, (.arr 32 (.int .u32)))] [(0, (.int .u64))] (fun p => g_ref01_low p)
noncomputable def env178 : Env := { tab := tab, fns := [], bodies := [], loops := [], joins := [], fts := ftab, elts := eltab }
theorem eq178 : ∀ p, evFn env178 (inlN env178 0) 0 178 Tryz.f178 (argS 0 [(0, (.arr 32 (.int .u32)))] p) (argO 0 [(0, (.arr 32 (.int .u32)))] p) (denR [(0, (.int .u64))] (refN 0 [(0, (.arr 32 (.int .u32)))])) (decR [(0, (.arr 32 (.int .u32)))] [(0, (.int .u64))]) = g_ref01_low p := fun p => by kernel_rfl
theorem ok178 : SpecOK Tryz.prog 178 spec178 :=
  fn_ok mixed_ok ⟨⟨tab_ok, fns_nil⟩, eq_ok, ft_ok, el_ok⟩ bodies_nil Tryz.func178 (goes Tryz.func178 (by kernel_rfl)) 0 [(0, (.arr 32 (.int .u32)))] [(0, (.int .u64))] _ eq178

/-! fundadmin/fundadminref01.shifted -/
noncomputable def spec179 : Spec := mkSpec [(0, (.arr 32 (.int .u32))), (0, (.int .i64))] [(0, (.arr 32 (.int .u32)))] (fun p => g_ref01_shifted p.1 p.2)
noncomputable def env179 : Env := { tab := tab, fns := [], bodies := [], loops := [(179, [(4, { keepT := [2, 4, 5, 6, 7], keepO := [2, 4], varT := [(8, (.int .i64))], varO := [(5, (.arr 32 (.int .u32)))], outs := [.exit 0] })])], joins := [], fts := ftab, elts := eltab }
theorem eq179 : ∀ p, evFn env179 (inlN env179 0) 0 179 Tryz.f179 (argS 0 [(0, (.arr 32 (.int .u32))), (0, (.int .i64))] p) (argO 0 [(0, (.arr 32 (.int .u32))), (0, (.int .i64))] p) (denR [(0, (.arr 32 (.int .u32)))] (refN 0 [(0, (.arr 32 (.int .u32))), (0, (.int .i64))])) (decR [(0, (.arr 32 (.int .u32))), (0, (.int .i64))] [(0, (.arr 32 (.int .u32)))]) = g_ref01_shifted p.1 p.2 := fun p => by kernel_rfl
theorem ok179 : SpecOK Tryz.prog 179 spec179 :=
  fn_ok mixed_ok ⟨⟨tab_ok, fns_nil⟩, eq_ok, ft_ok, el_ok⟩ bodies_nil Tryz.func179 (goes Tryz.func179 (by kernel_rfl)) 0 [(0, (.arr 32 (.int .u32))), (0, (.int .i64))] [(0, (.arr 32 (.int .u32)))] _ eq179

/-! fundadmin/fundadminref01.double -/
noncomputable def spec180 : Spec := mkSpec [(0, (.arr 32 (.int .u32))), (0, (.int .u32))] [(0, (.arr 32 (.int .u32))), (0, .bool)] (fun p => g_ref01_double p.1 p.2)
noncomputable def env180 : Env := { tab := tab, fns := [], bodies := [], loops := [(180, [(2, { keepT := [2, 4, 5], keepO := [4], varT := [(1, (.int .u32)), (6, (.int .i64))], varO := [(2, (.arr 32 (.int .u32)))], outs := [.exit 0] })])], joins := [], fts := ftab, elts := eltab }
theorem eq180 : ∀ p, evFn env180 (inlN env180 0) 0 180 Tryz.f180 (argS 0 [(0, (.arr 32 (.int .u32))), (0, (.int .u32))] p) (argO 0 [(0, (.arr 32 (.int .u32))), (0, (.int .u32))] p) (denR [(0, (.arr 32 (.int .u32))), (0, .bool)] (refN 0 [(0, (.arr 32 (.int .u32))), (0, (.int .u32))])) (decR [(0, (.arr 32 (.int .u32))), (0, (.int .u32))] [(0, (.arr 32 (.int .u32))), (0, .bool)]) = g_ref01_double p.1 p.2 := fun p => by kernel_rfl
theorem ok180 : SpecOK Tryz.prog 180 spec180 :=
  fn_ok mixed_ok ⟨⟨tab_ok, fns_nil⟩, eq_ok, ft_ok, el_ok⟩ bodies_nil Tryz.func180 (goes Tryz.func180 (by kernel_rfl)) 0 [(0, (.arr 32 (.int .u32))), (0, (.int .u32))] [(0, (.arr 32 (.int .u32))), (0, .bool)] _ eq180

/-! fundadmin/fundadminref01.divide -/
noncomputable def spec151 : Spec := mkSpec [(0, (.arr 32 (.int .u32))), (0, (.arr 32 (.int .u32)))] [(0, (.arr 32 (.int .u32))), (0, (.arr 32 (.int .u32)))] (fun p => g_ref01_divide p.1 p.2)
noncomputable def env151 : Env := { tab := tab, fns := [(150, spec150), (178, spec178), (177, spec177), (114, spec114), (179, spec179), (180, spec180), (122, spec122), (121, spec121)], bodies := [], loops := [(151, [(8, { keepT := [2, 3, 4, 5], keepO := [2, 3], varT := [(8, (.int .i64))], varO := [(4, (.arr 32 (.int .u32))), (5, (.arr 32 (.int .u32)))], outs := [.exit 0] })])], joins := [], fts := ftab, elts := eltab }
theorem eq151 : ∀ p, evFn env151 (inlN env151 0) 0 151 Tryz.f151 (argS 0 [(0, (.arr 32 (.int .u32))), (0, (.arr 32 (.int .u32)))] p) (argO 0 [(0, (.arr 32 (.int .u32))), (0, (.arr 32 (.int .u32)))] p) (denR [(0, (.arr 32 (.int .u32))), (0, (.arr 32 (.int .u32)))] (refN 0 [(0, (.arr 32 (.int .u32))), (0, (.arr 32 (.int .u32)))])) (decR [(0, (.arr 32 (.int .u32))), (0, (.arr 32 (.int .u32)))] [(0, (.arr 32 (.int .u32))), (0, (.arr 32 (.int .u32)))]) = g_ref01_divide p.1 p.2 := fun p => by kernel_rfl
theorem ok151 : SpecOK Tryz.prog 151 spec151 :=
  fn_ok mixed_ok ⟨⟨tab_ok, (fns_cons ok150 (fns_cons ok178 (fns_cons ok177 (fns_cons ok114 (fns_cons ok179 (fns_cons ok180 (fns_cons ok122 (fns_cons ok121 fns_nil))))))))⟩, eq_ok, ft_ok, el_ok⟩ bodies_nil Tryz.func151 (goes Tryz.func151 (by kernel_rfl)) 0 [(0, (.arr 32 (.int .u32))), (0, (.arr 32 (.int .u32)))] [(0, (.arr 32 (.int .u32))), (0, (.arr 32 (.int .u32)))] _ eq151

/-! fundadmin/fundadminref01.Gcd -/
noncomputable def spec115 : Spec := mkSpec [(0, (.pair .bool (.arr 32 (.int .u32)))), (0, (.pair .bool (.arr 32 (.int .u32))))] [(0, (.pair .bool (.arr 32 (.int .u32))))] (fun p => g_ref01_Gcd p.1 p.2)
noncomputable def env115 : Env := { tab := tab, fns := [(149, spec149), (151, spec151), (119, spec119)], bodies := [], loops := [(115, [(2, { keepT := [4, 5, 6], keepO := [2, 3, 4], varT := [], varO := [(5, (.arr 32 (.int .u32))), (6, (.arr 32 (.int .u32)))], outs := [.exit 0] })])], joins := [], fts := ftab, elts := eltab }
theorem eq115 : ∀ p, evFn env115 (inlN env115 0) 0 115 Tryz.f115 (argS 0 [(0, (.pair .bool (.arr 32 (.int .u32)))), (0, (.pair .bool (.arr 32 (.int .u32))))] p) (argO 0 [(0, (.pair .bool (.arr 32 (.int .u32)))), (0, (.pair .bool (.arr 32 (.int .u32))))] p) (denR [(0, (.pair .bool (.arr 32 (.int .u32))))] (refN 0 [(0, (.pair .bool (.arr 32 (.int .u32)))), (0, (.pair .bool (.arr 32 (.int .u32))))])) (decR [(0, (.pair .bool (.arr 32 (.int .u32)))), (0, (.pair .bool (.arr 32 (.int .u32))))] [(0, (.pair .bool (.arr 32 (.int .u32))))]) = g_ref01_Gcd p.1 p.2 := fun p => by kernel_rfl
theorem ok115 : SpecOK Tryz.prog 115 spec115 :=
  fn_ok mixed_ok ⟨⟨tab_ok, (fns_cons ok149 (fns_cons ok151 (fns_cons ok119 fns_nil)))⟩, eq_ok, ft_ok, el_ok⟩ bodies_nil Tryz.func115 (goes Tryz.func115 (by kernel_rfl)) 0 [(0, (.pair .bool (.arr 32 (.int .u32)))), (0, (.pair .bool (.arr 32 (.int .u32))))] [(0, (.pair .bool (.arr 32 (.int .u32))))] _ eq115

/-! fundadmin/fundadminref01.Neg -/
noncomputable def spec116 : Spec := mkSpec [(0, (.pair .bool (.arr 32 (.int .u32))))] [(0, (.pair .bool (.arr 32 (.int .u32))))] (fun p => g_ref01_Neg p)
noncomputable def env116 : Env := { tab := tab, fns := [(119, spec119)], bodies := [], loops := [], joins := [], fts := ftab, elts := eltab }
theorem eq116 : ∀ p, evFn env116 (inlN env116 0) 0 116 Tryz.f116 (argS 0 [(0, (.pair .bool (.arr 32 (.int .u32))))] p) (argO 0 [(0, (.pair .bool (.arr 32 (.int .u32))))] p) (denR [(0, (.pair .bool (.arr 32 (.int .u32))))] (refN 0 [(0, (.pair .bool (.arr 32 (.int .u32))))])) (decR [(0, (.pair .bool (.arr 32 (.int .u32))))] [(0, (.pair .bool (.arr 32 (.int .u32))))]) = g_ref01_Neg p := fun p => by kernel_rfl
theorem ok116 : SpecOK Tryz.prog 116 spec116 :=
  fn_ok mixed_ok ⟨⟨tab_ok, (fns_cons ok119 fns_nil)⟩, eq_ok, ft_ok, el_ok⟩ bodies_nil Tryz.func116 (goes Tryz.func116 (by kernel_rfl)) 0 [(0, (.pair .bool (.arr 32 (.int .u32))))] [(0, (.pair .bool (.arr 32 (.int .u32))))] _ eq116

/-! fundadmin/fundadminref01.sum -/
noncomputable def spec120 : Spec := mkSpec [(0, (.arr 32 (.int .u32))), (0, (.arr 32 (.int .u32)))] [(0, (.arr 32 (.int .u32))), (0, .bool)] (fun p => g_ref01_sum p.1 p.2)
noncomputable def env120 : Env := { tab := tab, fns := [], bodies := [], loops := [(120, [(4, { keepT := [2, 3, 4, 5, 6], keepO := [2, 3, 4], varT := [(7, (.int .u64)), (8, (.int .i64))], varO := [(6, (.arr 32 (.int .u32)))], outs := [.exit 0] })])], joins := [], fts := ftab, elts := eltab }
theorem eq120 : ∀ p, evFn env120 (inlN env120 0) 0 120 Tryz.f120 (argS 0 [(0, (.arr 32 (.int .u32))), (0, (.arr 32 (.int .u32)))] p) (argO 0 [(0, (.arr 32 (.int .u32))), (0, (.arr 32 (.int .u32)))] p) (denR [(0, (.arr 32 (.int .u32))), (0, .bool)] (refN 0 [(0, (.arr 32 (.int .u32))), (0, (.arr 32 (.int .u32)))])) (decR [(0, (.arr 32 (.int .u32))), (0, (.arr 32 (.int .u32)))] [(0, (.arr 32 (.int .u32))), (0, .bool)]) = g_ref01_sum p.1 p.2 := fun p => by kernel_rfl
theorem ok120 : SpecOK Tryz.prog 120 spec120 :=
  fn_ok mixed_ok ⟨⟨tab_ok, fns_nil⟩, eq_ok, ft_ok, el_ok⟩ bodies_nil Tryz.func120 (goes Tryz.func120 (by kernel_rfl)) 0 [(0, (.arr 32 (.int .u32))), (0, (.arr 32 (.int .u32)))] [(0, (.arr 32 (.int .u32))), (0, .bool)] _ eq120

/-! fundadmin/fundadminref01.DivMod -/
noncomputable def spec124 : Spec := mkSpec [(0, (.pair .bool (.arr 32 (.int .u32)))), (0, (.pair .bool (.arr 32 (.int .u32))))] [(0, (.pair .bool (.arr 32 (.int .u32)))), (0, (.pair .bool (.arr 32 (.int .u32)))), (0, (.int .i64))] (fun p => g_ref01_DivMod p.1 p.2)
noncomputable def env124 : Env := { tab := tab, fns := [(149, spec149), (151, spec151), (122, spec122), (120, spec120), (119, spec119)], bodies := [], loops := [], joins := [], fts := ftab, elts := eltab }
theorem eq124 : ∀ p, evFn env124 (inlN env124 0) 0 124 Tryz.f124 (argS 0 [(0, (.pair .bool (.arr 32 (.int .u32)))), (0, (.pair .bool (.arr 32 (.int .u32))))] p) (argO 0 [(0, (.pair .bool (.arr 32 (.int .u32)))), (0, (.pair .bool (.arr 32 (.int .u32))))] p) (denR [(0, (.pair .bool (.arr 32 (.int .u32)))), (0, (.pair .bool (.arr 32 (.int .u32)))), (0, (.int .i64))] (refN 0 [(0, (.pair .bool (.arr 32 (.int .u32)))), (0, (.pair .bool (.arr 32 (.int .u32))))])) (decR [(0, (.pair .bool (.arr 32 (.int .u32)))), (0, (.pair .bool (.arr 32 (.int .u32))))] [(0, (.pair .bool (.arr 32 (.int .u32)))), (0, (.pair .bool (.arr 32 (.int .u32)))), (0, (.int .i64))]) = g_ref01_DivMod p.1 p.2 := fun p => by kernel_rfl
theorem ok124 : SpecOK Tryz.prog 124 spec124 :=
  fn_ok mixed_ok ⟨⟨tab_ok, (fns_cons ok149 (fns_cons ok151 (fns_cons ok122 (fns_cons ok120 (fns_cons ok119 fns_nil)))))⟩, eq_ok, ft_ok, el_ok⟩ bodies_nil Tryz.func124 (goes Tryz.func124 (by kernel_rfl)) 0 [(0, (.pair .bool (.arr 32 (.int .u32)))), (0, (.pair .bool (.arr 32 (.int .u32))))] [(0, (.pair .bool (.arr 32 (.int .u32)))), (0, (.pair .bool (.arr 32 (.int .u32)))), (0, (.int .i64))] _ eq124

/-! fundadmin/fundadminref02.Make -/
noncomputable def spec92 : Spec := mkSpec [(0, (.pair .bool (.arr 32 (.int .u32)))), (0, (.pair .bool (.arr 32 (.int .u32))))] [(0, (.pair (.pair .bool (.arr 32 (.int .u32))) (.pair .bool (.arr 32 (.int .u32))))), (0, (.int .i64))] (fun p => g_ref02_Make p.1 p.2)
noncomputable def env92 : Env := { tab := tab, fns := [(112, spec112), (115, spec115), (124, spec124), (116, spec116), (114, spec114)], bodies := [], loops := [], joins := [], fts := ftab, elts := eltab }
theorem eq92 : ∀ p, evFn env92 (inlN env92 0) 0 92 Tryz.f92 (argS 0 [(0, (.pair .bool (.arr 32 (.int .u32)))), (0, (.pair .bool (.arr 32 (.int .u32))))] p) (argO 0 [(0, (.pair .bool (.arr 32 (.int .u32)))), (0, (.pair .bool (.arr 32 (.int .u32))))] p) (denR [(0, (.pair (.pair .bool (.arr 32 (.int .u32))) (.pair .bool (.arr 32 (.int .u32))))), (0, (.int .i64))] (refN 0 [(0, (.pair .bool (.arr 32 (.int .u32)))), (0, (.pair .bool (.arr 32 (.int .u32))))])) (decR [(0, (.pair .bool (.arr 32 (.int .u32)))), (0, (.pair .bool (.arr 32 (.int .u32))))] [(0, (.pair (.pair .bool (.arr 32 (.int .u32))) (.pair .bool (.arr 32 (.int .u32))))), (0, (.int .i64))]) = g_ref02_Make p.1 p.2 := fun p => by kernel_rfl
theorem ok92 : SpecOK Tryz.prog 92 spec92 :=
  fn_ok mixed_ok ⟨⟨tab_ok, (fns_cons ok112 (fns_cons ok115 (fns_cons ok124 (fns_cons ok116 (fns_cons ok114 fns_nil)))))⟩, eq_ok, ft_ok, el_ok⟩ bodies_nil Tryz.func92 (goes Tryz.func92 (by kernel_rfl)) 0 [(0, (.pair .bool (.arr 32 (.int .u32)))), (0, (.pair .bool (.arr 32 (.int .u32))))] [(0, (.pair (.pair .bool (.arr 32 (.int .u32))) (.pair .bool (.arr 32 (.int .u32))))), (0, (.int .i64))] _ eq92

/-! fundadmin/fundadminref01.FromInt -/
noncomputable def spec110 : Spec := mkSpec [(0, (.int .i64))] [(0, (.pair .bool (.arr 32 (.int .u32))))] (fun p => g_ref01_FromInt p)
noncomputable def env110 : Env := { tab := tab, fns := [], bodies := [], loops := [], joins := [], fts := ftab, elts := eltab }
theorem eq110 : ∀ p, evFn env110 (inlN env110 0) 0 110 Tryz.f110 (argS 0 [(0, (.int .i64))] p) (argO 0 [(0, (.int .i64))] p) (denR [(0, (.pair .bool (.arr 32 (.int .u32))))] (refN 0 [(0, (.int .i64))])) (decR [(0, (.int .i64))] [(0, (.pair .bool (.arr 32 (.int .u32))))]) = g_ref01_FromInt p := fun p => by kernel_rfl
theorem ok110 : SpecOK Tryz.prog 110 spec110 :=
  fn_ok mixed_ok ⟨⟨tab_ok, fns_nil⟩, eq_ok, ft_ok, el_ok⟩ bodies_nil Tryz.func110 (goes Tryz.func110 (by kernel_rfl)) 0 [(0, (.int .i64))] [(0, (.pair .bool (.arr 32 (.int .u32))))] _ eq110

/-! fundadmin/fundadminref02.Of -/
noncomputable def spec73 : Spec := mkSpec [(0, (.int .i64)), (0, (.int .i64))] [(0, (.pair (.pair .bool (.arr 32 (.int .u32))) (.pair .bool (.arr 32 (.int .u32))))), (0, (.int .i64))] (fun p => g_ref02_Of p.1 p.2)
noncomputable def env73 : Env := { tab := tab, fns := [(110, spec110), (92, spec92)], bodies := [], loops := [], joins := [], fts := ftab, elts := eltab }
theorem eq73 : ∀ p, evFn env73 (inlN env73 0) 0 73 Tryz.f73 (argS 0 [(0, (.int .i64)), (0, (.int .i64))] p) (argO 0 [(0, (.int .i64)), (0, (.int .i64))] p) (denR [(0, (.pair (.pair .bool (.arr 32 (.int .u32))) (.pair .bool (.arr 32 (.int .u32))))), (0, (.int .i64))] (refN 0 [(0, (.int .i64)), (0, (.int .i64))])) (decR [(0, (.int .i64)), (0, (.int .i64))] [(0, (.pair (.pair .bool (.arr 32 (.int .u32))) (.pair .bool (.arr 32 (.int .u32))))), (0, (.int .i64))]) = g_ref02_Of p.1 p.2 := fun p => by kernel_rfl
theorem ok73 : SpecOK Tryz.prog 73 spec73 :=
  fn_ok mixed_ok ⟨⟨tab_ok, (fns_cons ok110 (fns_cons ok92 fns_nil))⟩, eq_ok, ft_ok, el_ok⟩ bodies_nil Tryz.func73 (goes Tryz.func73 (by kernel_rfl)) 0 [(0, (.int .i64)), (0, (.int .i64))] [(0, (.pair (.pair .bool (.arr 32 (.int .u32))) (.pair .bool (.arr 32 (.int .u32))))), (0, (.int .i64))] _ eq73

/-! fundadmin/fundadminexact.Over -/
noncomputable def spec29 : Spec := mkSpec [(0, (.int .i64)), (0, (.int .i64))] [(0, (.pair (.pair (.pair .bool (.arr 32 (.int .u32))) (.pair .bool (.arr 32 (.int .u32)))) (.int .i64)))] (fun p => g_exact_Over p.1 p.2)
noncomputable def env29 : Env := { tab := tab, fns := [(73, spec73)], bodies := [], loops := [], joins := [], fts := ftab, elts := eltab }
theorem eq29 : ∀ p, evFn env29 (inlN env29 0) 0 29 Tryz.f29 (argS 0 [(0, (.int .i64)), (0, (.int .i64))] p) (argO 0 [(0, (.int .i64)), (0, (.int .i64))] p) (denR [(0, (.pair (.pair (.pair .bool (.arr 32 (.int .u32))) (.pair .bool (.arr 32 (.int .u32)))) (.int .i64)))] (refN 0 [(0, (.int .i64)), (0, (.int .i64))])) (decR [(0, (.int .i64)), (0, (.int .i64))] [(0, (.pair (.pair (.pair .bool (.arr 32 (.int .u32))) (.pair .bool (.arr 32 (.int .u32)))) (.int .i64)))]) = g_exact_Over p.1 p.2 := fun p => by kernel_rfl
theorem ok29 : SpecOK Tryz.prog 29 spec29 :=
  fn_ok mixed_ok ⟨⟨tab_ok, (fns_cons ok73 fns_nil)⟩, eq_ok, ft_ok, el_ok⟩ bodies_nil Tryz.func29 (goes Tryz.func29 (by kernel_rfl)) 0 [(0, (.int .i64)), (0, (.int .i64))] [(0, (.pair (.pair (.pair .bool (.arr 32 (.int .u32))) (.pair .bool (.arr 32 (.int .u32)))) (.int .i64)))] _ eq29

/-! fundadmin/fundadminscene.Ratio -/
noncomputable def spec35 : Spec := mkSpec [(0, (.int .i64)), (0, (.int .i64))] [(0, (.pair (.pair .bool (.arr 32 (.int .u32))) (.pair .bool (.arr 32 (.int .u32)))))] (fun p => g_scene_Ratio p.1 p.2)
noncomputable def env35 : Env := { tab := tab, fns := [(29, spec29)], bodies := [], loops := [], joins := [], fts := ftab, elts := eltab }
theorem eq35 : ∀ p, evFn env35 (inlN env35 0) 0 35 Tryz.f35 (argS 0 [(0, (.int .i64)), (0, (.int .i64))] p) (argO 0 [(0, (.int .i64)), (0, (.int .i64))] p) (denR [(0, (.pair (.pair .bool (.arr 32 (.int .u32))) (.pair .bool (.arr 32 (.int .u32)))))] (refN 0 [(0, (.int .i64)), (0, (.int .i64))])) (decR [(0, (.int .i64)), (0, (.int .i64))] [(0, (.pair (.pair .bool (.arr 32 (.int .u32))) (.pair .bool (.arr 32 (.int .u32)))))]) = g_scene_Ratio p.1 p.2 := fun p => by kernel_rfl
theorem ok35 : SpecOK Tryz.prog 35 spec35 :=
  fn_ok mixed_ok ⟨⟨tab_ok, (fns_cons ok29 fns_nil)⟩, eq_ok, ft_ok, el_ok⟩ bodies_nil Tryz.func35 (goes Tryz.func35 (by kernel_rfl)) 0 [(0, (.int .i64)), (0, (.int .i64))] [(0, (.pair (.pair .bool (.arr 32 (.int .u32))) (.pair .bool (.arr 32 (.int .u32)))))] _ eq35

/-! fundadmin/fundadminref02.Valid -/
noncomputable def spec83 : Spec := mkSpec [(0, (.pair (.pair .bool (.arr 32 (.int .u32))) (.pair .bool (.arr 32 (.int .u32)))))] [(0, .bool)] (fun p => g_ref02_Valid p)
noncomputable def env83 : Env := { tab := tab, fns := [(112, spec112), (114, spec114), (115, spec115), (110, spec110)], bodies := [], loops := [], joins := [], fts := ftab, elts := eltab }
theorem eq83 : ∀ p, evFn env83 (inlN env83 0) 0 83 Tryz.f83 (argS 0 [(0, (.pair (.pair .bool (.arr 32 (.int .u32))) (.pair .bool (.arr 32 (.int .u32)))))] p) (argO 0 [(0, (.pair (.pair .bool (.arr 32 (.int .u32))) (.pair .bool (.arr 32 (.int .u32)))))] p) (denR [(0, .bool)] (refN 0 [(0, (.pair (.pair .bool (.arr 32 (.int .u32))) (.pair .bool (.arr 32 (.int .u32)))))])) (decR [(0, (.pair (.pair .bool (.arr 32 (.int .u32))) (.pair .bool (.arr 32 (.int .u32)))))] [(0, .bool)]) = g_ref02_Valid p := fun p => by kernel_rfl
theorem ok83 : SpecOK Tryz.prog 83 spec83 :=
  fn_ok mixed_ok ⟨⟨tab_ok, (fns_cons ok112 (fns_cons ok114 (fns_cons ok115 (fns_cons ok110 fns_nil))))⟩, eq_ok, ft_ok, el_ok⟩ bodies_nil Tryz.func83 (goes Tryz.func83 (by kernel_rfl)) 0 [(0, (.pair (.pair .bool (.arr 32 (.int .u32))) (.pair .bool (.arr 32 (.int .u32)))))] [(0, .bool)] _ eq83

/-! fundadmin/fundadminref01.Mul -/
noncomputable def spec123 : Spec := mkSpec [(0, (.pair .bool (.arr 32 (.int .u32)))), (0, (.pair .bool (.arr 32 (.int .u32))))] [(0, (.pair .bool (.arr 32 (.int .u32)))), (0, (.int .i64))] (fun p => g_ref01_Mul p.1 p.2)
noncomputable def env123 : Env := { tab := tab, fns := [(150, spec150), (119, spec119)], bodies := [], loops := [(123, [(8, { keepT := [2, 3, 4, 5, 6, 7, 8, 9, 21, 22, 23], keepO := [2, 3, 4], varT := [(10, (.int .u64)), (11, (.int .i64))], varO := [(6, (.arr 64 (.int .u32)))], outs := [.exit 2] }), (4, { keepT := [2, 3, 4, 5, 6, 7, 8], keepO := [2, 3, 4], varT := [(9, (.int .i64))], varO := [(6, (.arr 64 (.int .u32)))], outs := [.exit 0] }), (16, { keepT := [2, 3, 4, 6, 13], keepO := [2, 3, 6], varT := [(5, (.int .i64)), (14, (.int .i64))], varO := [(4, (.pair .bool (.arr 32 (.int .u32)))), (13, (.arr 32 (.int .u32)))], outs := [.ret, .exit 4] })])], joins := [], fts := ftab, elts := eltab }
theorem eq123 : ∀ p, evFn env123 (inlN env123 0) 0 123 Tryz.f123 (argS 0 [(0, (.pair .bool (.arr 32 (.int .u32)))), (0, (.pair .bool (.arr 32 (.int .u32))))] p) (argO 0 [(0, (.pair .bool (.arr 32 (.int .u32)))), (0, (.pair .bool (.arr 32 (.int .u32))))] p) (denR [(0, (.pair .bool (.arr 32 (.int .u32)))), (0, (.int .i64))] (refN 0 [(0, (.pair .bool (.arr 32 (.int .u32)))), (0, (.pair .bool (.arr 32 (.int .u32))))])) (decR [(0, (.pair .bool (.arr 32 (.int .u32)))), (0, (.pair .bool (.arr 32 (.int .u32))))] [(0, (.pair .bool (.arr 32 (.int .u32)))), (0, (.int .i64))]) = g_ref01_Mul p.1 p.2 := fun p => by kernel_rfl
theorem ok123 : SpecOK Tryz.prog 123 spec123 :=
  fn_ok mixed_ok ⟨⟨tab_ok, (fns_cons ok150 (fns_cons ok119 fns_nil))⟩, eq_ok, ft_ok, el_ok⟩ bodies_nil Tryz.func123 (goes Tryz.func123 (by kernel_rfl)) 0 [(0, (.pair .bool (.arr 32 (.int .u32)))), (0, (.pair .bool (.arr 32 (.int .u32))))] [(0, (.pair .bool (.arr 32 (.int .u32)))), (0, (.int .i64))] _ eq123

/-! fundadmin/fundadminref02.product -/
noncomputable def spec91 : Spec := mkSpec [(0, (.pair .bool (.arr 32 (.int .u32)))), (0, (.pair .bool (.arr 32 (.int .u32))))] [(0, (.pair .bool (.arr 32 (.int .u32))))] (fun p => g_ref02_product p.1 p.2)
noncomputable def env91 : Env := { tab := tab, fns := [(123, spec123)], bodies := [], loops := [], joins := [], fts := ftab, elts := eltab }
theorem eq91 : ∀ p, evFn env91 (inlN env91 0) 0 91 Tryz.f91 (argS 0 [(0, (.pair .bool (.arr 32 (.int .u32)))), (0, (.pair .bool (.arr 32 (.int .u32))))] p) (argO 0 [(0, (.pair .bool (.arr 32 (.int .u32)))), (0, (.pair .bool (.arr 32 (.int .u32))))] p) (denR [(0, (.pair .bool (.arr 32 (.int .u32))))] (refN 0 [(0, (.pair .bool (.arr 32 (.int .u32)))), (0, (.pair .bool (.arr 32 (.int .u32))))])) (decR [(0, (.pair .bool (.arr 32 (.int .u32)))), (0, (.pair .bool (.arr 32 (.int .u32))))] [(0, (.pair .bool (.arr 32 (.int .u32))))]) = g_ref02_product p.1 p.2 := fun p => by kernel_rfl
theorem ok91 : SpecOK Tryz.prog 91 spec91 :=
  fn_ok mixed_ok ⟨⟨tab_ok, (fns_cons ok123 fns_nil)⟩, eq_ok, ft_ok, el_ok⟩ bodies_nil Tryz.func91 (goes Tryz.func91 (by kernel_rfl)) 0 [(0, (.pair .bool (.arr 32 (.int .u32)))), (0, (.pair .bool (.arr 32 (.int .u32))))] [(0, (.pair .bool (.arr 32 (.int .u32))))] _ eq91

/-! fundadmin/fundadminref01.Add -/
noncomputable def spec90 : Spec := mkSpec [(0, (.pair .bool (.arr 32 (.int .u32)))), (0, (.pair .bool (.arr 32 (.int .u32))))] [(0, (.pair .bool (.arr 32 (.int .u32)))), (0, (.int .i64))] (fun p => g_ref01_Add p.1 p.2)
noncomputable def env90 : Env := { tab := tab, fns := [(119, spec119), (120, spec120), (121, spec121), (122, spec122)], bodies := [], loops := [], joins := [], fts := ftab, elts := eltab }
theorem eq90 : ∀ p, evFn env90 (inlN env90 0) 0 90 Tryz.f90 (argS 0 [(0, (.pair .bool (.arr 32 (.int .u32)))), (0, (.pair .bool (.arr 32 (.int .u32))))] p) (argO 0 [(0, (.pair .bool (.arr 32 (.int .u32)))), (0, (.pair .bool (.arr 32 (.int .u32))))] p) (denR [(0, (.pair .bool (.arr 32 (.int .u32)))), (0, (.int .i64))] (refN 0 [(0, (.pair .bool (.arr 32 (.int .u32)))), (0, (.pair .bool (.arr 32 (.int .u32))))])) (decR [(0, (.pair .bool (.arr 32 (.int .u32)))), (0, (.pair .bool (.arr 32 (.int .u32))))] [(0, (.pair .bool (.arr 32 (.int .u32)))), (0, (.int .i64))]) = g_ref01_Add p.1 p.2 := fun p => by kernel_rfl
theorem ok90 : SpecOK Tryz.prog 90 spec90 :=
  fn_ok mixed_ok ⟨⟨tab_ok, (fns_cons ok119 (fns_cons ok120 (fns_cons ok121 (fns_cons ok122 fns_nil))))⟩, eq_ok, ft_ok, el_ok⟩ bodies_nil Tryz.func90 (goes Tryz.func90 (by kernel_rfl)) 0 [(0, (.pair .bool (.arr 32 (.int .u32)))), (0, (.pair .bool (.arr 32 (.int .u32))))] [(0, (.pair .bool (.arr 32 (.int .u32)))), (0, (.int .i64))] _ eq90

/-! fundadmin/fundadminref02.Add -/
noncomputable def spec52 : Spec := mkSpec [(0, (.pair (.pair .bool (.arr 32 (.int .u32))) (.pair .bool (.arr 32 (.int .u32))))), (0, (.pair (.pair .bool (.arr 32 (.int .u32))) (.pair .bool (.arr 32 (.int .u32)))))] [(0, (.pair (.pair .bool (.arr 32 (.int .u32))) (.pair .bool (.arr 32 (.int .u32))))), (0, (.int .i64))] (fun p => g_ref02_Add p.1 p.2)
noncomputable def env52 : Env := { tab := tab, fns := [(83, spec83), (91, spec91), (90, spec90), (92, spec92)], bodies := [], loops := [], joins := [], fts := ftab, elts := eltab }
theorem eq52 : ∀ p, evFn env52 (inlN env52 0) 0 52 Tryz.f52 (argS 0 [(0, (.pair (.pair .bool (.arr 32 (.int .u32))) (.pair .bool (.arr 32 (.int .u32))))), (0, (.pair (.pair .bool (.arr 32 (.int .u32))) (.pair .bool (.arr 32 (.int .u32)))))] p) (argO 0 [(0, (.pair (.pair .bool (.arr 32 (.int .u32))) (.pair .bool (.arr 32 (.int .u32))))), (0, (.pair (.pair .bool (.arr 32 (.int .u32))) (.pair .bool (.arr 32 (.int .u32)))))] p) (denR [(0, (.pair (.pair .bool (.arr 32 (.int .u32))) (.pair .bool (.arr 32 (.int .u32))))), (0, (.int .i64))] (refN 0 [(0, (.pair (.pair .bool (.arr 32 (.int .u32))) (.pair .bool (.arr 32 (.int .u32))))), (0, (.pair (.pair .bool (.arr 32 (.int .u32))) (.pair .bool (.arr 32 (.int .u32)))))])) (decR [(0, (.pair (.pair .bool (.arr 32 (.int .u32))) (.pair .bool (.arr 32 (.int .u32))))), (0, (.pair (.pair .bool (.arr 32 (.int .u32))) (.pair .bool (.arr 32 (.int .u32)))))] [(0, (.pair (.pair .bool (.arr 32 (.int .u32))) (.pair .bool (.arr 32 (.int .u32))))), (0, (.int .i64))]) = g_ref02_Add p.1 p.2 := fun p => by kernel_rfl
theorem ok52 : SpecOK Tryz.prog 52 spec52 :=
  fn_ok mixed_ok ⟨⟨tab_ok, (fns_cons ok83 (fns_cons ok91 (fns_cons ok90 (fns_cons ok92 fns_nil))))⟩, eq_ok, ft_ok, el_ok⟩ bodies_nil Tryz.func52 (goes Tryz.func52 (by kernel_rfl)) 0 [(0, (.pair (.pair .bool (.arr 32 (.int .u32))) (.pair .bool (.arr 32 (.int .u32))))), (0, (.pair (.pair .bool (.arr 32 (.int .u32))) (.pair .bool (.arr 32 (.int .u32)))))] [(0, (.pair (.pair .bool (.arr 32 (.int .u32))) (.pair .bool (.arr 32 (.int .u32))))), (0, (.int .i64))] _ eq52

/-! fundadmin/fundadminref02.Mul -/
noncomputable def spec53 : Spec := mkSpec [(0, (.pair (.pair .bool (.arr 32 (.int .u32))) (.pair .bool (.arr 32 (.int .u32))))), (0, (.pair (.pair .bool (.arr 32 (.int .u32))) (.pair .bool (.arr 32 (.int .u32)))))] [(0, (.pair (.pair .bool (.arr 32 (.int .u32))) (.pair .bool (.arr 32 (.int .u32))))), (0, (.int .i64))] (fun p => g_ref02_Mul p.1 p.2)
noncomputable def env53 : Env := { tab := tab, fns := [(83, spec83), (91, spec91), (92, spec92)], bodies := [], loops := [], joins := [], fts := ftab, elts := eltab }
theorem eq53 : ∀ p, evFn env53 (inlN env53 0) 0 53 Tryz.f53 (argS 0 [(0, (.pair (.pair .bool (.arr 32 (.int .u32))) (.pair .bool (.arr 32 (.int .u32))))), (0, (.pair (.pair .bool (.arr 32 (.int .u32))) (.pair .bool (.arr 32 (.int .u32)))))] p) (argO 0 [(0, (.pair (.pair .bool (.arr 32 (.int .u32))) (.pair .bool (.arr 32 (.int .u32))))), (0, (.pair (.pair .bool (.arr 32 (.int .u32))) (.pair .bool (.arr 32 (.int .u32)))))] p) (denR [(0, (.pair (.pair .bool (.arr 32 (.int .u32))) (.pair .bool (.arr 32 (.int .u32))))), (0, (.int .i64))] (refN 0 [(0, (.pair (.pair .bool (.arr 32 (.int .u32))) (.pair .bool (.arr 32 (.int .u32))))), (0, (.pair (.pair .bool (.arr 32 (.int .u32))) (.pair .bool (.arr 32 (.int .u32)))))])) (decR [(0, (.pair (.pair .bool (.arr 32 (.int .u32))) (.pair .bool (.arr 32 (.int .u32))))), (0, (.pair (.pair .bool (.arr 32 (.int .u32))) (.pair .bool (.arr 32 (.int .u32)))))] [(0, (.pair (.pair .bool (.arr 32 (.int .u32))) (.pair .bool (.arr 32 (.int .u32))))), (0, (.int .i64))]) = g_ref02_Mul p.1 p.2 := fun p => by kernel_rfl
theorem ok53 : SpecOK Tryz.prog 53 spec53 :=
  fn_ok mixed_ok ⟨⟨tab_ok, (fns_cons ok83 (fns_cons ok91 (fns_cons ok92 fns_nil)))⟩, eq_ok, ft_ok, el_ok⟩ bodies_nil Tryz.func53 (goes Tryz.func53 (by kernel_rfl)) 0 [(0, (.pair (.pair .bool (.arr 32 (.int .u32))) (.pair .bool (.arr 32 (.int .u32))))), (0, (.pair (.pair .bool (.arr 32 (.int .u32))) (.pair .bool (.arr 32 (.int .u32)))))] [(0, (.pair (.pair .bool (.arr 32 (.int .u32))) (.pair .bool (.arr 32 (.int .u32))))), (0, (.int .i64))] _ eq53

/-! fundadmin/fundadminref02.negative -/
noncomputable def spec84 : Spec := mkSpec [(0, (.pair (.pair .bool (.arr 32 (.int .u32))) (.pair .bool (.arr 32 (.int .u32)))))] [(0, (.pair (.pair .bool (.arr 32 (.int .u32))) (.pair .bool (.arr 32 (.int .u32)))))] (fun p => g_ref02_negative p)
noncomputable def env84 : Env := { tab := tab, fns := [(116, spec116)], bodies := [], loops := [], joins := [], fts := ftab, elts := eltab }
theorem eq84 : ∀ p, evFn env84 (inlN env84 0) 0 84 Tryz.f84 (argS 0 [(0, (.pair (.pair .bool (.arr 32 (.int .u32))) (.pair .bool (.arr 32 (.int .u32)))))] p) (argO 0 [(0, (.pair (.pair .bool (.arr 32 (.int .u32))) (.pair .bool (.arr 32 (.int .u32)))))] p) (denR [(0, (.pair (.pair .bool (.arr 32 (.int .u32))) (.pair .bool (.arr 32 (.int .u32)))))] (refN 0 [(0, (.pair (.pair .bool (.arr 32 (.int .u32))) (.pair .bool (.arr 32 (.int .u32)))))])) (decR [(0, (.pair (.pair .bool (.arr 32 (.int .u32))) (.pair .bool (.arr 32 (.int .u32)))))] [(0, (.pair (.pair .bool (.arr 32 (.int .u32))) (.pair .bool (.arr 32 (.int .u32)))))]) = g_ref02_negative p := fun p => by kernel_rfl
theorem ok84 : SpecOK Tryz.prog 84 spec84 :=
  fn_ok mixed_ok ⟨⟨tab_ok, (fns_cons ok116 fns_nil)⟩, eq_ok, ft_ok, el_ok⟩ bodies_nil Tryz.func84 (goes Tryz.func84 (by kernel_rfl)) 0 [(0, (.pair (.pair .bool (.arr 32 (.int .u32))) (.pair .bool (.arr 32 (.int .u32)))))] [(0, (.pair (.pair .bool (.arr 32 (.int .u32))) (.pair .bool (.arr 32 (.int .u32)))))] _ eq84

/-! fundadmin/fundadminref02.Sub -/
noncomputable def spec49 : Spec := mkSpec [(0, (.pair (.pair .bool (.arr 32 (.int .u32))) (.pair .bool (.arr 32 (.int .u32))))), (0, (.pair (.pair .bool (.arr 32 (.int .u32))) (.pair .bool (.arr 32 (.int .u32)))))] [(0, (.pair (.pair .bool (.arr 32 (.int .u32))) (.pair .bool (.arr 32 (.int .u32))))), (0, (.int .i64))] (fun p => g_ref02_Sub p.1 p.2)
noncomputable def env49 : Env := { tab := tab, fns := [(83, spec83), (84, spec84), (52, spec52)], bodies := [], loops := [], joins := [], fts := ftab, elts := eltab }
theorem eq49 : ∀ p, evFn env49 (inlN env49 0) 0 49 Tryz.f49 (argS 0 [(0, (.pair (.pair .bool (.arr 32 (.int .u32))) (.pair .bool (.arr 32 (.int .u32))))), (0, (.pair (.pair .bool (.arr 32 (.int .u32))) (.pair .bool (.arr 32 (.int .u32)))))] p) (argO 0 [(0, (.pair (.pair .bool (.arr 32 (.int .u32))) (.pair .bool (.arr 32 (.int .u32))))), (0, (.pair (.pair .bool (.arr 32 (.int .u32))) (.pair .bool (.arr 32 (.int .u32)))))] p) (denR [(0, (.pair (.pair .bool (.arr 32 (.int .u32))) (.pair .bool (.arr 32 (.int .u32))))), (0, (.int .i64))] (refN 0 [(0, (.pair (.pair .bool (.arr 32 (.int .u32))) (.pair .bool (.arr 32 (.int .u32))))), (0, (.pair (.pair .bool (.arr 32 (.int .u32))) (.pair .bool (.arr 32 (.int .u32)))))])) (decR [(0, (.pair (.pair .bool (.arr 32 (.int .u32))) (.pair .bool (.arr 32 (.int .u32))))), (0, (.pair (.pair .bool (.arr 32 (.int .u32))) (.pair .bool (.arr 32 (.int .u32)))))] [(0, (.pair (.pair .bool (.arr 32 (.int .u32))) (.pair .bool (.arr 32 (.int .u32))))), (0, (.int .i64))]) = g_ref02_Sub p.1 p.2 := fun p => by kernel_rfl
theorem ok49 : SpecOK Tryz.prog 49 spec49 :=
  fn_ok mixed_ok ⟨⟨tab_ok, (fns_cons ok83 (fns_cons ok84 (fns_cons ok52 fns_nil)))⟩, eq_ok, ft_ok, el_ok⟩ bodies_nil Tryz.func49 (goes Tryz.func49 (by kernel_rfl)) 0 [(0, (.pair (.pair .bool (.arr 32 (.int .u32))) (.pair .bool (.arr 32 (.int .u32))))), (0, (.pair (.pair .bool (.arr 32 (.int .u32))) (.pair .bool (.arr 32 (.int .u32)))))] [(0, (.pair (.pair .bool (.arr 32 (.int .u32))) (.pair .bool (.arr 32 (.int .u32))))), (0, (.int .i64))] _ eq49

end Go.Ev
