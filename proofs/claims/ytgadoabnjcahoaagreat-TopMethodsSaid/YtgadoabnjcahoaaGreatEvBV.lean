/- The evaluator keeps its promises: what it makes of a function is what every call of the function does. -/
import Derived.Test.YtgadoabnjcahoaaGreatEvAV
import Derived.Orders
import Derived.LoopN
import Derived.Scope
set_option exponentiation.threshold 2000
namespace Go.Ev
set_option linter.unusedVariables false

section
variable {P : Program} {E : Env} {nt B : Nat} {st : St} {o : Oper} {R : Type} {r : R}

theorem fold_set (o : Nat) : ∀ (vs : List Value) (k : Nat) (cs : Array Value), o + k + vs.length ≤ cs.size →
    ((vs.zipIdx k).foldl (fun cs x => cs.setIfInBounds (o + x.2) x.1) cs) = (cs.toList.take (o + k) ++ vs ++ cs.toList.drop (o + k + vs.length)).toArray
  | [], k, cs, h => by simp
  | v :: vs, k, cs, h => by
    simp only [List.length_cons] at h
    simp only [List.zipIdx_cons, List.foldl_cons]
    rw [fold_set o vs (k + 1) (cs.setIfInBounds (o + k) v) (by simp; omega)]
    congr 1
    simp only [Array.toList_setIfInBounds, List.length_cons]
    have hk : o + k < cs.toList.length := by simp; omega
    rw [show o + (k + 1) = o + k + 1 by omega, List.take_succ_eq_append_getElem (by simpa using hk), List.getElem_set_self, List.take_set_of_le (by omega), List.drop_set_of_lt (by omega)]
    simp only [List.append_assoc, List.cons_append, List.nil_append]
    rw [show o + k + 1 + vs.length = o + k + (vs.length + 1) by omega]

theorem fill_cons {place : Nat → Option (Nat × Nat)} {cs ds : List Value} {i o : Nat} {v : Value} {rest : List (Nat × Value)} (hp : place i = some (o, ds.length)) (hv : v.cells = ds.toArray) (hl : o + ds.length ≤ cs.length) :
    Instr.fill place cs.toArray ((i, v) :: rest) = Instr.fill place (cs.take o ++ ds ++ cs.drop (o + ds.length)).toArray rest := by
  have h := fold_set o ds 0 cs.toArray (by simpa using hl)
  simp only [Nat.add_zero] at h
  have h2 : ¬ (ds.length ≠ ds.length ∨ o + ds.length > cs.length) := by omega
  simp only [Instr.fill, hp, hv]
  simp only [List.size_toArray, ne_eq, not_true_eq_false, decide_false, Bool.false_or, decide_eq_true_eq]
  rw [if_neg (by omega)]
  have : (ds.toArray.zipIdx.foldl (fun cs x => cs.setIfInBounds (o + x.2) x.1) cs.toArray) = (ds.zipIdx.foldl (fun cs x => cs.setIfInBounds (o + x.2) x.1) cs.toArray) := by
    simp
  rw [← h]
  simp

theorem buildS_fill {τ : Ty} {n : Nat} {place : Nat → Option (Nat × Nat)} (hplace : ∀ i p e, partPath τ n i = some p → tyAt τ p = some e → place i = some (off τ p, e.size) ∧ okPath τ p)
    {ρ : Nat → Nat} {S : Stab} {a : Act} {w : World} (hr : Rel nt B ρ S st a w) : ∀ (ps : List (Nat × Operand)) (x y : τ.den) (cs : List Value), buildS st n τ x ps = some y → Rep S w τ x cs →
      ∃ cs', Instr.fill place cs.toArray (ps.map fun q => (q.1, a.eval q.2)) = some (List.toArray cs') ∧ Rep S w τ y cs'
  | [], x, y, cs, h, hx => by simp only [buildS, Option.some.injEq] at h; subst h; exact ⟨cs, rfl, hx⟩
  | (i, o) :: ps, x, y, cs, h, hx => by
    simp only [buildS] at h
    split at h
    · rename_i p hp
      split at h
      · rename_i e he
        split at h
        · rename_i v hv
          split at h
          · rename_i z hz
            split at h
            · rename_i y' hy
              obtain ⟨h1, ok⟩ := hplace i p e hp he
              obtain ⟨ds, hds, ev⟩ := SV.as_rel hz (hr.val hv).1
              obtain ⟨g1, g2⟩ := Rep.put p τ hx hy ok hds
              have hl := Rep.length e hds
              obtain ⟨cs', q1, q2⟩ := buildS_fill hplace hr ps y' y _ h g1
              refine ⟨cs', ?_, q2⟩
              simp only [List.map_cons]
              rw [fill_cons (ds := ds) (o := off τ p) (by rw [h1, hl]) (by rw [ev]; exact hds.pack_cells) g2]
              exact q1
            · simp at h
          · simp at h
        · simp at h
      · simp at h
    · simp at h

theorem mapM_places {tab : List (Nat × (Ty × Nat))} (htab : TabOK P tab) : ∀ {fs : List Field} {es : List Ty}, tabTys tab fs = some es →
    ∃ pl, fs.mapM (fun f => (P.info? f.type).map fun i => (f.offset, i.size)) = some pl ∧ pl.length = fs.length ∧ ∀ (i : Nat) (f : Field) (e : Ty), fs[i]? = some f → es[i]? = some e → pl[i]? = some (f.offset, e.size)
  | [], es, h => ⟨[], rfl, rfl, fun i f e hf => by simp at hf⟩
  | g :: gs, es, h => by
    simp only [tabTys] at h
    split at h
    · rename_i τ n hl
      split at h
      · rename_i l hg
        simp only [Option.some.injEq] at h; subst h
        obtain ⟨pl, h1, h2, h3⟩ := mapM_places htab hg
        have hi := (htab _ _ _ hl).info
        obtain ⟨i, hii⟩ : ∃ i, P.info? g.type = some i := by
          cases hq : P.info? g.type with
          | none => rw [hq] at hi; simp at hi
          | some i => exact ⟨i, rfl⟩
        have hsz : i.size = τ.size := by rw [hii] at hi; simp at hi; exact hi.1
        refine ⟨(g.offset, τ.size) :: pl, by simp [List.mapM_cons, hii, h1, hsz], by simp [h2], fun j f e hf he => ?_⟩
        cases j with
        | zero => simp at hf he; subst hf; subst he; rfl
        | succ j => simpa using h3 j f e (by simpa using hf) (by simpa using he)
      · simp at h
    · simp at h

theorem good_build {k : K R} (hE : EnvOK P E) (T : Nat) (ps : Array (Nat × Operand)) (hop : o.op = .build T ps) (hd : dstOK nt o.dst = true)
    (h : (match E.ty T with
    | some (τ, n) => bif τ.agg then (match buildS st n τ τ.dflt ps.toList with
      | some x => k (.tv ⟨τ, x⟩) [] []
      | none => none) else none
    | none => none) = some r) : Good P nt st o k r := by
  split at h
  · rename_i τ n hT
    have ht := hE.tab _ _ _ hT
    cases hagg : τ.agg with
    | false => rw [hagg] at h; simp at h
    | true =>
    rw [hagg] at h
    simp only [cond_true] at h
    split at h
    · rename_i x hb
      refine ⟨_, [], [], h, OpSem.pure hd fun st' g1 g2 B ρ S a w hr => ?_⟩
      have hb' : buildS st' n τ τ.dflt ps.toList = some x := by
        have hag : ∀ q ∈ ps.toList, st'.val q.2 = st.val q.2 := fun q hq => val_agree g1 (by simp only [hop, Op.operands]; exact List.mem_map.2 ⟨q, hq, rfl⟩)
        have gen : ∀ (l : List (Nat × Operand)) (z : τ.den), (∀ q ∈ l, st'.val q.2 = st.val q.2) → buildS st' n τ z l = buildS st n τ z l := by
          intro l
          induction l with
          | nil => intro z _; rfl
          | cons q l ih =>
            intro z hq
            obtain ⟨i, oo⟩ := q
            simp only [buildS, hq (i, oo) (by simp)]
            split <;> try rfl
            split <;> try rfl
            split <;> try rfl
            split <;> try rfl
            split <;> try rfl
            exact ih _ (fun q h => hq q (by simp [h]))
        rw [gen _ _ hag]; exact hb
      obtain ⟨D, hu, hD⟩ := ht.und
      have hzero : (P.info? T).map (·.zero) = some (some (τ.pack τ.zeros)) := by
        have := ht.info
        cases hq : P.info? T with
        | none => rw [hq] at this; simp at this
        | some i => rw [hq] at this; simp at this; simp [this.2]
      obtain ⟨it, hit⟩ : ∃ i, P.info? T = some i := by
        cases hq : P.info? T with
        | none => rw [hq] at hzero; simp at hzero
        | some i => exact ⟨i, rfl⟩
      have hz2 : it.zero = some (τ.pack τ.zeros) := by rw [hit] at hzero; simpa using hzero
      have hzc : (τ.pack τ.zeros).cells = τ.zeros.toArray := (Rep.dflt S w τ).pack_cells
      have hparts : (ps.map fun q => (q.1, a.eval q.2)).toList = ps.toList.map fun q => (q.1, a.eval q.2) := by simp
      have fin : ∀ place, (∀ i p e, partPath τ n i = some p → tyAt τ p = some e → place i = some (off τ p, e.size) ∧ okPath τ p) →
          (∀ cs', Instr.fill place τ.zeros.toArray (ps.toList.map fun q => (q.1, a.eval q.2)) = some (List.toArray cs') → P.built T (ps.toList.map fun q => (q.1, a.eval q.2)) = some (List.toArray cs')) → τ.agg = true →
          ∃ x_1, (execOp a.eval o).run P w = .ok (.value x_1) w ∧ SVRel ρ S w (.tv ⟨τ, x⟩) x_1 ∧ ∀ m, m ∈ (SV.tv ⟨τ, x⟩).names → st'.D m := by
        intro place hpl hbuilt hagg
        obtain ⟨cs', q1, q2⟩ := buildS_fill hpl hr ps.toList _ x _ hb' (Rep.dflt S w τ)
        have hrun := run_build (P := P) w T (ps.map fun q => (q.1, a.eval q.2)) (List.toArray cs') (by rw [hparts]; exact hbuilt cs' q1)
        refine ⟨.agg (List.toArray cs'), ?_, ⟨cs', q2, by simp [Ty.pack, hagg]⟩, tv_names _⟩
        simp only [execOp, hop]
        rw [Sem.run_bind]
        have : (Instr.build T (Array.map (fun x => match x with | (i, x) => (i, a.eval x)) ps)) = Instr.build T (ps.map fun q => (q.1, a.eval q.2)) := rfl
        rw [this, hrun]; rfl
      cases D with
      | array m E' =>
        simp only [descOK] at hD
        cases τ with
        | arr m' e =>
          obtain ⟨E'', k', hu', h2, hl, h0⟩ := und_arr ht
          have hsz := (hE.tab _ _ _ hl).info
          obtain ⟨ie, hie⟩ : ∃ i, P.info? E'' = some i := by
            cases hq : P.info? E'' with
            | none => rw [hq] at hsz; simp at hsz
            | some i => exact ⟨i, rfl⟩
          have hsz2 : ie.size = e.size := by rw [hie] at hsz; simp at hsz; exact hsz.1
          refine fin (fun i => some (i * e.size, e.size)) ?_ ?_ rfl
          · intro i p e1 hp he1
            simp only [partPath] at hp
            cases hlt : Nat.blt i m' with
            | false => rw [hlt] at hp; simp at hp
            | true =>
              rw [hlt] at hp
              simp only [cond_true, Option.some.injEq] at hp; subst hp
              have hlt' : i < m' := by simpa using hlt
              have : tyAt (.arr m' e) [.at (i : Int)] = some e := by cases e <;> rfl
              rw [this] at he1
              simp only [Option.some.injEq] at he1; subst he1
              refine ⟨?_, ⟨by omega, by cases e <;> trivial⟩⟩
              have : off (.arr m' e) [.at (i : Int)] = i * e.size := by simp only [off]; cases e <;> simp
              simp [this]
          · intro cs' hf
            simp only [Program.built, hit, hu', hz2, hie, hzc, hsz2]
            exact hf
        | _ => first | (simp [Ty.agg] at hagg; done) | (simp at hD; done) | (simp [descOK] at hD; done)
      | struct fs =>
        obtain ⟨es, h1, h2, h3, h4, h5⟩ := descOK_struct hD
        obtain ⟨pl, p1, p2, p3⟩ := mapM_places hE.tab h1
        refine fin (fun i => pl.toArray[i]?) ?_ ?_ hagg
        · intro i p e1 hp he1
          have hp' : (bif Nat.blt i n then some (fieldSteps n i) else none) = some p := by
            cases τ <;> first
              | exact hp
              | (exfalso
                 obtain ⟨E'', k', hu', _⟩ := und_arr ht
                 rw [hu] at hu'; simp at hu')
          cases hlt : Nat.blt i n with
          | false => rw [hlt] at hp'; simp at hp'
          | true =>
            rw [hlt] at hp'
            simp only [cond_true, Option.some.injEq] at hp'; subst hp'
            have hlt' : i < n := by simpa using hlt
            obtain ⟨fs', f, m, hu', hf, ho, hl, ok, h0⟩ := struct_field ht he1 (ht.struct hlt' he1)
            rw [hu] at hu'; simp only [Option.some.injEq, TypeDesc.struct.injEq] at hu'; subst hu'
            have hf' : fs.toList[i]? = some f := by simpa using hf
            obtain ⟨e2, m2, k1, k2⟩ := tabTys_get h1 i f hf'
            rw [hl] at k2
            simp only [Option.some.injEq, Prod.mk.injEq] at k2
            rw [← k2.1] at k1
            have := p3 i f e1 hf' k1
            refine ⟨by simpa [ho] using this, ok⟩
        · intro cs' hf
          simp only [Program.built, hit, hu, hz2, p1, hzc]
          exact hf
      | _ => exfalso; cases τ <;> first | (simp [Ty.agg] at hagg; done) | (simp at hD; done) | (simp [descOK] at hD; done)
    · simp at h
  · simp at h
end
end Go.Ev

namespace Go.Ev
set_option linter.unusedVariables false

section
variable {P : Program} {E : Env} {nt B : Nat} {st : St} {o : Oper} {R : Type} {r : R}

theorem litS_fill {e : Ty} {ρ : Nat → Nat} {S : Stab} {a : Act} {w : World} (hr : Rel nt B ρ S st a w) : ∀ (ps : List (Nat × Operand)) (j : Nat) (l : List e.den) (cs : List Value), litS st e ps j = some l → (j + l.length) * e.size ≤ cs.length →
      ∃ ds, Instr.fill (fun i => some (i * e.size, e.size)) cs.toArray (ps.map fun q => (q.1, a.eval q.2)) = some (List.toArray (cs.take (j * e.size) ++ ds ++ cs.drop ((j + l.length) * e.size))) ∧ RepL (Rep S w e) l ds
  | [], j, l, cs, h, hl => by
    simp only [litS, Option.some.injEq] at h; subst h
    exact ⟨[], by simp [Instr.fill], rfl⟩
  | (i, o) :: ps, j, l, cs, h, hl => by
    simp only [litS] at h
    cases hb : Nat.beq i j with
    | false => rw [hb] at h; simp at h
    | true =>
      have e1 := Nat.eq_of_beq_eq_true hb
      subst e1
      rw [hb] at h
      simp only [cond_true] at h
      split at h
      · rename_i v hv
        split at h
        · rename_i x hx
          split at h
          · rename_i l' hl'
            simp only [Option.some.injEq] at h; subst h
            obtain ⟨c, hc, ev⟩ := SV.as_rel hx (hr.val hv).1
            have hlc := Rep.length e hc
            simp only [List.length_cons] at hl
            have hle : i * e.size + e.size + l'.length * e.size ≤ cs.length := by
              have : (i + (l'.length + 1)) * e.size = i * e.size + e.size + l'.length * e.size := by rw [Nat.add_mul, Nat.succ_mul]; omega
              omega
            obtain ⟨ds, q1, q2⟩ := litS_fill hr ps (i + 1) l' (cs.take (i * e.size) ++ c ++ cs.drop (i * e.size + c.length)) hl' (by
              simp only [List.length_append, List.length_take, List.length_drop]
              have : (i + 1 + l'.length) * e.size = i * e.size + e.size + l'.length * e.size := by rw [Nat.add_mul, Nat.succ_mul]
              omega)
            refine ⟨c ++ ds, ?_, ⟨c, ds, rfl, hc, q2⟩⟩
            simp only [List.map_cons]
            rw [fill_cons (ds := c) (o := i * e.size) (by rw [hlc]) (by rw [ev]; exact hc.pack_cells) (by omega), q1]
            congr 2
            have s1 : (i + 1) * e.size = i * e.size + e.size := by rw [Nat.succ_mul]
            have s2 : (i + 1 + l'.length) * e.size = i * e.size + e.size + l'.length * e.size := by rw [Nat.add_mul, Nat.succ_mul]
            have s3 : (i + (l'.length + 1)) * e.size = i * e.size + e.size + l'.length * e.size := by rw [Nat.add_mul, Nat.succ_mul]; omega
            have t1 : (cs.take (i * e.size)).length = i * e.size := by simp; omega
            simp only [List.length_cons]
            rw [s1, s2, s3]
            have u1 : (cs.take (i * e.size) ++ c ++ cs.drop (i * e.size + c.length)).take (i * e.size + e.size) = cs.take (i * e.size) ++ c := by
              have : (cs.take (i * e.size) ++ c).length = i * e.size + e.size := by rw [List.length_append, t1, hlc]
              rw [← this, List.take_left]
            have u2 : (cs.take (i * e.size) ++ c ++ cs.drop (i * e.size + c.length)).drop (i * e.size + e.size + l'.length * e.size) = cs.drop (i * e.size + e.size + l'.length * e.size) := by
              have : (cs.take (i * e.size) ++ c).length = i * e.size + e.size := by rw [List.length_append, t1, hlc]
              rw [← List.drop_drop, ← this, List.drop_left, List.drop_drop, this, hlc]
            rw [u1, u2]
            simp
          · simp at h
        · simp at h
      · simp at h

theorem litS_agree {st' : St} {e : Ty} : ∀ (ps : List (Nat × Operand)) (j : Nat), (∀ q ∈ ps, st'.val q.2 = st.val q.2) → litS st' e ps j = litS st e ps j
  | [], _, _ => rfl
  | (i, o) :: ps, j, h => by
    simp only [litS]
    rw [h (i, o) (by simp), litS_agree ps (j + 1) fun q hq => h q (by simp [hq])]

/-- A new stable row. -/
theorem OpSem.row {v : SV} (hd : dstOK nt o.dst = true) (hn0 : v.names = [])
    (h : ∀ st' : St, (∀ t, t ∈ opTmps o.op.operands.toList → st'.tmp t = st.tmp t) → ∀ B ρ S a w, Rel nt B ρ S st' a w →
      ∃ cs T x, (execOp a.eval o).run P w = .ok (.value x) (w.alloc (.cells cs T)) ∧ ∀ S', Le S w S' (w.alloc (.cells cs T)) → (∀ i, S' w.heap.size i) → SVRel ρ S' (w.alloc (.cells cs T)) v x) :
    OpSem P nt o st v [] [] := by
  intro st' h1 _ _ B ρ S a w hr Q
  obtain ⟨cs, T, x, hrun, hrel⟩ := h st' h1 B ρ S a w hr.toRel
  let S' : Stab := fun b i => S b i ∨ b = w.heap.size
  have hlt : ∀ m, st'.D m → ρ m < w.heap.size := fun m dm => by
    obtain ⟨t, ht⟩ := Option.isSome_iff_exists.1 dm
    exact (hr.obj m t ht).lt
  have hD : ∀ m, (st'.set o.dst v []).D m ↔ st'.D m := fun m => by unfold St.D; rw [St.obj_set]; rfl
  have le : Le S w S' (w.alloc (.cells cs T)) := ⟨fun b i s => .inl s, (alloc_le S w _ hr.sb).cell⟩
  have hext : Ext ρ S st'.D w ρ S' (st'.set o.dst v []).D (w.alloc (.cells cs T)) := by
    refine ⟨fun m dm => (hD m).2 dm, fun _ _ => rfl, fun m dm nd => absurd ((hD m).1 dm) nd, fun _ _ s => .inl s, fun b i s => ?_, by simp, fun b hb _ => heap_alloc_lt w _ hb, rfl, rfl, rfl⟩
    rcases s with s | s
    · exact .inl s
    · right; rw [s]; exact Nat.le_refl _
  refine wp_value hrun ⟨ρ, S', ?_, hr.up hext⟩
  refine hr.step hd hext (hrel S' le (fun i => .inr rfl)) (fun n hn => by rw [hn0] at hn; simp at hn) (fun n t e => by simp [lk] at e) ?_ (fun n m dn dm e => hr.inj n m ((hD n).1 dn) ((hD m).1 dm) e) ?_
  · intro n dn _
    refine ⟨heap_alloc_lt w _ (hlt n dn), fun i s => ?_⟩
    rcases s with s | s
    · exact hr.off n dn i s
    · have := hlt n dn; omega
  · intro b i s
    rcases s with s | s
    · have := hr.sb b i s; simp; omega
    · rw [s]; simp

theorem good_buildSlice {k : K R} (hE : EnvOK P E) (T n : Nat) (ps : Array (Nat × Operand)) (hop : o.op = .buildSlice T n ps) (hd : dstOK nt o.dst = true)
    (h : (match E.ty T with
    | some (.sl e, _) => match litS st e ps.toList 0 with
      | some l => bif Nat.beq l.length n && Nat.ble (n * e.size) 16777216 then k (.tv ⟨.sl e, l⟩) [] [] else none
      | none => none
    | _ => none) = some r) : Good P nt st o k r := by
  split at h
  · rename_i e q hT
    obtain ⟨E', k', hu, hl, h0⟩ := und_sl (hE.tab _ _ _ hT)
    split at h
    · rename_i l hlit
      cases hb : Nat.beq l.length n && Nat.ble (n * e.size) 16777216 with
      | false => rw [hb] at h; simp at h
      | true =>
        rw [hb] at h
        simp only [cond_true] at h
        rw [Bool.and_eq_true] at hb
        have hln := Nat.eq_of_beq_eq_true hb.1
        have hle := Nat.le_of_ble_eq_true hb.2
        refine ⟨_, _, _, h, OpSem.row hd rfl fun st' g1 B ρ S a w hr => ?_⟩
        have hlit' : litS st' e ps.toList 0 = some l := by
          rw [litS_agree]
          · exact hlit
          · exact fun q hq => val_agree g1 (by simp only [hop, Op.operands]; exact List.mem_map.2 ⟨q, hq, rfl⟩)
        have ht := hE.tab _ _ _ hl
        have hs := ht.size w
        have hz := ht.zero w
        have run : ∀ cs : Array Value, cs.size = n * e.size → ∃ ds, Instr.fill (fun i => some (i * e.size, e.size)) cs (ps.toList.map fun q => (q.1, a.eval q.2)) = some (List.toArray ds) ∧ RepL (Rep S w e) l ds := by
          intro cs hcs
          obtain ⟨ds, q1, q2⟩ := litS_fill hr ps.toList 0 l cs.toList hlit' (by simp [hln, hcs])
          refine ⟨ds, ?_, q2⟩
          have e1 : cs.toList.drop ((0 + l.length) * e.size) = [] := by simp [hln, hcs]
          rw [e1] at q1
          simpa using q1
        have hzlen : (Ty.zeros e).length = e.size := Rep.length e (Rep.dflt S w e)
        obtain ⟨ds, hrun0, hrep⟩ : ∃ ds : List Value, (Instr.buildSlice T n (ps.map fun q => (q.1, a.eval q.2))).run P w = .ok (.slice (some ⟨w.heap.size, 0, none⟩) n n) (w.alloc (.cells (List.toArray ds) E')) ∧ RepL (Rep S w e) l ds := by
          have hle' : ¬ (16777216 < n * e.size) := by omega
          by_cases h00 : n * e.size = 0
          · obtain ⟨ds, hf, hrep⟩ := run #[] (by simp [h00])
            refine ⟨ds, ?_, hrep⟩
            simp [Instr.buildSlice, run_underlying hu, hs, h00, Array.range_zero', hf, newRow]
          · obtain ⟨ds, hf, hrep⟩ := run ((Array.range (n * e.size)).map (fun i => (Ty.zeros e).toArray[i % (Ty.zeros e).toArray.size]!)) (by simp)
            refine ⟨ds, ?_, hrep⟩
            have hpc := (Rep.dflt S w e).pack_cells
            have hparts : (ps.map fun q => (q.1, a.eval q.2)).toList = ps.toList.map fun q => (q.1, a.eval q.2) := by simp
            unfold Instr.buildSlice
            simp only [Sem.run_bind, run_underlying hu, Result.andThen_ok, hs, Nat.reducePow, gt_iff_lt, hle', if_false, h00, hz, hpc, Sem.run_pure, hparts, hf]
            simp [newRow]
        refine ⟨List.toArray ds, E', .slice (some ⟨w.heap.size, 0, none⟩) n n, ?_, ?_⟩
        · simp only [execOp, hop]
          rw [Sem.run_bind]
          have e2 : (Instr.buildSlice T n (Array.map (fun x => match x with | (i, x) => (i, a.eval x)) ps)) = Instr.buildSlice T n (ps.map fun q => (q.1, a.eval q.2)) := rfl
          rw [e2, hrun0]; rfl
        · intro S' le hS'
          refine ⟨_, ⟨some ⟨w.heap.size, 0, none⟩, n, rfl, by simp [hln], .inr ⟨w.heap.size, 0, ds, rfl, hrep.imp fun _ _ => Rep.le le e, ?_⟩⟩, by simp [Ty.pack, Ty.agg, hln]⟩
          intro i v hv
          refine ⟨hS' _, ?_⟩
          rw [Nat.zero_add]
          exact cells_of_heap (heap_alloc_new w _) hv
    · simp at h
  · simp at h

theorem optVal_spec {ρ : Nat → Nat} {S : Stab} {a : Act} {w : World} (hr : Rel nt B ρ S st a w) {d l : Int} {x : Option Operand} (h : optVal st d x = some l) :
    (x = none ∧ l = d) ∨ ∃ q k, x = some q ∧ a.eval q = .int k l := by
  unfold optVal at h
  split at h
  · left; simp at h; exact ⟨rfl, h.symm⟩
  · rename_i q
    split at h
    · rename_i k l' hv
      simp only [Option.some.injEq] at h; subst h
      exact .inr ⟨q, k, rfl, rel_int (hr.val hv).1⟩
    · simp at h

theorem optVal_agree {st' : St} {d : Int} {x : Option Operand} (h : ∀ q, x = some q → st'.val q = st.val q) : optVal st' d x = optVal st d x := by
  unfold optVal
  cases x with
  | none => rfl
  | some q => simp only; rw [h q rfl]

theorem run_bounds {ρ : Nat → Nat} {S : Stab} {a : Act} {w : World} (hr : Rel nt B ρ S st a w) {lo hi : Option Operand} {l h : Int} {n cap : Nat} (b : Bool) (h1 : optVal st 0 lo = some l) (h2 : optVal st (n : Int) hi = some h)
    (h3 : 0 ≤ l) (h4 : l ≤ h) (h5 : h ≤ (n : Int)) (hc : n ≤ cap) : (Instr.sliceBounds b n cap (lo.map a.eval) (hi.map a.eval) none).run P w = .ok (l.toNat, h.toNat, cap) w := by
  unfold Instr.sliceBounds
  rcases optVal_spec hr h1 with ⟨e1, e2⟩ | ⟨q1, k1, e1, e2⟩ <;> rcases optVal_spec hr h2 with ⟨g1, g2⟩ | ⟨q2, k2, g1, g2⟩ <;> subst e1 <;> subst g1
  · subst e2; subst g2; simp
  · subst e2
    have : h ≤ (cap : Int) := by omega
    have : 0 ≤ h := by omega
    simp [Instr.sliceBound, asIntOf, *]
  · subst g2
    simp [Instr.sliceBound, asIntOf, *]
  · have t1 : h ≤ (cap : Int) := by omega
    have t2 : 0 ≤ h := by omega
    have t3 : l ≤ ((h.toNat : Nat) : Int) := by omega
    simp [Instr.sliceBound, asIntOf, *]
    intro hcon; exfalso; omega

theorem good_slice {k : K R} (hE : EnvOK P E) (T : Nat) (x : Operand) (lo hi : Option Operand) (hop : o.op = .slice T x lo hi none) (hd : dstOK nt o.dst = true)
    (h : (match E.ty T with
    | some (.arr n e, _) => match st.val x, optVal st 0 lo, optVal st (n : Int) hi with
      | some (.ptr m σ p), some l, some h => bif pathIs σ p (.arr n e) then (bif decide (0 ≤ l ∧ l ≤ h ∧ h ≤ (n : Int)) then k (.osl m σ p l h) [] [] else none) else none
      | _, _, _ => none
    | some (.sl e, _) => match st.val x with
      | some (.tv ⟨.sl e', s⟩) => match optVal st 0 lo, optVal st (s.length : Int) hi with
        | some l, some h => bif Ty.beq e e' then (bif decide (0 ≤ l ∧ l ≤ h ∧ h ≤ (s.length : Int)) then k (.tv ⟨.sl e', (s.take h.toNat).drop l.toNat⟩) [] [] else none) else none
        | _, _ => none
      | _ => none
    | _ => none) = some r) : Good P nt st o k r := by
  have ag : ∀ {st' : St}, (∀ t, t ∈ opTmps o.op.operands.toList → st'.tmp t = st.tmp t) → (st'.val x = st.val x ∧ (∀ d, optVal st' d lo = optVal st d lo) ∧ ∀ d, optVal st' d hi = optVal st d hi) := fun g1 => by
    refine ⟨val_agree g1 (by simp [hop, Op.operands]), fun d => optVal_agree fun q hq => val_agree g1 ?_, fun d => optVal_agree fun q hq => val_agree g1 ?_⟩
    · subst hq; simp [hop, Op.operands]
    · subst hq; simp [hop, Op.operands]
  split at h
  · rename_i n e q hT
    obtain ⟨E', k', hu, h2, hl, h0⟩ := und_arr (hE.tab _ _ _ hT)
    split at h
    · rename_i m σ p l hh hv hlo hhi
      cases hp : pathIs σ p (.arr n e) with
      | false => rw [hp] at h; simp at h
      | true =>
        rw [hp] at h
        simp only [cond_true] at h
        cases hb : decide (0 ≤ l ∧ l ≤ hh ∧ hh ≤ (n : Int)) with
        | false => rw [hb] at h; simp at h
        | true =>
          rw [hb] at h
          simp only [cond_true] at h
          simp only [decide_eq_true_eq] at hb
          have hpp := pathIs_spec hp
          refine ⟨_, [], [], h, OpSem.pure hd fun st' g1 g2 B ρ S a w hr => ?_⟩
          obtain ⟨a1, a2, a3⟩ := ag g1
          obtain ⟨⟨ok, e1⟩, hn⟩ := hr.val (a1.trans hv)
          have hrun := run_bounds (P := P) hr (cap := n) false ((a2 _).trans hlo) ((a3 _).trans hhi) hb.1 hb.2.1 hb.2.2 (Nat.le_refl _)
          have hs := (hE.tab _ _ _ hl).size w
          refine ⟨.slice (some (if n = l.toNat then ⟨ρ m, off σ p, none⟩ else (⟨ρ m, off σ p, none⟩ : Addr).add (l.toNat * e.size))) (hh.toNat - l.toNat) (n - l.toNat), ?_, ?_, hn⟩
          · simp [execOp, hop, Instr.sliceAt, run_underlying hu, e1, Instr.sureAddr, hrun, hs]
          · refine ⟨n, e, if n = l.toNat then off σ p else off σ p + l.toNat * e.size, n - l.toNat, hpp, ok, hb.1, hb.2.1, hb.2.2, fun hlt => by rw [if_neg (by omega)], ?_⟩
            have : (hh - l).toNat = hh.toNat - l.toNat := by omega
            rw [this]
            split <;> simp [add_none]
    · simp at h
  · rename_i e q hT
    obtain ⟨E', k', hu, hl, h0⟩ := und_sl (hE.tab _ _ _ hT)
    split at h
    · rename_i e' s hv
      split at h
      · rename_i l hh hlo hhi
        cases hb0 : Ty.beq e e' with
        | false => rw [hb0] at h; simp at h
        | true =>
          rw [hb0] at h
          simp only [cond_true] at h
          have ee := Ty.eq_of_beq hb0
          subst ee
          cases hb : decide (0 ≤ l ∧ l ≤ hh ∧ hh ≤ ((List.length s : Nat) : Int)) with
          | false => rw [hb] at h; simp at h
          | true =>
            rw [hb] at h
            simp only [cond_true] at h
            simp only [decide_eq_true_eq] at hb
            refine ⟨_, [], [], h, OpSem.pure hd fun st' g1 g2 B ρ S a w hr => ?_⟩
            obtain ⟨a1, a2, a3⟩ := ag g1
            obtain ⟨⟨cs, ⟨ad, cap, hcs, hcap, hmem⟩, e1⟩, hn⟩ := hr.val (a1.trans hv)
            have hcap' : List.length s ≤ cap := hcap
            have hrun := run_bounds (P := P) hr (cap := cap) true ((a2 _).trans hlo) ((a3 _).trans hhi) hb.1 hb.2.1 hb.2.2 hcap'
            have hs := (hE.tab _ _ _ hl).size w
            have e1' : a.eval x = .slice ad (List.length s) cap := by rw [e1, hcs]; rfl
            refine ⟨.slice (if cap = l.toNat then ad else ad.map (·.add (l.toNat * e.size))) (hh.toNat - l.toNat) (cap - l.toNat), ?_, ?_, tv_names _⟩
            · simp [execOp, hop, Instr.sliceAt, Instr.slice, run_underlying hu, e1', hrun, hs]
            · have hlen : ((s.take hh.toNat).drop l.toNat).length = hh.toNat - l.toNat := by simp; omega
              have hrep : Rep S w (.sl e) ((s.take hh.toNat).drop l.toNat : List e.den) [.slice (if cap = l.toNat then ad else ad.map (·.add (l.toNat * e.size))) (hh.toNat - l.toNat) (cap - l.toNat)] := ?_
              · exact ⟨_, hrep, rfl⟩
              refine ⟨_, cap - l.toNat, by rw [← hlen], by omega, ?_⟩
              by_cases hz : hh.toNat - l.toNat = 0
              · left; exact List.eq_nil_of_length_eq_zero (by omega)
              · right
                rcases hmem with hmem | ⟨b, o', ds, had, hds, hlies⟩
                · have : s = [] := hmem
                  rw [this] at hlen; simp at hlen; omega
                · subst had
                  have hR : ∀ (x : e.den) c, Rep S w e x c → c.length = e.size := fun x c => Rep.length e
                  have k1 := (hds.split hR hh.toNat).1
                  have k2 := (k1.split hR l.toNat).2
                  refine ⟨b, o' + l.toNat * e.size, _, ?_, k2, ?_⟩
                  · rw [if_neg (by omega)]; simp [add_none]
                  · intro i v hv'
                    have hv2 : ds[l.toNat * e.size + i]? = some v := by
                      rw [List.getElem?_drop] at hv'
                      rw [List.getElem?_take] at hv'
                      split at hv'
                      · exact hv'
                      · simp at hv'
                    have := hlies _ v hv2
                    rw [Nat.add_assoc]; exact this
      · simp at h
    · simp at h
  · simp at h

theorem good_s2ap {k : K R} (hE : EnvOK P E) (T : Nat) (x : Operand) (hop : o.op = .sliceToArrayPointer T x) (hd : dstOK nt o.dst = true)
    (h : (match E.ty T with
    | some (.arr n e, _) => match st.val x with
      | some (.osl m σ p l h) => match tyAt σ p with
        | some (.arr m' e') => bif Ty.beq e e' && Nat.blt 0 n && Nat.ble (l.toNat + n) m' then (bif decide ((n : Int) ≤ h - l) then k (.ptr m σ (p ++ [.sub l.toNat n])) [] [] else none) else none
        | _ => none
      | _ => none
    | _ => none) = some r) : Good P nt st o k r := by
  split at h
  · rename_i n e q hT
    obtain ⟨E', k', hu, h2, hl, h0⟩ := und_arr (hE.tab _ _ _ hT)
    split at h
    · rename_i m σ p l hh hv
      split at h
      · rename_i m' e' hty
        cases hb0 : Ty.beq e e' && Nat.blt 0 n && Nat.ble (l.toNat + n) m' with
        | false => rw [hb0] at h; simp at h
        | true =>
          rw [hb0] at h
          simp only [cond_true] at h
          simp only [Bool.and_eq_true] at hb0
          have ee := Ty.eq_of_beq hb0.1.1
          subst ee
          have hpos : 0 < n := by have := hb0.1.2; simpa using this
          have hle := Nat.le_of_ble_eq_true hb0.2
          cases hb : decide ((n : Int) ≤ hh - l) with
          | false => rw [hb] at h; simp at h
          | true =>
            rw [hb] at h
            simp only [cond_true] at h
            simp only [decide_eq_true_eq] at hb
            refine ⟨_, [], [], h, OpSem.pure hd fun st' g1 g2 B ρ S a w hr => ?_⟩
            have hx : st'.val x = some (.osl m σ p l hh) := by rw [val_agree g1 (x := x) (by simp [hop, Op.operands])]; exact hv
            obtain ⟨⟨m2, e2, o2, cap, q1, ok, q2, q3, q4, q5, q6⟩, hn⟩ := hr.val hx
            rw [hty] at q1
            simp only [Option.some.injEq, Ty.arr.injEq] at q1
            obtain ⟨e3, e4⟩ := q1
            subst e3; subst e4
            have ho := q5 (by omega)
            have hnlt : ¬ (hh - l).toNat < n := by omega
            refine ⟨.pointer (some ⟨ρ m, o2, none⟩), ?_, ⟨okPath_append p σ _ _ hty ok ⟨hle, by cases e <;> trivial⟩, ?_⟩, fun j hj => hn j (by simpa [SV.names] using hj)⟩
            · simp [execOp, hop, Instr.arrayAt, run_underlying hu, q6, hnlt]
            · rw [off_append p σ _ _ hty, ho]
              have : off (.arr m' e) [.sub l.toNat n] = l.toNat * e.size := by
                show l.toNat * e.size + off (.arr n e) [] = _
                rfl
              rw [this]
      · simp at h
    · simp at h
  · simp at h

theorem SVRelL.get {ρ : Nat → Nat} {S : Stab} {w : World} : ∀ {l : List SV} {vs : List Value}, SVRelL ρ S w l vs → ∀ (i : Nat) (v : SV), l[i]? = some v → ∃ x, vs[i]? = some x ∧ SVRel ρ S w v x
  | [], _, _, i, v, h => by simp at h
  | a :: l, vs, ⟨x, q, e, hx, hq⟩, 0, v, h => by simp at h; subst h; subst e; exact ⟨x, rfl, hx⟩
  | a :: l, vs, ⟨x, q, e, hx, hq⟩, i + 1, v, h => by
    subst e
    obtain ⟨y, h1, h2⟩ := SVRelL.get hq i v (by simpa using h)
    exact ⟨y, by simpa using h1, h2⟩

theorem namesL_mem {n : Nat} : ∀ {l : List SV} {v : SV}, v ∈ l → n ∈ v.names → n ∈ namesL l
  | a :: l, v, h, hn => by
    rcases List.mem_cons.1 h with h | h
    · subst h; simp [namesL, hn]
    · simp [namesL, namesL_mem h hn]

theorem good_extract {k : K R} (x : Operand) (i : Nat) (hop : o.op = .extract x i) (hd : dstOK nt o.dst = true)
    (h : (match st.val x with
    | some (.tup l) => match l[i]? with
      | some v => k v [] []
      | none => none
    | _ => none) = some r) : Good P nt st o k r := by
  split at h
  · rename_i l hv
    split at h
    · rename_i v hi
      refine ⟨_, [], [], h, OpSem.pure hd fun st' g1 g2 B ρ S a w hr => ?_⟩
      have hx : st'.val x = some (.tup l) := by rw [val_agree g1 (x := x) (by simp [hop, Op.operands])]; exact hv
      obtain ⟨⟨vs, e1, hvs⟩, hn⟩ := hr.val hx
      obtain ⟨y, hy, hrel⟩ := hvs.get i v hi
      refine ⟨y, ?_, hrel, fun n hnn => hn n (by simp only [SV.names]; exact namesL_mem (List.mem_of_getElem? hi) hnn)⟩
      simp [execOp, hop, e1, Instr.extract, hy]
    · simp at h
  · simp at h

theorem good_makeFunc {k : K R} (f : FuncId) (first caps : Array Operand) (hop : o.op = .makeFunc (.func f) first caps) (hd : dstOK nt o.dst = true)
    (h : (match vals st first.toList, vals st caps.toList with
    | some m, some l => k (.fn f m l) [] []
    | _, _ => none) = some r) : Good P nt st o k r := by
  split at h
  · rename_i m l hf hc
    refine ⟨_, [], [], h, OpSem.pure hd fun st' g1 g2 B ρ S a w hr => ?_⟩
    have hc' : vals st' caps.toList = some l := by rw [vals_agree g1 (fun x hx => by simp [hop, Op.operands]; exact .inr (by simpa using hx))]; exact hc
    have hf' : vals st' first.toList = some m := by rw [vals_agree g1 (fun x hx => by simp [hop, Op.operands]; exact .inl (by simpa using hx))]; exact hf
    obtain ⟨q1, q2⟩ := hr.vals hc'
    obtain ⟨p1, p2⟩ := hr.vals hf'
    refine ⟨_, ?_, ⟨_, _, rfl, p1, q1⟩, fun n hn => ?_⟩
    · simp [execOp, hop, Instr.makeFunc]
      rw [← Array.toList_map, ← Array.toList_map]; exact ⟨rfl, rfl⟩
    · rcases List.mem_append.1 (show n ∈ namesL m ++ namesL l by simpa [SV.names] using hn) with h | h
      · exact p2 n h
      · exact q2 n h
  · simp at h

theorem good_slice3 {k : K R} (hE : EnvOK P E) (T : Nat) (x : Operand) (lo : Option Operand) (hh mx : Operand) (hop : o.op = .slice T x lo (some hh) (some mx)) (hd : dstOK nt o.dst = true)
    (h : (match E.ty T with
    | some (.sl e, _) => match st.val x with
      | some (.vsl n e' h0 m0) => match optVal st 0 lo, optVal st h0 (some hh), optVal st 0 (some mx) with
        | some l, some h, some m => bif Ty.beq e e' then (bif decide (l = 0 ∧ 0 ≤ h ∧ h ≤ m ∧ m ≤ h0) then k (.vsl n e' h m) [] [] else none) else none
        | _, _, _ => none
      | _ => none
    | _ => none) = some r) : Good P nt st o k r := by
  split at h
  · rename_i e q hT
    obtain ⟨E', k', hu, hl, h0⟩ := und_sl (hE.tab _ _ _ hT)
    split at h
    · rename_i n e' hi0 m0 hv
      split at h
      · rename_i l hv2 m h1 h2 h3
        cases hb0 : Ty.beq e e' with
        | false => rw [hb0] at h; simp at h
        | true =>
          rw [hb0] at h
          simp only [cond_true] at h
          have ee := Ty.eq_of_beq hb0
          subst ee
          cases hb : decide (l = 0 ∧ 0 ≤ hv2 ∧ hv2 ≤ m ∧ m ≤ hi0) with
          | false => rw [hb] at h; simp at h
          | true =>
            rw [hb] at h
            simp only [cond_true] at h
            have hbb : l = 0 ∧ 0 ≤ hv2 ∧ hv2 ≤ m ∧ m ≤ hi0 := of_decide_eq_true hb
            refine ⟨_, [], [], h, OpSem.pure hd fun st' g1 g2 B ρ S a w hr => ?_⟩
            have hx : st'.val x = some (.vsl n e hi0 m0) := by rw [val_agree g1 (x := x) (by simp [hop, Op.operands])]; exact hv
            have a1 : optVal st' 0 lo = some l := by
              rw [optVal_agree (st := st) (fun q hq => val_agree g1 (by subst hq; simp [hop, Op.operands]))]; exact h1
            have a2 : optVal st' hi0 (some hh) = some hv2 := by
              rw [optVal_agree (st := st) (fun q hq => val_agree g1 (by injection hq with hq; subst hq; simp [hop, Op.operands]))]; exact h2
            have a3 : optVal st' 0 (some mx) = some m := by
              rw [optVal_agree (st := st) (fun q hq => val_agree g1 (by injection hq with hq; subst hq; simp [hop, Op.operands]))]; exact h3
            obtain ⟨⟨cap, e1, c0, c1, _⟩, hn⟩ := hr.val hx
            have hs := (hE.tab _ _ _ hl).size w
            rcases optVal_spec hr a2 with ⟨z, _⟩ | ⟨q2, k2, z2, eh⟩
            · cases z
            · rcases optVal_spec hr a3 with ⟨z, _⟩ | ⟨q3, k3, z3, em⟩
              · cases z
              · injection z2 with z2
                injection z3 with z3
                subst z2; subst z3
                obtain ⟨l0, l1, l2, l3⟩ := hbb
                have t1 : m ≤ (cap : Int) := by omega
                have t2 : 0 ≤ m := by omega
                have t3 : hv2 ≤ max m 0 := by omega
                refine ⟨.slice (some ⟨ρ n, 0, none⟩) hv2.toNat m.toNat, ?_, ⟨m.toNat, rfl, l1, by omega, fun _ => by omega⟩, hn⟩
                rcases optVal_spec hr a1 with ⟨z1, _⟩ | ⟨q1, k1, z1, el⟩
                · subst z1
                  simp only [execOp, hop, Instr.sliceAt, Instr.slice, e1, eh, em, Sem.run_bind, Sem.run_pure, Result.andThen_ok, run_underlying hu, Option.map_none, Option.map_some, Instr.sliceBounds, Instr.sliceBound, asIntOf]
                  simp [t1, t2, t3, l1, hs, add_none]
                · subst z1
                  rw [l0] at el
                  simp only [execOp, hop, Instr.sliceAt, Instr.slice, e1, eh, em, el, Sem.run_bind, Sem.run_pure, Result.andThen_ok, run_underlying hu, Option.map_some, Instr.sliceBounds, Instr.sliceBound, asIntOf]
                  simp [t1, t2, t3, l1, hs, add_none]
      · simp at h
    · simp at h
  · simp at h

end
end Go.Ev

namespace Go.Ev
set_option linter.unusedVariables false
set_option linter.unusedSimpArgs false

section
variable {P : Program} {w : World}

theorem addp (b o j : Nat) : (⟨b, o, none⟩ : Addr).add j = ⟨b, o + j, none⟩ := by unfold Addr.add; split <;> simp_all

theorem grownCap_size {olds news : List Value} {z : Array Value} {n m sz c : Nat} (ho : olds.length = n * sz) (hn : news.length = m * sz) (hz : z.size = sz) (hc : n + m ≤ c) :
    (olds.toArray ++ news.toArray ++ Builtin.zeroCells z (c - (n + m))).size = c * sz := by
  simp only [Array.size_append, List.size_toArray, size_zeroCells, hz, ho, hn, ← Nat.add_mul]
  congr 1; omega

/-- APPEND, on the world. -/
theorem app_run {T e sz by' : Nat} (el : EltOK P T e sz by') (ty : TypeId) {B : Nat} {D : Nat → Prop} {ρ : Nat → Nat} {S : Stab} {v : Value} {n : Nat} {olds : List Value} (hr : Room B D ρ S w e sz v) (hv : ∃ a cap, v = .slice a n cap)
    (ho : olds.length = n * sz) (holds : ∀ g, v.ownBlock = some g → ∀ j u, olds[j]? = some u → w.cell? ⟨g, j, none⟩ = some u)
    {b off m c : Nat} {news : List Value} (hn : news.length = m * sz) (hnews : ∀ j u, news[j]? = some u → w.cell? ⟨b, off + j, none⟩ = some u) (h1 : ∀ u ∈ news, u.oneCell' = true) (hm : 0 < m)
    (hb : (n + m) * by' ≤ 140737488355328) :
    ∃ g' cap' cur' w', (Builtin.append_ #[T, T] ty #[v, .slice (some ⟨b, off, none⟩) m c]).run P w = .ok (.slice (some ⟨g', 0, none⟩) (n + m) cap') w' ∧ w'.heap[g']? = some (.cells cur' e (0, 0)) ∧ n + m ≤ cap' ∧ cap' ≤ maxLen ∧
      cur'.size = cap' * sz ∧ cur'.toList.take ((n + m) * sz) = olds ++ news ∧ w.heap.size ≤ w'.heap.size ∧ (v.ownBlock = some g' ∨ g' = w.heap.size) ∧ (∀ b, b < w.heap.size → b ≠ g' → w'.heap[b]? = w.heap[b]?) ∧
      w'.os = w.os ∧ w'.tape = w.tape ∧ w'.output = w.output := by
  obtain ⟨i, z, hi, hz, hs, hby, hzs⟩ := el.info
  have hpos := el.pos
  have hbp := el.bpos
  have hle : n + m ≤ 140737488355328 := Nat.le_trans (Nat.le_mul_of_pos_right _ hbp) hb
  have hmax : n + m ≤ maxLen := by simp only [maxLen]; omega
  have hnews' : ∀ j u, news[j]? = some u → w.cell? ((⟨b, off, none⟩ : Addr).add j) = some u := fun j u h => by
    rw [addp]; exact hnews j u h
  have hlen : (olds ++ news).length = (n + m) * sz := by rw [List.length_append, ho, hn, Nat.add_mul]
  have newcase : ∀ old, n + m ≤ grownCap w (n + m) old e ∧ grownCap w (n + m) old e ≤ maxLen := fun old => ⟨grownCap_ge w (n + m) old e, grownCap_le_maxLen w (n + m) old e hmax⟩
  have takes : ∀ x : Array Value, ((olds.toArray ++ news.toArray ++ x).toList.take ((n + m) * sz)) = olds ++ news := fun x => by
    simp only [Array.toList_append, List.append_assoc]
    rw [← List.append_assoc, ← hlen]
    exact List.take_left
  subst hs
  subst hby
  rcases hr with rfl | ⟨g, n', cap, cur, rfl, hBg, hg, hnc, hcm, hcs, hns, hD⟩
  · obtain ⟨a, cap, e1⟩ := hv
    injection e1 with _ e2 _
    subst e2
    have ho' : olds = [] := List.eq_nil_of_length_eq_zero (by simpa using ho)
    subst ho'
    have hrun := run_append_nil (P := P) w T ty e i z el.und hi hz ⟨b, off, none⟩ m c news hn hnews' hm (by omega) (by have := hb; simp only [Nat.zero_add] at this; omega)
    obtain ⟨c1, c2⟩ := newcase 0
    simp only [Nat.zero_add] at c1 c2 takes ⊢
    refine ⟨w.heap.size, _, _, _, hrun, heap_alloc_new w.drew _, c1, c2, ?_, ?_, by simp, .inr rfl, fun b hb _ => heap_alloc_old w.drew _ b hb, rfl, rfl, rfl⟩
    · have := grownCap_size (olds := []) (n := 0) (by simp) hn hzs (by simpa using c1)
      simpa using this
    · have := takes (Builtin.zeroCells z.cells (grownCap w m 0 e - m))
      simpa using this
  · obtain ⟨a, cap2, e1⟩ := hv
    injection e1 with _ e2 _
    subst e2
    by_cases hroom : n' + m ≤ cap
    · have hfit : n' * i.size + news.length ≤ cur.size := by rw [hn, hcs, ← Nat.add_mul]; exact Nat.mul_le_mul_right _ hroom
      have hrun := run_append_room (P := P) w T ty e i el.und hi g n' cap cur hg ⟨b, off, none⟩ m c news hn hnews' h1 hroom hfit
      have htake : cur.toList.take (n' * i.size) = olds := by
        have hl1 : (cur.toList.take (n' * i.size)).length = olds.length := by
          rw [List.length_take, ho]
          have : n' * i.size ≤ cur.toList.length := by simp only [Array.length_toList, hcs]; exact Nat.mul_le_mul_right _ hnc
          omega
        refine List.ext_getElem? fun j => ?_
        by_cases hj : j < olds.length
        · have h2 := holds g rfl j olds[j] (List.getElem?_eq_getElem hj)
          have h3 : w.cell? ⟨g, j, none⟩ = cur[j]? := by simp [World.cell?, hg]
          rw [h3] at h2
          rw [List.getElem?_take, if_pos (by omega), Array.getElem?_toList, h2, List.getElem?_eq_getElem hj]
        · rw [List.getElem?_eq_none (by omega), List.getElem?_eq_none (by omega)]
      refine ⟨g, cap, _, _, hrun, setRow_heap w g cur _ e _ hg, hroom, hcm, ?_, ?_, by rw [size_setRow]; exact Nat.le_refl _, .inl rfl, fun b hb hne => setRow_other w g b _ hne, rfl, rfl, rfl⟩
      · simp only [List.size_toArray, List.length_append, List.length_take, List.length_drop, Array.length_toList]
        omega
      · rw [htake, ← hlen]
        exact List.take_left
    · have hrun := run_append_grow (P := P) w T ty e i z el.und hi hz ⟨g, 0, none⟩ n' cap olds ho (fun j u h => by rw [addp, Nat.zero_add]; exact holds g rfl j u h) ⟨b, off, none⟩ m c news hn hnews' (by omega) (by omega)
        (growslice_fits (by omega) hb)
      obtain ⟨c1, c2⟩ := newcase cap
      refine ⟨w.heap.size, _, _, _, hrun, heap_alloc_new w.drew _, c1, c2, grownCap_size ho hn hzs c1, takes _, by simp, .inr rfl, fun b hb _ => heap_alloc_old w.drew _ b hb, rfl, rfl, rfl⟩
/-- What an appending comes to, in the state. -/
theorem grow_rel {nt B : Nat} {ρ : Nat → Nat} {S : Stab} {st : St} {a : Act} {T e sz by' : Nat} {τ : Ty} (hr : Rel nt B ρ S st a w) (el : EltOK P T e sz by') (hsz : τ.size = sz) (ty : TypeId) {d : Nat} (hd : d < nt)
    {gr0 : List (Nat × (Nat × Nat))} {l xs : List τ.den} {v x : Value} (hv : SVRel ρ S w (.tv ⟨.sl τ, l⟩) v) (hx : ∃ b off c news, x = .slice (some ⟨b, off, none⟩) xs.length c ∧ RepL (Rep S w τ) xs news ∧ ∀ j u, news[j]? = some u → w.cell? ⟨b, off + j, none⟩ = some u) (hroom : Room B st.D ρ S w e sz v) (hne : xs ≠ [])
    (hgr : ∀ q ∈ gr0, q ∈ st.gr ∧ q.1 ≠ d ∧ (v.ownBlock = none ∨ (a.tmps.getD q.1 undef).ownBlock ≠ v.ownBlock)) (hap : ∀ q ∈ gr0, ∀ q' ∈ gr0, q.1 ≠ q'.1 → True)
    (hb : (l.length + xs.length) * by' ≤ 140737488355328) :
    ∃ v' w' S', (Builtin.append_ #[T, T] ty #[v, x]).run P w = .ok v' w' ∧
      Rel nt B ρ S' { st.set (some d) (.tv ⟨.sl τ, l ++ xs⟩) [] with gr := (d, (e, sz)) :: gr0 } (a.put (some d) v') w' ∧ ExtB B ρ S st.D w ρ S' ({ st.set (some d) (.tv ⟨.sl τ, l ++ xs⟩) [] with gr := (d, (e, sz)) :: gr0 } : St).D w' := by
  obtain ⟨cs1, ⟨a1, cap1, rfl, hc1, hl1⟩, hv1⟩ := hv
  obtain ⟨b, off, cap2, news, hx1, hrep2, hlies2⟩ := hx
  have hv1 : v = .slice a1 l.length cap1 := hv1
  obtain ⟨olds, hrepo, hlieso⟩ : ∃ olds, RepL (Rep S w τ) l olds ∧ ∀ g, v.ownBlock = some g → ∀ j u, olds[j]? = some u → S g j ∧ w.cell? ⟨g, j, none⟩ = some u := by
    rcases hl1 with hl1 | ⟨b1, off1, ds, e1, hrep1, hlies1⟩
    · subst hl1; exact ⟨[], rfl, fun g _ j u h => by simp at h⟩
    · refine ⟨ds, hrep1, fun g hg j u h => ?_⟩
      have h3 := hlies1 j u h
      rcases hroom with hn | ⟨g2, n2, c2, cur2, e2, _⟩
      · rw [hn] at hg; simp [Value.ownBlock] at hg
      · rw [hv1, e1] at e2
        injection e2 with e3 _ _
        injection e3 with e3
        injection e3 with e4 e5 _
        rw [hv1, e1] at hg
        simp only [Value.ownBlock, Option.some.injEq] at hg
        subst hg
        rw [e5, Nat.zero_add] at h3
        exact h3
  have lo : olds.length = l.length * sz := by rw [← hsz]; exact RepL.length (fun x c => Rep.length τ) hrepo
  have ln : news.length = xs.length * sz := by rw [← hsz]; exact RepL.length (fun x c => Rep.length τ) hrep2
  have hpos : 0 < xs.length := List.length_pos_iff.2 hne
  rw [hx1]
  obtain ⟨g', cap', cur', w', hrun, hheap, hcap, hmax, hcsz, htake, hsize, hwhich, hframe, hos, htape, hout⟩ := app_run (c := cap2) el ty hroom ⟨a1, cap1, hv1⟩ lo (fun g hg j u h => (hlieso g hg j u h).2) ln (fun j u h => hlies2 j u h)
    (fun u hu => RepL.one (fun x c => Rep.one τ) hrep2 u hu) hpos hb
  have hglt : g' < w'.heap.size := (Array.getElem?_eq_some_iff.1 hheap).1
  have hlen2 : (olds ++ news).length = (l.length + xs.length) * sz := by rw [List.length_append, lo, ln, Nat.add_mul]
  let S' : Stab := fun b i => S b i ∨ (b = g' ∧ i < (l.length + xs.length) * sz)
  -- the block, where it is an old one
  have hold : g' < w.heap.size → v.ownBlock = some g' := fun h => hwhich.resolve_right (by omega)
  have hroomb : v.ownBlock = some g' → B ≤ g' ∧ (∀ i, l.length * sz ≤ i → ¬ S g' i) ∧ ∀ m, st.D m → ρ m ≠ g' := fun h => by
    rcases hroom with hn | ⟨g2, n2, c2, cur2, e2, h2, _, _, _, _, h7, h8⟩
    · rw [hn] at h; simp [Value.ownBlock] at h
    · rw [e2] at h
      simp only [Value.ownBlock, Option.some.injEq] at h
      subst h
      rw [hv1] at e2
      injection e2 with _ e3 _
      subst e3
      exact ⟨h2, h7, h8⟩
  have hBg : B ≤ g' := by
    rcases hwhich with h | h
    · exact (hroomb h).1
    · have := hr.hB; omega
  have hobj : ∀ m, st.D m → ρ m ≠ g' := fun m dm => by
    rcases hwhich with h | h
    · exact (hroomb h).2.2 m dm
    · obtain ⟨t, ht⟩ := Option.isSome_iff_exists.1 dm
      have := (hr.obj m t ht).lt
      omega
  have cellw' : ∀ j u, (olds ++ news)[j]? = some u → w'.cell? ⟨g', j, none⟩ = some u := fun j u h => by
    have hj : j < (l.length + xs.length) * sz := by
      rw [← hlen2]
      rcases Nat.lt_or_ge j (olds ++ news).length with h' | h'
      · exact h'
      · rw [List.getElem?_eq_none h'] at h; simp at h
    rw [← htake, List.getElem?_take, if_pos hj] at h
    simp only [World.cell?, hheap]
    rw [Array.getElem?_toList] at h
    exact h
  have le : Le S w S' w' := ⟨fun b i s => .inl s, fun b i u s hu => by
    by_cases hbg : b = g'
    · subst hbg
      have hlt := hr.sb b i s
      have ho := hold hlt
      have hi : i < l.length * sz := by
        rcases Nat.lt_or_ge i (l.length * sz) with h | h
        · exact h
        · exact absurd s ((hroomb ho).2.1 i h)
      have hio : i < olds.length := by omega
      have h3 := (hlieso b ho i olds[i] (List.getElem?_eq_getElem hio)).2
      rw [hu] at h3
      refine cellw' i u ?_
      rw [List.getElem?_append_left hio, List.getElem?_eq_getElem hio]
      exact h3.symm
    · rw [cell?_of_heap (hframe b (hr.sb b i s) hbg)]; exact hu⟩
  have hD : ∀ n, ({ st.set (some d) (.tv ⟨.sl τ, l ++ xs⟩) [] with gr := (d, (e, sz)) :: gr0 } : St).D n ↔ st.D n := fun n => by
    show (st.set (some d) (.tv ⟨.sl τ, l ++ xs⟩) []).D n ↔ _
    unfold St.D; rw [St.obj_set]; rfl
  have hext : ExtB B ρ S st.D w ρ S' ({ st.set (some d) (.tv ⟨.sl τ, l ++ xs⟩) [] with gr := (d, (e, sz)) :: gr0 } : St).D w' :=
    ⟨fun n dn => (hD n).2 dn, fun _ _ => rfl, fun n dn nd => absurd ((hD n).1 dn) nd, fun _ _ s => .inl s, fun b i s => s.imp id fun q => by rw [q.1]; exact hBg, hsize,
      fun b hb hn => hframe b (Nat.lt_of_lt_of_le hb hr.hB) (by omega), le.cell, hos, htape, hout⟩
  have put1 : (a.put (some d) (.slice (some ⟨g', 0, none⟩) (l.length + xs.length) cap')).tmps.getD d undef = .slice (some ⟨g', 0, none⟩) (l.length + xs.length) cap' := by
    have := hr.sz
    simp [Act.put, Array.getD, show d < a.tmps.size by omega]
  have put2 : ∀ t, t ≠ d → (a.put (some d) (.slice (some ⟨g', 0, none⟩) (l.length + xs.length) cap')).tmps.getD t undef = a.tmps.getD t undef := fun t ht => by
    have : d ≠ t := fun e => ht e.symm
    simp [Act.put, Array.getElem?_setIfInBounds_ne this]
  have hqb : ∀ q ∈ gr0, ∀ g, (a.tmps.getD q.1 undef).ownBlock = some g → g ≠ g' ∧ g < w.heap.size := fun q hq g hg => by
    obtain ⟨h1, h2, h3⟩ := hgr q hq
    have hlt : g < w.heap.size := by
      rcases hr.room q h1 with hn | ⟨g2, _, _, _, e2, _, h4, _⟩
      · rw [hn] at hg; simp [Value.ownBlock] at hg
      · rw [e2] at hg
        simp only [Value.ownBlock, Option.some.injEq] at hg
        subst hg
        exact (Array.getElem?_eq_some_iff.1 h4).1
    refine ⟨fun e => ?_, hlt⟩
    subst e
    have := hold hlt
    rcases h3 with h3 | h3
    · rw [this] at h3; simp at h3
    · rw [hg, this] at h3; exact h3 rfl
  refine ⟨_, w', S', hrun, ?_, hext⟩
  exact {
    tmp := fun t u hu => by
      have hu : (st.set (some d) (.tv ⟨.sl τ, l ++ xs⟩) []).tmp t = some u := hu
      rw [St.tmp_set] at hu
      by_cases hdt : d = t
      · subst hdt
        rw [if_pos rfl] at hu
        simp only [Option.some.injEq] at hu; subst hu
        rw [put1]
        refine ⟨[.slice (some ⟨g', 0, none⟩) (l ++ xs).length cap'], ⟨some ⟨g', 0, none⟩, cap', rfl, by rw [List.length_append]; exact hcap, .inr ⟨g', 0, olds ++ news, rfl, RepL.append (hrepo.imp fun _ _ => Rep.le le τ) (hrep2.imp fun _ _ => Rep.le le τ), fun i u hi => ?_⟩⟩, by rw [List.length_append]; rfl⟩
        rw [Nat.zero_add]
        refine ⟨.inr ⟨rfl, ?_⟩, cellw' i u hi⟩
        rw [← hlen2]
        rcases Nat.lt_or_ge i (olds ++ news).length with h' | h'
        · exact h'
        · rw [List.getElem?_eq_none h'] at hi; simp at hi
      · rw [if_neg (by simpa using hdt)] at hu
        rw [put2 t (fun e => hdt e.symm)]
        exact SVRel.le le u _ (fun _ _ => rfl) (hr.tmp t u hu)
    obj := fun n t ht => by
      have ht : (st.set (some d) (.tv ⟨.sl τ, l ++ xs⟩) []).obj n = some t := ht
      rw [St.obj_set] at ht
      have dn : st.D n := by unfold St.D; rw [show st.obj n = some t from ht]; rfl
      refine (hr.obj n t ht).le le (hframe _ (hr.obj n t ht).lt (hobj n dn)) fun i s => ?_
      rcases s with s | s
      · exact hr.off n dn i s
      · exact hobj n dn s.1
    inj := fun n m dn dm h => hr.inj n m ((hD n).1 dn) ((hD m).1 dm) h
    names := fun t u n hu hn => by
      have hu : (st.set (some d) (.tv ⟨.sl τ, l ++ xs⟩) []).tmp t = some u := hu
      rw [St.tmp_set] at hu
      by_cases hdt : d = t
      · rw [if_pos (by rw [hdt])] at hu
        simp only [Option.some.injEq] at hu; subst hu
        simp [SV.names] at hn
      · rw [if_neg (by simpa using hdt)] at hu
        exact (hD n).2 (hr.names t u n hu hn)
    dfr := hr.dfr
    sz := by have := hr.sz; simpa [Act.put] using this
    sb := fun b i s => by
      rcases s with s | s
      · exact Nat.lt_of_lt_of_le (hr.sb b i s) hsize
      · rw [s.1]; exact hglt
    room := fun q hq => by
      rcases List.mem_cons.1 hq with hq | hq
      · subst hq
        dsimp only
        rw [put1]
        refine .inr ⟨g', _, cap', cur', rfl, hBg, hheap, hcap, hmax, hcsz, fun i hi s => ?_, fun m dm => hobj m ((hD m).1 dm)⟩
        rcases s with s | s
        · rcases Nat.lt_or_ge g' w.heap.size with h | h
          · refine (hroomb (hold h)).2.1 i ?_ s
            have : l.length * sz ≤ (l.length + xs.length) * sz := Nat.mul_le_mul_right _ (by omega)
            omega
          · have := hr.sb g' i s; omega
        · omega
      · obtain ⟨h1, h2, h3⟩ := hgr q hq
        rw [put2 q.1 h2]
        rcases hr.room q h1 with hn | ⟨g2, n2, c2, cur2, e2, e3, e4, e5, e6, e7, e8, e9⟩
        · exact .inl hn
        · have hg2 := hqb q hq g2 (by rw [e2]; rfl)
          refine .inr ⟨g2, n2, c2, cur2, e2, e3, (hframe g2 hg2.2 hg2.1).trans e4, e5, e6, e7, fun i hi s => ?_, fun m dm => e9 m ((hD m).1 dm)⟩
          rcases s with s | s
          · exact e8 i hi s
          · exact hg2.1 s.1
    apart := fun q q' hq hq' hne => by
      rcases List.mem_cons.1 hq with hq | hq <;> rcases List.mem_cons.1 hq' with hq' | hq'
      · subst hq; subst hq'; exact absurd rfl hne
      · subst hq
        dsimp only at hne ⊢
        rw [put1, put2 q'.1 (fun e => hne e.symm)]
        right
        intro h
        exact (hqb q' hq' g' h.symm).1 rfl
      · subst hq'
        dsimp only at hne ⊢
        rw [put1, put2 q.1 hne]
        cases hb2 : (a.tmps.getD q.1 undef).ownBlock with
        | none => exact .inl rfl
        | some g =>
          right
          intro h
          simp only [Value.ownBlock, Option.some.injEq] at h
          exact (hqb q hq g hb2).1 h
      · rw [put2 q.1 (hgr q hq).2.1, put2 q'.1 (hgr q' hq').2.1]
        exact hr.apart q q' (hgr q hq).1 (hgr q' hq').1 hne
    hB := Nat.le_trans hr.hB hsize }


theorem Rel.sub {nt B : Nat} {st : St} {ρ : Nat → Nat} {S : Stab} {a : Act} {w : World} (hr : Rel nt B ρ S st a w) {gr : List (Nat × (Nat × Nat))} (h : ∀ q ∈ gr, q ∈ st.gr) : Rel nt B ρ S { st with gr := gr } a w where
  tmp := hr.tmp
  obj := hr.obj
  inj := hr.inj
  names := hr.names
  dfr := hr.dfr
  sz := hr.sz
  sb := hr.sb
  room q hq := hr.room q (h q hq)
  apart q q' hq hq' := hr.apart q q' (h q hq) (h q' hq')
  hB := hr.hB

end

end Go.Ev

namespace Go.Ev
set_option linter.unusedVariables false

section
variable {P : Program} {E : Env} {nt B : Nat} {st : St} {o : Oper} {R : Type} {r : R}

theorem packRes_names (l : List TV) : (packRes l).names = [] := by
  have key : ∀ l : List TV, namesL (l.map SV.tv) = [] := by
    intro l
    induction l with
    | nil => rfl
    | cons a l ih => simp [namesL, SV.names, ih]
  unfold packRes
  split
  · rfl
  · simp only [SV.names]; exact key l

theorem off_nil (τ : Ty) : off τ [] = 0 := by cases τ <;> rfl

theorem toArgs_rel {ρ : Nat → Nat} {S : Stab} {a : Act} {w : World} (hr : Rel nt B ρ S st a w) : ∀ {svs : List SV} {vals : List Value} {args : List Arg} {ns : List Nat}, toArgs st svs = some (args, ns) → SVRelL ρ S w svs vals →
    ArgRel S w args vals (ns.map ρ) ∧ (∀ n ∈ ns, st.D n) ∧ ns.Nodup
  | [], vals, args, ns, h, hv => by
    simp only [toArgs, Option.some.injEq, Prod.mk.injEq] at h
    obtain ⟨e1, e2⟩ := h
    subst e1; subst e2
    exact ⟨⟨hv, rfl⟩, by simp, List.nodup_nil⟩
  | .tv t :: svs, vals, args, ns, h, ⟨x, q, e, hx, hq⟩ => by
    simp only [toArgs] at h
    split at h
    · rename_i l ns' hl
      simp only [Option.some.injEq, Prod.mk.injEq] at h
      obtain ⟨e1, e2⟩ := h
      subst e1; subst e2
      obtain ⟨h1, h2, h3⟩ := toArgs_rel hr hl hq
      exact ⟨⟨x, q, e, hx, h1⟩, h2, h3⟩
    · simp at h
  | .ptr n τ [] :: svs, vals, args, ns, h, ⟨x, q, e, hx, hq⟩ => by
    simp only [toArgs] at h
    split at h
    · rename_i t ht
      split at h
      · rename_i l ns' hl
        cases hb : ns'.any (Nat.beq n) with
        | true => rw [hb] at h; simp at h
        | false =>
          rw [hb] at h
          simp only [cond_false, Option.some.injEq, Prod.mk.injEq] at h
          obtain ⟨e1, e2⟩ := h
          subst e1; subst e2
          obtain ⟨h1, h2, h3⟩ := toArgs_rel hr hl hq
          have dn : st.D n := by unfold St.D; rw [ht]; rfl
          have hnin : n ∉ ns' := fun hmem => by
            have : ns'.any (Nat.beq n) = true := List.any_eq_true.2 ⟨n, hmem, Nat.beq_refl n⟩
            rw [hb] at this; simp at this
          refine ⟨⟨ρ n, q, ns'.map ρ, ?_, rfl, hr.obj n t ht, h1⟩, ?_, List.nodup_cons.2 ⟨hnin, h3⟩⟩
          · rw [e, hx.2, off_nil]
          · intro m hm
            rcases List.mem_cons.1 hm with e | e
            · subst e; exact dn
            · exact h2 m e
      · simp at h
    · simp at h
  | .ptr n τ (_ :: _) :: svs, vals, args, ns, h, _ => by simp [toArgs] at h
  | .sptr _ :: _, _, _, _, h, _ => by simp [toArgs] at h
  | .osl _ _ _ _ _ :: _, _, _, _, h, _ => by simp [toArgs] at h
  | .fn _ _ _ :: _, _, _, _, h, _ => by simp [toArgs] at h
  | .tup _ :: _, _, _, _, h, _ => by simp [toArgs] at h
  | .nilsl :: _, _, _, _, h, _ => by simp [toArgs] at h
  | .nilp :: _, _, _, _, h, _ => by simp [toArgs] at h
  | .undef :: _, _, _, _, h, _ => by simp [toArgs] at h

theorem toArgs_agree {st' : St} : ∀ {svs : List SV} {args : List Arg} {ns : List Nat}, toArgs st svs = some (args, ns) → (∀ n ∈ ns, st'.obj n = st.obj n) → toArgs st' svs = some (args, ns)
  | [], args, ns, h, _ => h
  | .tv t :: svs, args, ns, h, hag => by
    simp only [toArgs] at h ⊢
    split at h
    · rename_i l ns' hl
      simp only [Option.some.injEq, Prod.mk.injEq] at h
      obtain ⟨e1, e2⟩ := h
      subst e1; subst e2
      rw [toArgs_agree hl hag]
    · simp at h
  | .ptr n τ [] :: svs, args, ns, h, hag => by
    simp only [toArgs] at h ⊢
    split at h
    · rename_i t ht
      split at h
      · rename_i l ns' hl
        cases hb : ns'.any (Nat.beq n) with
        | true => rw [hb] at h; simp at h
        | false =>
          rw [hb] at h
          simp only [cond_false, Option.some.injEq, Prod.mk.injEq] at h
          obtain ⟨e1, e2⟩ := h
          subst e1; subst e2
          rw [hag n (by simp), ht, toArgs_agree hl fun m hm => hag m (by simp [hm])]
          simp [hb]
      · simp at h
    · simp at h
  | .ptr n τ (_ :: _) :: svs, args, ns, h, _ => by simp [toArgs] at h
  | .sptr _ :: _, _, _, h, _ => by simp [toArgs] at h
  | .osl _ _ _ _ _ :: _, _, _, h, _ => by simp [toArgs] at h
  | .fn _ _ _ :: _, _, _, h, _ => by simp [toArgs] at h
  | .tup _ :: _, _, _, h, _ => by simp [toArgs] at h
  | .nilsl :: _, _, _, h, _ => by simp [toArgs] at h
  | .nilp :: _, _, _, h, _ => by simp [toArgs] at h
  | .undef :: _, _, _, h, _ => by simp [toArgs] at h

theorem zipO_lk {S : Stab} {w : World} {ρ : Nat → Nat} : ∀ {ns : List Nat} {refs : List TV}, RefsRel S w refs (ns.map ρ) → refs.length = ns.length →
    (∀ n t, lk n (zipO ns refs) = some t → ObjRel S w (ρ n) t ∧ n ∈ ns) ∧ (∀ n, lk n (zipO ns refs) = none → n ∉ ns)
  | [], [], _, _ => ⟨fun n t h => by simp [zipO, lk] at h, fun n _ => by simp⟩
  | [], _ :: _, _, h => by simp at h
  | _ :: _, [], _, h => by simp at h
  | m :: ns, t :: refs, ⟨b, q, e, hb, hq⟩, hlen => by
    simp only [List.map_cons, List.cons.injEq] at e
    obtain ⟨e1, e2⟩ := e
    subst e1; subst e2
    obtain ⟨h1, h2⟩ := zipO_lk hq (by simpa using hlen)
    refine ⟨fun n u h => ?_, fun n h => ?_⟩
    · simp only [zipO] at h
      by_cases e : n = m
      · subst e; rw [lk_cons_same] at h; simp only [Option.some.injEq] at h; subst h; exact ⟨hb, by simp⟩
      · rw [lk_cons_ne _ _ e] at h
        obtain ⟨g1, g2⟩ := h1 n u h
        exact ⟨g1, by simp [g2]⟩
    · simp only [zipO] at h
      by_cases e : n = m
      · subst e; rw [lk_cons_same] at h; simp at h
      · rw [lk_cons_ne _ _ e] at h
        simp [e, h2 n h]

/-- The run of the operation of a call. -/
theorem run_call {c : Call} {g : Operand} (hop : o.op = .call c) (hg : c.callee = .value g) {f : FuncId} {first caps : List Value} {a : Act} {w : World} (he : a.eval g = .func (.func f) (List.toArray first) (List.toArray caps)) (hgo : Goes P f) :
    (execOp a.eval o).run P w = .ok (.enter f (List.toArray (first ++ (c.args.toList.map a.eval ++ caps)))) w := by
  have e : List.toArray first ++ (c.args.map a.eval) ++ List.toArray caps = List.toArray (first ++ (c.args.toList.map a.eval ++ caps)) := by
    apply Array.toList_inj.1; simp
  simp only [execOp, hop, resolve, hg, he, Deferred.ofValue, Sem.run_bind, Sem.run_pure, Result.andThen_ok, invoke]
  rw [e]
  exact hgo _ _

theorem SVRelL.append {ρ : Nat → Nat} {S : Stab} {w : World} : ∀ {l : List SV} {vs : List Value} {l' vs'}, SVRelL ρ S w l vs → SVRelL ρ S w l' vs' → SVRelL ρ S w (l ++ l') (vs ++ vs')
  | [], vs, l', vs', h, h' => by simp only [SVRelL] at h; subst h; exact h'
  | a :: l, vs, l', vs', ⟨x, q, e, hx, hq⟩, h' => by subst e; exact ⟨x, q ++ vs', rfl, hx, hq.append h'⟩

theorem below_map (ns : List Nat) (ρ : Nat → Nat) (i : Nat) (h : below (ns.map ρ) i) : ∃ n ∈ ns, nth (ns.map ρ) i = ρ n := by
  unfold below at h
  simp at h
  exact ⟨ns[i], by simp, by simp [nth, List.getD, h]⟩

/-- A call of a function by its contract. -/
theorem opSem_contract {c : Call} {g : Operand} (hop : o.op = .call c) (hg : c.callee = .value g) (hd : dstOK nt o.dst = true) {f : FuncId} {first caps l : List SV} (hv : st.val g = some (.fn f first caps)) (hl : vals st c.args.toList = some l)
    {args : List Arg} {ns : List Nat} (hargs : toArgs st (first ++ (l ++ caps)) = some (args, ns)) {res refs : List TV} (hlen : refs.length = ns.length) (hgo : Goes P f) (hok : CallOK P f args res refs) :
    OpSem P nt o st (packRes res) (zipO ns refs) ns := by
  intro st' h1 h2 _ B ρ S a w hr Q
  have hv' : st'.val g = some (.fn f first caps) := by rw [val_agree h1 (x := g) (by simp [hop, Op.operands, Call.operands, hg])]; exact hv
  have hl' : vals st' c.args.toList = some l := by rw [vals_agree h1 (fun x hx => by simp [hop, Op.operands, Call.operands, hg]; exact .inr (by simpa using hx))]; exact hl
  obtain ⟨⟨fvs, cvs, hcv, hfr, hcr⟩, hcn⟩ := hr.val hv'
  obtain ⟨hlr, hln⟩ := hr.vals hl'
  have hrun := run_call (P := P) hop hg hcv hgo (w := w)
  have hrel := hfr.append (hlr.append hcr)
  obtain ⟨g1, g2, g3⟩ := toArgs_rel hr.toRel (toArgs_agree hargs h2) hrel
  have hnod : (ns.map ρ).Nodup := by
    have key : ∀ l : List Nat, l.Nodup → (∀ n ∈ l, st'.D n) → (l.map ρ).Nodup := by
      intro l
      induction l with
      | nil => intro _ _; exact List.nodup_nil
      | cons x l ih =>
        intro hn hD
        obtain ⟨n1, n2⟩ := List.nodup_cons.1 hn
        refine List.nodup_cons.2 ⟨fun hm => ?_, ih n2 fun m hm => hD m (by simp [hm])⟩
        obtain ⟨m, hm, e⟩ := List.mem_map.1 hm
        have := hr.inj m x (hD m (by simp [hm])) (hD x (by simp)) e
        exact n1 (this ▸ hm)
    exact key ns g3 g2
  have hcall := hok S w _ _ g1 hnod hr.sb
  simp only [Oper.wp, hrun, Oper.upon]
  refine hcall.mono fun e w' hp => ?_
  obtain ⟨x, S', he, hx, hrefs, hext, hsb, hoff⟩ := hp
  subst he
  show Post nt B ρ S st' _ w _ w'
  obtain ⟨z1, z2⟩ := zipO_lk hrefs hlen
  have hD : ∀ n, (st'.set o.dst (packRes res) (zipO ns refs)).D n ↔ st'.D n := fun n => by
    unfold St.D
    rw [St.obj_set]
    constructor
    · intro h
      cases hq : lk n (zipO ns refs) with
      | some t => exact g2 n (z1 n t hq).2
      | none => rw [hq] at h; exact h
    · intro h
      cases hq : lk n (zipO ns refs) with
      | some t => rfl
      | none => exact h
  have hlt : ∀ m, st'.D m → ρ m < w.heap.size := fun m dm => by
    obtain ⟨t, ht⟩ := Option.isSome_iff_exists.1 dm
    exact (hr.obj m t ht).lt
  have hfr : ∀ b, b < w.heap.size → (∀ n ∈ ns, ρ n ≠ b) → w'.heap[b]? = w.heap[b]? := fun b hb hn => hext.frame b hb fun i hi => by
    obtain ⟨n, hnm, e⟩ := below_map ns ρ i hi
    rw [e]; exact hn n hnm
  have hE : Ext ρ S st'.D w ρ S' (st'.set o.dst (packRes res) (zipO ns refs)).D w' :=
    ⟨fun n dn => (hD n).2 dn, fun _ _ => rfl, fun n dn nd => absurd ((hD n).1 dn) nd, hext.mono, hext.new, hext.size, fun b hb hn => hfr b hb fun n hnm => hn n (g2 n hnm), hext.os, hext.tape, hext.output⟩
  refine ⟨ρ, S', hr.step hd hE ?_ ?_ (fun n t h => (z1 n t h).1) ?_ (fun n m dn dm e => hr.inj n m ((hD n).1 dn) ((hD m).1 dm) e) hsb, hr.up hE⟩
  · exact SVRel.le (Le.refl S' w') _ _ (fun n hn => by rw [packRes_names] at hn; simp at hn) hx
  · intro n hn; rw [packRes_names] at hn; simp at hn
  · intro n dn hn
    have hnin := z2 n hn
    refine ⟨hfr _ (hlt n dn) fun m hm e => hnin (by rw [← hr.inj m n (g2 m hm) dn e]; exact hm), fun i s => ?_⟩
    rcases hext.new _ _ s with s | s
    · exact hr.off n dn i s
    · have := hlt n dn; omega

theorem subObjs_spec : ∀ {ns : List Nat} {acc os : List (Nat × TV)}, subObjs st ns acc = some os → (∀ n t, lk n acc = some t → st.obj n = some t) →
    (∀ n t, lk n os = some t → st.obj n = some t) ∧ (∀ n ∈ ns, (lk n os).isSome = true) ∧ (∀ n, (lk n acc).isSome = true → (lk n os).isSome = true)
  | [], acc, os, h, ha => by simp only [subObjs, Option.some.injEq] at h; subst h; exact ⟨ha, by simp, fun _ h => h⟩
  | n :: ns, acc, os, h, ha => by
    simp only [subObjs] at h
    split at h
    · rename_i t ht
      obtain ⟨h1, h2, h3⟩ := subObjs_spec h ha
      refine ⟨h1, fun m hm => ?_, h3⟩
      rcases List.mem_cons.1 hm with e | e
      · subst e; exact h3 m (by rw [ht]; rfl)
      · exact h2 m e
    · split at h
      · rename_i t ht
        have ha' : ∀ m u, lk m ((n, t) :: acc) = some u → st.obj m = some u := fun m u hm => by
          by_cases e : m = n
          · subst e; rw [lk_cons_same] at hm; simp only [Option.some.injEq] at hm; subst hm; exact ht
          · rw [lk_cons_ne _ _ e] at hm; exact ha m u hm
        obtain ⟨h1, h2, h3⟩ := subObjs_spec h ha'
        refine ⟨h1, fun m hm => ?_, fun m hm => h3 m ?_⟩
        · rcases List.mem_cons.1 hm with e | e
          · subst e; exact h3 m (by rw [lk_cons_same]; rfl)
          · exact h2 m e
        · by_cases e : m = n
          · subst e; rw [lk_cons_same]; rfl
          · rw [lk_cons_ne _ _ e]; exact hm
      · simp at h

/-- A call that is carried out in place. -/
theorem opSem_inline {c : Call} {g : Operand} (hop : o.op = .call c) (hg : c.callee = .value g) (hd : dstOK nt o.dst = true) {f : FuncId} {first caps l : List SV} (hv : st.val g = some (.fn f first caps)) (hl : vals st c.args.toList = some l)
    {os os' : List (Nat × TV)} {v : SV} (hsub : subObjs st (namesL (first ++ (l ++ caps))) [] = some os) (hnew : newOK st os os' = true) (hgo : Goes P f) (hok : FnSem P f (first ++ (l ++ caps)) os v os') :
    OpSem P nt o st v os' (os.map (·.1)) := by
  intro st' h1 h2 h3 B ρ S a w hr Q
  have hv' : st'.val g = some (.fn f first caps) := by rw [val_agree h1 (x := g) (by simp [hop, Op.operands, Call.operands, hg])]; exact hv
  have hl' : vals st' c.args.toList = some l := by rw [vals_agree h1 (fun x hx => by simp [hop, Op.operands, Call.operands, hg]; exact .inr (by simpa using hx))]; exact hl
  obtain ⟨⟨fvs, cvs, hcv, hfr, hcr⟩, hcn⟩ := hr.val hv'
  obtain ⟨hlr, hln⟩ := hr.vals hl'
  have hrun := run_call (P := P) hop hg hcv hgo (w := w)
  have hrel := hfr.append (hlr.append hcr)
  obtain ⟨s1, s2, _⟩ := subObjs_spec hsub (fun n t h => by simp [lk] at h)
  have hob : ∀ n t, lk n os = some t → st'.obj n = some t := fun n t h => by
    rw [h2 n (List.mem_map.2 ⟨(n, t), lk_mem h, rfl⟩)]; exact s1 n t h
  have hdom : ∀ n, (lk n os).isSome = true → st'.D n := fun n h => by
    obtain ⟨t, ht⟩ := Option.isSome_iff_exists.1 h
    unfold St.D; rw [hob n t ht]; rfl
  have hcall := hok ρ S w _ hrel (fun n t h => hr.obj n t (hob n t h)) (fun n m hn hm e => hr.inj n m (hdom n hn) (hdom m hm) e) s2 hr.sb
  simp only [Oper.wp, hrun, Oper.upon]
  refine hcall.mono fun e w' hp => ?_
  obtain ⟨x, ρ1, S', he, hx, hobj, hinj, hnames, hext, hsb⟩ := hp
  subst he
  show Post nt B ρ S st' _ w _ w'
  have hfreshN : ∀ n, (lk n os').isSome = true → ¬ (lk n os).isSome = true → ¬ st'.D n := fun n hn hno hD => by
    obtain ⟨t, ht⟩ := Option.isSome_iff_exists.1 hn
    have hm := lk_mem ht
    have := (List.all_eq_true.1 hnew) _ hm
    simp only at this
    cases hq : lk n os with
    | some u => rw [hq] at hno; simp at hno
    | none =>
      rw [hq] at this
      simp only at this
      rw [← h3 n (List.mem_map.2 ⟨(n, t), hm, rfl⟩)] at this
      unfold St.D at hD
      obtain ⟨u, hu⟩ := Option.isSome_iff_exists.1 hD
      rw [hu] at this; simp at this
  let ρ' : Nat → Nat := fun n => if (lk n os').isSome = true then ρ1 n else ρ n
  have hρ1 : ∀ n, (lk n os').isSome = true → ρ' n = ρ1 n := fun n h => by simp [ρ', h]
  have hρ0 : ∀ n, ¬ (lk n os').isSome = true → ρ' n = ρ n := fun n h => by simp only [ρ']; rw [if_neg h]
  have hD : ∀ n, (st'.set o.dst v os').D n ↔ ((lk n os').isSome = true ∨ st'.D n) := fun n => by
    unfold St.D
    rw [St.obj_set]
    cases lk n os' <;> simp
  have hlt : ∀ m, st'.D m → ρ m < w.heap.size := fun m dm => by
    obtain ⟨t, ht⟩ := Option.isSome_iff_exists.1 dm
    exact (hr.obj m t ht).lt
  have hsame : ∀ n, st'.D n → ρ' n = ρ n := fun n dn => by
    by_cases hn : (lk n os').isSome = true
    · rw [hρ1 n hn]
      by_cases hno : (lk n os).isSome = true
      · exact hext.same n hno
      · exact absurd dn (hfreshN n hn hno)
    · exact hρ0 n hn
  have hE : Ext ρ S st'.D w ρ' S' (st'.set o.dst v os').D w' := by
    refine ⟨fun n dn => (hD n).2 (.inr dn), hsame, fun n dn nd => ?_, hext.mono, hext.new, hext.size, fun b hb hn => hext.frame b hb fun n hno => hn n (hdom n hno), hext.os, hext.tape, hext.output⟩
    rcases (hD n).1 dn with h | h
    · rw [hρ1 n h]
      exact hext.fresh n h (fun hno => nd (hdom n hno))
    · exact absurd h nd
  refine ⟨ρ', S', hr.step hd hE ?_ ?_ ?_ ?_ ?_ hsb, hr.up hE⟩
  · exact SVRel.le (Le.refl S' w') _ _ (fun n hn => hρ1 n (hnames n hn)) hx
  · intro n hn; exact (hD n).2 (.inl (hnames n hn))
  · intro n t hn
    rw [hρ1 n (by rw [hn]; rfl)]
    exact hobj n t hn
  · intro n dn hn
    have hn' : ¬ (lk n os').isSome = true := by rw [hn]; simp
    have hno : ¬ (lk n os).isSome = true := fun h => hn' (hext.dom n h)
    refine ⟨hext.frame _ (hlt n dn) fun m hm e => ?_, fun i s => ?_⟩
    · have := hr.inj m n (hdom m hm) dn e
      subst this; exact hno hm
    · rcases hext.new _ _ s with s | s
      · exact hr.off n dn i s
      · have := hlt n dn; omega
  · intro n m dn dm e
    by_cases hn : (lk n os').isSome = true <;> by_cases hm : (lk m os').isSome = true
    · rw [hρ1 n hn, hρ1 m hm] at e; exact hinj n m hn hm e
    · have dm' : st'.D m := ((hD m).1 dm).resolve_left hm
      rw [hρ1 n hn, hρ0 m hm] at e
      by_cases hno : (lk n os).isSome = true
      · rw [hext.same n hno] at e; exact hr.inj n m (hdom n hno) dm' e
      · have := hext.fresh n hn hno; have := hlt m dm'; omega
    · have dn' : st'.D n := ((hD n).1 dn).resolve_left hn
      rw [hρ0 n hn, hρ1 m hm] at e
      by_cases hmo : (lk m os).isSome = true
      · rw [hext.same m hmo] at e; exact hr.inj n m dn' (hdom m hmo) e
      · have := hext.fresh m hm hmo; have := hlt n dn'; omega
    · rw [hρ0 n hn, hρ0 m hm] at e
      exact hr.inj n m (((hD n).1 dn).resolve_left hn) (((hD m).1 dm).resolve_left hm) e

theorem good_call {k : K R} {inl : Inl} (hE : EnvOK P E) (hI : InlOK P inl) {of : Nat} (c : Call) (g : Operand) (hop : o.op = .call c) (hg : c.callee = .value g) (hd : dstOK nt o.dst = true)
    (h : (match st.val g, vals st c.args.toList with
      | some (.fn f first caps), some l => callS E inl of st f (first ++ (l ++ caps)) R k
      | _, _ => none) = some r) : Good P nt st o k r := by
  split at h
  · rename_i f first caps l hv hl
    unfold callS at h
    split at h
    · rename_i spec hs
      split at h
      · rename_i args ns hargs
        have hspec := hE.fns f spec hs
        obtain ⟨res, refs, hk, hok⟩ := hspec.ok _ _ _ _ h
        cases hb : Nat.beq refs.length ns.length with
        | false => rw [hb] at hk; simp at hk
        | true =>
          rw [hb] at hk
          simp only [cond_true] at hk
          exact ⟨_, _, _, hk, opSem_contract hop hg hd hv hl hargs (Nat.eq_of_beq_eq_true hb) hspec.goes hok⟩
      · simp at h
    · split at h
      · rename_i os hsub
        obtain ⟨v, os', hk, hgo, hok⟩ := hI _ _ _ _ _ _ _ h
        cases hb : newOK st os os' with
        | false => rw [hb] at hk; simp at hk
        | true =>
          rw [hb] at hk
          simp only [cond_true] at hk
          exact ⟨_, _, _, hk, opSem_inline hop hg hd hv hl hsub hb hgo hok⟩
      · simp at h
  · simp at h

theorem execOp_bi {c : Call} {b : Builtin} (hop : o.op = .call c) (hg : c.callee = .builtin b) (a : Act) : execOp a.eval o = builtin b c.argTypes o.type (c.args.map fun | .const _ => true | _ => false) (c.args.map a.eval) := by
  simp only [execOp, hop, resolve, hg]
  rfl

theorem args_one {c : Call} {a : Act} {vs : List Value} (h : c.args.toList.map a.eval = vs) : c.args.map a.eval = List.toArray vs := by
  apply Array.toList_inj.1; simp [h]

theorem good_len {k : K R} (hE : EnvOK P E) (c : Call) (hop : o.op = .call c) (hg : c.callee = .builtin .len) (hd : dstOK nt o.dst = true)
    (h : (match c.argTypes.toList, vals st c.args.toList with
      | [T], some [v] => match lenS (E.ty T) v with
        | some n => k (.tv ⟨.int .i64, n⟩) [] []
        | none => none
      | _, _ => none) = some r) : Good P nt st o k r := by
  split at h
  · rename_i T v hT hv
    split at h
    · rename_i n hn
      refine ⟨_, [], [], h, OpSem.pure hd fun st' g1 g2 B ρ S a w hr => ?_⟩
      have hl' : vals st' c.args.toList = some [v] := by rw [vals_agree g1 (fun x hx => by simp [hop, Op.operands, Call.operands, hg]; simpa using hx)]; exact hv
      obtain ⟨⟨x, q, e1, hx, e2⟩, hnms⟩ := hr.vals hl'
      subst e2
      have hargs := args_one e1
      have hats : c.argTypes = #[T] := by apply Array.toList_inj.1; simpa using hT
      refine ⟨.int .i64 n, ?_, int_rel _ _ _ _ _, tv_names _⟩
      rw [execOp_bi hop hg, hargs, hats]
      unfold lenS at hn
      split at hn
      · rename_i e m e' l hT'
        simp only [Option.some.injEq] at hn
        obtain ⟨E', k', hu, _⟩ := und_sl (hE.tab _ _ _ hT')
        obtain ⟨cs, ⟨ad, cap, hcs, _⟩, ev⟩ := hx
        have ev' : x = .slice ad (List.length l) cap := by rw [ev, hcs]; rfl
        subst ev'
        simp [builtin, Builtin.len_, run_underlying hu, goInt, hn]
      · rename_i m s hT'
        simp only [Option.some.injEq] at hn
        have hu := und_str (hE.tab _ _ _ hT')
        have ev' := rel_str hx
        subst ev'
        simp [builtin, Builtin.len_, run_underlying hu, goInt, hn]
      · rename_i e m hT'
        simp only [Option.some.injEq] at hn
        obtain ⟨E', k', hu, _⟩ := und_sl (hE.tab _ _ _ hT')
        have ev' : x = .slice none 0 0 := hx
        subst ev'
        simp [builtin, Builtin.len_, run_underlying hu, goInt, ← hn]
      · rename_i e m n0 e0 hi m0 hT'
        simp only [Option.some.injEq] at hn
        obtain ⟨E', k', hu, _⟩ := und_sl (hE.tab _ _ _ hT')
        obtain ⟨cap, ev', c0, _⟩ := hx
        subst ev'
        have : ((hi.toNat : Nat) : Int) = hi := by omega
        rw [← hn]
        simp [builtin, Builtin.len_, run_underlying hu, goInt]
        omega
      · simp at hn
    · simp at h
  · simp at h

theorem get_novec {σ : Ty} {x : σ.den} {p : Path} {t : TV} (h : get σ x p = some t) (ht : t.ty.isVec = false) : σ.isVec = false := by
  cases σ <;> first
    | rfl
    | (cases p with
       | nil => simp only [get, Option.some.injEq] at h; subst h; exact ht
       | cons s p => cases s <;> simp [get] at h)

/-- What rowS reads is there. -/
theorem rowS_rel {B : Nat} {st' : St} {τ : Ty} {v : SV} {xr : List τ.den × List Nat} (h : rowS st τ v = some xr) (hag : ∀ n ∈ xr.2, st'.obj n = st.obj n) {ρ : Nat → Nat} {S : Stab} {a : Act} {w : World} (hr : Rel nt B ρ S st' a w) {y : Value} (hv : SVRel ρ S w v y) :
    ∃ ad c, y = .slice ad xr.1.length c ∧ (xr.1 = [] ∨ ∃ b off news, ad = some ⟨b, off, none⟩ ∧ RepL (Rep S w τ) xr.1 news ∧ ∀ j u, news[j]? = some u → w.cell? ⟨b, off + j, none⟩ = some u) := by
  have tvcase : ∀ l : List τ.den, v.as (.sl τ) = some l → ∃ ad c, y = .slice ad l.length c ∧ (l = [] ∨ ∃ b off news, ad = some ⟨b, off, none⟩ ∧ RepL (Rep S w τ) l news ∧ ∀ j u, news[j]? = some u → w.cell? ⟨b, off + j, none⟩ = some u) := by
    intro l hl
    obtain ⟨cs, ⟨ad, c, e, hc, hl2⟩, ey⟩ := SV.as_rel hl hv
    subst e
    refine ⟨ad, c, ey, ?_⟩
    rcases hl2 with hl2 | ⟨b, off, news, e3, hrep, hlies⟩
    · exact .inl hl2
    · exact .inr ⟨b, off, news, e3, hrep, fun j u h => (hlies j u h).2⟩
  unfold rowS at h
  split at h
  · rename_i n σ p lo hi
    split at h
    · rename_i σ' x hob
      cases hb : Ty.beq σ' σ with
      | false => rw [hb] at h; simp at h
      | true =>
        rw [hb] at h
        simp only [cond_true] at h
        have es := Ty.eq_of_beq hb
        subst es
        split at h
        · rename_i N e arr hg
          split at h
          · rename_i l hl
            have hl := TV.as_some hl
            injection hl with h1 h2
            injection h1 with h1
            subst h1
            have h2 := eq_of_heq h2
            subst h2
            simp only [Option.some.injEq] at h
            subst h
            obtain ⟨m, e2, o2, cap, q1, ok, q2, q3, q4, q5, q6⟩ := hv
            have hob' : st'.obj n = some ⟨σ', x⟩ := by rw [hag n (by simp)]; exact hob
            obtain ⟨cs, T, hrep, hheap, _⟩ := (hr.obj n _ hob').plain (get_novec hg rfl)
            obtain ⟨g1, g2⟩ := Rep.get p σ' hrep hg ok
            simp only [Ty.size] at g1 g2
            obtain ⟨len1, rl⟩ := g1
            have hsz : arr.length = N := len1
            have htm : tyAt σ' p = some (.arr N e) := get_tyAt p σ' x _ hg
            rw [htm] at q1
            simp only [Option.some.injEq, Ty.arr.injEq] at q1
            obtain ⟨e3, e4⟩ := q1
            subst e3; subst e4
            have hlen : ((arr.drop lo.toNat).take (hi - lo).toNat).length = (hi - lo).toNat := by
              rw [List.length_take, List.length_drop]; omega
            refine ⟨some ⟨ρ n, o2, none⟩, cap, by rw [hlen]; exact q6, ?_⟩
            by_cases h0 : (hi - lo).toNat = 0
            · left; rw [h0]; rfl
            · right
              have ho := q5 (by omega)
              have r1 := (rl.split (fun x c => Rep.length e) lo.toNat).2
              have r2 := (r1.split (fun x c => Rep.length e) (hi - lo).toNat).1
              refine ⟨ρ n, o2, _, rfl, r2, fun j u hj => ?_⟩
              rw [List.getElem?_take] at hj
              split at hj
              · rename_i hjl
                rw [List.getElem?_drop, List.getElem?_take] at hj
                split at hj
                · rw [List.getElem?_drop] at hj
                  simp only [World.cell?, hheap]
                  rw [ho]
                  rw [show off σ' p + lo.toNat * e.size + j = off σ' p + (lo.toNat * e.size + j) by omega]
                  simpa using hj
                · simp at hj
              · simp at hj
          · simp at h
        · simp at h
    · simp at h
  · split at h
    · rename_i l hl
      simp only [Option.some.injEq] at h
      subst h
      exact tvcase l hl
    · simp at h

theorem wp_append {P : Program} {o : Oper} {a : Act} {w : World} {K : Act → World → Prop} {Q : Exit → Act → World → Prop} {T : TypeId} {s x : Operand} (ho : o.op = .call { callee := .builtin .append, args := #[s, x], argTypes := #[T, T] }) {v' : Value} {w' : World}
    (hr : (Builtin.append_ #[T, T] o.type #[a.eval s, a.eval x]).run P w = .ok v' w') (h : K (a.put o.dst v') w') : o.wp P a w K Q := by
  unfold Oper.wp execOp
  simp only [ho, resolve, invoke, builtin, Sem.run_bind, Sem.run_pure, Result.andThen_ok, List.map_toArray, List.map_cons, List.map_nil, hr]
  exact h

theorem run_append_empty {P : Program} {T e : TypeId} {sz by' : Nat} (el : EltOK P T e sz by') (ty : TypeId) (w : World) (ad : Option Addr) (c : Nat) : (Builtin.append_ #[T, T] ty #[.slice none 0 0, .slice ad 0 c]).run P w = .ok (.slice none 0 0) w := by
  obtain ⟨i, z, hi, _⟩ := el.info
  cases ad <;> simp [Builtin.append_, run_underlying el.und, sizeOf, typeInfo, hi, Builtin.lenOf, Builtin.firstCells, loadCells, loadCellsFrom]

/-- One object is written, and a value comes back. -/
theorem OpSem.writeVO {t' : TV} {n : Nat} {ro : List Nat} {v : SV} (hd : dstOK nt o.dst = true) (hn : (st.obj n).isSome = true) (hv0 : ∀ m, m ∈ v.names → m = n)
    (h : ∀ st' : St, (∀ t, t ∈ opTmps o.op.operands.toList → st'.tmp t = st.tmp t) → st'.obj n = st.obj n → ∀ B ρ S a w, Rel nt B ρ S st' a w →
      ∃ (cs : List Value) (x : Value), (∀ w' T, Le S w S w' → w'.heap[ρ n]? = some (.cells cs.toArray T (0, 0)) → (∀ i, ¬ S (ρ n) i) → ObjRel S w' (ρ n) t') ∧ (∀ w', SVRel ρ S w' v x) ∧
        ∀ (K : Act → World → Prop) Q, K (a.put o.dst x) (w.setRow (ρ n) cs.toArray) → o.wp P a w K Q) :
    OpSem P nt o st v [(n, t')] ro := by
  intro st' h1 _ h3 B ρ S a w hr Q
  have hn3 : st'.obj n = st.obj n := h3 n (by simp)
  obtain ⟨cs, x, hrep, hvx, hrun⟩ := h st' h1 hn3 B ρ S a w hr.toRel
  obtain ⟨t, htt⟩ := Option.isSome_iff_exists.1 hn
  have hob : st'.obj n = some t := hn3.trans htt
  have dn : st'.D n := by unfold St.D; rw [hob]; rfl
  obtain ⟨cs0, T, hheap, hoff⟩ := (hr.obj n t hob).heap
  have hD : ∀ m, (st'.set o.dst v [(n, t')]).D m ↔ st'.D m := fun m => by
    unfold St.D
    rw [St.obj_set]
    by_cases e : m = n
    · subst e; rw [lk_cons_same, hob]; simp
    · rw [lk_cons_ne _ _ e]; rfl
  have le : Le S w S (w.setRow (ρ n) cs.toArray) := ⟨fun _ _ h => h, fun b i v s e => by
    have hbn : b ≠ ρ n := fun e' => by rw [e'] at s; exact hoff i s
    rw [cell?_of_heap (heap_setRow_ne w _ hbn)]; exact e⟩
  have hext : Ext ρ S st'.D w ρ S (st'.set o.dst v [(n, t')]).D (w.setRow (ρ n) cs.toArray) := by
    refine ⟨fun m dm => (hD m).2 dm, fun _ _ => rfl, fun m dm nd => absurd ((hD m).1 dm) nd, fun _ _ h => h, fun _ _ h => .inl h, by rw [size_setRow]; exact Nat.le_refl _, fun b hb hne => heap_setRow_ne w _ (fun e => hne n dn e.symm), rfl, rfl, rfl⟩
  have key : Rel nt B ρ S (st'.set o.dst v [(n, t')]) (a.put o.dst x) (w.setRow (ρ n) cs.toArray) := by
    refine hr.step hd hext (hvx _) (fun m hm => by rw [hv0 m hm]; exact (hD n).2 dn) ?_ ?_ ?_ ?_
    · intro m t'' hm
      by_cases e : m = n
      · subst e
        rw [lk_cons_same] at hm; simp only [Option.some.injEq] at hm; subst hm
        exact hrep _ T le (heap_setRow_same hheap cs) hoff
      · rw [lk_cons_ne _ _ e] at hm; simp [lk] at hm
    · intro m dm hm
      have e : m ≠ n := fun e => by subst e; rw [lk_cons_same] at hm; simp at hm
      exact ⟨heap_setRow_ne w _ (fun e' => e (hr.inj m n dm dn e')), hr.off m dm⟩
    · intro m m' dm dm' e
      exact hr.inj m m' ((hD m).1 dm) ((hD m').1 dm') e
    · intro b i s; rw [size_setRow]; exact hr.sb b i s
  exact hrun _ _ ⟨ρ, S, key, hr.up hext⟩

theorem OpSem.writeV {σ : Ty} {y' : σ.den} {n : Nat} {ro : List Nat} {v : SV} (hd : dstOK nt o.dst = true) (hn : (st.obj n).isSome = true) (hv0 : v.names = [])
    (h : ∀ st' : St, (∀ t, t ∈ opTmps o.op.operands.toList → st'.tmp t = st.tmp t) → st'.obj n = st.obj n → ∀ B ρ S a w, Rel nt B ρ S st' a w →
      ∃ (cs : List Value) (x : Value), (∀ w', Le S w S w' → Rep S w' σ y' cs) ∧ (∀ w', SVRel ρ S w' v x) ∧ (execOp a.eval o).run P w = .ok (.value x) (w.setRow (ρ n) cs.toArray)) :
    OpSem P nt o st v [(n, ⟨σ, y'⟩)] ro :=
  OpSem.writeVO hd hn (fun m hm => by rw [hv0] at hm; simp at hm) fun st' h1 h2 B ρ S a w hr => by
    obtain ⟨cs, x, g1, g2, g3⟩ := h st' h1 h2 B ρ S a w hr
    exact ⟨cs, x, fun w' T le hh ho => ObjRel.of (T := T) (g1 w' le) hh ho, g2, fun K Q hK => wp_value g3 hK⟩

/-- A new object, and a value that names it. -/
theorem OpSem.freshO {t : TV} {v : SV} {n d : Nat} (hdst : o.dst = some d) (hd : dstOK nt o.dst = true) (hn : st.obj n = none) (hnm : ∀ m, m ∈ v.names → m = n)
    (h : ∀ st' : St, (∀ t, t ∈ opTmps o.op.operands.toList → st'.tmp t = st.tmp t) → ∀ B ρ S a w, Rel nt B ρ S st' a w →
      ∃ x w', (∀ (K : Act → World → Prop) Q, K (a.put o.dst x) w' → o.wp P a w K Q) ∧ w.heap.size < w'.heap.size ∧ (∀ b, b < w.heap.size → w'.heap[b]? = w.heap[b]?) ∧ w'.os = w.os ∧ w'.tape = w.tape ∧ w'.output = w.output ∧
        (Le S w S w' → ObjRel S w' w.heap.size t) ∧ ∀ ρ' : Nat → Nat, ρ' n = w.heap.size → SVRel ρ' S w' v x) :
    OpSem P nt o st v [(n, t)] [] := by
  intro st' h1 _ h3 B ρ S a w hr Q
  obtain ⟨x, w', hrun, hsz, hfr, hos, htp, hout, hob, hvx⟩ := h st' h1 B ρ S a w hr.toRel
  have hn' : st'.obj n = none := by rw [h3 n (by simp)]; exact hn
  let ρ' : Nat → Nat := fun m => if m = n then w.heap.size else ρ m
  have hne : ∀ m, st'.D m → m ≠ n := fun m dm e => by subst e; unfold St.D at dm; rw [hn'] at dm; simp at dm
  have hsame : ∀ m, st'.D m → ρ' m = ρ m := fun m dm => by simp [ρ', hne m dm]
  have hnn : ρ' n = w.heap.size := by simp [ρ']
  have hlt : ∀ m, st'.D m → ρ m < w.heap.size := fun m dm => by
    obtain ⟨t, ht⟩ := Option.isSome_iff_exists.1 dm
    exact (hr.obj m t ht).lt
  have hD : ∀ m, (st'.set o.dst v [(n, t)]).D m ↔ (st'.D m ∨ m = n) := fun m => by
    unfold St.D
    rw [St.obj_set]
    by_cases e : m = n
    · subst e; simp [lk_cons_same]
    · rw [lk_cons_ne _ _ e]; simp [lk, e]
  have le : Le S w S w' := ⟨fun _ _ h => h, fun b i v s e => by rw [cell?_of_heap (hfr b (hr.sb b i s))]; exact e⟩
  have hext : Ext ρ S st'.D w ρ' S (st'.set o.dst v [(n, t)]).D w' := by
    refine ⟨fun m dm => (hD m).2 (.inl dm), hsame, fun m dm nd => ?_, fun _ _ h => h, fun _ _ h => .inl h, by omega, fun b hb _ => hfr b hb, hos, htp, hout⟩
    rcases (hD m).1 dm with h | h
    · exact absurd h nd
    · subst h; rw [hnn]; exact Nat.le_refl _
  refine hrun _ _ ⟨ρ', S, ?_, hr.up hext⟩
  refine hr.step hd hext (hvx ρ' hnn) ?_ ?_ ?_ ?_ ?_
  · intro m hm; rw [hnm m hm]; exact (hD n).2 (.inr rfl)
  · intro m t' hm
    by_cases e : m = n
    · subst e
      rw [lk_cons_same] at hm; simp only [Option.some.injEq] at hm; subst hm
      rw [hnn]
      exact hob le
    · rw [lk_cons_ne _ _ e] at hm; simp [lk] at hm
  · intro m dm _
    exact ⟨hfr _ (hlt m dm), hr.off m dm⟩
  · intro m m' dm dm' e
    rcases (hD m).1 dm with h5 | h5 <;> rcases (hD m').1 dm' with h6 | h6
    · rw [hsame m h5, hsame m' h6] at e; exact hr.inj m m' h5 h6 e
    · rw [h6, hsame m h5, hnn] at e; have := hlt m h5; omega
    · rw [h5, hsame m' h6, hnn] at e; have := hlt m' h6; omega
    · rw [h5, h6]
  · intro b i s
    have := hr.sb b i s
    omega

theorem run_append_roomT (w : World) (t ty e T' : TypeId) (i : TypeInfo) (ht : P.underlying t = some (.slice e)) (hi : P.info? e = some i)
    (g sLen sCap : Nat) (cur : Array Value) (hg : w.heap[g]? = some (.cells cur T' (0, 0)))
    (a : Addr) (m c : Nat) (news : List Value) (hl : news.length = m * i.size) (hnews : ∀ j u, news[j]? = some u → w.cell? (a.add j) = some u) (h1 : ∀ u ∈ news, u.oneCell' = true)
    (hroom : sLen + m ≤ sCap) (hfit : sLen * i.size + news.length ≤ cur.size) :
    (Builtin.append_ #[t, t] ty #[.slice (some ⟨g, 0, none⟩) sLen sCap, .slice (some a) m c]).run P w =
      .ok (.slice (some ⟨g, 0, none⟩) (sLen + m) sCap) (w.setRow g (cur.toList.take (sLen * i.size) ++ news ++ cur.toList.drop (sLen * i.size + news.length)).toArray) := by
  have hf := run_firstCells_some (P := P) w i.size m a m c news hl hnews
  have hst := run_storeCells_at P g (sLen * i.size) T' news 0 cur w hg (by simpa using hfit) h1
  simp only [Nat.add_zero] at hst
  simp [Builtin.append_, run_underlying ht, sizeOf, typeInfo, hi, Builtin.lenOf, hroom, hf, Addr.add_lit, hst]

/-- An append to nil that makes a row. -/
theorem good_appNew {k : K R} (hE : EnvOK2 P E) {T d : Nat} {s x : Operand} {q : Nat × (Nat × Nat)} {τ : Ty} {m0 n : Nat} {vx : SV} {xs : List τ.den} (hop' : o.op = .call { callee := .builtin .append, args := #[s, x], argTypes := #[T, T] }) (hdst : o.dst = some d) (hd : dstOK nt o.dst = true)
    (hq : lk T E.elts = some q) (hty : E.ty T = some (.sl τ, m0)) (hs : st.val s = some .nilsl) (hx : st.val x = some vx) (hxs : vx.as (.sl τ) = some xs) (hsz : τ.size = q.2.1) (hne : xs ≠ []) (hlim : xs.length * q.2.2 ≤ 140737488355328) (hno : st.obj n = none)
    (h : k (.vsl n τ (xs.length : Int) (-1)) [(n, ⟨.vec τ, xs⟩)] [] = some r) : Good P nt st o k r := by
  have el := hE.el T q hq
  refine ⟨_, _, _, h, OpSem.freshO hdst hd hno (fun m hm => by simpa [SV.names] using hm) fun st' h1 B ρ S a w hr => ?_⟩
  have hs' : st'.val s = some .nilsl := by rw [val_agree h1 (x := s) (by simp [hop', Op.operands, Call.operands])]; exact hs
  have hx' : st'.val x = some vx := by rw [val_agree h1 (x := x) (by simp [hop', Op.operands, Call.operands])]; exact hx
  have es : a.eval s = .slice none 0 0 := (hr.val hs').1
  obtain ⟨cs, ⟨ad, c, e1, hc, hl2⟩, ex⟩ := SV.as_rel hxs (hr.val hx').1
  subst e1
  have ex : a.eval x = .slice ad xs.length c := ex
  rcases hl2 with hl2 | ⟨b, off, news, e3, hrep, hlies⟩
  · exact absurd hl2 hne
  subst e3
  have ln : news.length = xs.length * q.2.1 := by rw [← hsz]; exact RepL.length (fun x c => Rep.length τ) hrep
  have hone : ∀ u ∈ news, u.oneCell' = true := RepL.one (fun x c => Rep.one τ) hrep
  obtain ⟨g', cap', cur', w', hrun, hheap, hcap, hmax, hcsz, htake, hsize, hwhich, hframe, hos, htape, hout⟩ := app_run (c := c) (olds := []) el o.type (B := 0) (D := fun _ => False) (ρ := ρ) (S := S) (v := .slice none 0 0) (n := 0) (.inl rfl) ⟨none, 0, rfl⟩ (by simp) (fun g hg => by simp [Value.ownBlock] at hg) ln
    (fun j u hj => (hlies j u hj).2) hone (List.length_pos_iff.2 hne) (by simpa using hlim)
  have hg : g' = w.heap.size := by
    rcases hwhich with hh | hh
    · simp [Value.ownBlock] at hh
    · exact hh
  subst hg
  have hglt : w.heap.size < w'.heap.size := (Array.getElem?_eq_some_iff.1 hheap).1
  simp only [Nat.zero_add, List.nil_append] at hrun htake hcap
  refine ⟨_, w', fun K Q hK => wp_append hop' (by rw [es, ex]; exact hrun) hK, hglt, fun b hb => hframe b hb (by omega), hos, htape, hout, fun le => ?_, fun ρ' hρ => ?_⟩
  · refine ⟨news, cur'.toList.drop (xs.length * q.2.1), q.1, hrep.imp fun _ _ h => h.le le τ, ?_, fun i s => by have := hr.sb _ i s; omega⟩
    rw [hheap, ← htake, List.take_append_drop]
  · exact ⟨cap', by rw [hρ]; simp, by omega, by omega, fun h => by omega⟩

/-- An append into a row that has room. -/
theorem good_appIn {k : K R} (hE : EnvOK2 P E) {T d : Nat} {s x : Operand} {q : Nat × (Nat × Nat)} {τ : Ty} {m0 n : Nat} {hi m : Int} {vx : SV} {xs l : List τ.den} (hop' : o.op = .call { callee := .builtin .append, args := #[s, x], argTypes := #[T, T] }) (hdst : o.dst = some d) (hd : dstOK nt o.dst = true)
    (hq : lk T E.elts = some q) (hty : E.ty T = some (.sl τ, m0)) (hs : st.val s = some (.vsl n τ hi m)) (hx : st.val x = some vx) (hxs : vx.as (.sl τ) = some xs) (hsz : τ.size = q.2.1) (hne : xs ≠ []) (hob : st.obj n = some ⟨.vec τ, l⟩)
    (hfit : hi + (xs.length : Int) ≤ m ∧ m ≤ (l.length : Int))
    (h : k (.vsl n τ (hi + (xs.length : Int)) m) [(n, ⟨.vec τ, copyL l xs hi (hi + (xs.length : Int))⟩)] [n] = some r) : Good P nt st o k r := by
  have el := hE.el T q hq
  obtain ⟨i, z, hii, hz, his, hby, hzs⟩ := el.info
  refine ⟨_, _, _, h, OpSem.writeVO hd (by rw [hob]; rfl) (fun m hm => by simpa [SV.names] using hm) fun st' h1 h2 B ρ S a w hr => ?_⟩
  have hs' : st'.val s = some (.vsl n τ hi m) := by rw [val_agree h1 (x := s) (by simp [hop', Op.operands, Call.operands])]; exact hs
  have hx' : st'.val x = some vx := by rw [val_agree h1 (x := x) (by simp [hop', Op.operands, Call.operands])]; exact hx
  obtain ⟨cap, es, c0, c1, c2⟩ := (hr.val hs').1
  obtain ⟨cs, ⟨ad, c, e1, hc, hl2⟩, ex⟩ := SV.as_rel hxs (hr.val hx').1
  subst e1
  have ex : a.eval x = .slice ad xs.length c := ex
  rcases hl2 with hl2 | ⟨b, off, news, e3, hrep, hlies⟩
  · exact absurd hl2 hne
  subst e3
  have ln : news.length = xs.length * i.size := by rw [his, ← hsz]; exact RepL.length (fun x c => Rep.length τ) hrep
  have hone : ∀ u ∈ news, u.oneCell' = true := RepL.one (fun x c => Rep.one τ) hrep
  obtain ⟨os, rest, T', hreo, hheap, hoff⟩ := hr.obj n _ (h2.trans hob)
  have lo : os.length = l.length * τ.size := RepL.length (fun x c => Rep.length τ) hreo
  have hcm : (cap : Int) = m := c2 (by omega)
  have isz : i.size = τ.size := by rw [his, hsz]
  have hle : (hi.toNat + xs.length) * τ.size ≤ l.length * τ.size := Nat.mul_le_mul_right _ (by omega)
  rw [Nat.add_mul] at hle
  have hrun := run_append_roomT (P := P) w T o.type q.1 T' i el.und hii (ρ n) hi.toNat cap (os ++ rest).toArray hheap ⟨b, off, none⟩ xs.length c news ln (fun j u hj => by rw [addp]; exact (hlies j u hj).2) hone (by omega) (by
    rw [ln, isz]; simp only [List.size_toArray, List.length_append]; omega)
  refine ⟨(os ++ rest).take (hi.toNat * i.size) ++ news ++ (os ++ rest).drop (hi.toNat * i.size + news.length), .slice (some ⟨ρ n, 0, none⟩) (hi.toNat + xs.length) cap, fun w' T2 le hh ho => ?_, fun w' => ⟨cap, by
      have : (hi + (xs.length : Int)).toNat = hi.toNat + xs.length := by omega
      rw [this], by omega, by omega, fun _ => hcm⟩, fun K Q hK => wp_append hop' (by rw [es, ex]; simpa using hrun) hK⟩
  have hR : ∀ (x : τ.den) c, Rep S w' τ x c → c.length = τ.size := fun x c => Rep.length τ
  have hreo' := hreo.imp (R' := Rep S w' τ) fun _ _ h => h.le le τ
  have hrep' := hrep.imp (R' := Rep S w' τ) fun _ _ h => h.le le τ
  have a1 := (hreo'.split hR hi.toNat).1
  have a2 := (hreo'.split hR (hi.toNat + xs.length)).2
  refine ⟨os.take (hi.toNat * τ.size) ++ (news ++ os.drop ((hi.toNat + xs.length) * τ.size)), rest, T2, ?_, ?_, ho⟩
  · unfold copyL
    have e1 : (hi + (xs.length : Int) - hi).toNat = xs.length := by omega
    rw [e1, List.take_length, Nat.min_self]
    exact a1.append (hrep'.append a2)
  · rw [hh]
    congr 3
    rw [ln, isz, Nat.add_mul, List.take_append_of_le_length (by omega), List.drop_append_of_le_length (by omega)]
    simp only [List.append_assoc]

theorem good_append {k : K R} {of : Nat} (hE : EnvOK2 P E) (c : Call) (hop : o.op = .call c) (hg : c.callee = .builtin .append) (hd : dstOK nt o.dst = true)
    (h : (match o.dst, c.argTypes.toList, c.args.toList with
      | some d, [T, T'], [s, x] => match lk T E.elts, E.ty T, st.val s, st.val x with
        | some q, some (.sl τ, _), some .nilsl, some vx => match vecMode E (of + d) with
          | 1 => match vx.as (.sl τ) with
            | some xs => bif Nat.beq T T' && Nat.beq τ.size q.2.1 then (bif xs.isEmpty || !(Nat.ble (xs.length * q.2.2) appLim) then none else (match st.obj (of + d) with
              | none => k (.vsl (of + d) τ (xs.length : Int) (-1)) [(of + d, ⟨.vec τ, xs⟩)] []
              | some _ => none)) else none
            | none => none
          | _ => match rowS st τ vx with
            | some xr => bif Nat.beq T T' && Nat.beq τ.size q.2.1 then (bif Nat.ble (xr.1.length * q.2.2) appLim then k (.tv ⟨.sl τ, xr.1⟩) [] xr.2 else none) else none
            | none => none
        | some q, some (.sl τ, _), some (.vsl n e hi m), some vx => match vx.as (.sl τ), st.obj n with
          | some xs, some t => match t.as (.vec τ) with
            | some l => bif Nat.beq T T' && (Nat.beq τ.size q.2.1 && Ty.beq e τ) then (bif xs.isEmpty || !(decide (hi + (xs.length : Int) ≤ m ∧ m ≤ (l.length : Int))) then none else
              k (.vsl n e (hi + (xs.length : Int)) m) [(n, ⟨.vec τ, copyL l xs hi (hi + (xs.length : Int))⟩)] [n]) else none
            | none => none
          | _, _ => none
        | _, _, _, _ => none
      | _, _, _ => none) = some r) : Good P nt st o k r := by
  split at h
  · rename_i d T T' s x hdst hT hA
    have hop2 : T = T' → o.op = .call { callee := .builtin .append, args := #[s, x], argTypes := #[T, T] } := fun e => by
      subst e
      rw [hop]
      obtain ⟨cal, args, at'⟩ := c
      simp only at hg hT hA
      subst hg
      congr 2
      · rw [← Array.toList_inj]; exact hA
      · rw [← Array.toList_inj]; exact hT
    split at h
    · rename_i q τ n vx hq hty hs hx
      split at h
      · split at h
        · rename_i xs hxs
          cases hb : Nat.beq T T' && Nat.beq τ.size q.2.1 with
          | false => rw [hb] at h; simp at h
          | true =>
            rw [hb] at h
            simp only [cond_true] at h
            simp only [Bool.and_eq_true] at hb
            have hTT := Nat.eq_of_beq_eq_true hb.1
            subst hTT
            cases hl : (xs.isEmpty || !(Nat.ble (xs.length * q.2.2) appLim)) with
            | true => rw [hl] at h; simp at h
            | false =>
              rw [hl] at h
              simp only [cond_false] at h
              rw [Bool.or_eq_false_iff] at hl
              have hne : xs ≠ [] := by intro e; rw [e] at hl; simp at hl
              have hlim : xs.length * q.2.2 ≤ 140737488355328 := by
                have h2 := hl.2
                simp only [Bool.not_eq_false'] at h2
                have := Nat.le_of_ble_eq_true h2
                simpa [appLim] using this
              split at h
              · rename_i hno
                exact good_appNew hE (hop2 rfl) hdst hd hq hty hs hx hxs (Nat.eq_of_beq_eq_true hb.2) hne hlim hno h
              · simp at h
        · simp at h
      split at h
      · rename_i xr hxr
        cases hb : Nat.beq T T' && Nat.beq τ.size q.2.1 with
        | false => rw [hb] at h; simp at h
        | true =>
          rw [hb] at h
          simp only [cond_true] at h
          simp only [Bool.and_eq_true] at hb
          have hTT := Nat.eq_of_beq_eq_true hb.1
          subst hTT
          have hsz := Nat.eq_of_beq_eq_true hb.2
          cases hl : Nat.ble (xr.1.length * q.2.2) appLim with
          | false => rw [hl] at h; simp at h
          | true =>
            rw [hl] at h
            simp only [cond_true] at h
            have hlim : ((([] : List τ.den)).length + xr.1.length) * q.2.2 ≤ 140737488355328 := by
              have := Nat.le_of_ble_eq_true hl
              simpa [appLim] using this
            have el := hE.el T q hq
            have hop' : o.op = .call { callee := .builtin .append, args := #[s, x], argTypes := #[T, T] } := by
              rw [hop]
              obtain ⟨cal, args, at'⟩ := c
              simp only at hg hT hA
              subst hg
              congr 2
              · rw [← Array.toList_inj]; exact hA
              · rw [← Array.toList_inj]; exact hT
            have hdn : d < nt := by rw [hdst] at hd; simpa [dstOK] using hd
            refine ⟨_, [], xr.2, h, ?_⟩
            intro st' h1 h2 h3 B ρ S a w hr Q
            have hs' : st'.val s = some .nilsl := by rw [val_agree h1 (x := s) (by simp [hop', Op.operands, Call.operands])]; exact hs
            have hx' : st'.val x = some vx := by rw [val_agree h1 (x := x) (by simp [hop', Op.operands, Call.operands])]; exact hx
            have es : a.eval s = .slice none 0 0 := (hr.toRel.val hs').1
            obtain ⟨ad, cc, ex, hrow⟩ := rowS_rel hxr h2 hr.toRel (hr.toRel.val hx').1
            rcases hrow with hnil | ⟨b, off, news, ead, hrep, hcells⟩
            · have ex0 : a.eval x = .slice ad 0 cc := by rw [ex, hnil]; rfl
              refine wp_append hop' (by rw [es, ex0]; exact run_append_empty el o.type w ad cc) ⟨ρ, S, hr.pure hd ?_ (fun n hn => by simp [SV.names] at hn), ?_⟩
              · rw [hnil]
                exact ⟨[.slice none 0 0], ⟨none, 0, rfl, Nat.le_refl _, .inl rfl⟩, rfl⟩
              · exact (ExtB.refl B ρ S st'.D w).congr (fun _ => Iff.rfl) (fun n => by unfold St.D; rw [St.obj_set]; rfl)
            · by_cases hne : xr.1 = []
              · have ex0 : a.eval x = .slice ad 0 cc := by rw [ex, hne]; rfl
                refine wp_append hop' (by rw [es, ex0]; exact run_append_empty el o.type w ad cc) ⟨ρ, S, hr.pure hd ?_ (fun n hn => by simp [SV.names] at hn), ?_⟩
                · rw [hne]
                  exact ⟨[.slice none 0 0], ⟨none, 0, rfl, Nat.le_refl _, .inl rfl⟩, rfl⟩
                · exact (ExtB.refl B ρ S st'.D w).congr (fun _ => Iff.rfl) (fun n => by unfold St.D; rw [St.obj_set]; rfl)
              · have hv : SVRel ρ S w (.tv ⟨.sl τ, []⟩) (a.eval s) := by rw [es]; exact ⟨[.slice none 0 0], ⟨none, 0, rfl, Nat.le_refl _, .inl rfl⟩, rfl⟩
                obtain ⟨v', w', S', hrun, hrel, hext⟩ := grow_rel hr.toRel el hsz o.type hdn (gr0 := st'.gr) (l := []) (xs := xr.1) (x := a.eval x) hv ⟨b, off, cc, news, by rw [ex, ead], hrep, hcells⟩ (.inl es) hne
                  (fun q hq => ⟨hq, fun e => hr.hg q hq (by rw [hdst, e]), .inl (by rw [es]; rfl)⟩) (fun _ _ _ _ _ => trivial) hlim
                refine wp_append hop' hrun ⟨ρ, S', ?_, ?_⟩
                · rw [hdst]
                  exact hrel.sub (gr := st'.gr) (fun q hq => List.mem_cons_of_mem _ hq)
                · rw [hdst]; exact hext
      · simp at h
    · rename_i q τ m0 n e hi m vx hq hty hs hx
      split at h
      · rename_i xs t hxs hob
        split at h
        · rename_i l hl
          have ht := TV.as_some hl
          subst ht
          cases hb : Nat.beq T T' && (Nat.beq τ.size q.2.1 && Ty.beq e τ) with
          | false => rw [hb] at h; simp at h
          | true =>
            rw [hb] at h
            simp only [cond_true] at h
            simp only [Bool.and_eq_true] at hb
            have hTT := Nat.eq_of_beq_eq_true hb.1
            subst hTT
            have ee := Ty.eq_of_beq hb.2.2
            subst ee
            cases hl2 : (xs.isEmpty || !(decide (hi + (xs.length : Int) ≤ m ∧ m ≤ (List.length l : Int)))) with
            | true => rw [hl2] at h; simp at h
            | false =>
              rw [hl2] at h
              simp only [cond_false] at h
              rw [Bool.or_eq_false_iff] at hl2
              have hne : xs ≠ [] := by intro e; rw [e] at hl2; simp at hl2
              have hfit : hi + (xs.length : Int) ≤ m ∧ m ≤ (List.length l : Int) := by
                have := hl2.2
                simp only [Bool.not_eq_false'] at this
                exact of_decide_eq_true this
              exact good_appIn hE (hop2 rfl) hdst hd hq hty hs hx hxs (Nat.eq_of_beq_eq_true hb.2.1) hne hob hfit h
        · simp at h
      · simp at h
    · simp at h
  · simp at h

theorem addr_add (b of j : Nat) : (⟨b, of, none⟩ : Addr).add j = ⟨b, of + j, none⟩ := by unfold Addr.add; split <;> simp_all

theorem copyL_rep {S : Stab} {w : World} {e : Ty} {m : Nat} {l xs : List e.den} {cs ds : List Value} {lo hi : Int} (h0 : 0 ≤ lo) (h1 : lo ≤ hi) (h2 : hi ≤ (m : Int)) (hl : Rep S w (.arr m e) l cs) (hx : RepL (Rep S w e) xs ds) :
    Rep S w (.arr m e) (copyL l xs lo hi) (cs.take (lo.toNat * e.size) ++ ds.take (min xs.length (hi - lo).toNat * e.size) ++ cs.drop (lo.toNat * e.size + min xs.length (hi - lo).toNat * e.size)) := by
  obtain ⟨hn, hl⟩ := hl
  have hR : ∀ (x : e.den) c, Rep S w e x c → c.length = e.size := fun x c => Rep.length e
  have a1 := (hl.split hR lo.toNat).1
  have a2 := (hl.split hR (lo.toNat + min xs.length (hi - lo).toNat)).2
  have a3 := (hx.split hR (min xs.length (hi - lo).toNat)).1
  have e3 : xs.take (min xs.length (hi - lo).toNat) = xs.take (hi - lo).toNat := by
    rw [List.take_eq_take_iff]; omega
  rw [e3] at a3
  rw [Nat.add_mul] at a2
  refine ⟨?_, ?_⟩
  · unfold copyL
    simp only [List.length_append, List.length_take, List.length_drop]
    omega
  · unfold copyL
    rw [List.append_assoc]
    exact a1.append (a3.append a2)

theorem good_copy {k : K R} (hE : EnvOK P E) (c : Call) (hop : o.op = .call c) (hg : c.callee = .builtin .copy) (hd : dstOK nt o.dst = true)
    (h : (match c.argTypes.toList, c.args.toList with
      | [T, _], [d, x] => match E.ty T, st.val d, st.val x with
        | some (.sl τ, _), some (.osl n σ [] lo hi), some vx => match st.obj n with
          | some ⟨.arr m e, a⟩ => bif Ty.beq e τ && Ty.beq σ (.arr m e) then (match vx.as (.sl e) with
            | some xs => k (.tv ⟨.int .i64, ((min xs.length (hi - lo).toNat : Nat) : Int)⟩) [(n, ⟨.arr m e, copyL a xs lo hi⟩)] [n]
            | none => none) else none
          | _ => none
        | _, _, _ => none
      | _, _ => none) = some r) : Good P nt st o k r := by
  split at h
  · rename_i T T' d x hT hA
    split at h
    · rename_i τ N n σ lo hi vx hty hdv hxv
      split at h
      · rename_i m e l hob
        cases hb : Ty.beq e τ && Ty.beq σ (.arr m e) with
        | false => rw [hb] at h; simp at h
        | true =>
          rw [hb] at h
          simp only [cond_true] at h
          simp only [Bool.and_eq_true] at hb
          have e1 := Ty.eq_of_beq hb.1
          subst e1
          have e2 := Ty.eq_of_beq hb.2
          subst e2
          split at h
          · rename_i xs hxs
            refine ⟨_, _, _, h, OpSem.writeV hd (by rw [hob]; rfl) rfl fun st' g1 g2 B ρ S a w hr => ?_⟩
            have hmem : ∀ y ∈ c.args.toList, y ∈ o.op.operands.toList := fun y hy => by simp [hop, Op.operands, Call.operands, hg]; simpa using hy
            have hd' : st'.val d = some (.osl n (.arr m e) [] lo hi) := by rw [val_agree g1 (x := d) (hmem d (by rw [hA]; simp))]; exact hdv
            have hx' : st'.val x = some vx := by rw [val_agree g1 (x := x) (hmem x (by rw [hA]; simp))]; exact hxv
            obtain ⟨m', e', o2, cap, q1, ok, q2, q3, q4, q5, q6⟩ := (hr.val hd').1
            simp only [tyAt, Option.some.injEq, Ty.arr.injEq] at q1
            obtain ⟨e3, e4⟩ := q1
            subst e3; subst e4
            obtain ⟨cs, T2, hrep, hheap, hoff⟩ := (hr.obj n _ (g2.trans hob)).plain rfl
            have hcl := Rep.length (.arr m e) hrep
            simp only [Ty.size] at hcl
            obtain ⟨xc, ⟨ad, cx, ex1, hcx, hl2⟩, ey⟩ := SV.as_rel hxs (hr.val hx').1
            subst ex1
            have ey : a.eval x = .slice ad xs.length cx := ey
            obtain ⟨E', k', hu, hlk, hsz⟩ := und_sl (hE.tab _ _ _ hty)
            have hsize : ∀ w, (sizeOf E').run P w = .ok e.size w := fun w => (hE.tab _ _ _ hlk).size w
            -- what is read
            have hload : ∃ ds, RepL (Rep S w e) xs ds ∧ (Builtin.firstCells e.size (min xs.length (hi - lo).toNat) (.slice ad xs.length cx)).run P w = .ok (ds.take (min xs.length (hi - lo).toNat * e.size)).toArray w := by
              rcases hl2 with hnil | ⟨b, of, ds, ead, hds, hlies⟩
              · have ex0 : xs = [] := hnil
                refine ⟨[], by rw [ex0]; rfl, ?_⟩
                rw [ex0]
                have := run_loadCells_list (P := P) w
                cases ad with
                | none => simp [Builtin.firstCells]
                | some ad => simpa [Builtin.firstCells] using this ad [] (by simp)
              · refine ⟨ds, hds, ?_⟩
                subst ead
                have hdl : ds.length = xs.length * e.size := RepL.length (fun x c => Rep.length e) hds
                have hle : min xs.length (hi - lo).toNat * e.size ≤ ds.length := by rw [hdl]; exact Nat.mul_le_mul_right _ (Nat.min_le_left _ _)
                have := run_loadCells_list (P := P) w ⟨b, of, none⟩ (ds.take (min xs.length (hi - lo).toNat * e.size)) (fun j u hj => by
                  rw [List.getElem?_take] at hj
                  split at hj
                  · rw [addr_add b of j]
                    exact (hlies j u hj).2
                  · simp at hj)
                rw [List.length_take, Nat.min_eq_left hle] at this
                exact this
            obtain ⟨ds, hds, hrun⟩ := hload
            have hdl : ds.length = xs.length * e.size := RepL.length (fun x c => Rep.length e) hds
            have hle : min xs.length (hi - lo).toNat * e.size ≤ ds.length := by rw [hdl]; exact Nat.mul_le_mul_right _ (Nat.min_le_left _ _)
            have htl : (ds.take (min xs.length (hi - lo).toNat * e.size)).length = min xs.length (hi - lo).toNat * e.size := by rw [List.length_take, Nat.min_eq_left hle]
            have hone : ∀ v ∈ ds.take (min xs.length (hi - lo).toNat * e.size), v.oneCell' = true := fun v hv => RepL.one (fun x c => Rep.one e) hds v (List.mem_of_mem_take hv)
            have hstore : (storeCells ⟨ρ n, o2, none⟩ (ds.take (min xs.length (hi - lo).toNat * e.size)) 0).run P w = .ok () (w.setRow (ρ n) (cs.take (lo.toNat * e.size) ++ ds.take (min xs.length (hi - lo).toNat * e.size) ++ cs.drop (lo.toNat * e.size + min xs.length (hi - lo).toNat * e.size)).toArray) := by
              by_cases hlo : lo < (m : Int)
              · have ho := q5 hlo
                have ho : o2 = lo.toNat * e.size := by rw [ho]; simp [off]
                have hb1 : (lo.toNat + min xs.length (hi - lo).toNat) * e.size ≤ m * e.size := Nat.mul_le_mul_right _ (by omega)
                rw [Nat.add_mul] at hb1
                have := run_storeCells_at (P := P) (ρ n) o2 T2 (ds.take (min xs.length (hi - lo).toNat * e.size)) 0 cs.toArray w hheap (by rw [htl, ho]; simp; omega) hone
                rw [this, ho, htl]
                simp
              · have hz : min xs.length (hi - lo).toNat = 0 := by omega
                rw [hz]
                simp only [Nat.zero_mul, List.take_zero, List.append_nil, Nat.add_zero, List.take_append_drop, storeCells]
                rw [setRow_self w (ρ n) cs.toArray T2 (0, 0) hheap]
                rfl
            refine ⟨_, .int .i64 ((min xs.length (hi - lo).toNat : Nat) : Int), fun w' le => copyL_rep q2 q3 q4 (hrep.le le _) (hds.imp fun _ _ h => h.le le e), fun w' => ⟨_, rfl, rfl⟩, ?_⟩
            have hargs : c.args.map a.eval = #[a.eval d, a.eval x] := by
              apply Array.toList_inj.1; simp [hA]
            have hats : c.argTypes = #[T, T'] := by apply Array.toList_inj.1; simpa using hT
            rw [execOp_bi hop hg, hargs, hats, q6, ey]
            have hmin : Nat.min xs.length (hi - lo).toNat = min xs.length (hi - lo).toNat := rfl
            simp [builtin, Builtin.copy_, run_underlying hu, Builtin.lenOf, hmin, hsize, hrun, hstore, goInt]
          · simp at h
      · simp at h
    · simp at h
  · simp at h

theorem imin (x y : Int) : (if y < x then y else x) = min x y := by rw [Int.min_def]; split <;> split <;> omega
theorem imax (x y : Int) : (if x < y then y else x) = max x y := by rw [Int.max_def]; split <;> split <;> omega

theorem good_min {k : K R} (c : Call) (hop : o.op = .call c) (hg : c.callee = .builtin .min) (hd : dstOK nt o.dst = true)
    (h : (match vals st c.args.toList with
      | some [.tv ⟨.int j, x⟩, .tv ⟨.int j', y⟩] => bif Nat.beq (kindNo j) (kindNo j') then k (.tv ⟨.int j, min x y⟩) [] [] else none
      | _ => none) = some r) : Good P nt st o k r := by
  split at h
  · rename_i j x j' y hv
    cases hb : Nat.beq (kindNo j) (kindNo j') with
    | false => rw [hb] at h; simp at h
    | true =>
      rw [hb] at h
      simp only [cond_true] at h
      refine ⟨_, [], [], h, OpSem.pure hd fun st' g1 g2 B ρ S a w hr => ?_⟩
      have hl' : vals st' c.args.toList = some [.tv ⟨.int j, x⟩, .tv ⟨.int j', y⟩] := by rw [vals_agree g1 (fun x hx => by simp [hop, Op.operands, Call.operands, hg]; simpa using hx)]; exact hv
      obtain ⟨⟨u, q, e1, hu, ⟨v, q', e2, hv', e3⟩⟩, _⟩ := hr.vals hl'
      subst e3; subst e2
      have hargs := args_one e1
      have eu := rel_int hu
      have ev := rel_int hv'
      subst eu; subst ev
      refine ⟨.int j (min x y), ?_, int_rel _ _ _ _ _, tv_names _⟩
      rw [execOp_bi hop hg, hargs]
      have := imin x y
      simp [builtin, Builtin.min_, Builtin.min2, this]
  · simp at h

theorem good_max {k : K R} (c : Call) (hop : o.op = .call c) (hg : c.callee = .builtin .max) (hd : dstOK nt o.dst = true)
    (h : (match vals st c.args.toList with
      | some [.tv ⟨.int j, x⟩, .tv ⟨.int j', y⟩] => bif Nat.beq (kindNo j) (kindNo j') then k (.tv ⟨.int j, max x y⟩) [] [] else none
      | _ => none) = some r) : Good P nt st o k r := by
  split at h
  · rename_i j x j' y hv
    cases hb : Nat.beq (kindNo j) (kindNo j') with
    | false => rw [hb] at h; simp at h
    | true =>
      rw [hb] at h
      simp only [cond_true] at h
      refine ⟨_, [], [], h, OpSem.pure hd fun st' g1 g2 B ρ S a w hr => ?_⟩
      have hl' : vals st' c.args.toList = some [.tv ⟨.int j, x⟩, .tv ⟨.int j', y⟩] := by rw [vals_agree g1 (fun x hx => by simp [hop, Op.operands, Call.operands, hg]; simpa using hx)]; exact hv
      obtain ⟨⟨u, q, e1, hu, ⟨v, q', e2, hv', e3⟩⟩, _⟩ := hr.vals hl'
      subst e3; subst e2
      have hargs := args_one e1
      have eu := rel_int hu
      have ev := rel_int hv'
      subst eu; subst ev
      refine ⟨.int j (max x y), ?_, int_rel _ _ _ _ _, tv_names _⟩
      rw [execOp_bi hop hg, hargs]
      have := imax x y
      simp [builtin, Builtin.max_, Builtin.max2, this]
  · simp at h

/-- EVERY OPERATION OF THE EVALUATOR KEEPS ITS PROMISE. -/
theorem evOp_ok {inl : Inl} (hE : EnvOK2 P E) (hI : InlOK P inl) {of : Nat} {k : K R} (hd : dstOK nt o.dst = true) (h : evOp E inl of st o R k = some r) : Good P nt st o k r := by
  have hE1 := hE.toEnvOK
  unfold evOp at h
  split at h
  · rename_i x hop; exact good_move x (.inl hop) hd h
  · rename_i x hop; exact good_move x (.inr hop) hd h
  · rename_i c a b hop; exact good_pick c a b hop hd h
  · rename_i T hop; exact good_alloc hE1 T hop hd h
  · rename_i T x hop; exact good_box hE1 T x hop hd h
  · rename_i T ps hop; exact good_build hE1 T ps hop hd h
  · rename_i T n ps hop; exact good_buildSlice hE1 T n ps hop hd h
  · rename_i T a hop; exact good_load hE1 T a hop hd h
  · rename_i T a x hop; exact good_store hE1 T a x hop hd h
  · rename_i x hop; exact good_nilCheck x hop hd h
  · rename_i op T x y U hop; exact good_binOp hE op T x y U hop hd h
  · rename_i op T x hop; exact good_unOp op T x hop hd h
  · rename_i s d x hop; exact good_convert hE1 s d x hop hd h
  · rename_i T x i hop; exact good_fieldAddr hE1 T x i hop hd h
  · rename_i T x i hop; exact good_field hE1 T x i hop hd h
  · rename_i T x i hop; exact good_indexAddr hE1 T x i hop hd h
  · rename_i T x i hop; exact good_index hE1 T x i hop hd h
  · rename_i T x lo hi hop; exact good_slice hE1 T x lo hi hop hd h
  · rename_i T x lo hh mx hop; exact good_slice3 hE1 T x lo hh mx hop hd h
  · rename_i T x hop; exact good_s2ap hE1 T x hop hd h
  · rename_i x i hop; exact good_extract x i hop hd h
  · rename_i f first caps hop; exact good_makeFunc f first caps hop hd h
  · rename_i c hop
    split at h
    · rename_i g hg; exact good_call hE1 hI c g hop hg hd h
    · rename_i hg; exact good_len hE1 c hop hg hd h
    · rename_i hg; exact good_append hE c hop hg hd h
    · rename_i hg; exact good_copy hE1 c hop hg hd h
    · rename_i hg; exact good_min c hop hg hd h
    · rename_i hg; exact good_max c hop hg hd h
    · simp at h
  · simp at h

end
end Go.Ev

namespace Go.Ev
set_option linter.unusedVariables false

structure It where
  o : Oper
  v : SV
  os : List (Nat × TV)
  fp : FP
  /-- Slots that may not be appended to in place any more, and slots that now may. -/
  gd : List Nat
  ga : List (Nat × (Nat × Nat))

theorem any_beq {l : List Nat} {t : Nat} : l.any (Nat.beq t) = true ↔ t ∈ l := by
  rw [List.any_eq_true]
  constructor
  · rintro ⟨x, hx, h⟩; rw [Nat.eq_of_beq_eq_true h]; exact hx
  · intro h; exact ⟨t, h, Nat.beq_refl t⟩

theorem mem_gapp {gd : List Nat} {ga gr : List (Nat × (Nat × Nat))} {q : Nat × (Nat × Nat)} : q ∈ gapp gd ga gr ↔ q ∈ ga ∨ (q ∈ gr ∧ q.1 ∉ gd) := by
  unfold gapp
  rw [List.mem_append, List.mem_filter]
  refine or_congr Iff.rfl (and_congr Iff.rfl ?_)
  rw [Bool.not_eq_true', ← any_beq, Bool.not_eq_true]

/-- The state after an operation of a region. -/
def It.app (it : It) (st : St) : St := { st.set it.o.dst it.v it.os with gr := gapp it.gd it.ga st.gr }

theorem It.app_eqv (it : It) {s t : St} (h : Eqv s t) : Eqv (it.app s) (it.app t) :=
  ⟨(h.set it.o.dst it.v it.os).tmp, (h.set it.o.dst it.v it.os).obj, fun q => by
    show q ∈ gapp _ _ _ ↔ q ∈ gapp _ _ _
    rw [mem_gapp, mem_gapp, h.gr q]⟩

section
variable {P : Program} {E : Env} {nt B : Nat} {R : Type} {r : R}

/-- What one operation of a region does, wherever those parts of the state that it looks at are as they are at its place in the text. -/
def StepSem (P : Program) (nt : Nat) (ops : Array Oper) (st : St) (it : It) : Prop :=
  ∀ st' : St, (∀ t ∈ it.fp.rt, st'.tmp t = st.tmp t) → (∀ n ∈ it.fp.ro, st'.obj n = st.obj n) → (∀ n ∈ it.fp.wo, st'.obj n = st.obj n) → (∀ q, q.1 ∈ it.fp.rt ∨ q.1 ∈ it.fp.wt → (q ∈ st'.gr ↔ q ∈ st.gr)) → ∀ B ρ S a w, Rel nt B ρ S st' a w →
    ∀ Q (K : Act → World → Prop), (∀ a' w', Post nt B ρ S st' (it.app st') w a' w' → K a' w') →
      if Region.wanted it.o (yielded ops a.tmps) then it.o.wp P a w K Q ∨ (it.o.asks P a w ∧ LetsOut Q) else K (a.put it.o.dst undef) w

inductive Tr (P : Program) (nt : Nat) (ops : Array Oper) : List Oper → St → List It → St → Prop
  | nil (st st' : St) (e : Eqv st st') : Tr P nt ops [] st [] st'
  | cons (rest : List Oper) (st st1 st' : St) (it : It) (items : List It) (h : StepSem P nt ops st it) (hw : ∀ t, it.o.dst = some t → t ∈ it.fp.wt) (hwo : it.fp.wo = it.os.map (·.1))
      (hgd : ∀ t ∈ it.gd, t ∈ it.fp.wt) (hga : ∀ q ∈ it.ga, q.1 ∈ it.gd) (e : Eqv st1 (it.app st)) (t : Tr P nt ops rest st1 items st') : Tr P nt ops (it.o :: rest) st (it :: items) st'

theorem yielded_tmp {ops : Array Oper} {j : Nat} {t : Nat} {g : Oper} (hg : ops[j]? = some g) (ht : g.dst = some t) {ρ : Nat → Nat} {S : Stab} {st : St} {a : Act} {w : World} (hr : Rel nt B ρ S st a w) {b : Bool} (hv : st.tmp t = some (.tv ⟨.bool, b⟩)) :
    yielded ops a.tmps j = some b := by
  have e := rel_bool (hr.tmp t _ hv)
  unfold yielded
  simp only [hg, Option.bind_some, ht]
  cases hq : a.tmps[t]? with
  | none =>
    have : a.tmps.getD t undef = undef := by rw [Array.getD_eq_getD_getElem?, hq]; rfl
    rw [this] at e; simp [undef] at e
  | some x =>
    have : a.tmps.getD t undef = x := by rw [Array.getD_eq_getD_getElem?, hq]; rfl
    rw [this] at e; subst e; rfl

theorem guardT_spec {ops : Array Oper} {o : Oper} {t : Nat} (h : guardT ops.toList o = some t) : ∃ j want g, o.guard = some (j, want) ∧ ops[j]? = some g ∧ g.dst = some t := by
  unfold guardT at h
  split at h
  · rename_i j want hg
    split at h
    · rename_i g hj
      exact ⟨j, want, g, hg, by simpa using hj, h⟩
    · simp at h
  · simp at h

theorem Rel.dropD {d : Option Nat} {ρ : Nat → Nat} {S : Stab} {st : St} {a : Act} {w : World} (hr : Rel nt B ρ S st a w) : RelO nt B d ρ S { st with gr := gapp d.toList [] st.gr } a w :=
  ⟨hr.sub fun q hq => by
    rcases mem_gapp.1 hq with h | h
    · simp at h
    · exact h.1, fun q hq e => by
    rcases mem_gapp.1 hq with h | h
    · simp at h
    · exact h.2 (by rw [e]; simp)⟩

/-- An operation that is carried out. -/
theorem step_run {ops : Array Oper} {o : Oper} {st st0 : St} {v : SV} {os : List (Nat × TV)} {ro : List Nat} {gt : Option Nat} (hst : Eqv st0 st) (hsem : OpSem P nt o st0 v os ro)
    (hg : (o.guard = none ∧ gt = none) ∨ ∃ j want t g, o.guard = some (j, want) ∧ gt = some t ∧ ops[j]? = some g ∧ g.dst = some t ∧ st.tmp t = some (.tv ⟨.bool, want⟩)) :
    StepSem P nt ops st ⟨o, v, os, fpOf o gt ro (os.map (·.1)), o.dst.toList, []⟩ := by
  intro st' h1 h2 h3 _ B ρ S a w hr Q K hK
  have hrt : ∀ t ∈ opTmps o.op.operands.toList, st'.tmp t = st0.tmp t := fun t ht => by
    rw [hst.tmp]
    refine h1 t ?_
    simp only [fpOf]
    cases gt with
    | none => exact ht
    | some x => exact List.mem_cons_of_mem _ ht
  have hw : Region.wanted o (yielded ops a.tmps) = true := by
    rcases hg with ⟨e, _⟩ | ⟨j, want, t, g, e, e2, e3, e4, e5⟩
    · simp [Region.wanted, e]
    · have hv : st'.tmp t = some (.tv ⟨.bool, want⟩) := by
        rw [h1 t (by simp [fpOf, e2])]; exact e5
      simp [Region.wanted, e, yielded_tmp e3 e4 hr hv]
  rw [if_pos hw]
  left
  have := hsem { st' with gr := gapp o.dst.toList [] st'.gr } hrt (fun n hn => by rw [hst.obj]; exact h2 n hn) (fun n hn => by rw [hst.obj]; exact h3 n hn) B ρ S a w hr.dropD Q
  exact Oper.wp_mono (fun a' w' h => hK a' w' h) this

/-- An operation whose guard is not met. -/
theorem step_skip {ops : Array Oper} {o : Oper} {st : St} (hd : dstOK nt o.dst = true) {j t : Nat} {want : Bool} {g : Oper} (e : o.guard = some (j, want)) (e3 : ops[j]? = some g) (e4 : g.dst = some t) (e5 : st.tmp t = some (.tv ⟨.bool, !want⟩)) :
    StepSem P nt ops st ⟨o, .undef, [], fpOf o (some t) [] [], o.dst.toList, []⟩ := by
  intro st' h1 h2 h3 _ B ρ S a w hr Q K hK
  have hv : st'.tmp t = some (.tv ⟨.bool, !want⟩) := by
    rw [h1 t (by simp [fpOf])]; exact e5
  have hw : ¬ Region.wanted o (yielded ops a.tmps) = true := by
    simp [Region.wanted, e, yielded_tmp e3 e4 hr hv]
  rw [if_neg hw]
  refine hK _ _ ⟨ρ, S, hr.dropD.pure (st := { st' with gr := gapp o.dst.toList [] st'.gr }) hd rfl (fun n hn => by simp [SV.names] at hn), ?_⟩
  exact (ExtB.refl B ρ S st'.D w).congr (fun _ => Iff.rfl) (fun n => by show st'.D n ↔ (st'.set o.dst SV.undef []).D n; unfold St.D; rw [St.obj_set]; rfl)

theorem yielded_undef {ops : Array Oper} {j t : Nat} {g : Oper} {st : St} {ρ : Nat → Nat} {S : Stab} {a : Act} {w : World} (hj : ops[j]? = some g) (hg : g.dst = some t) (hr : Rel nt B ρ S st a w) (e : st.tmp t = some .undef) : yielded ops a.tmps j = none := by
  have h := hr.tmp t _ e
  have h : a.tmps.getD t undef = undef := h
  unfold yielded
  simp only [hj, Option.bind_some, hg]
  cases hq : a.tmps[t]? with
  | none => rfl
  | some x =>
    have : a.tmps.getD t undef = x := by rw [Array.getD_eq_getD_getElem?, hq]; rfl
    rw [this] at h; subst h; rfl

/-- An operation whose guard itself was not carried out. -/
theorem step_skip' {ops : Array Oper} {o : Oper} {st : St} (hd : dstOK nt o.dst = true) {j t : Nat} {want : Bool} {g : Oper} (e : o.guard = some (j, want)) (e3 : ops[j]? = some g) (e4 : g.dst = some t) (e5 : st.tmp t = some .undef) :
    StepSem P nt ops st ⟨o, .undef, [], fpOf o (some t) [] [], o.dst.toList, []⟩ := by
  intro st' h1 h2 h3 _ B ρ S a w hr Q K hK
  have hv : st'.tmp t = some .undef := by
    rw [h1 t (by simp [fpOf])]; exact e5
  have hw : ¬ Region.wanted o (yielded ops a.tmps) = true := by
    simp [Region.wanted, e, yielded_undef e3 e4 hr hv]
  rw [if_neg hw]
  refine hK _ _ ⟨ρ, S, hr.dropD.pure (st := { st' with gr := gapp o.dst.toList [] st'.gr }) hd rfl (fun n hn => by simp [SV.names] at hn), ?_⟩
  exact (ExtB.refl B ρ S st'.D w).congr (fun _ => Iff.rfl) (fun n => by show st'.D n ↔ (st'.set o.dst SV.undef []).D n; unfold St.D; rw [St.obj_set]; rfl)

theorem eqv_same {st : St} {t : Nat} {v : SV} (h : st.tmp t = some v) : Eqv (st.set (some t) v []) st :=
  ⟨fun i => by
    rw [St.tmp_set]
    by_cases e : t = i
    · subst e; simp [h]
    · rw [if_neg (by simp; exact e)], fun n => by rw [St.obj_set]; rfl, fun _ => Iff.rfl⟩

theorem eqv_app {o : Oper} {v : SV} {os : List (Nat × TV)} {fp : FP} {st0 st : St} (h : Eqv st0 st) (hno : ∀ q ∈ st.gr, o.dst ≠ some q.1) : Eqv (st0.set o.dst v os) (It.app ⟨o, v, os, fp, o.dst.toList, []⟩ st) :=
  ⟨(h.set o.dst v os).tmp, (h.set o.dst v os).obj, fun q => by
    show q ∈ st0.gr ↔ q ∈ gapp o.dst.toList [] st.gr
    rw [mem_gapp, h.gr q]
    constructor
    · intro hq
      refine .inr ⟨hq, fun e => hno q hq ?_⟩
      cases hd : o.dst with
      | none => rw [hd] at e; simp at e
      | some d => rw [hd] at e; simp at e; rw [e]
    · rintro (hq | hq)
      · simp at hq
      · exact hq.1⟩

theorem evOps_tr {inl : Inl} (hE : EnvOK2 P E) (hI : InlOK P inl) {off : Nat} {ops : Array Oper} {k : St → List FP → Option R} : ∀ (rest : List Oper) (st : St) (fps : List FP), (∀ o ∈ rest, ∀ q ∈ st.gr, o.dst ≠ some q.1) → evOps E inl off nt ops.toList R k rest st fps = some r →
    ∃ items st' , k st' ((items.map It.fp).reverse ++ fps) = some r ∧ Tr P nt ops rest st items st' ∧ st'.tl = st.tl ∧ st'.ol = st.ol
  | [], st, fps, _, h => ⟨[], st, by simpa [evOps] using h, .nil st st (Eqv.refl st), rfl, rfl⟩
  | o :: rest, st, fps, hno, h => by
    simp only [evOps] at h
    have hno0 := hno o (by simp)
    have hnoR : ∀ st1 : St, Eqv st1 st → ∀ v os, ∀ o' ∈ rest, ∀ q ∈ (st1.set o.dst v os).gr, o'.dst ≠ some q.1 := fun st1 he v os o' ho' q hq => hno o' (by simp [ho']) q ((he.gr q).1 hq)
    cases hd : dstOK nt o.dst with
    | false => rw [hd] at h; simp at h
    | true =>
      rw [hd] at h
      simp only [Bool.not_true, cond_false] at h
      -- the two kinds of steps
      have run : ∀ (st0 : St) (gt : Option Nat), Eqv st0 st → st0.tl = st.tl → st0.ol = st.ol →
          ((o.guard = none ∧ gt = none) ∨ ∃ j want t g, o.guard = some (j, want) ∧ gt = some t ∧ ops[j]? = some g ∧ g.dst = some t ∧ st.tmp t = some (.tv ⟨.bool, want⟩)) →
          evOp E inl off st0 o R (fun v os ro => evOps E inl off nt ops.toList R k rest (st0.set o.dst v os) (fpOf o gt ro (os.map (·.1)) :: fps)) = some r →
          ∃ items st' , k st' ((items.map It.fp).reverse ++ fps) = some r ∧ Tr P nt ops (o :: rest) st items st' ∧ st'.tl = st.tl ∧ st'.ol = st.ol := by
        intro st0 gt he ht ho hg h
        obtain ⟨v, os, ro, hk, hsem⟩ := evOp_ok hE hI hd h
        obtain ⟨items, st', h1, h2, h3, h4⟩ := evOps_tr hE hI rest _ _ (hnoR st0 he v os) hk
        refine ⟨⟨o, v, os, fpOf o gt ro (os.map (·.1)), o.dst.toList, []⟩ :: items, st', by simpa using h1, ?_, h3.trans ht, h4.trans ho⟩
        exact .cons rest st _ st' ⟨o, v, os, fpOf o gt ro (os.map (·.1)), o.dst.toList, []⟩ items (step_run he hsem hg) (fun t h => by simp only at h; simp [fpOf, h]) rfl (fun t h => h) (fun q h => by simp at h) (eqv_app he hno0) h2
      have skip : ∀ (st0 : St) (t j : Nat) (want : Bool) (g : Oper), Eqv st0 st → st0.tl = st.tl → st0.ol = st.ol → o.guard = some (j, want) → ops[j]? = some g → g.dst = some t → st.tmp t = some (.tv ⟨.bool, !want⟩) →
          evOps E inl off nt ops.toList R k rest (st0.set o.dst .undef []) (fpOf o (some t) [] [] :: fps) = some r →
          ∃ items st' , k st' ((items.map It.fp).reverse ++ fps) = some r ∧ Tr P nt ops (o :: rest) st items st' ∧ st'.tl = st.tl ∧ st'.ol = st.ol := by
        intro st0 t j want g he ht ho e1 e2 e3 e4 h
        obtain ⟨items, st', h1, h2, h3, h4⟩ := evOps_tr hE hI rest _ _ (hnoR st0 he .undef []) h
        refine ⟨⟨o, .undef, [], fpOf o (some t) [] [], o.dst.toList, []⟩ :: items, st', by simpa using h1, ?_, h3.trans ht, h4.trans ho⟩
        exact .cons rest st _ st' ⟨o, .undef, [], fpOf o (some t) [] [], o.dst.toList, []⟩ items (step_skip hd e1 e2 e3 e4) (fun t h => by simp only at h; simp [fpOf, h]) rfl (fun t h => h) (fun q h => by simp at h) (eqv_app he hno0) h2
      split at h
      · rename_i hg
        exact run st none (Eqv.refl st) rfl rfl (.inl ⟨hg, rfl⟩) h
      · rename_i j want hg
        split at h
        · simp at h
        · rename_i t hgt
          obtain ⟨j', want', g, g1, g2, g3⟩ := guardT_spec hgt
          rw [hg] at g1
          simp only [Option.some.injEq, Prod.mk.injEq] at g1
          obtain ⟨e1, e2⟩ := g1
          subst e1; subst e2
          split at h
          · rename_i b htb
            cases b with
            | true =>
              simp only [cond_true] at h
              cases want with
              | true =>
                simp only [cond_true] at h
                exact run _ (some t) (eqv_same htb) rfl rfl (.inr ⟨j, true, t, g, hg, rfl, g2, g3, htb⟩) h
              | false =>
                simp only [cond_false] at h
                exact skip _ t j false g (eqv_same htb) rfl rfl hg g2 g3 htb h
            | false =>
              simp only [cond_false] at h
              cases want with
              | true =>
                simp only [cond_true] at h
                exact skip _ t j true g (eqv_same htb) rfl rfl hg g2 g3 htb h
              | false =>
                simp only [cond_false] at h
                exact run _ (some t) (eqv_same htb) rfl rfl (.inr ⟨j, false, t, g, hg, rfl, g2, g3, htb⟩) h
          · rename_i htb
            obtain ⟨items, st', h1, h2, h3, h4⟩ := evOps_tr hE hI rest _ _ (hnoR st (Eqv.refl st) .undef []) h
            refine ⟨⟨o, .undef, [], fpOf o (some t) [] [], o.dst.toList, []⟩ :: items, st', by simpa using h1, ?_, h3, h4⟩
            exact .cons rest st _ st' ⟨o, .undef, [], fpOf o (some t) [] [], o.dst.toList, []⟩ items (step_skip' hd hg g2 g3 htb) (fun t h => by simp only at h; simp [fpOf, h]) rfl (fun t h => h) (fun q h => by simp at h) (eqv_app (Eqv.refl st) hno0) h2
          · simp at h

theorem Post.trans {ρ : Nat → Nat} {S : Stab} {st st1 st2 : St} {w w1 : World} {ρ1 : Nat → Nat} {S1 : Stab} (e : ExtB B ρ S st.D w ρ1 S1 st1.D w1) {a2 : Act} {w2 : World} (h : Post nt B ρ1 S1 st1 st2 w1 a2 w2) : Post nt B ρ S st st2 w a2 w2 := by
  obtain ⟨ρ2, S2, h1, h2⟩ := h
  exact ⟨ρ2, S2, h1, e.trans h2⟩

theorem Post.eqv {ρ : Nat → Nat} {S : Stab} {st st1 st2 : St} {w : World} {a : Act} {w' : World} (h : Post nt B ρ S st st1 w a w') (e : Eqv st1 st2) : Post nt B ρ S st st2 w a w' := by
  obtain ⟨ρ', S', h1, h2⟩ := h
  exact ⟨ρ', S', h1.eqv e, h2.congr (fun _ => Iff.rfl) (fun n => e.D n)⟩

/-- In the order of the text. -/
theorem tr_list {ops : Array Oper} {Q : Exit → Act → World → Prop} : ∀ {rest : List Oper} {st st' : St} {items : List It}, Tr P nt ops rest st items st' → ∀ B ρ S a w, Rel nt B ρ S st a w →
    (∀ a' w', Post nt B ρ S st st' w a' w' → Q .normal a' w') → wpList P ops Q rest a w
  | _, _, _, _, .nil st st' e, B, ρ, S, a, w, hr, hq => hq a w ⟨ρ, S, hr.eqv e, (ExtB.refl B ρ S st.D w).congr (fun _ => Iff.rfl) (fun n => e.D n)⟩
  | _, _, _, _, .cons rest st st1 st' it items h hw hwo hgd hga e t, B, ρ, S, a, w, hr, hq => by
    have := h st (fun _ _ => rfl) (fun _ _ => rfl) (fun _ _ => rfl) (fun _ _ => Iff.rfl) B ρ S a w hr Q (wpList P ops Q rest) (fun a1 w1 hp => by
      obtain ⟨ρ1, S1, h1, h2⟩ := hp.eqv e.symm
      exact tr_list t B ρ1 S1 a1 w1 h1 fun a2 w2 hp2 => hq a2 w2 (Post.trans h2 hp2))
    simpa only [wpList] using this

/-! ### In whatever order -/
def applyL : List It → (Nat → Bool) → St → St
  | [], _, st => st
  | it :: r, f, st => applyL r (fun j => f (j + 1)) (if f 0 then it.app st else st)

theorem It.app_tmp (it : It) (st : St) (t : Nat) : (it.app st).tmp t = if it.o.dst = some t then some it.v else st.tmp t := by
  have : (it.app st).tmp t = (st.set it.o.dst it.v it.os).tmp t := rfl
  rw [this, St.tmp_set]
theorem It.app_obj (it : It) (st : St) (n : Nat) : (it.app st).obj n = (st.set it.o.dst it.v it.os).obj n := rfl

def lastT (t : Nat) : List It → (Nat → Bool) → Option SV
  | [], _ => none
  | it :: r, f => match lastT t r (fun j => f (j + 1)) with
    | some v => some v
    | none => if f 0 = true ∧ it.o.dst = some t then some it.v else none

def lastO (n : Nat) : List It → (Nat → Bool) → Option TV
  | [], _ => none
  | it :: r, f => match lastO n r (fun j => f (j + 1)) with
    | some v => some v
    | none => if f 0 = true then lk n it.os else none

def lastG (t : Nat) : List It → (Nat → Bool) → Option (List (Nat × (Nat × Nat)))
  | [], _ => none
  | it :: r, f => match lastG t r (fun j => f (j + 1)) with
    | some v => some v
    | none => if f 0 = true ∧ t ∈ it.gd then some it.ga else none

theorem applyL_gr (q : Nat × (Nat × Nat)) : ∀ (l : List It) (f : Nat → Bool) (st : St), (∀ it ∈ l, ∀ q ∈ it.ga, q.1 ∈ it.gd) → (q ∈ (applyL l f st).gr ↔ match lastG q.1 l f with | some ga => q ∈ ga | none => q ∈ st.gr)
  | [], f, st, _ => Iff.rfl
  | it :: r, f, st, h => by
    simp only [applyL, lastG]
    rw [applyL_gr q r _ _ (fun x hx => h x (by simp [hx]))]
    cases lastG q.1 r (fun j => f (j + 1)) with
    | some v => exact Iff.rfl
    | none =>
      simp only
      by_cases h0 : f 0 = true
      · simp only [h0, if_true, true_and]
        show q ∈ gapp it.gd it.ga st.gr ↔ _
        rw [mem_gapp]
        by_cases hg : q.1 ∈ it.gd
        · simp [hg]
        · simp only [hg, if_false, not_false_eq_true, and_true]
          exact ⟨fun k => k.resolve_left fun k => hg (h it (by simp) q k), fun k => .inr k⟩
      · simp [h0]

theorem lastG_congr (t : Nat) : ∀ (l : List It) (f g : Nat → Bool), (∀ j it, l[j]? = some it → t ∈ it.gd → f j = g j) → lastG t l f = lastG t l g
  | [], f, g, _ => rfl
  | it :: r, f, g, h => by
    simp only [lastG]
    rw [lastG_congr t r (fun j => f (j + 1)) (fun j => g (j + 1)) fun j it' hj hd => h (j + 1) it' (by simpa using hj) hd]
    cases lastG t r (fun j => g (j + 1)) with
    | some v => rfl
    | none =>
      simp only
      by_cases hd : t ∈ it.gd
      · rw [h 0 it rfl hd]
      · simp [hd]

theorem lastG_at (t : Nat) : ∀ (l : List It) (f : Nat → Bool) (i : Nat) (it : It), l[i]? = some it → t ∈ it.gd → f i = true → (∀ j it', i < j → l[j]? = some it' → t ∈ it'.gd → f j = false) → lastG t l f = some it.ga
  | [], f, i, it, h, _, _, _ => by simp at h
  | it0 :: r, f, 0, it, h, hd, hf, hl => by
    simp at h; subst h
    have : lastG t r (fun j => f (j + 1)) = none := by
      have key : ∀ (r : List It) (g : Nat → Bool), (∀ j it', r[j]? = some it' → t ∈ it'.gd → g j = false) → lastG t r g = none := by
        intro r
        induction r with
        | nil => intro g _; rfl
        | cons a r ih =>
          intro g hg
          simp only [lastG]
          rw [ih (fun j => g (j + 1)) fun j it' hj hd => hg (j + 1) it' (by simpa using hj) hd]
          simp only
          by_cases hd : t ∈ a.gd
          · rw [hg 0 a rfl hd]; simp
          · simp [hd]
      exact key r _ fun j it' hj hd' => hl (j + 1) it' (by omega) (by simpa using hj) hd'
    simp only [lastG, this, hf, hd, and_self, if_true]
  | it0 :: r, f, i + 1, it, h, hd, hf, hl => by
    simp only [lastG]
    rw [lastG_at t r (fun j => f (j + 1)) i it (by simpa using h) hd hf fun j it' hj hj' hd' => hl (j + 1) it' (by omega) (by simpa using hj') hd']

theorem applyL_tmp (t : Nat) : ∀ (l : List It) (f : Nat → Bool) (st : St), (applyL l f st).tmp t = match lastT t l f with | some v => some v | none => st.tmp t
  | [], f, st => rfl
  | it :: r, f, st => by
    simp only [applyL, lastT]
    rw [applyL_tmp t r]
    cases lastT t r (fun j => f (j + 1)) with
    | some v => rfl
    | none =>
      simp only
      by_cases h0 : f 0 = true
      · simp only [h0, if_true, It.app_tmp, true_and]
        split <;> rfl
      · simp [h0]

theorem applyL_obj (n : Nat) : ∀ (l : List It) (f : Nat → Bool) (st : St), (applyL l f st).obj n = match lastO n l f with | some v => some v | none => st.obj n
  | [], f, st => rfl
  | it :: r, f, st => by
    simp only [applyL, lastO]
    rw [applyL_obj n r]
    cases lastO n r (fun j => f (j + 1)) with
    | some v => rfl
    | none =>
      simp only
      by_cases h0 : f 0 = true
      · simp only [h0, if_true, It.app_obj, St.obj_set]
        cases lk n it.os <;> rfl
      · simp [h0]

theorem lastT_congr (t : Nat) : ∀ (l : List It) (f g : Nat → Bool), (∀ j it, l[j]? = some it → it.o.dst = some t → f j = g j) → lastT t l f = lastT t l g
  | [], f, g, _ => rfl
  | it :: r, f, g, h => by
    simp only [lastT]
    rw [lastT_congr t r (fun j => f (j + 1)) (fun j => g (j + 1)) fun j it' hj hd => h (j + 1) it' (by simpa using hj) hd]
    cases lastT t r (fun j => g (j + 1)) with
    | some v => rfl
    | none =>
      simp only
      by_cases hd : it.o.dst = some t
      · rw [h 0 it rfl hd]
      · simp [hd]

theorem lastO_congr (n : Nat) : ∀ (l : List It) (f g : Nat → Bool), (∀ j it, l[j]? = some it → n ∈ it.os.map (·.1) → f j = g j) → lastO n l f = lastO n l g
  | [], f, g, _ => rfl
  | it :: r, f, g, h => by
    simp only [lastO]
    rw [lastO_congr n r (fun j => f (j + 1)) (fun j => g (j + 1)) fun j it' hj hd => h (j + 1) it' (by simpa using hj) hd]
    cases lastO n r (fun j => g (j + 1)) with
    | some v => rfl
    | none =>
      simp only
      by_cases hd : n ∈ it.os.map (·.1)
      · rw [h 0 it rfl hd]
      · have : lk n it.os = none := lk_none_of fun x hx => hd (List.mem_map.2 ⟨(n, x), hx, rfl⟩)
        simp [this]

theorem applyL_eqv : ∀ (l : List It) (f : Nat → Bool) {s t : St}, Eqv s t → Eqv (applyL l f s) (applyL l f t)
  | [], f, s, t, e => e
  | it :: r, f, s, t, e => by
    simp only [applyL]
    refine applyL_eqv r _ ?_
    split
    · exact it.app_eqv e
    · exact e

theorem applyL_false : ∀ (l : List It) (f : Nat → Bool) (s : St), (∀ j, f j = false) → applyL l f s = s
  | [], f, s, _ => rfl
  | it :: r, f, s, h => by simp only [applyL, h 0]; exact applyL_false r _ _ fun j => h (j + 1)

/-- The place of each operation in a trace. -/
theorem tr_get {ops : Array Oper} : ∀ {rest : List Oper} {st st' : St} {items : List It}, Tr P nt ops rest st items st' → ∀ (i : Nat) (it : It), items[i]? = some it →
    rest[i]? = some it.o ∧ (∀ t, it.o.dst = some t → t ∈ it.fp.wt) ∧ it.fp.wo = it.os.map (·.1) ∧ (∀ t ∈ it.gd, t ∈ it.fp.wt) ∧ (∀ q ∈ it.ga, q.1 ∈ it.gd) ∧ ∃ sti, Eqv sti (applyL items (fun j => decide (j < i)) st) ∧ StepSem P nt ops sti it
  | _, _, _, _, .nil st st' e, i, it, h => by simp at h
  | _, _, _, _, .cons rest st st1 st' it0 items h hw hwo hgd hga e t, 0, it, hi => by
    simp at hi; subst hi
    refine ⟨rfl, hw, hwo, hgd, hga, st, ?_, h⟩
    rw [applyL_false _ _ _ (fun j => by simp)]; exact Eqv.refl st
  | _, _, _, _, .cons rest st st1 st' it0 items h hw hwo hgd hga e t, i + 1, it, hi => by
    obtain ⟨h1, h2, h3, h3', h3'', sti, h4, h5⟩ := tr_get t i it (by simpa using hi)
    refine ⟨by simpa using h1, h2, h3, h3', h3'', sti, h4.trans ?_, h5⟩
    simp only [applyL]
    have : (fun j => decide (j + 1 < i + 1)) = (fun j => decide (j < i)) := by funext j; simp
    rw [this]
    simp only [Nat.zero_lt_succ, decide_true, if_true]
    exact applyL_eqv items _ e

theorem tr_ga {ops : Array Oper} {rest : List Oper} {st st' : St} {items : List It} (t : Tr P nt ops rest st items st') : ∀ it ∈ items, ∀ q ∈ it.ga, q.1 ∈ it.gd := fun it hi => by
  obtain ⟨i, hi⟩ := List.getElem?_of_mem hi
  exact (tr_get t i it hi).2.2.2.2.1

theorem tr_length {ops : Array Oper} {rest : List Oper} {st st' : St} {items : List It} (t : Tr P nt ops rest st items st') : items.length = rest.length := by
  induction t with
  | nil => rfl
  | cons => simp_all

theorem tr_end {ops : Array Oper} {rest : List Oper} {st st' : St} {items : List It} (t : Tr P nt ops rest st items st') : Eqv (applyL items (fun _ => true) st) st' := by
  induction t with
  | nil st st' e => exact e
  | cons rest st st1 st' it items h hw hwo hgd hga e t ih =>
    simp only [applyL, if_true]
    exact (applyL_eqv items _ e.symm).trans ih

theorem meets_false {a b : List Nat} (h : meets a b = false) : ∀ x ∈ a, x ∉ b := by
  intro x hx hb
  unfold meets at h
  rw [List.any_eq_false] at h
  have := h x hx
  rw [Bool.not_eq_true, List.any_eq_false] at this
  exact this x hb (by simp)

/-- Ancestors and absence of clashes, out of the evaluator's look. -/
structure Anc (ops : List Oper) (fps : List FP) (A : Nat → List Nat) : Prop where
  edge : ∀ j o, ops[j]? = some o → ∀ x ∈ A j, ∃ e ∈ o.after, Region.binds .any e = true ∧ e.on < j ∧ (x = e.on ∨ x ∈ A e.on)
  free : ∀ i j f g, i < j → fps[i]? = some g → fps[j]? = some f → i ∈ A j ∨ clash g f = false
  on : ∀ j o, ops[j]? = some o → ∀ e ∈ o.after, Region.binds .any e = true → e.on < j

def look (acc : List (FP × List Nat)) (n i : Nat) : Option (FP × List Nat) := if i < n then acc[n - 1 - i]? else none

theorem look_cons (x : FP × List Nat) (acc : List (FP × List Nat)) (n i : Nat) (h : i < n) : look (x :: acc) (n + 1) i = look acc n i := by
  unfold look
  rw [if_pos (by omega), if_pos h, show n + 1 - 1 - i = (n - 1 - i) + 1 by omega]; rfl
theorem look_new (x : FP × List Nat) (acc : List (FP × List Nat)) (n : Nat) : look (x :: acc) (n + 1) n = some x := by
  unfold look
  rw [if_pos (by omega), show n + 1 - 1 - n = 0 by omega]; rfl

structure GoodAcc (ops : List Oper) (fps : List FP) (n : Nat) (acc : List (FP × List Nat)) : Prop where
  fp : ∀ i, i < n → ∃ x, look acc n i = some x ∧ fps[i]? = some x.1
  edge : ∀ j x o, j < n → look acc n j = some x → ops[j]? = some o → ∀ y ∈ x.2, ∃ e ∈ o.after, Region.binds .any e = true ∧ e.on < j ∧ (y = e.on ∨ ∃ z, look acc n e.on = some z ∧ y ∈ z.2)
  free : ∀ i j x y, i < j → j < n → look acc n i = some x → look acc n j = some y → i ∈ y.2 ∨ clash x.1 y.1 = false
  on : ∀ j o, j < n → ops[j]? = some o → ∀ e ∈ o.after, Region.binds .any e = true → e.on < j

theorem uni_mem : ∀ {a b : List Nat} {y : Nat}, y ∈ uni a b → y ∈ a ∨ y ∈ b
  | [], b, y, h => .inr h
  | x :: a, b, y, h => by
    simp only [uni] at h
    cases hb : b.any (Nat.beq x) with
    | true =>
      rw [hb] at h
      simp only [cond_true] at h
      exact (uni_mem h).imp (fun k => List.mem_cons_of_mem _ k) id
    | false =>
      rw [hb] at h
      simp only [cond_false] at h
      rcases List.mem_cons.1 h with h | h
      · exact .inl (by simp [h])
      · exact (uni_mem h).imp (fun k => List.mem_cons_of_mem _ k) id

theorem ancOf_mem {acc : List (FP × List Nat)} {n : Nat} : ∀ {es : List Edge} {y : Nat}, y ∈ ancOf acc n es → ∃ e ∈ es, Region.binds .any e = true ∧ e.on < n ∧ (y = e.on ∨ ∃ z, look acc n e.on = some z ∧ y ∈ z.2)
  | [], y, h => by simp [ancOf] at h
  | e :: es, y, h => by
    simp only [ancOf] at h
    have rest : y ∈ ancOf acc n es → ∃ e' ∈ e :: es, Region.binds .any e' = true ∧ e'.on < n ∧ (y = e'.on ∨ ∃ z, look acc n e'.on = some z ∧ y ∈ z.2) := fun h => by
      obtain ⟨e', h1, h2⟩ := ancOf_mem h
      exact ⟨e', by simp [h1], h2⟩
    cases hb : (Region.binds .any e && Nat.blt e.on n) with
    | false =>
      rw [hb] at h
      simp only [cond_false] at h
      exact rest h
    | true =>
      rw [hb] at h
      simp only [cond_true] at h
      simp only [Bool.and_eq_true] at hb
      have hlt : e.on < n := by have := hb.2; simpa using this
      cases hc : (ancOf acc n es).any (Nat.beq e.on) with
      | true =>
        rw [hc] at h
        simp only [cond_true] at h
        exact rest h
      | false =>
        rw [hc] at h
        simp only [cond_false] at h
        split at h
        · rename_i x hx
          rcases List.mem_cons.1 h with h | h
          · exact ⟨e, by simp, hb.1, hlt, .inl h⟩
          · rcases uni_mem h with h | h
            · exact ⟨e, by simp, hb.1, hlt, .inr ⟨x, by unfold look; rw [if_pos hlt]; exact hx, h⟩⟩
            · exact rest h
        · rcases List.mem_cons.1 h with h | h
          · exact ⟨e, by simp, hb.1, hlt, .inl h⟩
          · exact rest h

theorem freeOne_spec {f : FP} {anc : List Nat} : ∀ {acc : List (FP × List Nat)} {n : Nat}, freeOne f anc acc n = true → ∀ i x, look acc n i = some x → i ∈ anc ∨ clash x.1 f = false
  | [], n, h, i, x, hx => by unfold look at hx; split at hx <;> simp at hx
  | g :: acc, n, h, i, x, hx => by
    simp only [freeOne, Bool.and_eq_true, Bool.or_eq_true, Bool.not_eq_true'] at h
    have hlt : i < n := by unfold look at hx; split at hx; assumption; simp at hx
    obtain ⟨n', rfl⟩ : ∃ n', n = n' + 1 := ⟨n - 1, by omega⟩
    by_cases e : i = n'
    · subst e
      rw [look_new] at hx
      simp only [Option.some.injEq] at hx; subst hx
      rcases h.1 with h1 | h1
      · left
        obtain ⟨y, hy, hb⟩ := List.any_eq_true.1 h1
        have := Nat.eq_of_beq_eq_true hb
        simp at this; subst this; exact hy
      · exact .inr h1
    · rw [look_cons _ _ _ _ (by omega)] at hx
      exact freeOne_spec (n := n') (by simpa using h.2) i x hx

theorem freeGo_spec {ops : List Oper} {fps : List FP} : ∀ {os : List Oper} {fs : List FP} {n : Nat} {acc : List (FP × List Nat)}, freeGo os fs n acc = true → ops.drop n = os → fps.drop n = fs → n ≤ ops.length → GoodAcc ops fps n acc →
    ∃ acc', GoodAcc ops fps ops.length acc'
  | [], [], n, acc, _, h1, _, hn, g => by
    have : n = ops.length := by
      have := congrArg List.length h1
      simp at this; omega
    subst this; exact ⟨acc, g⟩
  | [], _ :: _, _, _, h, _, _, _, _ => by simp [freeGo] at h
  | _ :: _, [], _, _, h, _, _, _, _ => by simp [freeGo] at h
  | o :: os, f :: fs, n, acc, h, h1, h2, hn, g => by
    simp only [freeGo, Bool.and_eq_true] at h
    obtain ⟨⟨he, hf⟩, hgo⟩ := h
    have ho : ops[n]? = some o := by
      have := congrArg (fun l => l[0]?) h1
      simpa using this
    have hfn : fps[n]? = some f := by
      have := congrArg (fun l => l[0]?) h2
      simpa using this
    have hlt : n < ops.length := by
      rcases Nat.lt_or_ge n ops.length with h | h
      · exact h
      · simp [List.getElem?_eq_none h] at ho
    refine freeGo_spec hgo ?_ ?_ hlt ?_
    · rw [← List.drop_drop, h1]; rfl
    · rw [← List.drop_drop, h2]; rfl
    · refine ⟨fun i hi => ?_, fun j x o' hj hx ho' y hy => ?_, fun i j x y hij hj hx hy => ?_, fun j o' hj ho' e hee hb => ?_⟩
      · by_cases e : i = n
        · subst e; exact ⟨_, look_new _ _ _, hfn⟩
        · rw [look_cons _ _ _ _ (by omega)]; exact g.fp i (by omega)
      · by_cases e : j = n
        · subst e
          rw [look_new] at hx
          simp only [Option.some.injEq] at hx; subst hx
          rw [ho] at ho'; simp only [Option.some.injEq] at ho'; subst ho'
          obtain ⟨e, e1, e2, e3, e4⟩ := ancOf_mem hy
          refine ⟨e, by simpa using e1, e2, e3, e4.imp id fun ⟨z, hz, hm⟩ => ⟨z, ?_, hm⟩⟩
          rw [look_cons _ _ _ _ e3]; exact hz
        · rw [look_cons _ _ _ _ (by omega)] at hx
          obtain ⟨e', e1, e2, e3, e4⟩ := g.edge j x o' (by omega) hx ho' y hy
          refine ⟨e', e1, e2, e3, e4.imp id fun ⟨z, hz, hm⟩ => ⟨z, ?_, hm⟩⟩
          rw [look_cons _ _ _ _ (by omega)]; exact hz
      · rw [look_cons _ _ _ _ (by omega)] at hx
        by_cases e : j = n
        · subst e
          rw [look_new] at hy
          simp only [Option.some.injEq] at hy; subst hy
          exact freeOne_spec hf i x hx
        · rw [look_cons _ _ _ _ (by omega)] at hy
          exact g.free i j x y hij (by omega) hx hy
      · by_cases e' : j = n
        · subst e'
          rw [ho] at ho'; simp only [Option.some.injEq] at ho'; subst ho'
          unfold edgesOK at he
          have := (List.all_eq_true.1 he) e (by simpa using hee)
          rw [hb] at this
          simpa using this
        · exact g.on j o' (by omega) ho' e hee hb

theorem anc_of {ops : List Oper} {fps : List FP} (h : freeGo ops fps 0 [] = true) : ∃ A, Anc ops fps A := by
  obtain ⟨acc, g⟩ := freeGo_spec (ops := ops) (fps := fps) h (by simp) (by simp) (Nat.zero_le _) ⟨fun i hi => by omega, fun j x o hj => by omega, fun i j x y hij hj => by omega, fun j o hj => by omega⟩
  have hlen : fps.length = ops.length := by
    have key : ∀ (os : List Oper) (fs : List FP) n acc, freeGo os fs n acc = true → fs.length = os.length := by
      intro os
      induction os with
      | nil => intro fs n acc h; cases fs with | nil => rfl | cons _ _ => simp [freeGo] at h
      | cons o os ih =>
        intro fs n acc h
        cases fs with
        | nil => simp [freeGo] at h
        | cons f fs => simp only [freeGo, Bool.and_eq_true] at h; simp [ih fs _ _ h.2]
    exact key _ _ _ _ h
  have hlt : ∀ {α : Type} (l : List α) (i : Nat) (x : α), l[i]? = some x → i < l.length := fun l i x h => by
    rcases Nat.lt_or_ge i l.length with h' | h'
    · exact h'
    · simp [List.getElem?_eq_none h'] at h
  refine ⟨fun j => match look acc ops.length j with | some x => x.2 | none => [], ⟨fun j o ho x hx => ?_, fun i j f g' hij hf hg => ?_, fun j o ho => g.on j o (hlt _ _ _ ho) ho⟩⟩
  · obtain ⟨y, hy, _⟩ := g.fp j (hlt _ _ _ ho)
    simp only [hy] at hx
    obtain ⟨e, e1, e2, e3, e4⟩ := g.edge j y o (hlt _ _ _ ho) hy ho x hx
    refine ⟨e, e1, e2, e3, e4.imp id fun ⟨z, hz, hm⟩ => ?_⟩
    simp only [hz]; exact hm
  · have hj := hlt _ _ _ hg
    have hi := hlt _ _ _ hf
    obtain ⟨x, hx, hx2⟩ := g.fp i (by omega)
    obtain ⟨y, hy, hy2⟩ := g.fp j (by omega)
    rw [hf] at hx2; simp only [Option.some.injEq] at hx2
    rw [hg] at hy2; simp only [Option.some.injEq] at hy2
    simp only [hy]
    rw [hx2, hy2]
    exact g.free i j x y hij (by omega) hx hy

theorem lastT_at (t : Nat) : ∀ (l : List It) (f : Nat → Bool) (i : Nat) (it : It), l[i]? = some it → it.o.dst = some t → f i = true → (∀ j it', i < j → l[j]? = some it' → it'.o.dst = some t → f j = false) → lastT t l f = some it.v
  | [], f, i, it, h, _, _, _ => by simp at h
  | it0 :: r, f, 0, it, h, hd, hf, hl => by
    simp at h; subst h
    have : lastT t r (fun j => f (j + 1)) = none := by
      have key : ∀ (r : List It) (g : Nat → Bool), (∀ j it', r[j]? = some it' → it'.o.dst = some t → g j = false) → lastT t r g = none := by
        intro r
        induction r with
        | nil => intro g _; rfl
        | cons a r ih =>
          intro g hg
          simp only [lastT]
          rw [ih (fun j => g (j + 1)) fun j it' hj hd => hg (j + 1) it' (by simpa using hj) hd]
          simp only
          by_cases hd : a.o.dst = some t
          · rw [hg 0 a rfl hd]; simp
          · simp [hd]
      exact key r _ fun j it' hj hd' => hl (j + 1) it' (by omega) (by simpa using hj) hd'
    simp only [lastT, this, hf, hd, and_self, if_true]
  | it0 :: r, f, i + 1, it, h, hd, hf, hl => by
    simp only [lastT]
    rw [lastT_at t r (fun j => f (j + 1)) i it (by simpa using h) hd hf fun j it' hj hj' hd' => hl (j + 1) it' (by omega) (by simpa using hj') hd']

theorem lastO_at (n : Nat) (x : TV) : ∀ (l : List It) (f : Nat → Bool) (i : Nat) (it : It), l[i]? = some it → lk n it.os = some x → f i = true → (∀ j it', i < j → l[j]? = some it' → n ∈ it'.os.map (·.1) → f j = false) → lastO n l f = some x
  | [], f, i, it, h, _, _, _ => by simp at h
  | it0 :: r, f, 0, it, h, hd, hf, hl => by
    simp at h; subst h
    have : lastO n r (fun j => f (j + 1)) = none := by
      have key : ∀ (r : List It) (g : Nat → Bool), (∀ j it', r[j]? = some it' → n ∈ it'.os.map (·.1) → g j = false) → lastO n r g = none := by
        intro r
        induction r with
        | nil => intro g _; rfl
        | cons a r ih =>
          intro g hg
          simp only [lastO]
          rw [ih (fun j => g (j + 1)) fun j it' hj hd => hg (j + 1) it' (by simpa using hj) hd]
          simp only
          by_cases hd : n ∈ a.os.map (·.1)
          · rw [hg 0 a rfl hd]; simp
          · have : lk n a.os = none := lk_none_of fun x hx => hd (List.mem_map.2 ⟨(n, x), hx, rfl⟩)
            simp [this]
      exact key r _ fun j it' hj hd' => hl (j + 1) it' (by omega) (by simpa using hj) hd'
    simp only [lastO, this, hf, if_true, hd]
  | it0 :: r, f, i + 1, it, h, hd, hf, hl => by
    simp only [lastO]
    rw [lastO_at n x r (fun j => f (j + 1)) i it (by simpa using h) hd hf fun j it' hj hj' hd' => hl (j + 1) it' (by omega) (by simpa using hj') hd']

theorem filter_lt {α : Type} {p q : α → Bool} : ∀ {l : List α}, (∀ x ∈ l, p x = true → q x = true) → (∃ x ∈ l, q x = true ∧ p x = false) → (l.filter p).length < (l.filter q).length
  | [], _, ⟨x, h, _⟩ => by simp at h
  | a :: l, hpq, hex => by
    have hle : (l.filter p).length ≤ (l.filter q).length := by
      have key : ∀ l : List α, (∀ x ∈ l, p x = true → q x = true) → (l.filter p).length ≤ (l.filter q).length := by
        intro l
        induction l with
        | nil => intro _; simp
        | cons b l ih =>
          intro h
          have h1 := ih fun x hx => h x (by simp [hx])
          have h2 := h b (by simp)
          by_cases hp : p b = true
          · simp [hp, h2 hp]; exact h1
          · by_cases hq : q b = true
            · simp [hp, hq]; omega
            · simp [hp, hq]; exact h1
      exact key l fun x hx => hpq x (by simp [hx])
    obtain ⟨x, hx, hq, hp⟩ := hex
    rcases List.mem_cons.1 hx with e | e
    · subst e
      simp [hp, hq]; omega
    · have ih := filter_lt (l := l) (fun y hy => hpq y (by simp [hy])) ⟨x, e, hq, hp⟩
      by_cases hpa : p a = true
      · have := hpq a (by simp) hpa
        simp [hpa, this]; exact ih
      · by_cases hqa : q a = true
        · simp [hpa, hqa]; omega
        · simp [hpa, hqa]; exact ih

theorem clash_spec {g f : FP} (h : clash g f = false) : (∀ x ∈ g.wt, x ∉ f.rt ∧ x ∉ f.wt) ∧ (∀ x ∈ g.rt, x ∉ f.wt) ∧ (∀ x ∈ g.wo, x ∉ f.ro ∧ x ∉ f.wo) ∧ (∀ x ∈ g.ro, x ∉ f.wo) := by
  unfold clash at h
  simp only [Bool.or_eq_false_iff] at h
  obtain ⟨⟨⟨h1, h2⟩, h3⟩, h4⟩ := h
  refine ⟨fun x hx => ?_, meets_false h2, fun x hx => ?_, meets_false h4⟩
  · have := meets_false h1 x hx
    simpa using this
  · have := meets_false h3 x hx
    simpa using this

theorem draw_any {ops : Array Oper} {Q : Exit → Act → World → Prop} {st st' : St} {items : List It} (t : Tr P nt ops ops.toList st items st') {A : Nat → List Nat} (hA : Anc ops.toList (items.map It.fp) A) {ρ : Nat → Nat} {S : Stab} {w0 : World}
    (hq : ∀ a' w', Post nt B ρ S st st' w0 a' w' → Q .normal a' w') : ∀ (fuel : Nat) (listed : Array Bool) (a : Act) (w : World), listed.size = ops.size →
      (∀ j o, ops[j]? = some o → listed.getD j false = true → ∀ e ∈ o.after, Region.binds .any e = true → listed.getD e.on false = true) →
      ((List.range ops.size).filter fun i => !listed.getD i true).length ≤ fuel →
      Post nt B ρ S st (applyL items (fun j => listed.getD j false) st) w0 a w → wpAny P .any ops Q fuel listed a w := by
  have hlen : items.length = ops.size := by rw [tr_length t]; simp
  -- who is ready
  have ready_mem : ∀ (listed : Array Bool) i, i ∈ Region.ready .any ops listed ↔ i < ops.size ∧ listed.getD i true = false ∧ ∃ o, ops[i]? = some o ∧ ∀ e ∈ o.after, Region.binds .any e = true → listed.getD e.on false = true := by
    intro listed i
    unfold Region.ready
    simp only [List.mem_filter, List.mem_range, Bool.and_eq_true, Bool.not_eq_true']
    constructor
    · rintro ⟨h1, h2, h3⟩
      refine ⟨h1, h2, ?_⟩
      cases ho : ops[i]? with
      | none => rw [ho] at h3; simp at h3
      | some o =>
        rw [ho] at h3
        simp only [Option.map_some, Option.getD_some] at h3
        refine ⟨o, rfl, fun e he hb => ?_⟩
        have := (Array.all_eq_true_iff_forall_mem.1 h3) e he
        simpa [hb] using this
    · rintro ⟨h1, h2, o, ho, h3⟩
      refine ⟨h1, h2, ?_⟩
      rw [ho]
      simp only [Option.map_some, Option.getD_some]
      refine Array.all_eq_true_iff_forall_mem.2 fun e he => ?_
      cases hb : Region.binds .any e with
      | false => rfl
      | true => simp [h3 e he hb]
  have getD_lt : ∀ (listed : Array Bool) i, i < listed.size → listed.getD i true = listed.getD i false := fun listed i h => by simp [Array.getD, h]
  -- all are listed where none is ready
  have done : ∀ (listed : Array Bool), listed.size = ops.size → Region.ready .any ops listed = [] → ∀ j, j < ops.size → listed.getD j false = true := by
    intro listed hs hn j
    induction j using Nat.strongRecOn with
    | _ j ih =>
      intro hj
      cases hc : listed.getD j false with
      | true => rfl
      | false =>
        exfalso
        obtain ⟨o, ho⟩ : ∃ o, ops[j]? = some o := ⟨ops[j], by simp [hj]⟩
        have : j ∈ Region.ready .any ops listed := (ready_mem listed j).2 ⟨hj, by rw [getD_lt _ _ (by omega)]; exact hc, o, ho, fun e he hb => by
          have hlt := hA.on j o (by simpa using ho) e he hb
          exact ih e.on hlt (by omega)⟩
        rw [hn] at this; simp at this
  have fin : ∀ (listed : Array Bool) a w, listed.size = ops.size → Region.ready .any ops listed = [] → Post nt B ρ S st (applyL items (fun j => listed.getD j false) st) w0 a w → Q .normal a w := by
    intro listed a w hs hn hp
    refine hq a w (hp.eqv ?_)
    refine Eqv.trans ?_ (tr_end t)
    have hall : ∀ j it, items[j]? = some it → (fun j => listed.getD j false) j = (fun _ => true) j := fun j it hj => by
      have : j < items.length := by
        rcases Nat.lt_or_ge j items.length with h | h
        · exact h
        · simp [List.getElem?_eq_none h] at hj
      exact done listed hs hn j (by omega)
    exact ⟨fun i => by rw [applyL_tmp, applyL_tmp, lastT_congr i items _ _ fun j it hj _ => hall j it hj], fun i => by rw [applyL_obj, applyL_obj, lastO_congr i items _ _ fun j it hj _ => hall j it hj], fun q => by rw [applyL_gr q _ _ _ (tr_ga t), applyL_gr q _ _ _ (tr_ga t), lastG_congr q.1 items _ _ fun j it hj _ => hall j it hj]⟩
  intro fuel
  induction fuel with
  | zero =>
    intro listed a w hs hcl hm hp
    have hn : Region.ready .any ops listed = [] := by
      apply List.eq_nil_iff_forall_not_mem.2
      intro i hi
      obtain ⟨h1, h2, _⟩ := (ready_mem listed i).1 hi
      have : i ∈ (List.range ops.size).filter fun i => !listed.getD i true := List.mem_filter.2 ⟨List.mem_range.2 h1, by rw [h2]; rfl⟩
      have hl : ((List.range ops.size).filter fun i => !listed.getD i true) = [] := List.eq_nil_of_length_eq_zero (by omega)
      rw [hl] at this; simp at this
    exact ⟨hn, fin listed a w hs hn hp⟩
  | succ fuel ih =>
    intro listed a w hs hcl hm hp
    refine ⟨fun hn => fin listed a w hs hn hp, fun i hi => ?_⟩
    obtain ⟨hi1, hi2, o, ho, hedge⟩ := (ready_mem listed i).1 hi
    have hiF : listed.getD i false = false := by rw [← getD_lt _ _ (by omega)]; exact hi2
    obtain ⟨it, hit⟩ : ∃ it, items[i]? = some it := ⟨items[i]'(by omega), by simp [hlen, hi1]⟩
    obtain ⟨g1, g2, g3, g2', _, sti, g4, g5⟩ := tr_get t i it hit
    have hoo : it.o = o := by
      have : ops.toList[i]? = some o := by simpa using ho
      rw [g1] at this; simpa using this
    have hfp : ∀ (j : Nat) (x : It), items[j]? = some x → (items.map It.fp)[j]? = some x.fp := fun j x h => by simp [h]
    -- ancestors are listed
    have ancL : ∀ j o', ops[j]? = some o' → (∀ e ∈ o'.after, Region.binds .any e = true → listed.getD e.on false = true) → ∀ x ∈ A j, listed.getD x false = true := by
      intro j
      induction j using Nat.strongRecOn with
      | _ j ihj =>
        intro o' ho' hed x hx
        obtain ⟨e, e1, e2, e3, e4⟩ := hA.edge j o' (by simpa using ho') x hx
        rcases e4 with e4 | e4
        · subst e4; exact hed e e1 e2
        · have hjlt : j < ops.size := by
            rcases Nat.lt_or_ge j ops.size with h | h
            · exact h
            · simp [Array.getElem?_eq_none h] at ho'
          have hon : ops[e.on]? = some ops[e.on] := by simp
          exact ihj e.on e3 _ hon (fun e' he' hb' => hcl e.on _ hon (hed e e1 e2) e' he' hb') x e4
    have earlier : ∀ (j : Nat) (x : It), items[j]? = some x → j < i → clash x.fp it.fp = true → listed.getD j false = true := fun j x hx hlt hc => by
      rcases hA.free j i it.fp x.fp hlt (hfp j x hx) (hfp i it hit) with h | h
      · exact ancL i o ho hedge j h
      · rw [hc] at h; simp at h
    have later : ∀ (j : Nat) (x : It), items[j]? = some x → i < j → clash it.fp x.fp = true → listed.getD j false = false := fun j x hx hlt hc => by
      rcases hA.free i j x.fp it.fp hlt (hfp i it hit) (hfp j x hx) with h | h
      · cases hj : listed.getD j false with
        | false => rfl
        | true =>
          have hjlt : j < ops.size := by
            rcases Nat.lt_or_ge j items.length with h' | h'
            · omega
            · simp [List.getElem?_eq_none h'] at hx
          have hoj : ops[j]? = some ops[j] := by simp
          have := ancL j _ hoj (fun e he hb => hcl j _ hoj hj e he hb) i h
          rw [hiF] at this; simp at this
      · rw [hc] at h; simp at h
    have notFalse : ∀ {g f : FP}, ¬ clash g f = false → clash g f = true := fun h => by simpa using h
    -- what the operation looks at is as it is at its place
    have agT : ∀ t0, t0 ∈ it.fp.rt ∨ t0 ∈ it.fp.wt → lastT t0 items (fun j => listed.getD j false) = lastT t0 items (fun j => decide (j < i)) := fun t0 h0 => by
      refine lastT_congr t0 items _ _ fun j x hx hd => ?_
      have hw : t0 ∈ x.fp.wt := (tr_get t j x hx).2.1 t0 hd
      by_cases hlt : j < i
      · rw [earlier j x hx hlt (notFalse fun hc => by
          obtain ⟨c1, _, _, _⟩ := clash_spec hc
          rcases h0 with h0 | h0
          · exact (c1 t0 hw).1 h0
          · exact (c1 t0 hw).2 h0)]
        simp [hlt]
      · by_cases hji : j = i
        · subst hji; rw [hiF]; simp
        · rw [later j x hx (by omega) (notFalse fun hc => by
            obtain ⟨c1, c2, _, _⟩ := clash_spec hc
            rcases h0 with h0 | h0
            · exact c2 t0 h0 hw
            · exact (c1 t0 h0).2 hw)]
          simp [hlt]
    have agG : ∀ t0, t0 ∈ it.fp.rt ∨ t0 ∈ it.fp.wt → lastG t0 items (fun j => listed.getD j false) = lastG t0 items (fun j => decide (j < i)) := fun t0 h0 => by
      refine lastG_congr t0 items _ _ fun j x hx hd => ?_
      have hw : t0 ∈ x.fp.wt := (tr_get t j x hx).2.2.2.1 t0 hd
      by_cases hlt : j < i
      · rw [earlier j x hx hlt (notFalse fun hc => by
          obtain ⟨c1, _, _, _⟩ := clash_spec hc
          rcases h0 with h0 | h0
          · exact (c1 t0 hw).1 h0
          · exact (c1 t0 hw).2 h0)]
        simp [hlt]
      · by_cases hji : j = i
        · subst hji; rw [hiF]; simp
        · rw [later j x hx (by omega) (notFalse fun hc => by
            obtain ⟨c1, c2, _, _⟩ := clash_spec hc
            rcases h0 with h0 | h0
            · exact c2 t0 h0 hw
            · exact (c1 t0 h0).2 hw)]
          simp [hlt]
    have agO : ∀ n0, n0 ∈ it.fp.ro ∨ n0 ∈ it.fp.wo → lastO n0 items (fun j => listed.getD j false) = lastO n0 items (fun j => decide (j < i)) := fun n0 h0 => by
      refine lastO_congr n0 items _ _ fun j x hx hd => ?_
      have hw : n0 ∈ x.fp.wo := by rw [(tr_get t j x hx).2.2.1]; exact hd
      by_cases hlt : j < i
      · rw [earlier j x hx hlt (notFalse fun hc => by
          obtain ⟨_, _, c3, _⟩ := clash_spec hc
          rcases h0 with h0 | h0
          · exact (c3 n0 hw).1 h0
          · exact (c3 n0 hw).2 h0)]
        simp [hlt]
      · by_cases hji : j = i
        · subst hji; rw [hiF]; simp
        · rw [later j x hx (by omega) (notFalse fun hc => by
            obtain ⟨_, _, c3, c4⟩ := clash_spec hc
            rcases h0 with h0 | h0
            · exact c4 n0 h0 hw
            · exact (c3 n0 h0).2 hw)]
          simp [hlt]
    obtain ⟨ρ1, S1, hr1, he1⟩ := hp
    have key := g5 (applyL items (fun j => listed.getD j false) st)
      (fun t0 h0 => by rw [g4.tmp, applyL_tmp, applyL_tmp, agT t0 (.inl h0)])
      (fun n0 h0 => by rw [g4.obj, applyL_obj, applyL_obj, agO n0 (.inl h0)])
      (fun n0 h0 => by rw [g4.obj, applyL_obj, applyL_obj, agO n0 (.inr h0)])
      (fun q h0 => by rw [g4.gr q, applyL_gr q _ _ _ (tr_ga t), applyL_gr q _ _ _ (tr_ga t), agG q.1 h0]) B ρ1 S1 a w hr1 Q (wpAny P .any ops Q fuel (listed.setIfInBounds i true)) (fun a' w' hpost => by
        have hset : ∀ j, (listed.setIfInBounds i true).getD j false = if j = i then true else listed.getD j false := fun j => by
          rw [Array.getD_eq_getD_getElem?, Array.getElem?_setIfInBounds]
          by_cases e : j = i
          · subst e; simp [hs, hi1]
          · rw [if_neg (fun h => e h.symm), if_neg e, Array.getD_eq_getD_getElem?]
        refine ih _ a' w' (by simpa using hs) ?_ ?_ ?_
        · intro j o' ho' hj e he hb
          rw [hset] at hj ⊢
          by_cases e1 : e.on = i
          · rw [if_pos e1]
          · rw [if_neg e1]
            by_cases e2 : j = i
            · subst e2
              rw [ho] at ho'; simp only [Option.some.injEq] at ho'; subst ho'
              exact hedge e he hb
            · rw [if_neg e2] at hj
              exact hcl j o' ho' hj e he hb
        · have hgt : ∀ j, j < ops.size → (listed.setIfInBounds i true).getD j true = (listed.setIfInBounds i true).getD j false := fun j hj => getD_lt _ _ (by simp [hs, hj])
          have : ((List.range ops.size).filter fun j => !(listed.setIfInBounds i true).getD j true).length < ((List.range ops.size).filter fun j => !listed.getD j true).length := by
            refine filter_lt (fun j hj h => ?_) ⟨i, List.mem_range.2 hi1, by rw [hi2]; rfl, by rw [hgt i hi1, hset]; simp⟩
            have hjl := List.mem_range.1 hj
            rw [hgt j hjl, hset] at h
            by_cases e : j = i
            · subst e; rw [hi2]; rfl
            · rw [if_neg e] at h
              rw [getD_lt _ _ (by omega)]; exact h
          omega
        · refine (Post.trans he1 hpost).eqv ?_
          refine ⟨fun t0 => ?_, fun n0 => ?_, fun q => ?_⟩
          · rw [It.app_tmp]
            by_cases hd : it.o.dst = some t0
            · rw [if_pos hd, applyL_tmp, lastT_at t0 items (fun j => (listed.setIfInBounds i true).getD j false) i it hit hd (by show (listed.setIfInBounds i true).getD i false = true; rw [hset]; simp) fun j x hlt hx hdx => by
                show (listed.setIfInBounds i true).getD j false = false
                rw [hset, if_neg (by omega)]
                refine later j x hx hlt (notFalse fun hc => ?_)
                obtain ⟨c1, _, _, _⟩ := clash_spec hc
                exact (c1 t0 (g2 t0 hd)).2 ((tr_get t j x hx).2.1 t0 hdx)]
            · rw [if_neg hd, applyL_tmp, applyL_tmp, lastT_congr t0 items (fun j => (listed.setIfInBounds i true).getD j false) (fun j => listed.getD j false) fun j x hx hdx => by
                show (listed.setIfInBounds i true).getD j false = listed.getD j false
                rw [hset]
                by_cases e : j = i
                · subst e; rw [hit] at hx; simp only [Option.some.injEq] at hx; subst hx; exact absurd hdx hd
                · rw [if_neg e]]
          · rw [It.app_obj, St.obj_set]
            cases hl : lk n0 it.os with
            | some u =>
              rw [applyL_obj n0 items (fun j => (listed.setIfInBounds i true).getD j false), lastO_at n0 u items (fun j => (listed.setIfInBounds i true).getD j false) i it hit hl (by show (listed.setIfInBounds i true).getD i false = true; rw [hset]; simp) fun j x hlt hx hdx => by
                show (listed.setIfInBounds i true).getD j false = false
                rw [hset, if_neg (by omega)]
                refine later j x hx hlt (notFalse fun hc => ?_)
                obtain ⟨_, _, c3, _⟩ := clash_spec hc
                refine (c3 n0 ?_).2 ?_
                · rw [g3]; exact List.mem_map.2 ⟨(n0, u), lk_mem hl, rfl⟩
                · rw [(tr_get t j x hx).2.2.1]; exact hdx]
            | none =>
              rw [applyL_obj, applyL_obj, lastO_congr n0 items (fun j => (listed.setIfInBounds i true).getD j false) (fun j => listed.getD j false) fun j x hx hdx => by
                show (listed.setIfInBounds i true).getD j false = listed.getD j false
                rw [hset]
                by_cases e : j = i
                · subst e; rw [hit] at hx; simp only [Option.some.injEq] at hx; subst hx
                  obtain ⟨y, hy, e2⟩ := List.mem_map.1 hdx
                  exact absurd hl (by
                    have key : ∀ l : List (Nat × TV), y ∈ l → lk n0 l ≠ none := by
                      intro l
                      induction l with
                      | nil => intro h; simp at h
                      | cons z l ih =>
                        intro h
                        by_cases ez : n0 = z.1
                        · obtain ⟨z1, z2⟩ := z
                          simp only at ez; subst ez
                          rw [lk_cons_same]; simp
                        · obtain ⟨z1, z2⟩ := z
                          rw [lk_cons_ne _ _ ez]
                          rcases List.mem_cons.1 h with h | h
                          · subst h; exact absurd e2.symm ez
                          · exact ih h
                    exact key _ hy)
                · rw [if_neg e]]
          · show q ∈ gapp it.gd it.ga _ ↔ _
            rw [mem_gapp]
            by_cases hd : q.1 ∈ it.gd
            · rw [applyL_gr q items (fun j => (listed.setIfInBounds i true).getD j false) st (tr_ga t), lastG_at q.1 items (fun j => (listed.setIfInBounds i true).getD j false) i it hit hd (by show (listed.setIfInBounds i true).getD i false = true; rw [hset]; simp) fun j x hlt hx hdx => by
                show (listed.setIfInBounds i true).getD j false = false
                rw [hset, if_neg (by omega)]
                refine later j x hx hlt (notFalse fun hc => ?_)
                obtain ⟨c1, _, _, _⟩ := clash_spec hc
                exact (c1 q.1 (g2' q.1 hd)).2 ((tr_get t j x hx).2.2.2.1 q.1 hdx)]
              simp [hd]
            · rw [applyL_gr q items (fun j => (listed.setIfInBounds i true).getD j false) st (tr_ga t), applyL_gr q items (fun j => listed.getD j false) st (tr_ga t), lastG_congr q.1 items (fun j => (listed.setIfInBounds i true).getD j false) (fun j => listed.getD j false) fun j x hx hdx => by
                show (listed.setIfInBounds i true).getD j false = listed.getD j false
                rw [hset]
                by_cases e : j = i
                · subst e; rw [hit] at hx; simp only [Option.some.injEq] at hx; subst hx; exact absurd hdx hd
                · rw [if_neg e]]
              constructor
              · rintro (k | k)
                · exact absurd (tr_ga t it (List.mem_of_getElem? hit) q k) hd
                · exact k.1
              · intro k; exact .inr ⟨k, hd⟩)
    unfold wpOp
    rw [ho]
    rw [← hoo]
    exact key

theorem rel_drew {ρ : Nat → Nat} {S : Stab} {st : St} {a : Act} {w : World} (h : Rel nt B ρ S st a w) (k : Nat) : Rel nt B ρ S st a { w with drawn := k } :=
  have le : Le S w S { w with drawn := k } := ⟨fun _ _ h => h, fun _ _ _ _ h => h⟩
  { tmp := fun t v hv => SVRel.le le v _ (fun _ _ => rfl) (h.tmp t v hv)
    obj := fun n t ht => (h.obj n t ht).le le rfl (h.off n (by unfold St.D; rw [ht]; rfl))
    inj := h.inj
    names := h.names
    dfr := h.dfr
    sz := h.sz
    sb := h.sb
    room := h.room
    apart := h.apart
    hB := h.hB }

theorem Post.drew {ρ : Nat → Nat} {S : Stab} {st st2 : St} {w : World} {k : Nat} {a' : Act} {w' : World} (h : Post nt B ρ S st st2 { w with drawn := k } a' w') : Post nt B ρ S st st2 w a' w' := by
  obtain ⟨ρ', S', h1, h2⟩ := h
  exact ⟨ρ', S', h1, ⟨h2.dom, h2.same, h2.fresh, h2.mono, h2.new, h2.size, h2.frame, h2.cell, h2.os, h2.tape, h2.output⟩⟩

/-- A REGION. -/
theorem region_ok (hm : P.follows .mixedOrders = true) {id : Nat} {ops : Array Oper} {draw : Bool} {Q : Exit → Act → World → Prop} {st st' : St} {items : List It} (t : Tr P nt ops ops.toList st items st')
    (hf : draw = true → freeGo ops.toList (items.map It.fp) 0 [] = true) {ρ : Nat → Nat} {S : Stab} {a : Act} {w : World} (hr : Rel nt B ρ S st a w)
    (hq : ∀ a' w', Post nt B ρ S st st' w a' w' → Q .normal a' w') : (Code.region id ops draw).wp P Q a w := by
  cases draw with
  | false => exact wp_region_list (tr_list t B ρ S a w hr hq)
  | true =>
    obtain ⟨A, hA⟩ := anc_of (hf rfl)
    refine wp_region_any hm ?_
    refine draw_any t hA (ρ := ρ) (S := S) (w0 := w) hq ops.size _ a _ (by simp) (fun j o _ hj => by
      rw [Array.getD_eq_getD_getElem?, Array.getElem?_replicate] at hj
      split at hj <;> simp at hj) (by
      have := List.length_filter_le (fun i => !(Array.replicate ops.size false).getD i true) (List.range ops.size)
      simpa using this) ?_
    have : applyL items (fun j => (Array.replicate ops.size false).getD j false) st = st := applyL_false _ _ _ fun j => by
      rw [Array.getD_eq_getD_getElem?, Array.getElem?_replicate]
      split <;> rfl
    rw [this]
    exact ⟨ρ, S, rel_drew hr _, ⟨fun _ h => h, fun _ _ => rfl, fun _ h k => absurd h k, fun _ _ h => h, fun _ _ h => .inl h, Nat.le_refl _, fun _ _ _ => rfl, fun _ _ _ _ h => h, rfl, rfl, rfl⟩⟩

end
end Go.Ev

namespace Go.Ev
set_option linter.unusedVariables false
set_option linter.unusedSimpArgs false

section
variable {P : Program} {w : World}

theorem mem_noTok {t : Nat} {gr : List (Nat × (Nat × Nat))} {q : Nat × (Nat × Nat)} (h : q ∈ noTok t gr) : q ∈ gr ∧ q.1 ≠ t := by
  obtain ⟨h1, h2⟩ := List.mem_filter.1 h
  refine ⟨h1, fun e => ?_⟩
  rw [e, Nat.beq_refl] at h2; simp at h2

theorem tokOf_spec {st : St} {x : Operand} {q : Nat × (Nat × Nat)} (h : tokOf st x = some q) : x = .tmp q.1 ∧ q ∈ st.gr := by
  cases x with
  | tmp u =>
    simp only [tokOf] at h
    refine ⟨?_, List.mem_of_find?_eq_some h⟩
    have := List.find?_some h
    rw [Nat.eq_of_beq_eq_true this]
  | _ => simp [tokOf] at h

theorem Rel.addTok {nt B : Nat} {ρ : Nat → Nat} {S : Stab} {st : St} {a : Act} (h : Rel nt B ρ S st a w) {d e sz : Nat} (hr : Room B st.D ρ S w e sz (a.tmps.getD d undef)) (hn : ∀ q ∈ st.gr, q.1 ≠ d)
    (ha : ∀ q ∈ st.gr, (a.tmps.getD q.1 undef).ownBlock = none ∨ (a.tmps.getD q.1 undef).ownBlock ≠ (a.tmps.getD d undef).ownBlock) : Rel nt B ρ S { st with gr := (d, (e, sz)) :: st.gr } a w where
  tmp := h.tmp
  obj := h.obj
  inj := h.inj
  names := h.names
  dfr := h.dfr
  sz := h.sz
  sb := h.sb
  room q hq := by
    rcases List.mem_cons.1 hq with hq | hq
    · subst hq; exact hr
    · exact h.room q hq
  apart q q' hq hq' hne := by
    rcases List.mem_cons.1 hq with hq | hq <;> rcases List.mem_cons.1 hq' with hq' | hq'
    · subst hq; subst hq'; exact absurd rfl hne
    · subst hq
      rcases ha q' hq' with h1 | h1
      · rw [h1]
        cases (a.tmps.getD d undef).ownBlock with
        | none => exact .inl rfl
        | some g => exact .inr (by simp)
      · exact .inr fun e => h1 e.symm
    · subst hq'; exact ha q hq
    · exact h.apart q q' hq hq' hne
  hB := h.hB

theorem tokMove_spec {st : St} {o : Oper} {qv : (Nat × (Nat × Nat)) × SV} (h : tokMove st o = some qv) : ∃ x, (o.op = .move x ∨ o.op = .assign x) ∧ tokOf st x = some qv.1 ∧ st.val x = some qv.2 := by
  unfold tokMove at h
  split at h
  · rename_i x hx
    split at h
    · rename_i q v h1 h2; simp only [Option.some.injEq] at h; subst h; exact ⟨x, .inl hx, h1, h2⟩
    · simp at h
  · rename_i x hx
    split at h
    · rename_i q v h1 h2; simp only [Option.some.injEq] at h; subst h; exact ⟨x, .inr hx, h1, h2⟩
    · simp at h
  · simp at h

theorem appOf_spec {E : Env} {st : St} {o : Oper} {τ : Ty} {l xs : List τ.den} {q : Nat × (Nat × Nat)} {s : Operand} (h : appOf E st o = some ⟨τ, (l, xs, q, s)⟩) :
    ∃ T x n vs vx, o.op = .call { callee := .builtin .append, args := #[s, x], argTypes := #[T, T] } ∧ lk T E.elts = some q ∧ E.ty T = some (.sl τ, n) ∧ st.val s = some vs ∧ st.val x = some vx ∧ vs.as (.sl τ) = some l ∧ vx.as (.sl τ) = some xs ∧
      τ.size = q.2.1 ∧ (vs = .nilsl ∨ ∃ t, tokOf st s = some t ∧ t.2.1 = q.1 ∧ t.2.2 = q.2.1) := by
  unfold appOf at h
  split at h
  · rename_i c hc
    split at h
    · rename_i hcal
      split at h
      · rename_i T T' s' x hT hA
        split at h
        · rename_i q' τ' n hq hty
          split at h
          · rename_i vs vx hs hx
            split at h
            · rename_i l' xs' hl hxs
              cases hb : Nat.beq T T' && (Nat.beq τ'.size q'.2.1 && (isNilV vs || tokHas st s' q')) with
              | false => rw [hb] at h; simp at h
              | true =>
                rw [hb] at h
                simp only [cond_true, Option.some.injEq] at h
                injection h with h1 h2
                subst h1
                have h2 := eq_of_heq h2
                simp only [Prod.mk.injEq] at h2
                obtain ⟨e1, e2, e3, e4⟩ := h2
                subst e1; subst e2; subst e3; subst e4
                simp only [Bool.and_eq_true, Bool.or_eq_true] at hb
                obtain ⟨b1, b2, b3⟩ := hb
                have := Nat.eq_of_beq_eq_true b1
                subst this
                refine ⟨T, x, n, vs, vx, ?_, hq, hty, hs, hx, hl, hxs, Nat.eq_of_beq_eq_true b2, ?_⟩
                · rw [hc]
                  obtain ⟨cal, args, at'⟩ := c
                  simp only at hcal hT hA
                  congr 2
                  · rw [← Array.toList_inj]; exact hA
                  · rw [← Array.toList_inj]; exact hT
                · rcases b3 with b3 | b3
                  · left
                    cases vs <;> simp [isNilV] at b3
                    rfl
                  · right
                    unfold tokHas at b3
                    split at b3
                    · rename_i t ht
                      simp only [Bool.and_eq_true] at b3
                      exact ⟨t, ht, Nat.eq_of_beq_eq_true b3.1, Nat.eq_of_beq_eq_true b3.2⟩
                    · simp at b3
            · simp at h
          · simp at h
        · simp at h
      · simp at h
    · simp at h
  · simp at h

theorem any_run {ops : Array Oper} {rest : List Oper} {o : Oper} {Q : Exit → Act → World → Prop} {a : Act} (hg : o.guard = none) (h : o.wp P a w (wpList P ops Q rest) Q) : wpList P ops Q (o :: rest) a w := by
  simp only [wpList]
  rw [if_pos (by simp [Region.wanted, hg])]
  exact .inl h

theorem wp_builtin {o : Oper} {a : Act} {K : Act → World → Prop} {Q : Exit → Act → World → Prop} {T : TypeId} {s x : Operand} (ho : o.op = .call { callee := .builtin .append, args := #[s, x], argTypes := #[T, T] }) {v' : Value} {w' : World}
    (hr : (Builtin.append_ #[T, T] o.type #[a.eval s, a.eval x]).run P w = .ok v' w') (h : K (a.put o.dst v') w') : o.wp P a w K Q := by
  unfold Oper.wp execOp
  simp only [ho, resolve, invoke, builtin, Sem.run_bind, Sem.run_pure, Result.andThen_ok, List.map_toArray, List.map_cons, List.map_nil, hr]
  exact h

theorem evOpsG_ok {E : Env} {nt : Nat} {inl : Inl} (hE : EnvOK2 P E) (hI : InlOK P inl) {off : Nat} {R : Type} {r : R} {k : St → Option R} {ops : Array Oper} : ∀ (rest : List Oper) (st : St), evOpsG E inl off nt R k rest st = some r →
    ∃ st', k st' = some r ∧ st'.tl = st.tl ∧ st'.ol = st.ol ∧ ∀ B ρ S a w, Rel nt B ρ S st a w → ∀ Q : Exit → Act → World → Prop, (∀ a' w', Post nt B ρ S st st' w a' w' → Q .normal a' w') → wpList P ops Q rest a w
  | [], st, h => ⟨st, by simpa [evOpsG] using h, rfl, rfl, fun B ρ S a w hr Q hq => hq a w ⟨ρ, S, hr, ExtB.refl B ρ S st.D w⟩⟩
  | o :: rest, st, h => by
    simp only [evOpsG] at h
    cases hd : dstOK nt o.dst with
    | false => rw [hd] at h; simp at h
    | true =>
      rw [hd] at h
      simp only [Bool.not_true, cond_false] at h
      cases hgd : o.guard with
      | some _ => rw [hgd] at h; simp at h
      | none =>
        rw [hgd] at h
        simp only at h
        -- a plain operation
        have plain : ∀ st1 : St, st1.tl = st.tl → st1.ol = st.ol → (∀ B ρ S a w, Rel nt B ρ S st a w → RelO nt B o.dst ρ S st1 a w) → (∀ n, st1.D n ↔ st.D n) →
            evOp E inl off st1 o R (fun v os _ => evOpsG E inl off nt R k rest (st1.set o.dst v os)) = some r →
            ∃ st', k st' = some r ∧ st'.tl = st.tl ∧ st'.ol = st.ol ∧ ∀ B ρ S a w, Rel nt B ρ S st a w → ∀ Q : Exit → Act → World → Prop, (∀ a' w', Post nt B ρ S st st' w a' w' → Q .normal a' w') → wpList P ops Q (o :: rest) a w := by
          intro st1 ht ho hrel hD h
          obtain ⟨v, os, ro, hk, hsem⟩ := evOp_ok hE hI hd h
          obtain ⟨st', g1, g2, g3, g4⟩ := evOpsG_ok (ops := ops) hE hI rest _ hk
          refine ⟨st', g1, g2.trans ht, g3.trans ho, fun B ρ S a w hr Q hq => any_run hgd ?_⟩
          refine Oper.wp_mono (fun a1 w1 hp => ?_) (hsem st1 (fun _ _ => rfl) (fun _ _ => rfl) (fun _ _ => rfl) B ρ S a w (hrel B ρ S a w hr) Q)
          obtain ⟨ρ1, S1, h1, h2⟩ := hp
          exact g4 B ρ1 S1 a1 w1 h1 Q fun a2 w2 hp2 => hq a2 w2 (Post.trans (h2.congr hD (fun _ => Iff.rfl)) hp2)
        cases hdst : o.dst with
        | none =>
          rw [hdst] at h
          simp only at h
          refine plain st rfl rfl (fun B ρ S a w hr => ⟨hr, fun q _ => by rw [hdst]; simp⟩) (fun _ => Iff.rfl) ?_
          rw [hdst]; exact h
        | some d =>
          rw [hdst] at h
          simp only at h
          have hdn : d < nt := by rw [hdst] at hd; simpa [dstOK] using hd
          split at h
          · -- a move of what may be appended to
            rename_i qv hqv
            obtain ⟨q, v⟩ := qv
            obtain ⟨x, hop, htok, hval⟩ := tokMove_spec hqv
            obtain ⟨hx, hmem⟩ := tokOf_spec htok
            obtain ⟨st', g1, g2, g3, g4⟩ := evOpsG_ok (ops := ops) hE hI rest _ h
            refine ⟨st', g1, g2, g3, fun B ρ S a w hr Q hq => any_run hgd ?_⟩
            obtain ⟨hv, hn⟩ := hr.val hval
            have hev : a.eval x = a.tmps.getD q.1 undef := by rw [hx]; rfl
            have hrun : (execOp a.eval o).run P w = .ok (.value (a.eval x)) w := by rcases hop with e | e <;> simp [e, execOp]
            refine wp_value hrun ?_
            have hsub : ∀ q' ∈ noTok d (noTok q.1 st.gr), q' ∈ st.gr ∧ q'.1 ≠ q.1 ∧ q'.1 ≠ d := fun q' hq' => by
              obtain ⟨m1, m2⟩ := mem_noTok hq'
              obtain ⟨m3, m4⟩ := mem_noTok m1
              exact ⟨m3, m4, m2⟩
            have hr0 := hr.sub (gr := noTok d (noTok q.1 st.gr)) fun q' hq' => (hsub q' hq').1
            have hr1 := hr0.pure (d := some d) (v := v) (x := a.eval x) (fun q' hq' e => (hsub q' hq').2.2 (by injection e with e; exact e.symm)) (by rw [hdst] at hd; exact hd) hv hn
            have hput : (a.put (some d) (a.eval x)).tmps.getD d undef = a.eval x := by
              have hsz : d < a.tmps.size := Nat.lt_of_lt_of_le hdn hr.sz
              simp [Act.put, Array.getD, hsz]
            have hput2 : ∀ t, t ≠ d → (a.put (some d) (a.eval x)).tmps.getD t undef = a.tmps.getD t undef := fun t ht => by
              have : d ≠ t := fun e => ht e.symm
              simp [Act.put, Array.getElem?_setIfInBounds_ne this]
            have hD : ∀ n, (({ st with gr := noTok d (noTok q.1 st.gr) } : St).set (some d) v []).D n ↔ st.D n := fun n => by unfold St.D; rw [St.obj_set]; rfl
            have hr2 := hr1.addTok (d := d) (e := q.2.1) (sz := q.2.2) (by
                rw [hput, hev]
                exact (hr.room q hmem).congr fun m dm => (hD m).1 dm) (fun q' hq' => (hsub q' hq').2.2) (fun q' hq' => by
                rw [hput2 q'.1 (hsub q' hq').2.2, hput, hev]
                exact hr.apart q' q (hsub q' hq').1 hmem (hsub q' hq').2.1)
            rw [hdst]
            refine g4 B ρ S _ w hr2 Q fun a2 w2 hp2 => hq a2 w2 (Post.trans ?_ hp2)
            exact (ExtB.refl B ρ S st.D w).congr (fun _ => Iff.rfl) (fun n => (hD n).symm)
          · rename_i hnm
            cases happ : (isApp o && !vecApp E off st o) with
            | false =>
              rw [happ] at h
              simp only [cond_false] at h
              refine plain { st with gr := noTok d st.gr } rfl rfl (fun B ρ S a w hr => ⟨hr.sub fun q hq => (mem_noTok hq).1, fun q hq => by rw [hdst]; intro e; injection e with e; exact (mem_noTok hq).2 e.symm⟩) (fun _ => Iff.rfl) ?_
              rw [hdst]; exact h
            | true =>
              rw [happ] at h
              simp only [cond_true] at h
              split at h
              · rename_i τ l xs q s hof
                obtain ⟨T, x, n, vs, vx, hop, hq, hty, hs, hx, hl, hxs, hsz, htk⟩ := appOf_spec hof
                cases hb : (xs.isEmpty || !Nat.ble ((l.length + xs.length) * q.2.2) appLim) with
                | true => rw [hb] at h; simp at h
                | false =>
                  rw [hb] at h
                  simp only [cond_false] at h
                  rw [Bool.or_eq_false_iff] at hb
                  have hne : xs ≠ [] := by intro e; rw [e] at hb; simp at hb
                  have hlim : (l.length + xs.length) * q.2.2 ≤ 140737488355328 := by
                    have h2 := hb.2
                    simp only [Bool.not_eq_false'] at h2
                    exact Nat.le_of_ble_eq_true h2
                  obtain ⟨st', g1, g2, g3, g4⟩ := evOpsG_ok (ops := ops) hE hI rest _ h
                  refine ⟨st', g1, g2, g3, fun B ρ S a w hr Q hqq => any_run hgd ?_⟩
                  have hv := SV.as_rel hl (hr.val hs).1
                  have hxv := SV.as_rel hxs (hr.val hx).1
                  have hxr : ∃ b off c news, a.eval x = .slice (some ⟨b, off, none⟩) xs.length c ∧ RepL (Rep S w τ) xs news ∧ ∀ j u, news[j]? = some u → w.cell? ⟨b, off + j, none⟩ = some u := by
                    obtain ⟨cs2, ⟨a2, cap2, e2, hc2, hl2⟩, hx1⟩ := hxv
                    rcases hl2 with hl2 | ⟨b, off, news, e3, hrep2, hlies2⟩
                    · exact absurd hl2 hne
                    · subst e2; subst e3
                      exact ⟨b, off, cap2, news, hx1, hrep2, fun j u h => (hlies2 j u h).2⟩
                  have key : ∃ (hroom : Room B st.D ρ S w q.1 q.2.1 (a.eval s)), ∀ q' ∈ noTok d (srcTok s st.gr), q' ∈ st.gr ∧ q'.1 ≠ d ∧ ((a.eval s).ownBlock = none ∨ (a.tmps.getD q'.1 undef).ownBlock ≠ (a.eval s).ownBlock) := by
                    rcases htk with htk | ⟨t, ht, t1, t2⟩
                    · have hn : a.eval s = .slice none 0 0 := by have := (hr.val hs).1; rw [htk] at this; exact this
                      refine ⟨.inl hn, fun q' hq' => ?_⟩
                      obtain ⟨m1, m2⟩ := mem_noTok hq'
                      refine ⟨?_, m2, .inl (by rw [hn]; rfl)⟩
                      cases s with
                      | tmp u => exact (mem_noTok m1).1
                      | _ => exact m1
                    · obtain ⟨e1, hmem⟩ := tokOf_spec ht
                      have hev : a.eval s = a.tmps.getD t.1 undef := by rw [e1]; rfl
                      refine ⟨by rw [hev, ← t1, ← t2]; exact hr.room t hmem, fun q' hq' => ?_⟩
                      obtain ⟨m1, m2⟩ := mem_noTok hq'
                      rw [e1] at m1
                      obtain ⟨m3, m4⟩ := mem_noTok m1
                      refine ⟨m3, m2, ?_⟩
                      rw [hev]
                      rcases hr.apart q' t m3 hmem m4 with h1 | h1
                      · cases hb2 : (a.tmps.getD t.1 undef).ownBlock with
                        | none => exact .inl rfl
                        | some g => right; rw [h1]; simp
                      · exact .inr h1
                  obtain ⟨hroom, hgr⟩ := key
                  obtain ⟨v', w', S', hrun, hrel, hext⟩ := grow_rel hr (hE.el T q hq) hsz o.type hdn hv hxr hroom hne hgr (fun _ _ _ _ _ => trivial) hlim
                  refine wp_builtin hop hrun ?_
                  rw [hdst]
                  exact g4 B ρ S' _ w' hrel Q fun a2 w2 hp2 => hqq a2 w2 (Post.trans hext hp2)
              · simp at h
end

end Go.Ev

namespace Go.Ev
set_option linter.unusedVariables false
set_option linter.unusedSimpArgs false

section
variable {P : Program} {E : Env} {nt B : Nat} {R : Type} {r : R}

theorem put_same {nt B : Nat} {ρ : Nat → Nat} {S : Stab} {st : St} {a : Act} {w : World} (hr : Rel nt B ρ S st a w) {d : Nat} (hdn : d < nt) (x : Value) : (a.put (some d) x).tmps.getD d undef = x := by
  have hsz : d < a.tmps.size := Nat.lt_of_lt_of_le hdn hr.sz
  simp [Act.put, Array.getD, hsz]

theorem put_other {a : Act} {d t : Nat} (x : Value) (ht : t ≠ d) : (a.put (some d) x).tmps.getD t undef = a.tmps.getD t undef := by
  have : d ≠ t := fun e => ht e.symm
  simp [Act.put, Array.getElem?_setIfInBounds_ne this]

/-- A move of what may be appended to. -/
theorem step_move {ops : Array Oper} {o : Oper} {st : St} {d : Nat} {q : Nat × (Nat × Nat)} {v : SV} (hg : o.guard = none) (hdst : o.dst = some d) (hdn : d < nt) (h : tokMove st o = some (q, v)) :
    StepSem P nt ops st ⟨o, v, [], { rt := opTmps o.op.operands.toList, wt := [d, q.1], ro := [], wo := [] }, [d, q.1], [(d, q.2)]⟩ := by
  intro st' h1 _ _ hgr B ρ S a w hr Q K hK
  rw [if_pos (by simp [Region.wanted, hg])]
  left
  obtain ⟨x, hop, htok, hval⟩ := tokMove_spec h
  obtain ⟨hx, hmem0⟩ := tokOf_spec htok
  dsimp only at hx hmem0 hval
  have hxo : x ∈ o.op.operands.toList := by rcases hop with e | e <;> simp [e, Op.operands]
  have hq : q.1 ∈ opTmps o.op.operands.toList := mem_opTmps (by rw [← hx]; exact hxo)
  have hmem : q ∈ st'.gr := (hgr q (.inl hq)).2 hmem0
  have hval' : st'.val x = some v := by rw [val_agree h1 hxo]; exact hval
  obtain ⟨hv, hn⟩ := hr.val hval'
  have hev : a.eval x = a.tmps.getD q.1 undef := by rw [hx]; rfl
  have hrun : (execOp a.eval o).run P w = .ok (.value (a.eval x)) w := by rcases hop with e | e <;> simp [e, execOp]
  refine wp_value hrun (hK _ _ ?_)
  have hsub : ∀ q' ∈ gapp [d, q.1] [] st'.gr, q' ∈ st'.gr ∧ q'.1 ≠ q.1 ∧ q'.1 ≠ d := fun q' hq' => by
    rcases mem_gapp.1 hq' with k | k
    · simp at k
    · have := k.2
      simp only [List.mem_cons, List.not_mem_nil, or_false, not_or] at this
      exact ⟨k.1, this.2, this.1⟩
  have hr0 := hr.sub (gr := gapp [d, q.1] [] st'.gr) fun q' hq' => (hsub q' hq').1
  have hr1 := hr0.pure (d := some d) (v := v) (x := a.eval x) (fun q' hq' e => (hsub q' hq').2.2 (by injection e with e; exact e.symm)) (by simpa [dstOK] using hdn) hv hn
  have hD : ∀ n, (({ st' with gr := gapp [d, q.1] [] st'.gr } : St).set (some d) v []).D n ↔ st'.D n := fun n => by unfold St.D; rw [St.obj_set]; rfl
  have hr2 := hr1.addTok (d := d) (e := q.2.1) (sz := q.2.2) (by
      rw [put_same hr hdn, hev]
      exact (hr.room q hmem).congr fun m dm => (hD m).1 dm) (fun q' hq' => (hsub q' hq').2.2) (fun q' hq' => by
      rw [put_other _ (hsub q' hq').2.2, put_same hr hdn, hev]
      exact hr.apart q' q (hsub q' hq').1 hmem (hsub q' hq').2.1)
  refine ⟨ρ, S, ?_, (ExtB.refl B ρ S st'.D w).congr (fun _ => Iff.rfl) (fun n => ?_)⟩
  · have e : It.app ⟨o, v, [], { rt := opTmps o.op.operands.toList, wt := [d, q.1], ro := [], wo := [] }, [d, q.1], [(d, q.2)]⟩ st' = { (({ st' with gr := gapp [d, q.1] [] st'.gr } : St).set (some d) v []) with gr := (d, (q.2.1, q.2.2)) :: gapp [d, q.1] [] st'.gr } := by
      unfold It.app
      rw [hdst]
      rfl
    rw [e, hdst]
    exact hr2
  · rw [← hD n]
    show _ ↔ (St.set _ o.dst v []).D n
    rw [hdst]
    exact Iff.rfl

/-- An append to what may be appended to. -/
theorem step_app {ops : Array Oper} (hE : EnvOK2 P E) {o : Oper} {st : St} {d : Nat} {τ : Ty} {l xs : List τ.den} {q : Nat × (Nat × Nat)} {s : Operand} (hg : o.guard = none) (hdst : o.dst = some d) (hdn : d < nt) (h : appOf E st o = some ⟨τ, (l, xs, q, s)⟩)
    (hne : xs ≠ []) (hlim : (l.length + xs.length) * q.2.2 ≤ 140737488355328) :
    StepSem P nt ops st ⟨o, .tv ⟨.sl τ, l ++ xs⟩, [], { rt := opTmps o.op.operands.toList, wt := d :: opTmps [s], ro := [], wo := [] }, d :: opTmps [s], [(d, (q.1, q.2.1))]⟩ := by
  intro st' h1 _ _ hgr B ρ S a w hr Q K hK
  rw [if_pos (by simp [Region.wanted, hg])]
  left
  obtain ⟨T, x, n, vs, vx, hop, hq, hty, hs0, hx0, hl, hxs, hsz, htk⟩ := appOf_spec h
  have hso : s ∈ o.op.operands.toList := by simp [hop, Op.operands, Call.operands]
  have hxo : x ∈ o.op.operands.toList := by simp [hop, Op.operands, Call.operands]
  have hs : st'.val s = some vs := by rw [val_agree h1 hso]; exact hs0
  have hx : st'.val x = some vx := by rw [val_agree h1 hxo]; exact hx0
  have hv := SV.as_rel hl (hr.val hs).1
  have hxv := SV.as_rel hxs (hr.val hx).1
  have hxr : ∃ b off c news, a.eval x = .slice (some ⟨b, off, none⟩) xs.length c ∧ RepL (Rep S w τ) xs news ∧ ∀ j u, news[j]? = some u → w.cell? ⟨b, off + j, none⟩ = some u := by
    obtain ⟨cs2, ⟨a2, cap2, e2, hc2, hl2⟩, hx1⟩ := hxv
    rcases hl2 with hl2 | ⟨b, off, news, e3, hrep2, hlies2⟩
    · exact absurd hl2 hne
    · subst e2; subst e3
      exact ⟨b, off, cap2, news, hx1, hrep2, fun j u h => (hlies2 j u h).2⟩
  have hsub : ∀ q' ∈ gapp (d :: opTmps [s]) [] st'.gr, q' ∈ st'.gr ∧ q'.1 ≠ d ∧ q'.1 ∉ opTmps [s] := fun q' hq' => by
    rcases mem_gapp.1 hq' with k | k
    · simp at k
    · have := k.2
      simp only [List.mem_cons, not_or] at this
      exact ⟨k.1, this.1, this.2⟩
  have key : ∃ (hroom : Room B st'.D ρ S w q.1 q.2.1 (a.eval s)), ∀ q' ∈ gapp (d :: opTmps [s]) [] st'.gr, q' ∈ st'.gr ∧ q'.1 ≠ d ∧ ((a.eval s).ownBlock = none ∨ (a.tmps.getD q'.1 undef).ownBlock ≠ (a.eval s).ownBlock) := by
    rcases htk with htk | ⟨t, ht, t1, t2⟩
    · have hn : a.eval s = .slice none 0 0 := by have := (hr.val hs).1; rw [htk] at this; exact this
      exact ⟨.inl hn, fun q' hq' => ⟨(hsub q' hq').1, (hsub q' hq').2.1, .inl (by rw [hn]; rfl)⟩⟩
    · obtain ⟨e1, hmem0⟩ := tokOf_spec ht
      have htq : t.1 ∈ opTmps o.op.operands.toList := mem_opTmps (by rw [← e1]; exact hso)
      have hmem : t ∈ st'.gr := (hgr t (.inl htq)).2 hmem0
      have hev : a.eval s = a.tmps.getD t.1 undef := by rw [e1]; rfl
      refine ⟨by rw [hev, ← t1, ← t2]; exact hr.room t hmem, fun q' hq' => ?_⟩
      obtain ⟨m1, m2, m3⟩ := hsub q' hq'
      refine ⟨m1, m2, ?_⟩
      rw [hev]
      have m4 : q'.1 ≠ t.1 := fun e => m3 (by rw [e1, e]; simp [opTmps])
      rcases hr.apart q' t m1 hmem m4 with h1 | h1
      · cases hb2 : (a.tmps.getD t.1 undef).ownBlock with
        | none => exact .inl rfl
        | some g => right; rw [h1]; simp
      · exact .inr h1
  obtain ⟨hroom, hgr2⟩ := key
  obtain ⟨v', w', S', hrun, hrel, hext⟩ := grow_rel hr (hE.el T q hq) hsz o.type hdn hv hxr hroom hne hgr2 (fun _ _ _ _ _ => trivial) hlim
  refine wp_builtin hop hrun (hK _ _ ⟨ρ, S', ?_, ?_⟩)
  · have e : It.app ⟨o, .tv ⟨.sl τ, l ++ xs⟩, [], { rt := opTmps o.op.operands.toList, wt := d :: opTmps [s], ro := [], wo := [] }, d :: opTmps [s], [(d, (q.1, q.2.1))]⟩ st' = { st'.set (some d) (.tv ⟨.sl τ, l ++ xs⟩) [] with gr := (d, (q.1, q.2.1)) :: gapp (d :: opTmps [s]) [] st'.gr } := by
      unfold It.app
      rw [hdst]
      rfl
    rw [e, hdst]
    exact hrel
  · have e : It.app ⟨o, .tv ⟨.sl τ, l ++ xs⟩, [], { rt := opTmps o.op.operands.toList, wt := d :: opTmps [s], ro := [], wo := [] }, d :: opTmps [s], [(d, (q.1, q.2.1))]⟩ st' = { st'.set (some d) (.tv ⟨.sl τ, l ++ xs⟩) [] with gr := (d, (q.1, q.2.1)) :: gapp (d :: opTmps [s]) [] st'.gr } := by
      unfold It.app
      rw [hdst]
      rfl
    rw [e]
    exact hext

theorem evOpsT_tr {inl : Inl} (hE : EnvOK2 P E) (hI : InlOK P inl) {off : Nat} {ops : Array Oper} {k : St → List FP → Option R} : ∀ (rest : List Oper) (st : St) (fps : List FP), evOpsT E inl off nt R k rest st fps = some r →
    ∃ items st', k st' ((items.map It.fp).reverse ++ fps) = some r ∧ Tr P nt ops rest st items st' ∧ st'.tl = st.tl ∧ st'.ol = st.ol
  | [], st, fps, h => ⟨[], st, by simpa [evOpsT] using h, .nil st st (Eqv.refl st), rfl, rfl⟩
  | o :: rest, st, fps, h => by
    simp only [evOpsT] at h
    cases hd : dstOK nt o.dst with
    | false => rw [hd] at h; simp at h
    | true =>
      rw [hd] at h
      simp only [Bool.not_true, cond_false] at h
      cases hg : o.guard with
      | some _ => rw [hg] at h; simp at h
      | none =>
        rw [hg] at h
        simp only at h
        have plain : evOp E inl off st o R (fun v os ro => evOpsT E inl off nt R k rest { st.set o.dst v os with gr := gapp o.dst.toList [] st.gr } (fpOf o none ro (os.map (·.1)) :: fps)) = some r →
            ∃ items st', k st' ((items.map It.fp).reverse ++ fps) = some r ∧ Tr P nt ops (o :: rest) st items st' ∧ st'.tl = st.tl ∧ st'.ol = st.ol := by
          intro h
          obtain ⟨v, os, ro, hk, hsem⟩ := evOp_ok hE hI hd h
          obtain ⟨items, st', h1, h2, h3, h4⟩ := evOpsT_tr hE hI rest _ _ hk
          refine ⟨⟨o, v, os, fpOf o none ro (os.map (·.1)), o.dst.toList, []⟩ :: items, st', by simpa using h1, ?_, h3, h4⟩
          exact .cons rest st _ st' ⟨o, v, os, fpOf o none ro (os.map (·.1)), o.dst.toList, []⟩ items (step_run (Eqv.refl st) hsem (.inl ⟨hg, rfl⟩)) (fun t h => by simp only at h; simp [fpOf, h]) rfl (fun t h => h) (fun q h => by simp at h) (Eqv.refl _) h2
        cases hdst : o.dst with
        | none =>
          rw [hdst] at h plain
          exact plain h
        | some d =>
          rw [hdst] at h plain
          simp only at h
          have hdn : d < nt := by rw [hdst] at hd; simpa [dstOK] using hd
          split at h
          · rename_i qv hqv
            obtain ⟨q, v⟩ := qv
            obtain ⟨items, st', h1, h2, h3, h4⟩ := evOpsT_tr hE hI rest _ _ h
            refine ⟨⟨o, v, [], { rt := opTmps o.op.operands.toList, wt := [d, q.1], ro := [], wo := [] }, [d, q.1], [(d, q.2)]⟩ :: items, st', by simpa using h1, ?_, h3, h4⟩
            refine .cons rest st _ st' ⟨o, v, [], { rt := opTmps o.op.operands.toList, wt := [d, q.1], ro := [], wo := [] }, [d, q.1], [(d, q.2)]⟩ items (step_move hg hdst hdn hqv) (fun t h => ?_) rfl (fun t h => h) (fun q h => ?_) ?_ h2
            · simp only at h; rw [hdst] at h; injection h with h; simp [h]
            · simp only [List.mem_singleton] at h; simp [h]
            · unfold It.app; rw [hdst]; exact Eqv.refl _
          · cases happ : isTokApp st o with
            | false =>
              rw [happ] at h
              exact plain h
            | true =>
              rw [happ] at h
              simp only [cond_true] at h
              split at h
              · rename_i τ l xs q s hof
                cases hb : (xs.isEmpty || !Nat.ble ((l.length + xs.length) * q.2.2) appLim) with
                | true => rw [hb] at h; simp at h
                | false =>
                  rw [hb] at h
                  simp only [cond_false] at h
                  rw [Bool.or_eq_false_iff] at hb
                  have hne : xs ≠ [] := by intro e; rw [e] at hb; simp at hb
                  have hlim : (l.length + xs.length) * q.2.2 ≤ 140737488355328 := by
                    have h2 := hb.2
                    simp only [Bool.not_eq_false'] at h2
                    exact Nat.le_of_ble_eq_true h2
                  obtain ⟨items, st', h1, h2, h3, h4⟩ := evOpsT_tr hE hI rest _ _ h
                  refine ⟨⟨o, .tv ⟨.sl τ, l ++ xs⟩, [], { rt := opTmps o.op.operands.toList, wt := d :: opTmps [s], ro := [], wo := [] }, d :: opTmps [s], [(d, (q.1, q.2.1))]⟩ :: items, st', by simpa using h1, ?_, h3, h4⟩
                  refine .cons rest st _ st' ⟨o, .tv ⟨.sl τ, l ++ xs⟩, [], { rt := opTmps o.op.operands.toList, wt := d :: opTmps [s], ro := [], wo := [] }, d :: opTmps [s], [(d, (q.1, q.2.1))]⟩ items (step_app hE hg hdst hdn hof hne hlim) (fun t h => ?_) rfl (fun t h => h) (fun q h => ?_) ?_ h2
                  · simp only at h; rw [hdst] at h; injection h with h; simp [h]
                  · simp only [List.mem_singleton] at h; simp [h]
                  · unfold It.app; rw [hdst]; exact Eqv.refl _
              · simp at h
end

end Go.Ev

namespace Go.Ev
set_option linter.unusedVariables false

def exRel : Ex → Exit → Prop
  | .normal, .normal => True
  | .ret, .ret => True
  | .exit i, .exit j => i = j
  | _, _ => False

/-- Where a piece of code ends. -/
def CPost (nt B : Nat) (e : Ex) (st' : St) (ρ : Nat → Nat) (S : Stab) (st : St) (w : World) : Exit → Act → World → Prop := fun ex a' w' => exRel e ex ∧ Post nt B ρ S st st' w a' w'

section
variable {P : Program} {E : Env} {nt B : Nat}

theorem keep_spec {α R : Type} {f : Nat → Option α} {k : List (Nat × α) → Option R} {r : R} : ∀ {l : List Nat} {acc : List (Nat × α)}, keep f k l acc = some r →
    ∃ kt, k kt = some r ∧ (∀ t v, (t, v) ∈ kt → (t, v) ∈ acc ∨ (t ∈ l ∧ f t = some v)) ∧ (∀ t, t ∈ l → ∃ v, (t, v) ∈ kt) ∧ (∀ x, x ∈ acc → x ∈ kt)
  | [], acc, h => ⟨acc, h, fun t v h => .inl h, by simp, fun x h => h⟩
  | t0 :: l, acc, h => by
    simp only [keep] at h
    split at h
    · rename_i v hv
      obtain ⟨kt, h1, h2, h3, h4⟩ := keep_spec h
      refine ⟨kt, h1, fun t u hm => ?_, fun t ht => ?_, fun x hx => h4 x (by simp [hx])⟩
      · rcases h2 t u hm with h | ⟨h, h'⟩
        · rcases List.mem_cons.1 h with h | h
          · simp only [Prod.mk.injEq] at h; obtain ⟨e1, e2⟩ := h; subst e1; subst e2; exact .inr ⟨by simp, hv⟩
          · exact .inl h
        · exact .inr ⟨by simp [h], h'⟩
      · rcases List.mem_cons.1 ht with e | e
        · subst e; exact ⟨v, h4 _ (by simp)⟩
        · exact h3 t e
    · simp at h

theorem lk_some_of_mem {α : Type} {t : Nat} {v : α} : ∀ {l : List (Nat × α)}, (t, v) ∈ l → ∃ u, lk t l = some u
  | (u, y) :: l, h => by
    by_cases e : t = u
    · subst e; exact ⟨y, lk_cons_same _ _ _⟩
    · rw [lk_cons_ne _ _ e]
      rcases List.mem_cons.1 h with h | h
      · simp only [Prod.mk.injEq] at h; exact absurd h.1 e
      · exact lk_some_of_mem h

theorem keysOff_lk {α : Type} {l : List (Nat × α)} {ks : List Nat} (h : keysOff l ks = true) {t : Nat} (ht : t ∈ ks) : lk t l = none := by
  refine lk_none_of fun x hx => ?_
  have := (List.all_eq_true.1 h) _ hx
  simp only [Bool.not_eq_true'] at this
  rw [List.any_eq_false] at this
  exact this t ht (by simp)

theorem keysIn_mem {α : Type} {l : List (Nat × α)} {ks : List Nat} (h : keysIn l ks = true) {t : Nat} {v : α} (hl : lk t l = some v) : t ∈ ks := by
  have := (List.all_eq_true.1 h) _ (lk_mem hl)
  obtain ⟨y, hy, e⟩ := List.any_eq_true.1 this
  have := Nat.eq_of_beq_eq_true e
  simp only at this; subst this; exact hy

theorem getT_put {st : St} : ∀ {l : List (Nat × Ty)} {x : denL l}, getT st l = some x → ∀ t u, lk t (putT l x) = some u → ∃ τ y v, u = mkSV τ y ∧ st.tmp t = some v ∧ v.asT τ = some y ∧ (t, τ) ∈ l
  | [], x, h, t, u, hu => by simp [putT, lk] at hu
  | [(t0, τ)], x, h, t, u, hu => by
    simp only [getT] at h
    split at h
    · rename_i v hv
      change lk t [(t0, mkSV τ x)] = some u at hu
      by_cases e : t = t0
      · subst e; rw [lk_cons_same] at hu; simp only [Option.some.injEq] at hu; exact ⟨τ, x, v, hu.symm, hv, h, by simp⟩
      · rw [lk_cons_ne _ _ e] at hu; simp [lk] at hu
    · simp at h
  | (t0, τ) :: b :: l, x, h, t, u, hu => by
    simp only [getT] at h
    split at h
    · rename_i v hv
      split at h
      · rename_i y hy
        split at h
        · rename_i z hz
          injection h with h; subst h
          change lk t ((t0, mkSV τ y) :: putT (b :: l) z) = some u at hu
          by_cases e : t = t0
          · subst e; rw [lk_cons_same] at hu; simp only [Option.some.injEq] at hu; exact ⟨τ, y, v, hu.symm, hv, hy, by simp⟩
          · rw [lk_cons_ne _ _ e] at hu
            obtain ⟨τ', y', v', h1, h2, h3, h4⟩ := getT_put hz t u hu
            exact ⟨τ', y', v', h1, h2, h3, List.mem_cons_of_mem _ h4⟩
        · simp at h
      · simp at h
    · simp at h

theorem hdl_names {l : List (Nat × Ty)} {ns : List Nat} (h : hdlOK l ns = true) {t : Nat} {τ : Ty} (hm : (t, τ) ∈ l) {y : τ.den} {n : Nat} (hn : n ∈ (mkSV τ y).names) : n ∈ ns := by
  have := (List.all_eq_true.1 h) _ hm
  cases τ with
  | hdl m e =>
    simp only [mkSV, SV.names, List.mem_singleton] at hn
    subst hn
    simp only at this
    obtain ⟨z, hz, e⟩ := List.any_eq_true.1 this
    rw [Nat.eq_of_beq_eq_true e]; exact hz
  | _ => simp [mkSV, SV.names] at hn

theorem getO_put {st : St} : ∀ {l : List (Nat × Ty)} {x : denL l}, getO st l = some x → ∀ n u, lk n (putO l x) = some u → st.obj n = some u
  | [], x, h, t, u, hu => by simp [putO, lk] at hu
  | [(t0, τ)], x, h, t, u, hu => by
    simp only [getO] at h
    split at h
    · rename_i v hv
      change lk t [(t0, (⟨τ, x⟩ : TV))] = some u at hu
      by_cases e : t = t0
      · subst e; rw [lk_cons_same] at hu; simp only [Option.some.injEq] at hu; rw [hv, TV.as_some h, hu]
      · rw [lk_cons_ne _ _ e] at hu; simp [lk] at hu
    · simp at h
  | (t0, τ) :: b :: l, x, h, t, u, hu => by
    simp only [getO] at h
    split at h
    · rename_i v hv
      split at h
      · rename_i y hy
        split at h
        · rename_i z hz
          injection h with h; subst h
          change lk t ((t0, (⟨τ, y⟩ : TV)) :: putO (b :: l) z) = some u at hu
          by_cases e : t = t0
          · subst e; rw [lk_cons_same] at hu; simp only [Option.some.injEq] at hu; rw [hv, TV.as_some hy, hu]
          · rw [lk_cons_ne _ _ e] at hu; exact getO_put hz t u hu
        · simp at h
      · simp at h
    · simp at h

theorem putT_keys : ∀ (l : List (Nat × Ty)) (x : denL l) (t : Nat), (∃ u, lk t (putT l x) = some u) ↔ t ∈ ks l
  | [], x, t => by simp [putT, lk, ks]
  | [(t0, τ)], x, t => by
    simp only [putT, ks, List.map_cons, List.map_nil, List.mem_singleton]
    by_cases e : t = t0
    · subst e; simp [lk_cons_same]
    · rw [lk_cons_ne _ _ e]; simp [lk, e]
  | (t0, τ) :: b :: l, x, t => by
    simp only [putT]
    by_cases e : t = t0
    · subst e; simp [lk_cons_same, ks]
    · rw [lk_cons_ne _ _ e, putT_keys (b :: l) x.2 t]; simp [ks, e]

theorem putO_keys : ∀ (l : List (Nat × Ty)) (x : denL l) (t : Nat), (∃ u, lk t (putO l x) = some u) ↔ t ∈ ks l
  | [], x, t => by simp [putO, lk, ks]
  | [(t0, τ)], x, t => by
    simp only [putO, ks, List.map_cons, List.map_nil, List.mem_singleton]
    by_cases e : t = t0
    · subst e; simp [lk_cons_same]
    · rw [lk_cons_ne _ _ e]; simp [lk, e]
  | (t0, τ) :: b :: l, x, t => by
    simp only [putO]
    by_cases e : t = t0
    · subst e; simp [lk_cons_same, ks]
    · rw [lk_cons_ne _ _ e, putO_keys (b :: l) x.2 t]; simp [ks, e]

/-- The state at a loop's head, and behind a join. -/
def headSt (A : LoopAnn) (kt : List (Nat × SV)) (ko : List (Nat × TV)) (s : denA A) : St := { tt := putT A.varT s.1, tl := kt, ot := putO A.varO s.2, ol := ko, gr := A.gr }

theorem tmp_low {st : St} {t : Nat} (h : lk t st.tt = none) : st.tmp t = lk t st.tl := by unfold St.tmp; rw [h]
theorem obj_low {st : St} {t : Nat} (h : lk t st.ot = none) : st.obj t = lk t st.ol := by unfold St.obj; rw [h]

theorem headSt_tmp {A : LoopAnn} {kt : List (Nat × SV)} {ko : List (Nat × TV)} {s : denA A} {t : Nat} {u : SV} (h : (headSt A kt ko s).tmp t = some u) : lk t (putT A.varT s.1) = some u ∨ (lk t (putT A.varT s.1) = none ∧ lk t kt = some u) := by
  unfold headSt St.tmp at h
  simp only at h
  split at h
  · rename_i v hv; left; rw [hv]; exact h
  · rename_i hv; exact .inr ⟨hv, h⟩

theorem headSt_obj {A : LoopAnn} {kt : List (Nat × SV)} {ko : List (Nat × TV)} {s : denA A} {t : Nat} {u : TV} (h : (headSt A kt ko s).obj t = some u) : lk t (putO A.varO s.2) = some u ∨ (lk t (putO A.varO s.2) = none ∧ lk t ko = some u) := by
  unfold headSt St.obj at h
  simp only at h
  split at h
  · rename_i v hv; left; rw [hv]; exact h
  · rename_i hv; exact .inr ⟨hv, h⟩

theorem headSt_D {A : LoopAnn} {kt : List (Nat × SV)} {ko : List (Nat × TV)} (hko : ∀ n, (∃ u, lk n ko = some u) ↔ n ∈ A.keepO) (s : denA A) (n : Nat) : (headSt A kt ko s).D n ↔ (n ∈ ks A.varO ∨ n ∈ A.keepO) := by
  unfold St.D
  rw [Option.isSome_iff_exists]
  constructor
  · rintro ⟨u, hu⟩
    rcases headSt_obj hu with h | ⟨_, h⟩
    · exact .inl ((putO_keys _ _ _).1 ⟨u, h⟩)
    · exact .inr ((hko n).1 ⟨u, h⟩)
  · intro h
    by_cases hv : n ∈ ks A.varO
    · obtain ⟨u, hu⟩ := (putO_keys A.varO s.2 n).2 hv
      exact ⟨u, by unfold headSt St.obj; simp only [hu]⟩
    · obtain ⟨u, hu⟩ := (hko n).2 (h.resolve_left hv)
      have hn : lk n (putO A.varO s.2) = none := by
        cases hq : lk n (putO A.varO s.2) with
        | none => rfl
        | some q => exact absurd ((putO_keys A.varO s.2 n).1 ⟨q, hq⟩) hv
      exact ⟨u, by unfold headSt St.obj; simp only [hn, hu]⟩

/-- A state that has the kept parts unturned gives the relation at the head. -/
theorem trip_eq {a b : Nat × (Nat × Nat)} (h : trip a b = true) : a = b := by
  obtain ⟨a1, a2, a3⟩ := a
  obtain ⟨b1, b2, b3⟩ := b
  simp only [trip, Bool.and_eq_true] at h
  rw [Nat.eq_of_beq_eq_true h.1, Nat.eq_of_beq_eq_true h.2.1, Nat.eq_of_beq_eq_true h.2.2]

theorem grOK_spec {A : LoopAnn} {st : St} (h : grOK A st = true) (q : Nat × (Nat × Nat)) (hq : q ∈ A.gr) : q ∈ st.gr ∨ isNil st q.1 = true := by
  have := (List.all_eq_true.1 h) q hq
  simp only [Bool.or_eq_true] at this
  rcases this with h | h
  · obtain ⟨y, hy, e⟩ := List.any_eq_true.1 h
    rw [trip_eq e]; exact .inl hy
  · exact .inr h

theorem isNil_rel {st : St} {ρ : Nat → Nat} {S : Stab} {a : Act} {w : World} (hr : Rel nt B ρ S st a w) {t : Nat} (h : isNil st t = true) : a.tmps.getD t undef = .slice none 0 0 := by
  unfold isNil at h
  split at h
  · rename_i hv; exact hr.tmp t _ hv
  · simp at h

theorem dropG_spec {ops : List Oper} {gr : List (Nat × (Nat × Nat))} : (∀ q ∈ dropG ops gr, q ∈ gr) ∧ ∀ o ∈ ops, ∀ q, q ∈ dropG ops gr → o.dst ≠ some q.1 := by
  refine ⟨fun q hq => (List.mem_filter.1 hq).1, fun o ho q hq e => ?_⟩
  have h1 := (List.mem_filter.1 hq).2
  have h2 : ops.any (writes q.1) = true := List.any_eq_true.2 ⟨o, ho, by unfold writes; rw [e]; exact Nat.beq_refl _⟩
  rw [h2] at h1; simp at h1

theorem head_rel {A : LoopAnn} {kt : List (Nat × SV)} {ko : List (Nat × TV)} (hko : ∀ n, (∃ u, lk n ko = some u) ↔ n ∈ A.keepO) (hkt : ∀ t u, lk t kt = some u → t ∈ A.keepT) (hnm : (namesOK kt (A.keepO ++ ks A.varO) && hdlOK A.varT (A.keepO ++ ks A.varO)) = true)
    {st : St} {ρ : Nat → Nat} {S : Stab} {a : Act} {w : World} (hr : Rel nt B ρ S st a w) {xt : denL A.varT} {xo : denL A.varO} (ht : getT st A.varT = some xt) (ho : getO st A.varO = some xo)
    (h1 : ∀ t u, lk t kt = some u → st.tmp t = some u) (h2 : ∀ n u, lk n ko = some u → st.obj n = some u) (hgk : grOK A st = true) : Rel nt B ρ S (headSt A kt ko (xt, xo)) a w where
  hB := hr.hB
  room q hq := by
    have key : ∀ n, (headSt A kt ko (xt, xo)).D n → st.D n := fun n dn => by
      obtain ⟨u, hu⟩ := Option.isSome_iff_exists.1 dn
      unfold St.D
      rcases headSt_obj hu with h | ⟨_, h⟩
      · rw [getO_put ho n u h]; rfl
      · rw [h2 n u h]; rfl
    rcases grOK_spec hgk q hq with h | h
    · exact (hr.room q h).congr key
    · exact .inl (isNil_rel hr h)
  apart q q' hq hq' hne := by
    rcases grOK_spec hgk q hq with h | h
    · rcases grOK_spec hgk q' hq' with h' | h'
      · exact hr.apart q q' h h' hne
      · rw [isNil_rel hr h']
        cases (a.tmps.getD q.1 undef).ownBlock with
        | none => exact .inl rfl
        | some g => exact .inr (by simp [Value.ownBlock])
    · rw [isNil_rel hr h]; exact .inl rfl
  tmp t u hu := by
    rcases headSt_tmp hu with h | ⟨_, h⟩
    · obtain ⟨τ, y, v, e, hv, hy, _⟩ := getT_put ht t u h
      subst e
      exact (SV.asT_rel hy (hr.tmp t v hv)).1
    · exact hr.tmp t u (h1 t u h)
  obj n u hu := by
    rcases headSt_obj hu with h | ⟨_, h⟩
    · exact hr.obj n u (getO_put ho n u h)
    · exact hr.obj n u (h2 n u h)
  inj n m dn dm e := by
    have key : ∀ n, (headSt A kt ko (xt, xo)).D n → st.D n := fun n dn => by
      obtain ⟨u, hu⟩ := Option.isSome_iff_exists.1 dn
      unfold St.D
      rcases headSt_obj hu with h | ⟨_, h⟩
      · rw [getO_put ho n u h]; rfl
      · rw [h2 n u h]; rfl
    exact hr.inj n m (key n dn) (key m dm) e
  names t u n hu hn := by
    rcases headSt_tmp hu with h | ⟨_, h⟩
    · obtain ⟨τ, y, v, e, hv, hy, hmem⟩ := getT_put ht t u h
      subst e
      refine (headSt_D hko _ _).2 ?_
      rcases List.mem_append.1 (hdl_names (Bool.and_eq_true_iff.1 hnm).2 hmem hn) with h | h
      · exact .inr h
      · exact .inl h
    · have := (List.all_eq_true.1 (Bool.and_eq_true_iff.1 hnm).1) _ (lk_mem h)
      have := (List.all_eq_true.1 this) n hn
      obtain ⟨y, hy, e⟩ := List.any_eq_true.1 this
      have e' := Nat.eq_of_beq_eq_true e
      subst e'
      refine (headSt_D hko _ _).2 ?_
      rcases List.mem_append.1 hy with h | h
      · exact .inr h
      · exact .inl h
  dfr := hr.dfr
  sz := hr.sz
  sb := hr.sb

theorem disp_spec {R : Type} {kk : Ex → Option R} : ∀ {l : List Ex} {n : Nat} {e : Ex}, l[n]? = some e → disp kk l n = kk e
  | [], n, e, h => by simp at h
  | [x], 0, e, h => by simp at h; subst h; rfl
  | [x], n + 1, e, h => by simp at h
  | x :: y :: l, 0, e, h => by simp at h; subst h; rfl
  | x :: y :: l, n + 1, e, h => by
    have : disp kk (x :: y :: l) (n + 1) = disp kk (y :: l) n := rfl
    rw [this]; exact disp_spec (by simpa using h)

theorem exEq_eq : ∀ {x e : Ex}, exEq x e = true → x = e
  | .normal, .normal, _ => rfl
  | .ret, .ret, _ => rfl
  | .exit i, .exit j, h => by rw [Nat.eq_of_beq_eq_true (show Nat.beq i j = true from h)]
  | .normal, .ret, h | .normal, .exit _, h | .ret, .normal, h | .ret, .exit _, h | .exit _, .normal, h | .exit _, .ret, h => by simp [exEq] at h

theorem exNo_spec {e : Ex} : ∀ {l : List Ex} {b n : Nat}, exNo e l b = some n → ∃ m, n = b + m ∧ l[m]? = some e
  | [], b, n, h => by simp [exNo] at h
  | x :: l, b, n, h => by
    simp only [exNo] at h
    cases hx : exEq x e with
    | true =>
      rw [hx] at h
      simp only [cond_true, Option.some.injEq] at h
      exact ⟨0, by omega, by simp [exEq_eq hx]⟩
    | false =>
      rw [hx] at h
      simp only [cond_false] at h
      obtain ⟨m, h1, h2⟩ := exNo_spec h
      exact ⟨m + 1, by omega, by simpa using h2⟩

theorem endRound_spec {A : LoopAnn} {e : Ex} {st : St} {nx : Next (denA A)} (h : endRound A e st = some nx) :
    ∃ yt yo, keysOff st.tt A.keepT = true ∧ keysOff st.ot A.keepO = true ∧ getT st A.varT = some yt ∧ getO st A.varO = some yo ∧ grOK A st = true ∧
      ((e = .normal ∧ nx = .more (yt, yo)) ∨ ∃ n, A.outs[n]? = some e ∧ e ≠ .normal ∧ nx = .out n (yt, yo)) := by
  unfold endRound at h
  cases hb : (keysOff st.tt A.keepT && (keysOff st.ot A.keepO && grOK A st)) with
  | false => rw [hb] at h; simp at h
  | true =>
    rw [hb] at h
    simp only [cond_true] at h
    rw [Bool.and_eq_true, Bool.and_eq_true] at hb
    split at h
    · rename_i yt yo h1 h2
      refine ⟨yt, yo, hb.1, hb.2.1, h1, h2, hb.2.2, ?_⟩
      split at h
      · simp only [Option.some.injEq] at h; exact .inl ⟨rfl, h.symm⟩
      · rename_i hne
        split at h
        · rename_i n hn
          simp only [Option.some.injEq] at h
          obtain ⟨m, e1, e2⟩ := exNo_spec hn
          exact .inr ⟨n, by rw [e1, Nat.zero_add]; exact e2, hne, h.symm⟩
        · simp at h
    · simp at h

theorem endJoin_spec {A : LoopAnn} {e : Ex} {st : St} {nx : Nat × denA A} (h : endJoin A e st = some nx) :
    ∃ yt yo, keysOff st.tt A.keepT = true ∧ keysOff st.ot A.keepO = true ∧ getT st A.varT = some yt ∧ getO st A.varO = some yo ∧ A.outs[nx.1]? = some e ∧ nx.2 = (yt, yo) := by
  unfold endJoin at h
  cases hb : (keysOff st.tt A.keepT && keysOff st.ot A.keepO) with
  | false => rw [hb] at h; simp at h
  | true =>
    rw [hb] at h
    simp only [cond_true] at h
    rw [Bool.and_eq_true] at hb
    split at h
    · rename_i yt yo h1 h2
      split at h
      · rename_i n hn
        simp only [Option.some.injEq] at h
        obtain ⟨m, e1, e2⟩ := exNo_spec hn
        subst h
        exact ⟨yt, yo, hb.1, hb.2, h1, h2, by rw [e1, Nat.zero_add]; exact e2, rfl⟩
      · simp at h
    · simp at h

theorem loopD_iter {S : Type} {body : S → Option (Next S)} {s : S} {out : Nat × S} (h : loopD body s = some out) : ∃ n, iter body n s = some out := by
  unfold loopD at h
  split at h
  · rename_i hex
    simp only [Option.some.injEq] at h
    have := Classical.choose_spec hex
    rw [h] at this; exact this
  · simp at h

theorem lk_above {α β : Type} {m : List (Nat × β)} (t : Nat) : ∀ l : List (Nat × α), lk t (above m l) = (match lk t m with | some _ => lk t l | none => none)
  | [] => by cases lk t m <;> rfl
  | (u, v) :: r => by
    by_cases e : t = u
    · subst e
      unfold above
      cases h : lk t m with
      | some x => simp only [lk_cons_same]
      | none => simp only; rw [lk_above t r, h]
    · unfold above
      cases h : lk u m with
      | some x => simp only; rw [lk_cons_ne _ _ e, lk_above t r, lk_cons_ne _ _ e]
      | none => simp only; rw [lk_above t r, lk_cons_ne _ _ e]

/-- Behind a loop or a join: kept and changed parts on top, the lower ones as they were. -/
theorem after_eqv {A : LoopAnn} {kt : List (Nat × SV)} {ko : List (Nat × TV)} {st : St} (hT : keysIn st.tl (A.keepT ++ ks A.varT) = true) (hO : keysIn st.ol (A.keepO ++ ks A.varO) = true)
    (hkt : ∀ t ∈ A.keepT, ∃ u, lk t kt = some u) (hko : ∀ t ∈ A.keepO, ∃ u, lk t ko = some u)
    (gt : ∀ t u, lk t kt = some u → st.tmp t = some u) (go : ∀ t u, lk t ko = some u → st.obj t = some u) (s : denA A) :
    Eqv (headSt A kt ko s) { tt := putT A.varT s.1 ++ above st.tt kt, tl := st.tl, ot := putO A.varO s.2 ++ above st.ot ko, ol := st.ol, gr := A.gr } := by
  refine ⟨fun t => ?_, fun t => ?_, fun _ => Iff.rfl⟩
  · unfold headSt St.tmp
    simp only [lk_append]
    cases h1 : lk t (putT A.varT s.1) with
    | some u => rfl
    | none =>
      simp only [lk_above]
      cases h2 : lk t kt with
      | some u =>
        cases h4 : lk t st.tt with
        | some q => rfl
        | none =>
          have := gt t u h2
          rw [tmp_low h4] at this
          simp only [this]
      | none =>
        have h3 : lk t st.tl = none := by
          cases h3 : lk t st.tl with
          | none => rfl
          | some u =>
            have := keysIn_mem hT h3
            rcases List.mem_append.1 this with h | h
            · obtain ⟨q, hq⟩ := hkt t h; rw [h2] at hq; simp at hq
            · obtain ⟨q, hq⟩ := (putT_keys A.varT s.1 t).2 h; rw [h1] at hq; simp at hq
        cases h4 : lk t st.tt <;> simp only [h3]
  · unfold headSt St.obj
    simp only [lk_append]
    cases h1 : lk t (putO A.varO s.2) with
    | some u => rfl
    | none =>
      simp only [lk_above]
      cases h2 : lk t ko with
      | some u =>
        cases h4 : lk t st.ot with
        | some q => rfl
        | none =>
          have := go t u h2
          rw [obj_low h4] at this
          simp only [this]
      | none =>
        have h3 : lk t st.ol = none := by
          cases h3 : lk t st.ol with
          | none => rfl
          | some u =>
            have := keysIn_mem hO h3
            rcases List.mem_append.1 this with h | h
            · obtain ⟨q, hq⟩ := hko t h; rw [h2] at hq; simp at hq
            · obtain ⟨q, hq⟩ := (putO_keys A.varO s.2 t).2 h; rw [h1] at hq; simp at hq
        cases h4 : lk t st.ot <;> simp only [h3]

/-- What the kept lists are. -/
structure Kept (A : LoopAnn) (st : St) (kt : List (Nat × SV)) (ko : List (Nat × TV)) : Prop where
  tl : keysIn st.tl (A.keepT ++ ks A.varT) = true
  ol : keysIn st.ol (A.keepO ++ ks A.varO) = true
  ot : keysIn st.ot (A.keepO ++ ks A.varO) = true
  hkt : ∀ t u, lk t kt = some u → t ∈ A.keepT ∧ st.tmp t = some u
  hko : ∀ t u, lk t ko = some u → t ∈ A.keepO ∧ st.obj t = some u
  kt' : ∀ t ∈ A.keepT, ∃ u, lk t kt = some u
  ko' : ∀ t ∈ A.keepO, ∃ u, lk t ko = some u
  nm : (namesOK kt (A.keepO ++ ks A.varO) && hdlOK A.varT (A.keepO ++ ks A.varO)) = true

theorem Kept.ko2 {A : LoopAnn} {st : St} {kt : List (Nat × SV)} {ko : List (Nat × TV)} (h : Kept A st kt ko) (n : Nat) : (∃ u, lk n ko = some u) ↔ n ∈ A.keepO := ⟨fun ⟨u, hu⟩ => (h.hko n u hu).1, fun hn => h.ko' n hn⟩

theorem kept_of {A : LoopAnn} {st : St} {R : Type} {r : R} {k : List (Nat × SV) → List (Nat × TV) → Option R}
    (h : (bif keysIn st.tl (A.keepT ++ ks A.varT) && keysIn st.ol (A.keepO ++ ks A.varO) && keysIn st.ot (A.keepO ++ ks A.varO) then
        keep st.tmp (fun kt => keep st.obj (fun ko => bif !(namesOK kt (A.keepO ++ ks A.varO) && hdlOK A.varT (A.keepO ++ ks A.varO)) then none else k kt ko) A.keepO []) A.keepT [] else none) = some r) :
    ∃ kt ko, k kt ko = some r ∧ Kept A st kt ko := by
  cases hb : (keysIn st.tl (A.keepT ++ ks A.varT) && keysIn st.ol (A.keepO ++ ks A.varO) && keysIn st.ot (A.keepO ++ ks A.varO)) with
  | false => rw [hb] at h; simp at h
  | true =>
    rw [hb] at h
    simp only [cond_true] at h
    simp only [Bool.and_eq_true] at hb
    obtain ⟨kt, h1, h2, h3, _⟩ := keep_spec h
    obtain ⟨ko, g1, g2, g3, _⟩ := keep_spec h1
    cases hn : (namesOK kt (A.keepO ++ ks A.varO) && hdlOK A.varT (A.keepO ++ ks A.varO)) with
    | false => rw [hn] at g1; simp at g1
    | true =>
      rw [hn] at g1
      simp only [Bool.not_true, cond_false] at g1
      refine ⟨kt, ko, g1, ⟨hb.1.1, hb.1.2, hb.2, fun t u hu => ?_, fun t u hu => ?_, fun t ht => ?_, fun t ht => ?_, hn⟩⟩
      · exact (h2 t u (lk_mem hu)).resolve_left (by simp)
      · exact (g2 t u (lk_mem hu)).resolve_left (by simp)
      · obtain ⟨v, hv⟩ := h3 t ht; exact lk_some_of_mem hv
      · obtain ⟨v, hv⟩ := g3 t ht; exact lk_some_of_mem hv

theorem Kept.D {A : LoopAnn} {st : St} {kt : List (Nat × SV)} {ko : List (Nat × TV)} (h : Kept A st kt ko) {xo : denL A.varO} (ho : getO st A.varO = some xo) (n : Nat) : st.D n ↔ (n ∈ ks A.varO ∨ n ∈ A.keepO) := by
  constructor
  · intro d
    obtain ⟨u, hu⟩ := Option.isSome_iff_exists.1 d
    unfold St.obj at hu
    have : n ∈ A.keepO ++ ks A.varO := by
      split at hu
      · rename_i v hv; exact keysIn_mem h.ot hv
      · exact keysIn_mem h.ol hu
    rcases List.mem_append.1 this with h | h
    · exact .inr h
    · exact .inl h
  · rintro (hv | hk)
    · obtain ⟨u, hu⟩ := (putO_keys A.varO xo n).2 hv
      unfold St.D; rw [getO_put ho n u hu]; rfl
    · obtain ⟨u, hu⟩ := h.ko' n hk
      unfold St.D; rw [(h.hko n u hu).2]; rfl

theorem evCode_ok (hm : P.follows .mixedOrders = true) (hE : EnvOK2 P E) {inl : Inl} (hI : InlOK P inl) {off fno : Nat} : ∀ (c : Code) (st : St) (R : Type) (k : Ex → St → Option R) (r : R), evCode E inl off fno nt c st R k = some r →
    ∃ e st', st'.tl = st.tl ∧ st'.ol = st.ol ∧ k e st' = some r ∧ ∀ B ρ S a w, Rel nt B ρ S st a w → c.wp P (CPost nt B e st' ρ S st w) a w
  | .skip, st, R, k, r, h => ⟨.normal, st, rfl, rfl, h, fun B ρ S a w hr => wp_skip ⟨trivial, ρ, S, hr, ExtB.refl B ρ S st.D w⟩⟩
  | .region id ops draw, st, R, k, r, h => by
    simp only [evCode] at h
    cases hap : (!draw && ops.toList.any isApp) with
    | true =>
      rw [hap] at h
      simp only [cond_true] at h
      rw [Bool.and_eq_true] at hap
      have hdr : draw = false := by simpa using hap.1
      subst hdr
      obtain ⟨st', h1, h2, h3, h4⟩ := evOpsG_ok (ops := ops) hE hI _ _ h
      exact ⟨.normal, st', h2, h3, h1, fun B ρ S a w hr => wp_region_list (h4 B ρ S a w hr _ fun a' w' hp => ⟨trivial, hp⟩)⟩
    | false =>
    rw [hap] at h
    simp only [cond_false] at h
    cases hap2 : (draw && ops.toList.any isApp) with
    | true =>
      rw [hap2] at h
      simp only [cond_true] at h
      obtain ⟨items, st', h1, h2, h3, h4⟩ := evOpsT_tr (ops := ops) hE hI _ _ _ h
      cases hb : freeGo ops.toList ((items.map It.fp).reverse ++ []).reverse 0 [] with
      | false => rw [hb] at h1; simp at h1
      | true =>
        rw [hb] at h1
        simp only [cond_true] at h1
        refine ⟨.normal, st', h3, h4, h1, fun B ρ S a w hr => ?_⟩
        exact region_ok hm h2 (fun hd => by simpa using hb) hr fun a' w' hp => ⟨trivial, hp⟩
    | false =>
    rw [hap2] at h
    simp only [cond_false] at h
    obtain ⟨items, st', h1, h2, h3, h4⟩ := evOps_tr hE hI _ _ _ dropG_spec.2 h
    cases hb : (!draw || freeGo ops.toList ((items.map It.fp).reverse ++ []).reverse 0 []) with
    | false => rw [hb] at h1; simp at h1
    | true =>
      rw [hb] at h1
      simp only [cond_true] at h1
      refine ⟨.normal, st', h3, h4, h1, fun B ρ S a w hr => ?_⟩
      exact region_ok hm h2 (fun hd => by rw [hd] at hb; simpa using hb) (hr.sub dropG_spec.1) fun a' w' hp => ⟨trivial, hp⟩
  | .seq x y, st, R, k, r, h => by
    simp only [evCode] at h
    obtain ⟨e, st1, ht, ho, hk, h1⟩ := evCode_ok hm hE hI x st R _ r h
    cases e with
    | normal =>
      obtain ⟨e2, st2, g2, g3, g4, h2⟩ := evCode_ok hm hE hI y st1 R k r hk
      refine ⟨e2, st2, g2.trans ht, g3.trans ho, g4, fun B ρ S a w hr => wp_seq (wp_mono (h1 B ρ S a w hr) fun ex a1 w1 hp => ?_)⟩
      obtain ⟨he, ρ1, S1, hr1, he1⟩ := hp
      cases ex <;> simp only [exRel] at he
      show y.wp P _ a1 w1
      exact wp_mono (h2 B ρ1 S1 a1 w1 hr1) fun ex2 a2 w2 hp2 => ⟨hp2.1, Post.trans he1 hp2.2⟩
    | ret =>
      refine ⟨.ret, st1, ht, ho, hk, fun B ρ S a w hr => wp_seq (wp_mono (h1 B ρ S a w hr) fun ex a1 w1 hp => ?_)⟩
      obtain ⟨he, hp⟩ := hp
      cases ex <;> simp only [exRel] at he
      exact ⟨trivial, hp⟩
    | exit i =>
      refine ⟨.exit i, st1, ht, ho, hk, fun B ρ S a w hr => wp_seq (wp_mono (h1 B ρ S a w hr) fun ex a1 w1 hp => ?_)⟩
      obtain ⟨he, hp⟩ := hp
      cases ex <;> simp only [exRel] at he
      exact ⟨he, hp⟩
  | .cond c x y, st, R, k, r, h => by
    simp only [evCode] at h
    split at h
    · rename_i b hc
      have hcb : ∀ {B : Nat} {ρ : Nat → Nat} {S : Stab} {a : Act} {w : World}, Rel nt B ρ S st a w → a.eval c = .bool b := fun hr => rel_bool (hr.val hc).1
      split at h
      · cases b with
        | true =>
          obtain ⟨e, st1, ht, ho, hk, h1⟩ := evCode_ok hm hE hI x st R k r h
          exact ⟨e, st1, ht, ho, hk, fun B ρ S a w hr => wp_cond (hcb hr) (h1 B ρ S a w hr)⟩
        | false =>
          obtain ⟨e, st1, ht, ho, hk, h1⟩ := evCode_ok hm hE hI y st R k r h
          exact ⟨e, st1, ht, ho, hk, fun B ρ S a w hr => wp_cond (hcb hr) (h1 B ρ S a w hr)⟩
      · rename_i A hA
        cases hge : A.gr.isEmpty with
        | false => rw [hge] at h; simp at h
        | true =>
        rw [hge] at h
        simp only [Bool.not_true, cond_false] at h
        have hg0 : A.gr = [] := by simpa using hge
        obtain ⟨kt, ko, hk, K⟩ := kept_of (A := A) (st := st) h
        obtain ⟨nx, hbr, hd⟩ := Option.bind_eq_some_iff.1 hk
        let st0 : St := { tt := [], tl := st.tt ++ st.tl, ot := [], ol := st.ot ++ st.ol }
        have e0 : Eqv { st with gr := [] } st0 := ⟨fun t => by show _ = lk t (st.tt ++ st.tl); rw [lk_append]; unfold St.tmp; cases lk t st.tt <;> rfl, fun t => by show _ = lk t (st.ot ++ st.ol); rw [lk_append]; unfold St.obj; cases lk t st.ot <;> rfl, fun _ => Iff.rfl⟩
        have fin : ∀ (z : Code), (∃ e st1, st1.tl = st0.tl ∧ st1.ol = st0.ol ∧ endJoin A e st1 = some nx ∧ ∀ B ρ S a w, Rel nt B ρ S st0 a w → z.wp P (CPost nt B e st1 ρ S st0 w) a w) →
            ∃ e st', st'.tl = st.tl ∧ st'.ol = st.ol ∧ k e st' = some r ∧ ∀ B ρ S a w, Rel nt B ρ S st a w → z.wp P (CPost nt B e st' ρ S st w) a w := by
          rintro z ⟨e, st1, ht, ho, hk1, hz⟩
          obtain ⟨yt, yo, k1, k2, k3, k4, k5, k6⟩ := endJoin_spec hk1
          rw [disp_spec k5, k6] at hd
          have tmpk : ∀ t u, lk t kt = some u → st1.tmp t = some u := fun t u hu => by
            obtain ⟨m1, m2⟩ := K.hkt t u hu
            rw [tmp_low (keysOff_lk k1 m1), ht, ← m2]
            exact (e0.tmp t).symm
          have objk : ∀ t u, lk t ko = some u → st1.obj t = some u := fun t u hu => by
            obtain ⟨m1, m2⟩ := K.hko t u hu
            rw [obj_low (keysOff_lk k2 m1), ho, ← m2]
            exact (e0.obj t).symm
          have ea := after_eqv K.tl K.ol K.kt' K.ko' (fun t u h => (K.hkt t u h).2) (fun t u h => (K.hko t u h).2) (yt, yo)
          have hsub : ∀ n, (headSt A kt ko (yt, yo)).D n → st1.D n := fun n dn => by
            obtain ⟨u, hu⟩ := Option.isSome_iff_exists.1 dn
            unfold St.D
            rcases headSt_obj hu with h | ⟨_, h⟩
            · rw [getO_put k4 n u h]; rfl
            · rw [objk n u h]; rfl
          have hall : ∀ n, st.D n → (headSt A kt ko (yt, yo)).D n := fun n dn => by
            refine (headSt_D K.ko2 _ n).2 ?_
            obtain ⟨u, hu⟩ := Option.isSome_iff_exists.1 dn
            unfold St.obj at hu
            have : n ∈ A.keepO ++ ks A.varO := by
              split at hu
              · rename_i v hv; exact keysIn_mem K.ot hv
              · exact keysIn_mem K.ol hu
            rcases List.mem_append.1 this with h | h
            · exact .inr h
            · exact .inl h
          refine ⟨e, { tt := putT A.varT (yt, yo).1 ++ above st.tt kt, tl := st.tl, ot := putO A.varO (yt, yo).2 ++ above st.ot ko, ol := st.ol, gr := A.gr }, rfl, rfl, hd, fun B ρ S a w hr => wp_mono (hz B ρ S a w ((hr.sub (gr := []) (fun q hq => by simp at hq)).eqv e0)) fun ex a1 w1 hp => ?_⟩
          obtain ⟨he, ρ1, S1, hr1, he1⟩ := hp
          have hr2 := head_rel (A := A) K.ko2 (fun t u hu => (K.hkt t u hu).1) K.nm hr1 k3 k4 tmpk objk (by unfold grOK; rw [hg0]; rfl)
          refine ⟨he, ρ1, S1, hr2.eqv ea, ?_⟩
          have hx : ExtB B ρ S st.D w ρ1 S1 st1.D w1 := he1.congr (fun n => (e0.D n).symm) (fun _ => Iff.rfl)
          exact ⟨fun n dn => (ea.D n).1 (hall n dn), hx.same, fun n dn nd => hx.fresh n (hsub n ((ea.D n).2 dn)) nd, hx.mono, hx.new, hx.size, hx.frame, hx.cell, hx.os, hx.tape, hx.output⟩
        cases b with
        | true =>
          obtain ⟨e, st', g1, g2, g3, g4⟩ := fin x (evCode_ok hm hE hI x st0 _ (endJoin A) nx hbr)
          exact ⟨e, st', g1, g2, g3, fun B ρ S a w hr => wp_cond (hcb hr) (g4 B ρ S a w hr)⟩
        | false =>
          obtain ⟨e, st', g1, g2, g3, g4⟩ := fin y (evCode_ok hm hE hI y st0 _ (endJoin A) nx hbr)
          exact ⟨e, st', g1, g2, g3, fun B ρ S a w hr => wp_cond (hcb hr) (g4 B ρ S a w hr)⟩
    · simp at h
  | .block id b, st, R, k, r, h => by
    simp only [evCode] at h
    obtain ⟨e, st1, ht, ho, hk, h1⟩ := evCode_ok hm hE hI b st R _ r h
    cases e with
    | normal =>
      refine ⟨.normal, st1, ht, ho, hk, fun B ρ S a w hr => wp_block (wp_mono (h1 B ρ S a w hr) fun ex a1 w1 hp => ?_)⟩
      obtain ⟨he, hp⟩ := hp
      cases ex <;> simp only [exRel] at he
      exact ⟨trivial, hp⟩
    | ret =>
      refine ⟨.ret, st1, ht, ho, hk, fun B ρ S a w hr => wp_block (wp_mono (h1 B ρ S a w hr) fun ex a1 w1 hp => ?_)⟩
      obtain ⟨he, hp⟩ := hp
      cases ex <;> simp only [exRel] at he
      exact ⟨trivial, hp⟩
    | exit i =>
      change (bif Nat.beq i id then k .normal st1 else k (.exit i) st1) = some r at hk
      cases hb : Nat.beq i id with
      | true =>
        rw [hb] at hk
        simp only [cond_true] at hk
        refine ⟨.normal, st1, ht, ho, hk, fun B ρ S a w hr => wp_block (wp_mono (h1 B ρ S a w hr) fun ex a1 w1 hp => ?_)⟩
        obtain ⟨he, hp⟩ := hp
        cases ex <;> simp only [exRel] at he
        subst he
        simp only [Exit.inBlock]
        rw [if_pos (Nat.eq_of_beq_eq_true hb)]
        exact ⟨trivial, hp⟩
      | false =>
        rw [hb] at hk
        simp only [cond_false] at hk
        refine ⟨.exit i, st1, ht, ho, hk, fun B ρ S a w hr => wp_block (wp_mono (h1 B ρ S a w hr) fun ex a1 w1 hp => ?_)⟩
        obtain ⟨he, hp⟩ := hp
        cases ex <;> simp only [exRel] at he
        subst he
        simp only [Exit.inBlock]
        rw [if_neg (fun e => by subst e; simp at hb)]
        exact ⟨rfl, hp⟩
  | .scope b, st, R, k, r, h => by
    simp only [evCode] at h
    obtain ⟨e, st1, ht, ho, hk, h1⟩ := evCode_ok hm hE hI b st R k r h
    refine ⟨e, st1, ht, ho, hk, fun B ρ S a w hr => wp_scope_straight (wp_mono (h1 B ρ S a w hr) fun ex a1 w1 hp => ?_)⟩
    obtain ⟨he, rest⟩ := hp
    cases ex with
    | goto l => cases e <;> simp [exRel] at he
    | _ => exact ⟨he, rest⟩
  | .exit id, st, R, k, r, h => ⟨.exit id, st, rfl, rfl, h, fun B ρ S a w hr => wp_exit ⟨rfl, ρ, S, hr, ExtB.refl B ρ S st.D w⟩⟩
  | .ret, st, R, k, r, h => ⟨.ret, st, rfl, rfl, h, fun B ρ S a w hr => wp_ret ⟨trivial, ρ, S, hr, ExtB.refl B ρ S st.D w⟩⟩
  | .loop b, st, R, k, r, h => by
    simp only [evCode] at h
    split at h
    · simp at h
    · rename_i A hA
      cases hge : grOK A st with
      | false => rw [hge] at h; simp at h
      | true =>
      rw [hge] at h
      simp only [Bool.not_true, cond_false] at h
      obtain ⟨kt, ko, hk, K⟩ := kept_of (A := A) (st := st) h
      split at hk
      · rename_i xt xo hxt hxo
        obtain ⟨out, hloop, hd⟩ := Option.bind_eq_some_iff.1 hk
        obtain ⟨n, hit⟩ := loopD_iter hloop
        have hDst : ∀ (s : denA A) (m : Nat), (headSt A kt ko s).D m ↔ st.D m := fun s m => (headSt_D K.ko2 s m).trans (K.D hxo m).symm
        have key : ∀ n (s : denA A), iter (fun s => evCode E inl off fno nt b (headSt A kt ko s) (Next (denA A)) (endRound A)) n s = some out →
            ∃ ef, A.outs[out.1]? = some ef ∧ ∀ B ρ S w a1 w1, Post nt B ρ S st (headSt A kt ko s) w a1 w1 → Code.rounds P b (CPost nt B ef (headSt A kt ko out.2) ρ S st w) n a1 w1 := by
          intro n
          induction n with
          | zero => intro s hi; simp [iter] at hi
          | succ n ih =>
            intro s hi
            simp only [iter] at hi
            -- what a round comes to
            have fin : ∀ {st1 : St} {yt : denL A.varT} {yo : denL A.varO}, st1.tl = kt → st1.ol = ko → keysOff st1.tt A.keepT = true → keysOff st1.ot A.keepO = true → getT st1 A.varT = some yt → getO st1 A.varO = some yo → grOK A st1 = true →
                ∀ {B ρ S w w1 a2 w2 ρ1 S1}, ExtB B ρ S st.D w ρ1 S1 (headSt A kt ko s).D w1 → Post nt B ρ1 S1 (headSt A kt ko s) st1 w1 a2 w2 → Post nt B ρ S st (headSt A kt ko (yt, yo)) w a2 w2 := by
              intro st1 yt yo ht ho k1 k2 k3 k4 kg B ρ S w w1 a2 w2 ρ1 S1 he1 hp2
              obtain ⟨ρ2, S2, hr2, he2⟩ := hp2
              have tmpk : ∀ t u, lk t kt = some u → st1.tmp t = some u := fun t u hu => by
                rw [tmp_low (keysOff_lk k1 (K.hkt t u hu).1), ht]; exact hu
              have objk : ∀ t u, lk t ko = some u → st1.obj t = some u := fun t u hu => by
                rw [obj_low (keysOff_lk k2 (K.hko t u hu).1), ho]; exact hu
              refine ⟨ρ2, S2, head_rel (A := A) K.ko2 (fun t u hu => (K.hkt t u hu).1) K.nm hr2 k3 k4 tmpk objk kg, ?_⟩
              have hx := he1.trans he2
              have hsub : ∀ m, (headSt A kt ko (yt, yo)).D m → st1.D m := fun m dm => by
                obtain ⟨u, hu⟩ := Option.isSome_iff_exists.1 dm
                unfold St.D
                rcases headSt_obj hu with h | ⟨_, h⟩
                · rw [getO_put k4 m u h]; rfl
                · rw [objk m u h]; rfl
              exact ⟨fun m dm => (hDst _ m).2 dm, hx.same, fun m dm nd => hx.fresh m (hsub m dm) nd, hx.mono, hx.new, hx.size, hx.frame, hx.cell, hx.os, hx.tape, hx.output⟩
            split at hi
            · rename_i s' hs'
              obtain ⟨e, st1, ht, ho, hk1, hround⟩ := evCode_ok hm hE hI b (headSt A kt ko s) _ (endRound A) _ hs'
              obtain ⟨yt, yo, k1, k2, k3, k4, kg, k5⟩ := endRound_spec hk1
              rcases k5 with ⟨e1, e2⟩ | ⟨m, _, _, e2⟩
              · subst e1
                injection e2 with e2
                subst e2
                obtain ⟨ef, hef, hrest⟩ := ih (yt, yo) hi
                refine ⟨ef, hef, fun B ρ S w a1 w1 hp => ?_⟩
                rw [rounds_succ]
                obtain ⟨ρ1, S1, hr1, he1⟩ := hp
                refine wp_mono (hround B ρ1 S1 a1 w1 hr1) fun ex a2 w2 hp2 => ?_
                obtain ⟨he, hpost⟩ := hp2
                cases ex <;> simp only [exRel] at he
                exact hrest B ρ S w a2 w2 (fin ht ho k1 k2 k3 k4 kg he1 hpost)
              · simp at e2
            · rename_i eo s' hs'
              simp only [Option.some.injEq] at hi
              subst hi
              obtain ⟨e, st1, ht, ho, hk1, hround⟩ := evCode_ok hm hE hI b (headSt A kt ko s) _ (endRound A) _ hs'
              obtain ⟨yt, yo, k1, k2, k3, k4, kg, k5⟩ := endRound_spec hk1
              rcases k5 with ⟨_, e2⟩ | ⟨m, hm1, hne, e2⟩
              · simp at e2
              · injection e2 with e2 e3
                subst e2; subst e3
                refine ⟨e, hm1, fun B ρ S w a1 w1 hp => ?_⟩
                rw [rounds_succ]
                obtain ⟨ρ1, S1, hr1, he1⟩ := hp
                refine wp_mono (hround B ρ1 S1 a1 w1 hr1) fun ex a2 w2 hp2 => ?_
                obtain ⟨he, hpost⟩ := hp2
                have hp3 := fin ht ho k1 k2 k3 k4 kg he1 hpost
                have done : CPost nt B e (headSt A kt ko (yt, yo)) ρ S st w ex a2 w2 := ⟨he, hp3⟩
                cases ex with
                | normal => cases e <;> simp [exRel] at he hne
                | _ => exact done
            · simp at hi
        obtain ⟨ef, hef, hrounds⟩ := key n (xt, xo) hit
        rw [disp_spec hef] at hd
        have ea := after_eqv K.tl K.ol K.kt' K.ko' (fun t u h => (K.hkt t u h).2) (fun t u h => (K.hko t u h).2) out.2
        refine ⟨ef, { tt := putT A.varT out.2.1 ++ above st.tt kt, tl := st.tl, ot := putO A.varO out.2.2 ++ above st.ot ko, ol := st.ol, gr := A.gr }, rfl, rfl, hd, fun B ρ S a w hr => wp_loop_rounds n ?_⟩
        have := hrounds B ρ S w a w ⟨ρ, S, head_rel (A := A) K.ko2 (fun t u hu => (K.hkt t u hu).1) K.nm hr hxt hxo (fun t u hu => (K.hkt t u hu).2) (fun t u hu => (K.hko t u hu).2) hge, (ExtB.refl B ρ S st.D w).congr (fun _ => Iff.rfl) (fun m => (hDst _ m).symm)⟩
        have hQ : CPost nt B ef (headSt A kt ko out.2) ρ S st w = CPost nt B ef { tt := putT A.varT out.2.1 ++ above st.tt kt, tl := st.tl, ot := putO A.varO out.2.2 ++ above st.ot ko, ol := st.ol, gr := A.gr } ρ S st w := by
          funext ex a' w'
          exact propext ⟨fun h => ⟨h.1, h.2.eqv ea⟩, fun h => ⟨h.1, h.2.eqv ea.symm⟩⟩
        rw [← hQ]; exact this
      · simp at hk
  | .label l, st, R, k, r, h => by
    simp only [evCode] at h
    exact ⟨.normal, st, rfl, rfl, h, fun B ρ S a w hr => wp_label ⟨trivial, ρ, S, hr, ExtB.refl B ρ S st.D w⟩⟩
  | .goto _, _, _, _, _, h => by simp [evCode] at h
  | .refuse _, _, _, _, _, h => by simp [evCode] at h
  | .rangeFunc _ _ _ _, _, _, _, _, h => by simp [evCode] at h

theorem ExtB.strong {ρ ρ' : Nat → Nat} {S S' : Stab} {D D' : Nat → Prop} {w w' : World} (h : ExtB w.heap.size ρ S D w ρ' S' D' w') : Ext ρ S D w ρ' S' D' w' :=
  ⟨h.dom, h.same, h.fresh, h.mono, h.new, h.size, h.frame, h.os, h.tape, h.output⟩

/-! ### Functions -/
theorem initT_lk : ∀ {svs : List SV} {n t : Nat} {v : SV}, lk t (initT n svs) = some v → n ≤ t ∧ svs[t - n]? = some v
  | [], n, t, v, h => by simp [initT, lk] at h
  | a :: svs, n, t, v, h => by
    simp only [initT] at h
    by_cases e : t = n
    · subst e; rw [lk_cons_same] at h; simp only [Option.some.injEq] at h; subst h; simp
    · rw [lk_cons_ne _ _ e] at h
      obtain ⟨h1, h2⟩ := initT_lk h
      refine ⟨by omega, ?_⟩
      rw [show t - n = (t - (n + 1)) + 1 by omega]; simpa using h2

theorem SVRelL.length {ρ : Nat → Nat} {S : Stab} {w : World} : ∀ {l : List SV} {vs : List Value}, SVRelL ρ S w l vs → vs.length = l.length
  | [], vs, h => by simp only [SVRelL] at h; subst h; rfl
  | a :: l, vs, ⟨x, q, e, hx, hq⟩ => by subst e; simp [SVRelL.length hq]

def resF (tmps : Array Value) : ResultVar → Sem Value
  | .tmp t => pure (tmps.getD t undef)
  | .cell a t => do loadVar t (← asAddr (tmps.getD a undef))

theorem results_eq (fn : Func) (tmps : Array Value) : results fn tmps = (do let vs ← fn.results.mapM (resF tmps); pure (if h : vs.size = 1 then vs[0] else .tuple vs)) := by
  unfold results
  congr

theorem tyOK_novec {tab : List (Nat × (Ty × Nat))} {T n : Nat} {τ : Ty} (ht : TyOK P tab T τ n) : τ.isVec = false := by
  obtain ⟨D, hu, hd⟩ := ht.und
  cases τ <;> first
    | rfl
    | (cases D with
       | struct fs => exact absurd (descOK_agg hd) (by simp [Ty.agg])
       | _ => simp [descOK] at hd)

theorem collect_ok (hE : EnvOK P E) {st : St} {ρ : Nat → Nat} {S : Stab} {a : Act} {w : World} (hr : Rel nt B ρ S st a w) : ∀ (rs : List ResultVar) (l : List SV), collect E st rs = some l →
    ∃ vs, (rs.mapM (resF a.tmps)).run P w = .ok vs w ∧ SVRelL ρ S w l vs ∧ ∀ n, n ∈ namesL l → st.D n
  | [], l, h => by simp only [collect, Option.some.injEq] at h; subst h; exact ⟨[], by simp, rfl, fun n hn => by simp [namesL] at hn⟩
  | .tmp t :: rs, l, h => by
    simp only [collect] at h
    split at h
    · rename_i v hv
      split at h
      · rename_i l' hl
        simp only [Option.some.injEq] at h; subst h
        obtain ⟨vs, h1, h2, h3⟩ := collect_ok hE hr rs l' hl
        refine ⟨a.tmps.getD t undef :: vs, ?_, ⟨_, _, rfl, hr.tmp t v hv, h2⟩, fun n hn => ?_⟩
        · simp only [List.mapM_cons, resF, Sem.run_bind, Sem.run_pure, Result.andThen_ok, h1]
        · simp only [namesL, List.mem_append] at hn
          exact hn.elim (fun h => hr.names t v n hv h) (h3 n)
      · simp at h
    · simp at h
  | .cell x T :: rs, l, h => by
    simp only [collect] at h
    split at h
    · rename_i τ m hT
      have ht := hE.tab _ _ _ hT
      split at h
      · rename_i n σ p hv
        split at h
        · rename_i σ' y hob
          cases hb : Ty.beq σ σ' with
          | false => rw [hb] at h; simp at h
          | true =>
            have eσ := Ty.eq_of_beq hb
            subst eσ
            rw [hb] at h
            simp only [cond_true] at h
            split at h
            · rename_i t hg
              cases hb2 : Ty.beq t.ty τ with
              | false => rw [hb2] at h; simp at h
              | true =>
                rw [hb2] at h
                simp only [cond_true] at h
                split at h
                · rename_i l' hl
                  simp only [Option.some.injEq] at h; subst h
                  obtain ⟨vs, h1, h2, h3⟩ := collect_ok hE hr rs l' hl
                  obtain ⟨ok, e⟩ := hr.tmp x _ hv
                  obtain ⟨cs, T', hrep, hheap, _⟩ := (hr.obj n _ hob).plain (get_novec hg (by have := ht; rw [Ty.eq_of_beq hb2]; exact tyOK_novec ht))
                  obtain ⟨hr2, hlen⟩ := Rep.get p σ hrep hg ok
                  obtain ⟨ty, tx⟩ := t
                  have e2 := Ty.eq_of_beq hb2
                  simp only at e2
                  subst e2
                  have := run_loadVar_cells (P := P) ht hr2 (ρ n) (Ev.off σ p) (fun j v hj => cells_of_heap hheap (getElem?_part hj))
                  refine ⟨ty.pack ((cs.drop (Ev.off σ p)).take ty.size) :: vs, ?_, ⟨_, _, rfl, ⟨_, hr2, rfl⟩, h2⟩, fun n hn => ?_⟩
                  · simp only [List.mapM_cons, resF, Sem.run_bind, e, asAddr, Sem.run_pure, Result.andThen_ok]
                    rw [this]
                    simp only [Result.andThen_ok, h1]
                  · simp only [namesL, SV.names, List.nil_append] at hn
                    exact h3 n hn
                · simp at h
            · simp at h
        · simp at h
      · simp at h
    · simp at h

theorem results_ok (hE : EnvOK P E) {fn : Func} {st : St} {ρ : Nat → Nat} {S : Stab} {a : Act} {w : World} (hr : Rel nt B ρ S st a w) {l : List SV} (h : collect E st fn.results.toList = some l) :
    ∃ v, (results fn a.tmps).run P w = .ok v w ∧ SVRel ρ S w (pack1 l) v ∧ ∀ n, n ∈ (pack1 l).names → st.D n := by
  obtain ⟨vs, h1, h2, h3⟩ := collect_ok (P := P) hE hr _ _ h
  have hlen := h2.length
  have hrun : (results fn a.tmps).run P w = .ok (if h : vs.toArray.size = 1 then vs.toArray[0] else .tuple vs.toArray) w := by
    rw [results_eq, Sem.run_bind, Array.mapM_eq_mapM_toList]
    simp only [Sem.run_map, h1, Result.andThen_ok, Sem.run_pure]
  refine ⟨_, hrun, ?_⟩
  match l, vs, h2, h3, hlen with
  | [], [], _, _, _ => exact ⟨⟨[], rfl, rfl⟩, fun n hn => by simp [pack1, SV.names, namesL] at hn⟩
  | [v], [x], h2, h3, _ =>
    obtain ⟨y, q, e, hy, _⟩ := h2
    simp only [List.cons.injEq] at e
    obtain ⟨e1, _⟩ := e
    subst e1
    exact ⟨hy, fun n hn => h3 n (by simp only [namesL, List.append_nil]; exact hn)⟩
  | v :: v2 :: l, x :: x2 :: vs, h2, h3, _ => exact ⟨⟨_, rfl, h2⟩, fun n hn => h3 n hn⟩

theorem toArray_getD {vals : List Value} {n t : Nat} (h : t < vals.length) : (List.toArray vals ++ Array.replicate n undef).getD t undef = vals[t] := by
  rw [Array.getD_eq_getD_getElem?, Array.getElem?_append, if_pos (by simpa using h)]
  simp [h]

theorem frzC_spec {objs : List (Nat × TV)} {st : St} {R : Type} {r : R} : ∀ {l : List SV} {k : List SV → Option R}, frzC objs st R l k = some r → ∃ l', frzL objs st l = some l' ∧ k l' = some r := by
  intro l
  induction l with
  | nil => intro k h; exact ⟨[], rfl, h⟩
  | cons v l ih =>
    intro k h
    have plain : frz objs st v = some v → frzC objs st R l (fun l' => k (v :: l')) = some r → ∃ l', frzL objs st (v :: l) = some l' ∧ k l' = some r := fun h1 h2 => by
      obtain ⟨l', e1, e2⟩ := ih h2
      exact ⟨v :: l', by simp only [frzL, h1, e1], e2⟩
    cases v with
    | vsl n e hi m =>
      simp only [frzC] at h
      split at h
      · simp at h
      · rename_i hno
        split at h
        · rename_i t ht
          split at h
          · rename_i l3 hl3
            cases hb : decide (0 ≤ hi ∧ hi ≤ (List.length l3 : Int)) with
            | false => rw [hb] at h; simp at h
            | true =>
              rw [hb] at h
              simp only [cond_true] at h
              obtain ⟨l', e1, e2⟩ := ih h
              refine ⟨_ :: l', ?_, e2⟩
              simp only [frzL, frz, hno, ht, hl3, hb, cond_true, e1]
          · simp at h
        · simp at h
    | _ => exact plain rfl h

theorem frzL_names {objs : List (Nat × TV)} {st : St} : ∀ {l l' : List SV}, frzL objs st l = some l' → (∀ n, n ∈ namesL l' → n ∈ namesL l) ∧ ∀ v, v ∈ l → isVsl v = true → ∀ n, n ∈ v.names → lk n objs = none
  | [], l', h => by simp only [frzL, Option.some.injEq] at h; subst h; exact ⟨fun _ h => h, fun v hv => by simp at hv⟩
  | v :: r, l', h => by
    simp only [frzL] at h
    split at h
    · rename_i u hu
      split at h
      · rename_i l2 hl2
        simp only [Option.some.injEq] at h; subst h
        obtain ⟨h1, h2⟩ := frzL_names hl2
        have key : (∀ n, n ∈ u.names → n ∈ v.names) ∧ (isVsl v = true → ∀ n, n ∈ v.names → lk n objs = none) := by
          unfold frz at hu
          split at hu
          · rename_i n e hi m
            split at hu
            · simp at hu
            · rename_i hno
              split at hu
              · rename_i t ht
                split at hu
                · rename_i l3 hl3
                  cases hb : decide (0 ≤ hi ∧ hi ≤ (List.length l3 : Int)) with
                  | false => rw [hb] at hu; simp at hu
                  | true =>
                    rw [hb] at hu
                    simp only [cond_true, Option.some.injEq] at hu
                    subst hu
                    exact ⟨fun n hn => by simp [SV.names] at hn, fun _ n hn => by simp only [SV.names, List.mem_singleton] at hn; subst hn; exact hno⟩
                · simp at hu
              · simp at hu
          · rename_i hnv
            simp only [Option.some.injEq] at hu
            subst hu
            refine ⟨fun _ h => h, fun hv => ?_⟩
            cases v <;> simp [isVsl] at hv
            exact absurd rfl (hnv _ _ _ _)
        refine ⟨fun n hn => ?_, fun w hw hv => ?_⟩
        · simp only [namesL, List.mem_append] at hn ⊢
          exact hn.imp (key.1 n) (h1 n)
        · rcases List.mem_cons.1 hw with e | e
          · subst e; exact key.2 hv
          · exact h2 w e hv
      · simp at h
    · simp at h

/-- The values that come back when the rows are given away. -/
theorem frzL_rel {objs : List (Nat × TV)} {st : St} {ρ : Nat → Nat} {S S2 : Stab} {w : World} (hob : ∀ n t, st.obj n = some t → ObjRel S w (ρ n) t) (le : Le S w S2 w) : ∀ {l l' : List SV} {vs : List Value}, frzL objs st l = some l' →
    (∀ v, v ∈ l → isVsl v = true → ∀ n, n ∈ v.names → ∀ i, S2 (ρ n) i) → SVRelL ρ S w l vs → SVRelL ρ S2 w l' vs
  | [], l', vs, h, _, hr => by simp only [frzL, Option.some.injEq] at h; subst h; exact hr
  | v :: r, l', vs, h, hS, ⟨x, q, e, hx, hq⟩ => by
    simp only [frzL] at h
    split at h
    · rename_i u hu
      split at h
      · rename_i l2 hl2
        simp only [Option.some.injEq] at h; subst h
        refine ⟨x, q, e, ?_, frzL_rel hob le hl2 (fun v hv => hS v (List.mem_cons_of_mem _ hv)) hq⟩
        have hSv := hS v (by simp)
        unfold frz at hu
        split at hu
        · rename_i n e hi m
          split at hu
          · simp at hu
          · split at hu
            · rename_i t ht
              split at hu
              · rename_i l3 hl3
                cases hb : decide (0 ≤ hi ∧ hi ≤ (List.length l3 : Int)) with
                | false => rw [hb] at hu; simp at hu
                | true =>
                  rw [hb] at hu
                  simp only [cond_true, Option.some.injEq] at hu
                  subst hu
                  have hbb : 0 ≤ hi ∧ hi ≤ (List.length l3 : Int) := of_decide_eq_true hb
                  have et := TV.as_some hl3
                  subst et
                  obtain ⟨cs, rest, T, hrep, hheap, _⟩ := hob n _ ht
                  obtain ⟨cap, ev, c0, c1, _⟩ := hx
                  have hlen : (List.take hi.toNat l3).length = hi.toNat := by rw [List.length_take]; omega
                  refine ⟨[.slice (some ⟨ρ n, 0, none⟩) hi.toNat cap], ⟨_, cap, by rw [hlen], by rw [hlen]; omega, .inr ⟨ρ n, 0, cs.take (hi.toNat * e.size), rfl, ((hrep.imp fun _ _ h => h.le le e).split (fun x c => Rep.length e) hi.toNat).1, fun i v hv => ⟨by rw [Nat.zero_add]; exact hSv (by simp [isVsl]) n (by simp [SV.names]) i, ?_⟩⟩⟩, ev⟩
                  rw [List.getElem?_take] at hv
                  split at hv
                  · refine cells_of_heap hheap ?_
                    rw [Nat.zero_add, List.getElem?_append_left (List.getElem?_eq_some_iff.1 hv).1]
                    exact hv
                  · simp at hv
              · simp at hu
            · simp at hu
        · simp only [Option.some.injEq] at hu
          subst hu
          exact SVRel.le le v x (fun _ _ => rfl) hx
      · simp at h
    · simp at h

theorem lk_lessO_eq {l : List SV} {n : Nat} (hnot : ∀ v, v ∈ l → isVsl v = true → n ∉ v.names) : ∀ os : List (Nat × TV), lk n (lessO l os) = lk n os := by
  intro os
  induction os with
  | nil => rfl
  | cons a os ih =>
    obtain ⟨m, y⟩ := a
    unfold lessO at ih ⊢
    by_cases e : n = m
    · subst e
      have hk : (!(l.any fun v => isVsl v && v.names.any (Nat.beq n))) = true := by
        simp only [Bool.not_eq_true']
        rw [List.any_eq_false]
        intro v hv hc
        rw [Bool.and_eq_true] at hc
        obtain ⟨z, hz, ez⟩ := List.any_eq_true.1 hc.2
        have := Nat.eq_of_beq_eq_true ez
        subst this
        exact hnot v hv hc.1 hz
      rw [List.filter_cons_of_pos (by simpa using hk), lk_cons_same, lk_cons_same]
    · by_cases hk : (!(l.any fun v => isVsl v && v.names.any (Nat.beq m))) = true
      · rw [List.filter_cons_of_pos (by simpa using hk), lk_cons_ne _ _ e, lk_cons_ne _ _ e, ih]
      · rw [List.filter_cons_of_neg (by simpa using hk), lk_cons_ne _ _ e, ih]

theorem lk_lessO {l : List SV} {n : Nat} {t : TV} {os : List (Nat × TV)} (h : lk n (lessO l os) = some t) : lk n os = some t ∧ ∀ v, v ∈ l → isVsl v = true → n ∉ v.names := by
  have hf := List.mem_filter.1 (lk_mem h)
  have hnot : ∀ v, v ∈ l → isVsl v = true → n ∉ v.names := fun v hv hi hn => by
    have := hf.2
    simp only [Bool.not_eq_true'] at this
    rw [List.any_eq_false] at this
    have h2 := this v hv
    rw [hi] at h2
    simp only [Bool.true_and] at h2
    exact h2 (List.any_eq_true.2 ⟨n, hn, Nat.beq_refl n⟩)
  exact ⟨by rw [lk_lessO_eq hnot] at h; exact h, hnot⟩

theorem noFz_spec {l : List SV} {ns : List Nat} (h : noFz l ns = true) {n : Nat} (hn : n ∈ ns) : ∀ v, v ∈ l → isVsl v = true → n ∉ v.names := by
  have := (List.all_eq_true.1 h) n hn
  simp only [Bool.not_eq_true'] at this
  rw [List.any_eq_false] at this
  intro v hv hi hm
  have h2 := this v hv
  rw [hi] at h2
  simp only [Bool.true_and] at h2
  exact h2 (List.any_eq_true.2 ⟨n, hm, Nat.beq_refl n⟩)

theorem pack1_names {l : List SV} {n : Nat} : n ∈ (pack1 l).names ↔ n ∈ namesL l := by
  unfold pack1
  split
  · simp [namesL]
  · exact Iff.rfl

theorem mem_namesL {l : List SV} {v : SV} {n : Nat} (hv : v ∈ l) (hn : n ∈ v.names) : n ∈ namesL l := namesL_mem hv hn

theorem frzL_one {objs : List (Nat × TV)} {st : St} {l l' : List SV} (h : frzL objs st l = some l') : l'.length = l.length := by
  induction l generalizing l' with
  | nil => simp only [frzL, Option.some.injEq] at h; subst h; rfl
  | cons v r ih =>
    simp only [frzL] at h
    split at h
    · split at h
      · rename_i l2 hl2
        simp only [Option.some.injEq] at h; subst h
        simp [ih hl2]
      · simp at h
    · simp at h

theorem frz_rel {nt B : Nat} {objs : List (Nat × TV)} {st : St} {ρ ρ0 : Nat → Nat} {S S0 : Stab} {w w0 : World} {a : Act} {l l' : List SV} {x : Value} (hl : frzL objs st l = some l') (hx : SVRel ρ S w (pack1 l) x) (hr : Rel nt B ρ S st a w)
    (hext : Ext ρ0 S0 (fun n => (lk n objs).isSome = true) w0 ρ S st.D w) (hnm : ∀ n, n ∈ (pack1 l).names → st.D n) (hnf : noFz l (namesL l') = true) :
    ∃ S2, SVRel ρ S2 w (pack1 l') x ∧ (∀ n, n ∈ (pack1 l').names → (frzSt l st).D n) ∧ Rel nt B ρ S2 (frzSt l st) a w ∧ Ext ρ0 S0 (fun n => (lk n objs).isSome = true) w0 ρ S2 (frzSt l st).D w := by
  obtain ⟨hn1, hn2⟩ := frzL_names hl
  let S2 : Stab := fun b i => S b i ∨ ∃ v, v ∈ l ∧ isVsl v = true ∧ ∃ n, n ∈ v.names ∧ b = ρ n
  have le : Le S w S2 w := ⟨fun _ _ h => .inl h, fun _ _ _ _ h => h⟩
  have hD : ∀ v, v ∈ l → ∀ n, n ∈ v.names → st.D n := fun v hv n hn => hnm n (pack1_names.2 (mem_namesL hv hn))
  have hst : ∀ n, st.obj n = lk n (st.ot ++ st.ol) := fun n => by
    rw [lk_append]; unfold St.obj; cases lk n st.ot <;> rfl
  have hobj : ∀ n, (frzSt l st).obj n = lk n (lessO l (st.ot ++ st.ol)) := fun n => by
    unfold St.obj frzSt
    simp only [lk]
    cases lk n (lessO l (st.ot ++ st.ol)) <;> rfl
  have hsub : ∀ n t, (frzSt l st).obj n = some t → st.obj n = some t ∧ ∀ v, v ∈ l → isVsl v = true → n ∉ v.names := fun n t h => by
    rw [hobj] at h
    obtain ⟨h1, h2⟩ := lk_lessO h
    exact ⟨by rw [hst]; exact h1, h2⟩
  have hup : ∀ n, st.D n → (∀ v, v ∈ l → isVsl v = true → n ∉ v.names) → (frzSt l st).D n := fun n d h => by
    unfold St.D at d ⊢
    rw [hobj, lk_lessO_eq h, ← hst]; exact d
  have hdn : ∀ n, (frzSt l st).D n → st.D n := fun n d => by
    obtain ⟨t, ht⟩ := Option.isSome_iff_exists.1 d
    unfold St.D; rw [(hsub n t ht).1]; rfl
  refine ⟨S2, ?_, ?_, ?_, ?_⟩
  · have hS : ∀ v, v ∈ l → isVsl v = true → ∀ n, n ∈ v.names → ∀ i, S2 (ρ n) i := fun v hv hi n hn i => .inr ⟨v, hv, hi, n, hn, rfl⟩
    have hlen := frzL_one hl
    match l, l', hl, hx, hlen, hS with
    | [], [], _, hx, _, _ => exact SVRel.le le _ x (fun _ _ => rfl) hx
    | [v], [u], hl, hx, _, hS =>
      obtain ⟨y, q, e, hy, _⟩ := frzL_rel hr.obj le hl hS (show SVRelL ρ S w [v] [x] from ⟨x, [], rfl, hx, rfl⟩)
      injection e with e _
      subst e
      exact hy
    | v :: v2 :: r, u :: u2 :: r', hl, hx, _, hS =>
      obtain ⟨vs, e, hvs⟩ := hx
      exact ⟨vs, e, frzL_rel hr.obj le hl hS hvs⟩
  · intro n hn
    have hn' := pack1_names.1 hn
    exact hup n (hnm n (pack1_names.2 (hn1 n hn'))) (noFz_spec hnf hn')
  · refine ⟨fun t v h => by simp [frzSt, St.tmp, lk] at h, fun n t h => ?_, fun n m dn dm e => hr.inj n m (hdn n dn) (hdn m dm) e, fun t v n h => by simp [frzSt, St.tmp, lk] at h, hr.dfr, hr.sz, fun b i s => ?_, fun q hq => by simp [frzSt] at hq, fun q q' hq => by simp [frzSt] at hq, hr.hB⟩
    · obtain ⟨h1, h2⟩ := hsub n t h
      refine (hr.obj n t h1).le le rfl fun i s => ?_
      have dn : st.D n := by unfold St.D; rw [h1]; rfl
      rcases s with s | ⟨v, hv, hi, m, hm, e⟩
      · exact hr.off n dn i s
      · have := hr.inj n m dn (hD v hv m hm) e
        subst this
        exact h2 v hv hi hm
    · rcases s with s | ⟨v, hv, hi, m, hm, e⟩
      · exact hr.sb b i s
      · obtain ⟨t, ht⟩ := Option.isSome_iff_exists.1 (hD v hv m hm)
        rw [e]; exact (hr.obj m t ht).lt
  · refine ⟨fun n d => hup n (hext.dom n d) fun v hv hi hn => ?_, hext.same, fun n d nd => hext.fresh n (hdn n d) nd, fun b i s => .inl (hext.mono b i s), fun b i s => ?_, hext.size, hext.frame, hext.os, hext.tape, hext.output⟩
    · have := hn2 v hv hi n hn
      rw [this] at d; simp at d
    · rcases s with s | ⟨v, hv, hi, m, hm, e⟩
      · exact hext.new b i s
      · right
        rw [e]
        exact hext.fresh m (hD v hv m hm) (by rw [hn2 v hv hi m hm]; simp)

/-- A FUNCTION. -/
theorem evFn_ok (hm : P.follows .mixedOrders = true) (hE : EnvOK2 P E) {inl : Inl} (hI : InlOK P inl) {off fno : Nat} {fn : Func} (hf : P.funcs[fno]? = some fn) {svs : List SV} {objs : List (Nat × TV)} {R : Type} {k : List SV → St → Option R} {r : R}
    (h : evFn E inl off fno fn svs objs R k = some r) : ∃ l st', k l st' = some r ∧ st'.ol = [] ∧
      ∀ ρ S w vals, SVRelL ρ S w svs vals → (∀ n t, lk n objs = some t → ObjRel S w (ρ n) t) → (∀ n m, (lk n objs).isSome → (lk m objs).isSome → ρ n = ρ m → n = m) →
        (∀ n, n ∈ namesL svs → (lk n objs).isSome) → (∀ b i, S b i → b < w.heap.size) →
        Calls P fno (List.toArray vals) w fun e w' => ∃ x ρ' S' a', e = .returned x ∧ SVRel ρ' S' w' (pack1 l) x ∧ (∀ n, n ∈ (pack1 l).names → st'.D n) ∧ Rel fn.ntmps w.heap.size ρ' S' st' a' w' ∧
          Ext ρ S (fun n => (lk n objs).isSome = true) w ρ' S' st'.D w' := by
  unfold evFn at h
  split at h
  · rename_i c hc
    obtain ⟨e, st', ht, ho, hk, hwp⟩ := evCode_ok (nt := fn.ntmps) hm hE hI c _ R _ r h
    have fin : ∃ l, collect E st' fn.results.toList = some l ∧ (bif l.any isVsl then frzC objs st' R l (fun l' => bif noFz l (namesL l') then k l' (frzSt l st') else none) else k l st') = some r ∧ (∀ i, e ≠ .exit i) := by
      cases e with
      | exit i => simp at hk
      | normal =>
        simp only at hk
        split at hk
        · rename_i l hl; exact ⟨l, hl, hk, fun i => by simp⟩
        · simp at hk
      | ret =>
        simp only at hk
        split at hk
        · rename_i l hl; exact ⟨l, hl, hk, fun i => by simp⟩
        · simp at hk
    obtain ⟨l, hl, hkl, hne⟩ := fin
    suffices main : ∀ ρ S w vals, SVRelL ρ S w svs vals → (∀ n t, lk n objs = some t → ObjRel S w (ρ n) t) → (∀ n m, (lk n objs).isSome → (lk m objs).isSome → ρ n = ρ m → n = m) →
        (∀ n, n ∈ namesL svs → (lk n objs).isSome) → (∀ b i, S b i → b < w.heap.size) →
        Calls P fno (List.toArray vals) w fun e w' => ∃ x ρ' S' a', e = .returned x ∧ SVRel ρ' S' w' (pack1 l) x ∧ (∀ n, n ∈ (pack1 l).names → st'.D n) ∧ Rel fn.ntmps w.heap.size ρ' S' st' a' w' ∧
          Ext ρ S (fun n => (lk n objs).isSome = true) w ρ' S' st'.D w' by
      cases hfr : l.any isVsl with
      | false =>
        rw [hfr] at hkl
        exact ⟨l, st', hkl, ho, main⟩
      | true =>
        rw [hfr] at hkl
        simp only [cond_true] at hkl
        obtain ⟨l', hl', hkl⟩ := frzC_spec hkl
        cases hnf : noFz l (namesL l') with
        | false => rw [hnf] at hkl; simp at hkl
        | true =>
          rw [hnf] at hkl
          simp only [cond_true] at hkl
          refine ⟨l', frzSt l st', hkl, rfl, fun ρ S w vals hv hob hinj hnm sb => (main ρ S w vals hv hob hinj hnm sb).mono fun e w' hp => ?_⟩
          obtain ⟨x, ρ', S', a', he, hx, hn, hr, hext⟩ := hp
          obtain ⟨S2, h1, h2, h3, h4⟩ := frz_rel hl' hx hr hext hn hnf
          exact ⟨x, ρ', S2, a', he, h1, h2, h3, h4⟩
    intro ρ S w vals hv hob hinj hnm sb
    have hlen := hv.length
    have h0 : Rel fn.ntmps w.heap.size ρ S { tt := initT 0 svs, tl := [], ot := objs, ol := [] } { tmps := List.toArray vals ++ Array.replicate (fn.ntmps - (List.toArray vals).size) undef, defers := [] } w := by
      have hobj : ∀ n, ({ tt := initT 0 svs, tl := [], ot := objs, ol := [] } : St).obj n = lk n objs := fun n => by
        unfold St.obj; simp only [lk]; cases lk n objs <;> rfl
      have htmp : ∀ t v, ({ tt := initT 0 svs, tl := [], ot := objs, ol := [] } : St).tmp t = some v → svs[t]? = some v := fun t v h => by
        unfold St.tmp at h; simp only [lk] at h
        split at h
        · rename_i u hu
          simp only [Option.some.injEq] at h; subst h
          have := (initT_lk hu).2
          simpa using this
        · simp at h
      refine ⟨fun t v htv => ?_, fun n t hn => hob n t (by rw [← hobj]; exact hn), fun n m dn dm => hinj n m (by unfold St.D at dn; rw [hobj] at dn; exact dn) (by unfold St.D at dm; rw [hobj] at dm; exact dm), fun t v n htv hn => ?_, rfl, ?_, sb, fun q hq => by simp at hq, fun q q' hq => by simp at hq, Nat.le_refl _⟩
      · have hs := htmp t v htv
        obtain ⟨x, hx, hrel⟩ := hv.get t v hs
        have hlt : t < vals.length := by
          rcases Nat.lt_or_ge t vals.length with h | h
          · exact h
          · simp [List.getElem?_eq_none h] at hx
        rw [toArray_getD hlt]
        have : vals[t] = x := by simpa [hlt] using hx
        rw [this]; exact hrel
      · unfold St.D; rw [hobj]
        exact hnm n (namesL_mem (List.mem_of_getElem? (htmp t v htv)) hn)
      · simp; omega
    refine calls_of_wp hf hc (wp_mono (hwp w.heap.size ρ S _ w h0) fun ex a1 w1 hp => ?_)
    obtain ⟨he, ρ1, S1, hr1, he1⟩ := hp
    obtain ⟨x, hx1, hx2, hx3⟩ := results_ok (P := P) hE.toEnvOK hr1 hl
    have good : a1.defers = [] ∧ ∃ v, (results fn a1.tmps).run P w1 = .ok v w1 ∧ (∃ x ρ' S' a', Ending.returned v = .returned x ∧ SVRel ρ' S' w1 (pack1 l) x ∧ (∀ n, n ∈ (pack1 l).names → st'.D n) ∧ Rel fn.ntmps w.heap.size ρ' S' st' a' w1 ∧
          Ext ρ S (fun n => (lk n objs).isSome = true) w ρ' S' st'.D w1) := by
      refine ⟨hr1.dfr, x, hx1, x, ρ1, S1, a1, rfl, hx2, hx3, hr1, he1.strong.congr (fun n => ?_) (fun _ => Iff.rfl)⟩
      unfold St.D St.obj; simp only [lk]; cases lk n objs <;> simp
    cases e with
    | exit i => exact absurd rfl (hne i)
    | normal => cases ex <;> simp only [exRel] at he; exact good
    | ret => cases ex <;> simp only [exRel] at he; exact good
  · simp at h

theorem inlN_ok (hm : P.follows .mixedOrders = true) (hE : EnvOK2 P E) (hB : ∀ f fn, lk f E.bodies = some fn → P.funcs[f]? = some fn ∧ Goes P f) : ∀ n, InlOK P (inlN E n)
  | 0 => fun off f svs objs R k r h => by simp [inlN] at h
  | n + 1 => fun off f svs objs R k r h => by
    simp only [inlN] at h
    split at h
    · rename_i fn hfn
      obtain ⟨hf, hgo⟩ := hB f fn hfn
      obtain ⟨l, st', hk, hol, hcalls⟩ := evFn_ok hm hE (inlN_ok hm hE hB n) hf h
      obtain ⟨os, hk2, hos1, hos2, _⟩ := keep_spec hk
      refine ⟨pack1 l, os, hk2, hgo, fun ρ S w vals hv hob hinj hnm sb => (hcalls ρ S w vals hv hob hinj hnm sb).mono fun e w' hp => ?_⟩
      obtain ⟨x, ρ', S', a', he, hx, hn, hr, hext⟩ := hp
      have hos : ∀ n t, lk n os = some t → st'.obj n = some t := fun n t h => ((hos1 n t (lk_mem h)).resolve_left (by simp)).2
      have hosD : ∀ n, (lk n os).isSome = true → st'.D n := fun n h => by
        obtain ⟨t, ht⟩ := Option.isSome_iff_exists.1 h
        unfold St.D; rw [hos n t ht]; rfl
      have hin : ∀ n, n ∈ objs.map (·.1) ++ namesL l → (lk n os).isSome = true := fun n h => by
        obtain ⟨v, hv⟩ := hos2 n h
        obtain ⟨u, hu⟩ := lk_some_of_mem hv
        rw [hu]; rfl
      have hnl : ∀ n, n ∈ (pack1 l).names → n ∈ namesL l := fun n h => by
        unfold pack1 at h
        split at h
        · simpa [namesL] using h
        · exact h
      have hdom : ∀ n, (lk n objs).isSome = true → (lk n os).isSome = true := fun n h => by
        obtain ⟨t, ht⟩ := Option.isSome_iff_exists.1 h
        exact hin n (List.mem_append_left _ (List.mem_map.2 ⟨(n, t), lk_mem ht, rfl⟩))
      refine ⟨x, ρ', S', he, hx, fun n t h => hr.obj n t (hos n t h), fun n m h h' e => hr.inj n m (hosD n h) (hosD m h') e, fun n h => hin n (List.mem_append_right _ (hnl n h)), ?_, hr.sb⟩
      exact ⟨hdom, hext.same, fun n dn nd => hext.fresh n (hosD n dn) nd, hext.mono, hext.new, hext.size, hext.frame, hext.os, hext.tape, hext.output⟩
    · simp at h

end
end Go.Ev

namespace Go.Ev
set_option linter.unusedVariables false

section
variable {P : Program} {E : Env}

theorem as_one {τ : Ty} {v : SV} {x : τ.den} (h : v.as τ = some x) {ρ : Nat → Nat} {S : Stab} {w : World} {y : Value} (hr : SVRel ρ S w v y) : SVRel ρ S w (.tv ⟨τ, x⟩) y := by
  obtain ⟨cs, q1, q2⟩ := SV.as_rel h hr
  exact ⟨cs, q1, q2⟩

theorem decL_cons {n : Nat} {τ : Ty} {b : Nat × Ty} {l : Sg} {vs : List SV} {x : τ.den × denL (b :: l)} (h : decL ((n, τ) :: b :: l) vs = some x) : ∃ v r, vs = v :: r ∧ v.as τ = some x.1 ∧ decL (b :: l) r = some x.2 := by
  cases vs with
  | nil => exact nomatch (show none = some _ from h)
  | cons v vs =>
    change (match v.as τ with
      | some x => match decL (b :: l) vs with
        | some y => some (x, y)
        | none => none
      | none => none) = some x at h
    split at h
    · rename_i x' hx'
      split at h
      · rename_i y' hy'
        injection h with h
        subst h
        exact ⟨v, vs, rfl, hx', hy'⟩
      · simp at h
    · simp at h

theorem decL_single {n : Nat} {τ : Ty} {vs : List SV} {x : τ.den} (h : decL [(n, τ)] vs = some x) : ∃ v, vs = [v] ∧ v.as τ = some x := by
  match vs, h with
  | [v], h => exact ⟨v, rfl, h⟩
  | [], h => exact nomatch (show none = some _ from h)
  | _ :: _ :: _, h => exact nomatch (show none = some _ from h)

theorem decL_many : ∀ (l : Sg) (vs : List SV) (x : denL l), decL l vs = some x → ∀ (ρ : Nat → Nat) (S : Stab) (w : World) (ys : List Value), SVRelL ρ S w vs ys → SVRelL ρ S w ((encL l x).map SV.tv) ys
  | [], vs, x, h, ρ, S, w, ys, hr => by
    cases vs with
    | nil => exact hr
    | cons _ _ => exact nomatch (show none = some _ from h)
  | [(n, τ)], vs, x, h, ρ, S, w, ys, hr => by
    obtain ⟨v, e, hv⟩ := decL_single h
    subst e
    obtain ⟨y, q, e, hy, hq⟩ := hr
    exact ⟨y, q, e, as_one hv hy, hq⟩
  | (n, τ) :: b :: l, vs, x, h, ρ, S, w, ys, hr => by
    obtain ⟨v, r, e, hv, hrest⟩ := decL_cons h
    subst e
    obtain ⟨y, q, e, hy, hq⟩ := hr
    exact ⟨y, q, e, as_one hv hy, decL_many (b :: l) r x.2 hrest ρ S w q hq⟩

theorem decL_enc (l : Sg) (vs : List SV) (x : denL l) (h : decL l vs = some x) (ρ : Nat → Nat) (S : Stab) (w : World) (v : Value) (hr : SVRel ρ S w (pack1 vs) v) : SVRel ρ S w (packRes (encL l x)) v := by
  match l, x, h with
  | [], x, h =>
    cases vs with
    | nil => exact hr
    | cons _ _ => exact nomatch (show none = some _ from h)
  | [(n, τ)], x, h =>
    obtain ⟨u, e, hv⟩ := decL_single h
    subst e
    exact as_one hv hr
  | (n, τ) :: (m, σ) :: r, x, h =>
    have hmany := decL_many _ _ _ h ρ S w
    obtain ⟨v1, r1, e1, hv1, hr1⟩ := decL_cons h
    subst e1
    have h2 : ∃ v2 r2, r1 = v2 :: r2 := by
      cases r1 with
      | nil => cases r with
        | nil => exact nomatch (show none = some _ from hr1)
        | cons _ _ => exact nomatch (show none = some _ from hr1)
      | cons v2 r2 => exact ⟨v2, r2, rfl⟩
    obtain ⟨v2, r2, e2⟩ := h2
    subst e2
    obtain ⟨ys, e, hys⟩ := hr
    have := hmany ys hys
    cases r with
    | nil => exact ⟨ys, e, this⟩
    | cons c r => exact ⟨ys, e, this⟩

/-- Arguments as the caller has them, and as the function's own state has them. -/
theorem args_rel : ∀ (l : Sg) (n : Nat) (args : List Arg) (p : denL l) (S : Stab) (w : World) (vals : List Value) (rs : List Nat), decArgs l args = some p → ArgRel S w args vals rs → ∀ ρ : Nat → Nat, (refN n l).map (fun q => ρ q.1) = rs →
    SVRelL ρ S w (argS n l p) vals ∧ (∀ m t, lk m (argO n l p) = some t → ObjRel S w (ρ m) t) ∧ (∀ m, (lk m (argO n l p)).isSome = true ↔ m ∈ (refN n l).map (·.1)) ∧ (∀ m, m ∈ namesL (argS n l p) → m ∈ (refN n l).map (·.1))
  | [], n, args, p, S, w, vals, rs, hd, ha, ρ, hρ => by
    cases args with
    | nil => exact ⟨ha.1, fun m t h => by simp [argO, lk] at h, fun m => by simp [argO, lk, refN], fun m h => by simp [argS, namesL] at h⟩
    | cons _ _ => exact nomatch (show none = some _ from hd)
  | [(0, τ)], n, args, p, S, w, vals, rs, hd, ha, ρ, hρ => by
    match args, hd, ha with
    | [.val t], hd, ⟨v, r, e1, hv, hrest⟩ =>
      have := TV.as_some hd
      subst this
      exact ⟨⟨v, r, e1, hv, hrest.1⟩, fun m t h => by simp [argO, lk] at h, fun m => by simp [argO, lk, refN], fun m h => by simp [argS, namesL, SV.names] at h⟩
    | [], hd, _ => exact nomatch (show none = some _ from hd)
    | [.ref _], hd, _ => exact nomatch (show none = some _ from hd)
    | _ :: _ :: _, hd, _ => exact nomatch (show none = some _ from hd)
  | [(k + 1, τ)], n, args, p, S, w, vals, rs, hd, ha, ρ, hρ => by
    match args, hd, ha with
    | [.ref t], hd, ⟨b, r, q, e1, e2, hob, hrest⟩ =>
      have := TV.as_some hd
      subst this
      simp only [refN, List.map_cons, List.map_nil] at hρ
      have hb : ρ n = b := by rw [e2] at hρ; simpa using (List.cons.inj hρ).1
      refine ⟨⟨_, r, e1, ⟨by cases τ <;> trivial, by rw [hb, off_nil]⟩, hrest.1⟩, fun m t h => ?_, fun m => ?_, fun m h => by simpa [argS, namesL, SV.names, refN] using h⟩
      · change lk m [(n, (⟨τ, p⟩ : TV))] = some t at h
        by_cases e : m = n
        · subst e; rw [lk_cons_same] at h; simp only [Option.some.injEq] at h; subst h; rw [hb]; exact hob
        · rw [lk_cons_ne _ _ e] at h; simp [lk] at h
      · change (lk m [(n, (⟨τ, p⟩ : TV))]).isSome = true ↔ _
        by_cases e : m = n
        · subst e; simp [lk_cons_same, refN]
        · rw [lk_cons_ne _ _ e]; simp [lk, refN, e]
    | [], hd, _ => exact nomatch (show none = some _ from hd)
    | [.val _], hd, _ => exact nomatch (show none = some _ from hd)
    | _ :: _ :: _, hd, _ => exact nomatch (show none = some _ from hd)
  | (0, τ) :: b :: l, n, args, p, S, w, vals, rs, hd, ha, ρ, hρ => by
    match args, hd, ha with
    | .val t :: as, hd, ⟨v, r, e1, hv, hrest⟩ =>
      change (match t.as τ with
        | some x => match decArgs (b :: l) as with
          | some y => some (x, y)
          | none => none
        | none => none) = some p at hd
      split at hd
      · rename_i x hx
        split at hd
        · rename_i y hy
          injection hd with hd
          subst hd
          have := TV.as_some hx
          subst this
          obtain ⟨h1, h2, h3, h4⟩ := args_rel (b :: l) (n + 1) as y S w r rs hy hrest ρ hρ
          exact ⟨⟨v, r, e1, hv, h1⟩, h2, h3, h4⟩
        · simp at hd
      · simp at hd
    | .ref _ :: _, hd, _ => exact nomatch (show none = some _ from hd)
    | [], hd, _ => exact nomatch (show none = some _ from hd)
  | (k + 1, τ) :: b :: l, n, args, p, S, w, vals, rs, hd, ha, ρ, hρ => by
    match args, hd, ha with
    | .ref t :: as, hd, ⟨b', r, q, e1, e2, hob, hrest⟩ =>
      change (match t.as τ with
        | some x => match decArgs (b :: l) as with
          | some y => some (x, y)
          | none => none
        | none => none) = some p at hd
      split at hd
      · rename_i x hx
        split at hd
        · rename_i y hy
          injection hd with hd
          subst hd
          have := TV.as_some hx
          subst this
          rw [e2] at hρ
          have hρ' := List.cons.inj (show ρ n :: (refN (n + 1) (b :: l)).map (fun q => ρ q.1) = b' :: q from hρ)
          obtain ⟨h1, h2, h3, h4⟩ := args_rel (b :: l) (n + 1) as y S w r q hy hrest ρ hρ'.2
          refine ⟨⟨_, r, e1, ⟨by cases τ <;> trivial, by rw [hρ'.1, off_nil]⟩, h1⟩, fun m u h => ?_, fun m => ?_, fun m h => ?_⟩
          · change lk m ((n, (⟨τ, x⟩ : TV)) :: argO (n + 1) (b :: l) y) = some u at h
            by_cases e : m = n
            · subst e; rw [lk_cons_same] at h; simp only [Option.some.injEq] at h; subst h; rw [hρ'.1]; exact hob
            · rw [lk_cons_ne _ _ e] at h; exact h2 m u h
          · change (lk m ((n, (⟨τ, x⟩ : TV)) :: argO (n + 1) (b :: l) y)).isSome = true ↔ m ∈ n :: (refN (n + 1) (b :: l)).map (·.1)
            by_cases e : m = n
            · subst e; simp [lk_cons_same]
            · rw [lk_cons_ne _ _ e, h3 m]; simp [e]
          · change m ∈ [n] ++ namesL (argS (n + 1) (b :: l) y) at h
            show m ∈ n :: (refN (n + 1) (b :: l)).map (·.1)
            rcases List.mem_append.1 h with h | h
            · simp at h; subst h; simp
            · exact List.mem_cons_of_mem _ (h4 m h)
        · simp at hd
      · simp at hd
    | .val _ :: _, hd, _ => exact nomatch (show none = some _ from hd)
    | [], hd, _ => exact nomatch (show none = some _ from hd)

theorem refN_nodup : ∀ (l : Sg) (n : Nat), ((refN n l).map (·.1)).Nodup ∧ ∀ m ∈ (refN n l).map (·.1), n ≤ m
  | [], n => ⟨List.nodup_nil, by simp [refN]⟩
  | (0, τ) :: r, n => by
    obtain ⟨h1, h2⟩ := refN_nodup r (n + 1)
    exact ⟨h1, fun m hm => by have := h2 m hm; omega⟩
  | (k + 1, τ) :: r, n => by
    obtain ⟨h1, h2⟩ := refN_nodup r (n + 1)
    refine ⟨List.nodup_cons.2 ⟨fun h => by have := h2 n h; omega, h1⟩, fun m hm => ?_⟩
    rcases List.mem_cons.1 hm with h | h
    · exact Nat.le_of_eq h.symm
    · have := h2 m h; omega

/-- A numbering of the parameters by reference. -/
theorem exists_rho : ∀ (ns rs : List Nat), ns.Nodup → ns.length = rs.length → ∃ ρ : Nat → Nat, ns.map ρ = rs
  | [], [], _, _ => ⟨fun _ => 0, rfl⟩
  | [], _ :: _, _, h => by simp at h
  | _ :: _, [], _, h => by simp at h
  | n :: ns, r :: rs, hn, hl => by
    obtain ⟨h1, h2⟩ := List.nodup_cons.1 hn
    obtain ⟨ρ, hρ⟩ := exists_rho ns rs h2 (by simpa using hl)
    refine ⟨fun m => if m = n then r else ρ m, ?_⟩
    simp only [List.map_cons, if_true, List.cons.injEq, true_and]
    rw [← hρ]
    exact List.map_congr_left fun m hm => by
      have : m ≠ n := fun e => h1 (e ▸ hm)
      simp [this]

theorem argRel_refs : ∀ (l : Sg) (n : Nat) (args : List Arg) (p : denL l) (S : Stab) (w : World) (vals : List Value) (rs : List Nat), decArgs l args = some p → ArgRel S w args vals rs → rs.length = (refN n l).length
  | [], n, args, p, S, w, vals, rs, hd, ha => by
    cases args with
    | nil => rw [ha.2]; rfl
    | cons _ _ => exact nomatch (show none = some _ from hd)
  | [(0, τ)], n, args, p, S, w, vals, rs, hd, ha => by
    match args, hd, ha with
    | [.val t], hd, ⟨v, r, e1, hv, hrest⟩ => rw [hrest.2]; rfl
    | [], hd, _ => exact nomatch (show none = some _ from hd)
    | [.ref _], hd, _ => exact nomatch (show none = some _ from hd)
    | _ :: _ :: _, hd, _ => exact nomatch (show none = some _ from hd)
  | [(k + 1, τ)], n, args, p, S, w, vals, rs, hd, ha => by
    match args, hd, ha with
    | [.ref t], hd, ⟨b, r, q, e1, e2, hob, hrest⟩ => rw [e2, hrest.2]; rfl
    | [], hd, _ => exact nomatch (show none = some _ from hd)
    | [.val _], hd, _ => exact nomatch (show none = some _ from hd)
    | _ :: _ :: _, hd, _ => exact nomatch (show none = some _ from hd)
  | (0, τ) :: b :: l, n, args, p, S, w, vals, rs, hd, ha => by
    match args, hd, ha with
    | .val t :: as, hd, ⟨v, r, e1, hv, hrest⟩ =>
      change (match t.as τ with
        | some x => match decArgs (b :: l) as with
          | some y => some (x, y)
          | none => none
        | none => none) = some p at hd
      split at hd
      · split at hd
        · rename_i y hy
          exact argRel_refs (b :: l) (n + 1) as y S w r rs hy hrest
        · simp at hd
      · simp at hd
    | .ref _ :: _, hd, _ => exact nomatch (show none = some _ from hd)
    | [], hd, _ => exact nomatch (show none = some _ from hd)
  | (k + 1, τ) :: b :: l, n, args, p, S, w, vals, rs, hd, ha => by
    match args, hd, ha with
    | .ref t :: as, hd, ⟨b', r, q, e1, e2, hob, hrest⟩ =>
      change (match t.as τ with
        | some x => match decArgs (b :: l) as with
          | some y => some (x, y)
          | none => none
        | none => none) = some p at hd
      split at hd
      · split at hd
        · rename_i y hy
          have := argRel_refs (b :: l) (n + 1) as y S w r q hy hrest
          rw [e2]; show q.length + 1 = (refN (n + 1) (b :: l)).length + 1
          rw [this]
        · simp at hd
      · simp at hd
    | .val _ :: _, hd, _ => exact nomatch (show none = some _ from hd)
    | [], hd, _ => exact nomatch (show none = some _ from hd)

theorem getO_refs {st : St} {S : Stab} {w : World} {ρ : Nat → Nat} (hob : ∀ n t, st.obj n = some t → ObjRel S w (ρ n) t) : ∀ (l : Sg) (y : denL l), getO st l = some y → RefsRel S w (encL l y) (l.map fun q => ρ q.1)
  | [], y, h => rfl
  | [(n, τ)], y, h => by
    simp only [getO] at h
    split at h
    · rename_i v hv
      have := TV.as_some h
      subst this
      exact ⟨ρ n, [], rfl, hob n _ hv, rfl⟩
    · simp at h
  | (n, τ) :: b :: l, y, h => by
    simp only [getO] at h
    split at h
    · rename_i v hv
      split at h
      · rename_i x hx
        split at h
        · rename_i z hz
          injection h with h
          subst h
          have := TV.as_some hx
          subst this
          exact ⟨ρ n, _, rfl, hob n _ hv, getO_refs hob (b :: l) z hz⟩
        · simp at h
      · simp at h
    · simp at h

theorem res_mkR : ∀ (res refs : Sg) (x : denL res) (y : denL refs), res1 res refs (mkR res refs x y) = x ∧ encL refs (res2 res refs (mkR res refs x y)) = encL refs y
  | _, [], x, y => ⟨rfl, rfl⟩
  | [], _ :: _, x, y => ⟨rfl, rfl⟩
  | _ :: _, _ :: _, x, y => ⟨rfl, rfl⟩

/-- THE CONTRACT OF A FUNCTION, out of what the evaluator makes of its body, for each argument in an environment of its own. -/
theorem fn_okE (hm : P.follows .mixedOrders = true) {fno : Nat} {fn : Func} (hf : P.funcs[fno]? = some fn) (hgo : Goes P fno) (as res : Sg) (F : denL as → Option (denR res (refN 0 as)))
    (h : ∀ p, ∃ E depth, EnvOK2 P E ∧ (∀ f fn, lk f E.bodies = some fn → P.funcs[f]? = some fn ∧ Goes P f) ∧ evFn E (inlN E depth) 0 fno fn (argS 0 as p) (argO 0 as p) (denR res (refN 0 as)) (decR as res) = F p) : SpecOK P fno (mkSpec as res F) := by
  refine ⟨hgo, fun args R k r hk => ?_⟩
  unfold mkSpec at hk
  split at hk
  · rename_i p hp
    obtain ⟨c, hc, hkc⟩ := Option.bind_eq_some_iff.1 hk
    obtain ⟨E, depth, hE, hB, he⟩ := h p
    obtain ⟨l, st', hl, hol, hcalls⟩ := evFn_ok hm hE (inlN_ok hm hE hB depth) hf (he.trans hc)
    unfold decR at hl
    split at hl
    · rename_i x y hx hy
      injection hl with hl
      subst hl
      obtain ⟨m1, m2⟩ := res_mkR res (refN 0 as) x y
      refine ⟨_, _, hkc, fun S w vals rs ha hnd sb => ?_⟩
      rw [m1, m2]
      obtain ⟨n1, n2⟩ := refN_nodup as 0
      obtain ⟨ρ, hρ⟩ := exists_rho ((refN 0 as).map (·.1)) rs n1 (by simp [argRel_refs as 0 args p S w vals rs hp ha])
      have hρ' : (refN 0 as).map (fun q => ρ q.1) = rs := by rw [← hρ]; simp [List.map_map]
      obtain ⟨h1, h2, h3, h4⟩ := args_rel as 0 args p S w vals rs hp ha ρ hρ'
      have hinj : ∀ n m, n ∈ (refN 0 as).map (·.1) → m ∈ (refN 0 as).map (·.1) → ρ n = ρ m → n = m := by
        have key : ∀ ns : List Nat, (ns.map ρ).Nodup → ∀ n m, n ∈ ns → m ∈ ns → ρ n = ρ m → n = m := by
          intro ns
          induction ns with
          | nil => intro _ n m hn; simp at hn
          | cons a ns ih =>
            intro hnd n m hn hm e
            obtain ⟨q1, q2⟩ := List.nodup_cons.1 hnd
            rcases List.mem_cons.1 hn with e1 | e1 <;> rcases List.mem_cons.1 hm with e2 | e2
            · rw [e1, e2]
            · subst e1; exact absurd (List.mem_map.2 ⟨m, e2, e.symm⟩) q1
            · subst e2; exact absurd (List.mem_map.2 ⟨n, e1, e⟩) q1
            · exact ih q2 n m e1 e2 e
        exact key _ (by rw [hρ]; exact hnd)
      refine (hcalls ρ S w vals h1 h2 (fun n m hn hm e => hinj n m ((h3 n).1 hn) ((h3 m).1 hm) e) (fun n hn => (h3 n).2 (h4 n hn)) sb).mono fun e w' hp' => ?_
      obtain ⟨v, ρ', S', a', he, hv, hnv, hr, hext⟩ := hp'
      have hsame : ∀ n ∈ (refN 0 as).map (·.1), ρ' n = ρ n := fun n hn => hext.same n ((h3 n).2 hn)
      have hrs : (refN 0 as).map (fun q => ρ' q.1) = rs := by
        rw [← hρ']
        exact List.map_congr_left fun q hq => hsame q.1 (List.mem_map.2 ⟨q, hq, rfl⟩)
      have hrefs := getO_refs (st := st') hr.obj _ _ hy
      rw [hrs] at hrefs
      have hoff : ∀ b, b ∈ rs → ∀ i, ¬ S' b i := fun b hb i => by
        rw [← hρ] at hb
        obtain ⟨n, hn, e⟩ := List.mem_map.1 hb
        rw [← e, ← hsame n hn]
        exact hr.off n (hext.dom n ((h3 n).2 hn)) i
      refine ⟨v, S', he, ?_, hrefs, ?_, hr.sb, hoff⟩
      · have := decL_enc res l x hx ρ' S' w' v hv
        exact SVRel.le (Le.refl S' w') _ _ (fun n hn => by rw [packRes_names] at hn; simp at hn) this
      · refine ⟨fun _ h => h, fun _ _ => rfl, fun _ h k => absurd h k, hext.mono, hext.new, hext.size, fun b hb hn => hext.frame b hb fun n hno => ?_, hext.os, hext.tape, hext.output⟩
        have hmem : ρ n ∈ rs := by rw [← hρ]; exact List.mem_map.2 ⟨n, (h3 n).1 hno, rfl⟩
        obtain ⟨i, hi, e⟩ := List.mem_iff_getElem.1 hmem
        intro e2
        exact hn i hi (by simp [nth, List.getD, hi, e, e2])
    · simp at hl
  · simp at hk

/-- THE CONTRACT OF A FUNCTION, out of what the evaluator makes of its body. -/
theorem fn_ok (hm : P.follows .mixedOrders = true) (hE : EnvOK2 P E) (hB : ∀ f fn, lk f E.bodies = some fn → P.funcs[f]? = some fn ∧ Goes P f) {fno : Nat} {fn : Func} (hf : P.funcs[fno]? = some fn) (hgo : Goes P fno) (depth : Nat) (as res : Sg)
    (F : denL as → Option (denR res (refN 0 as))) (h : ∀ p, evFn E (inlN E depth) 0 fno fn (argS 0 as p) (argO 0 as p) (denR res (refN 0 as)) (decR as res) = F p) : SpecOK P fno (mkSpec as res F) :=
  fn_okE hm hf hgo as res F fun p => ⟨E, depth, hE, hB, h p⟩

/-! ### Environments -/
theorem fns_nil : ∀ f s, Env.lkF f ([] : List (Nat × Spec)) = some s → SpecOK P f s := fun f s h => by simp [Env.lkF] at h

theorem fns_cons {g : Nat} {s : Spec} {l : List (Nat × Spec)} (h1 : SpecOK P g s) (h2 : ∀ f s, Env.lkF f l = some s → SpecOK P f s) : ∀ f s', Env.lkF f ((g, s) :: l) = some s' → SpecOK P f s' := fun f s' h => by
  simp only [Env.lkF] at h
  cases hb : Nat.beq f g with
  | true =>
    rw [hb] at h
    simp only [cond_true, Option.some.injEq] at h
    rw [Nat.eq_of_beq_eq_true hb, ← h]; exact h1
  | false =>
    rw [hb] at h
    exact h2 f s' h

theorem bodies_nil : ∀ f fn, lk f ([] : List (Nat × Func)) = some fn → P.funcs[f]? = some fn ∧ Goes P f := fun f fn h => by simp [lk] at h

theorem bodies_cons {g : Nat} {gn : Func} {l : List (Nat × Func)} (h1 : P.funcs[g]? = some gn) (h1' : Goes P g) (h2 : ∀ f fn, lk f l = some fn → P.funcs[f]? = some fn ∧ Goes P f) : ∀ f fn, lk f ((g, gn) :: l) = some fn → P.funcs[f]? = some fn ∧ Goes P f := fun f fn h => by
  by_cases e : f = g
  · subst e; rw [lk_cons_same] at h; simp only [Option.some.injEq] at h; subst h; exact ⟨h1, h1'⟩
  · rw [lk_cons_ne _ _ e] at h; exact h2 f fn h

end
end Go.Ev

namespace Go.Ev
set_option linter.unusedVariables false

end Go.Ev

namespace Go.Ev
set_option linter.unusedVariables false

def veq : Value → Value → Bool
  | .int k n, .int k' n' => Nat.beq (kindNo k) (kindNo k') && decide (n = n')
  | .bool a, .bool b => a == b
  | _, _ => false

theorem veq_eq {a b : Value} (h : veq a b = true) : a = b := by
  unfold veq at h
  split at h
  · simp only [Bool.and_eq_true, decide_eq_true_eq] at h
    rw [kindNo_inj (Nat.eq_of_beq_eq_true h.1), h.2]
  · simp at h; rw [h]
  · simp at h

/-- m values of both lists compared; the rests. -/
def cmp1 : Nat → List Value → List Value → Option (List Value × List Value)
  | 0, a, b => some (a, b)
  | m + 1, x :: a, y :: b => bif veq x y then cmp1 m a b else none
  | _, _, _ => none

/-- 2^n pieces. -/
def cmp2 (m : Nat) : Nat → List Value → List Value → Option (List Value × List Value)
  | 0, a, b => cmp1 m a b
  | n + 1, a, b => match cmp2 m n a b with
    | some (a', b') => cmp2 m n a' b'
    | none => none

theorem cmp1_eq : ∀ {m : Nat} {a b a' b' : List Value}, cmp1 m a b = some (a', b') → a' = b' → a = b
  | 0, a, b, a', b', h, e => by simp only [cmp1, Option.some.injEq, Prod.mk.injEq] at h; rw [h.1, h.2, e]
  | m + 1, [], b, a', b', h, e => by simp [cmp1] at h
  | m + 1, x :: a, [], a', b', h, e => by simp [cmp1] at h
  | m + 1, x :: a, y :: b, a', b', h, e => by
    simp only [cmp1] at h
    cases hv : veq x y with
    | false => rw [hv] at h; simp at h
    | true =>
      rw [hv] at h
      simp only [cond_true] at h
      rw [veq_eq hv, cmp1_eq h e]

theorem cmp2_eq {m : Nat} : ∀ {n : Nat} {a b a' b' : List Value}, cmp2 m n a b = some (a', b') → a' = b' → a = b
  | 0, a, b, a', b', h, e => cmp1_eq h e
  | n + 1, a, b, a', b', h, e => by
    simp only [cmp2] at h
    split at h
    · rename_i a1 b1 h1
      exact cmp2_eq h1 (cmp2_eq h e)
    · simp at h

def cmpEnd : Option (List Value × List Value) → Bool
  | some ([], []) => true
  | _ => false

def zrow : Option Value → Option (List Value)
  | some (.agg a) => some a.toList
  | _ => none

def bigOK (m n : Nat) (τ : Ty) : Option TypeInfo → Bool
  | some i => Nat.beq i.size τ.size && (τ.agg && (match zrow i.zero with
    | some l => cmpEnd (cmp2 m n l τ.zeros)
    | none => false))
  | none => false

theorem TyOK.big {P : Program} {tab : List (Nat × (Ty × Nat))} {T k : Nat} {τ : Ty} (m n : Nat) (h : bigOK m n τ (P.info? T) = true) (hd : descOK tab (P.underlying T) τ k = true) : TyOK P tab T τ k := by
  refine ⟨?_, hd⟩
  cases hi : P.info? T with
  | none => rw [hi] at h; simp [bigOK] at h
  | some i =>
    rw [hi] at h
    simp only [bigOK, Bool.and_eq_true] at h
    obtain ⟨h1, h2, h3⟩ := h
    have h1 := Nat.eq_of_beq_eq_true h1
    cases hz : i.zero with
    | none => rw [hz] at h3; simp [zrow] at h3
    | some z =>
      rw [hz] at h3
      cases z with
      | agg a =>
        simp only [zrow] at h3
        cases hc : cmp2 m n a.toList τ.zeros with
        | none => rw [hc] at h3; simp [cmpEnd] at h3
        | some p =>
          rw [hc] at h3
          have : p.1 = p.2 := by
            unfold cmpEnd at h3
            split at h3
            · rename_i e; injection e with e; rw [e]
            · simp at h3
          have := cmp2_eq hc this
          simp only [Option.map_some, h1, hz, Ty.pack, h2, if_true, ← this]
      | _ => simp [zrow] at h3

end Go.Ev
